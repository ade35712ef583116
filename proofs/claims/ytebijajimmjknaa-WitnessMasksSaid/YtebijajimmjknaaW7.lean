/- A part of the proof: contracts and plain lemmas, each without conditions beyond those that it names. -/
import Derived.Test.YtebijajimmjknaaW6
import Derived.Test.YtebijajimmjknaaGC
set_option linter.unusedVariables false
set_option linter.unusedSimpArgs false
set_option linter.constructorNameAsVariable false
namespace Go.Proofs
open Go Go.Sl
namespace W
set_option linter.unusedVariables false
def lifeP (l : Nat) (q : Q3) (sv : Value) (wait : Int) (mb : Nat) (bad : Bool) : Seg := sc l [dp q, sv, i64 wait, .map (some mb), .bool bad] 31
def ownM (mb : Nat) (kv : Kv) (n : Nat) : Seg := so mb (.map (ents kv) n)
theorem wBegin [Env] {R : List Seg} {wt : Int} (h0 : 0 ≤ wt ∧ wt ≤ 255) : Con Try.prog 14 [.int .u8 wt] [] R (fun u L' => ∃ l q s c mb, u = ptr l ∧ L' = [lifeP l q (ptr s) (wt % 20 + 1) mb false, ownM mb [] 0, witP s c (witO (Dev.new 2) 0 1 (wt % 20 + 1)), celP c q (witO (Dev.new 2) 0 1 (wt % 20 + 1)).c, dev q (Dev.new 2)]) := by
  have hU0 : Up (Dev.new 2) 2 := new_up (by decide)
  have hE0 : witE (Dev.new 2) 0 1 (wt % 20 + 1) = 0 := witE_zero.2 ⟨by omega, openE_up hU0 (by decide) (by decide) (by decide)⟩
  refine con_enter Try.func14 Try.ntmps14 rfl rfl ?_
  refine cseq ?_; intro K1 hK1
  refine creg ?_
  refine y (ev_assign rfl) rfl ?_
  refine ynil' (kthn (hK1 _ _ ?_))
  clear hK1
  refine cseq ?_; intro K2 hK2
  refine creg ?_
  refine ycall (secNew (n := 2) (by omega)) rfl Try.call37 (by repeat first | exact .nil | exact .z | apply Pk.s | apply Tk.cons) rfl ?_
  rintro v L' ⟨q4, rfl, rfl⟩
  refine y (ev_move rfl) rfl ?_
  refine y (ev_rem rfl rfl (by decide)) rfl ?_
  refine y (ev_conv rfl Try.underlying5 Try.underlying2) rfl ?_
  refine y (ev_add rfl rfl) rfl ?_
  rw [show IntKind.i64.wrap (IntKind.i64.wrap (wt.tmod 20) + 1) = wt % 20 + 1 by rw [Int.tmod_eq_emod_of_nonneg h0.1, wr (x := wt % 20) (by omega) (by omega), wr (by omega) (by omega)]]
  refine ya (ac_makeMap) rfl ?_
  rintro v L' ⟨b9, rfl, rfl⟩
  refine y (ev_build (zs := _) rfl Try.underlying31 Try.zeroValue31 rfl (.cons Try.sizeOf27 (.cons Try.sizeOf28 (.cons Try.sizeOf2 (.cons Try.sizeOf29 (.cons Try.sizeOf4 .nil))))) ⟨⟨_, _, rfl, (by first | rfl | simp), (by first | decide | simp)⟩, ⟨⟨_, _, rfl, (by first | rfl | simp), (by first | decide | simp)⟩, ⟨⟨_, _, rfl, (by first | rfl | simp), (by first | decide | simp)⟩, trivial⟩⟩⟩ (by dsimp [fillL, splice, vcells] <;> rfl)) rfl ?_
  refine ya (ac_box rfl rfl) rfl ?_
  rintro v L' ⟨b11, rfl, rfl⟩
  refine y (ev_assign rfl) rfl ?_
  refine ynil' (kthn (hK2 _ _ ?_))
  clear hK2
  refine cseq ?_; intro K3 hK3
  refine cseq ?_; intro K4 hK4
  refine creg ?_
  refine y (ev_move rfl) rfl ?_
  refine y (ev_nil rfl) rfl ?_
  refine y (ev_fieldAddr 0 rfl Try.underlying31 rfl Try.sizeOf27) rfl ?_
  refine y (ev_load rfl Try.isAgg27 (by repeat first | exact .z | apply In.s) rfl) rfl ?_
  skip
  · skip
    refine y (ev_neqPnil rfl rfl Try.underlying27) rfl ?_
    refine ynil' (kthn (hK4 _ _ ?_))
    clear hK4
    refine ccond1 rfl ?_
    refine cdrawN 16 (.op 0 0 (.op 1 0 (.op 2 0 (.op 3 0 (.op 4 1 (.op 5 0 (.op 6 0 (.op 7 0 (.op 8 1 (.op 9 3 (.op 10 0 (.op 11 0 (.op 12 0 (.op 13 0 (.op 14 0 (.op 15 2 (.nil))))))))))))))))) ([sc b11 _ 31] ++ R) Try.mixed (by kernel_rfl) (by repeat first | exact .refl | exact .nil | exact .z | apply Pk.s | refine Ge.e ?_ | apply Ge.pick | apply Ge.drop) ?_
    refine nz rfl (ev_move rfl) rfl ?_
    refine nz rfl (ev_move rfl) rfl ?_
    refine nz rfl (ev_nil rfl) rfl ?_
    refine nz rfl (ev_fieldAddr 0 rfl Try.underlying31 rfl Try.sizeOf27) rfl ?_
    refine nr rfl (ev_load rfl Try.isAgg27 (by repeat first | exact .z | apply In.s) rfl) rfl ?_
    refine nz rfl (ev_move rfl) rfl ?_
    refine nz rfl (ev_nil rfl) rfl ?_
    refine nz rfl (ev_fieldAddr 2 rfl Try.underlying31 rfl Try.sizeOf2) rfl ?_
    refine nr rfl (ev_load rfl Try.isAgg2 (by repeat first | exact .z | apply In.s) rfl) rfl ?_
    refine ncallC ([ownM b9 [] 0] ++ R) rfl (wOpenGood hU0.ok hE0) rfl Try.call32 (by repeat first | exact .nil | exact .z | apply Pk.s | apply Tk.cons) rfl ?_
    rintro v L' ⟨s27, c27, rfl, rfl⟩; refine ⟨(by repeat first | exact .refl | exact .nil | exact .z | apply Pk.s | refine Ge.e ?_ | apply Ge.pick | apply Ge.drop), ?_⟩
    refine nz rfl (ev_move rfl) rfl ?_
    refine nz rfl (ev_extract rfl rfl) rfl ?_
    refine nz rfl (ev_extract rfl rfl) rfl ?_
    refine nz rfl (ev_nil rfl) rfl ?_
    refine nz rfl (ev_fieldAddr 1 rfl Try.underlying31 rfl Try.sizeOf28) rfl ?_
    refine naN rfl (ac_store rfl rfl (by first | rfl | exact svVal_one _ _ | assumption) Try.sizeOf28 (by repeat first | exact .z | apply Rp.s) rfl rfl) ?_
    rintro v L' ⟨rfl, rfl⟩; refine ⟨(by repeat first | exact .refl | exact .nil | exact .z | apply Pk.s | refine Ge.e ?_ | apply Ge.pick | apply Ge.drop), ?_⟩
    refine nnil ?_
    refine hnoP' (kthn (hK3 _ _ ?_))
    clear hK3
    refine cseq ?_; intro K5 hK5
    refine creg ?_
    refine y (ev_move rfl) rfl ?_
    refine y (ev_assign rfl) rfl ?_
    refine ynil' (kthn (hK5 _ _ ?_))
    clear hK5
    refine cret ?_
    first
      | (exfalso; omega; done)
      | (refine kretv Try.results14 rfl (L1 := [lifeP b11 q4 _ _ b9 _, ownM b9 [] 0, witP s27 c27 _, celP c27 q4 _, dev q4 _] ++ R) (by repeat first | exact .refl | exact .nil | exact .z | apply Pk.s | refine Ge.e ?_ | apply Ge.pick | apply Ge.drop) ?_
         exact ⟨_, ⟨b11, q4, s27, c27, b9, rfl, rfl⟩, rfl⟩)
end W
end Go.Proofs
