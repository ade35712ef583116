/- A part of the proof: contracts and plain lemmas, each without conditions beyond those that it names. -/
import Derived.Test.YtediodfmkbfomaaGreatC13
import Derived.Test.YtediodfmkbfomaaGreatGO
set_option linter.unusedVariables false
set_option linter.unusedSimpArgs false
set_option linter.constructorNameAsVariable false
namespace Go.Proofs
open Go Go.Sl
namespace W
set_option linter.unusedVariables false
theorem kOpenY [Env] {R : List Seg} {q : Q3} {D D' : Dev} {first n a b bl : Int} {C : CaM} (hD : D.ok) (ha : a ≤ 9223372036854775807) (hb : b ≤ 9223372036854775807) (h : caOpen D first n a b bl = (0, C, D')) :
    Con Tryz.prog 20 [dp q, i64 first, i64 n, i64 a, i64 b, i64 bl] [dev q D] R (fun u L' => ∃ A sl, u = .tuple #[ptr A.p, i64 0] ∧ itOk sl C.l ∧ L' = [caP A C, enS A C, puS A C, lgS A q sl C, dev q D']) := by
  have hop := kOpen (R := R) (q := q) (first := first) (n := n) (bl := bl) hD ha hb
  rw [h] at hop
  refine hop.mono ?_
  rintro v L (⟨h1, _⟩ | ⟨_, A, sl, rfl, h2, rfl⟩)
  · exact absurd rfl h1
  · exact ⟨A, sl, rfl, h2, rfl⟩
theorem kOpenN [Env] {R : List Seg} {q : Q3} {D : Dev} {first n a b bl : Int} (hD : D.ok) (ha : a ≤ 9223372036854775807) (hb : b ≤ 9223372036854775807) (h : n < 8) :
    Con Tryz.prog 20 [dp q, i64 first, i64 n, i64 a, i64 b, i64 bl] [dev q D] R (Is (.tuple #[nilP, i64 1]) [dev q D]) := by
  have hop := kOpen (R := R) (q := q) (first := first) (n := n) (bl := bl) hD ha hb
  have e : (caOpen D first n a b bl).1 = 1 ∧ (caOpen D first n a b bl).2.2 = D := by unfold caOpen; rw [if_pos (.inr (.inr h))]; exact ⟨rfl, rfl⟩
  refine hop.mono ?_
  rintro v L (⟨_, rfl, rfl⟩ | ⟨h1, _⟩)
  · rw [e.1, e.2]; exact ⟨rfl, rfl⟩
  · rw [e.1] at h1; cases h1
def nCa (r : Int) : Nat := (r % 30).toNat + 8
theorem nCa_le (r : Int) : 8 ≤ nCa r ∧ nCa r ≤ 37 := by unfold nCa; omega
theorem nCa_eq {r : Int} (h0 : 0 ≤ r) (h1 : r ≤ 255) : IntKind.i64.wrap (IntKind.i64.wrap (r.tmod 30) + 8) = nCa r := by
  have e : r.tmod 30 = r % 30 := Int.tmod_eq_emod_of_nonneg h0
  rw [e]
  have h2 := Int.emod_nonneg r (show (30 : Int) ≠ 0 by decide)
  have h3 := Int.emod_lt_of_pos r (show (0 : Int) < 30 by decide)
  rw [show IntKind.i64.wrap (r % 30) = r % 30 from wr (by omega) (by omega), wr (by omega) (by omega)]
  unfold nCa; omega
theorem nOpen9 [Env] {R : List Seg} {r : Int} (h0 : 0 ≤ r) (h1 : r ≤ 255) :
    Con Tryz.prog 12 [.int .u8 r] [] R (fun u L' => ∃ q A sl C D, u = .tuple #[dp q, ptr A.p, i64 (nCa r)] ∧ CaS 32 (nCa r) 1 C D ∧ C.view = zeroV ∧ itOk sl C.l ∧ L' = [caP A C, enS A C, puS A C, lgS A q sl C, dev q D]) := by
  obtain ⟨n8, n37⟩ := nCa_le r
  obtain ⟨C, D, hop, hS, hv⟩ := new_cas (m := 32) (n := nCa r) (by decide) ⟨n8, by omega⟩
  refine con_enter Tryz.func12 Tryz.ntmps12 rfl rfl ?_
  refine cseq ?_; intro K1 hK1
  refine creg ?_
  refine y (ev_assign rfl) rfl ?_
  refine y (ev_assign rfl) rfl ?_
  refine y (ev_assign rfl) rfl ?_
  refine ynil' (kthn (hK1 _ _ ?_))
  clear hK1
  refine cseq ?_; intro K2 hK2
  refine creg ?_
  refine y (ev_move rfl) rfl ?_
  refine y (ev_rem rfl rfl (by decide)) rfl ?_
  refine y (ev_conv rfl Tryz.underlying5 Tryz.underlying3) rfl ?_
  refine y (ev_add rfl rfl) rfl ?_
  rw [nCa_eq h0 h1]; generalize nCa r = n at *
  refine y (ev_assign rfl) rfl ?_
  refine ynil' (kthn (hK2 _ _ ?_))
  clear hK2
  refine cseq ?_; intro K3 hK3
  refine creg ?_
  refine y (ev_move rfl) rfl ?_
  refine y (ev_add rfl rfl) rfl ?_
  rw [wr (by omega) (by omega), show (n : Int) + 2 = ((n + 2 : Nat) : Int) by omega]
  refine ycall (secNew (n := n + 2) (by omega)) rfl Tryz.call34 ztk rfl ?_
  rintro v L' ⟨q15, rfl, rfl⟩
  refine y (ev_assign rfl) rfl ?_
  refine ynil' (kthn (hK3 _ _ ?_))
  clear hK3
  refine cseq ?_; intro K4 hK4
  refine creg ?_
  refine y (ev_move rfl) rfl ?_
  refine y (ev_move rfl) rfl ?_
  refine ycall (kOpenY (Dev.new_ok (by omega)) (by decide) (by decide) hop) rfl Tryz.call20 ztk rfl ?_
  rintro v L' ⟨A19, sl19, rfl, ok19, rfl⟩
  refine y (ev_move rfl) rfl ?_
  refine y (ev_extract rfl rfl) rfl ?_
  refine y (ev_extract rfl rfl) rfl ?_
  refine y (ev_assign rfl) rfl ?_
  refine y (ev_assign rfl) rfl ?_
  refine ynil' (kthn (hK4 _ _ ?_))
  clear hK4
  refine cseq ?_; intro K5 hK5
  refine creg ?_
  refine y (ev_move rfl) rfl ?_
  refine y (ev_move rfl) rfl ?_
  refine y (ev_move rfl) rfl ?_
  refine y (ev_assign rfl) rfl ?_
  refine y (ev_assign rfl) rfl ?_
  refine y (ev_assign rfl) rfl ?_
  refine ynil' (kthn (hK5 _ _ ?_))
  clear hK5
  refine cret ?_
  first
    | (exfalso; omega; done)
    | (refine kretv3 Tryz.results12 rfl rfl rfl (L1 := [caP A19 C, enS A19 C, puS A19 C, lgS A19 q15 sl19 C, dev q15 D] ++ R) zge ?_
       exact ⟨_, ⟨q15, A19, sl19, C, D, rfl, hS, hv, ok19, rfl⟩, rfl⟩)
theorem nAwPut [Env] {R : List Seg} {A : CaA} {q : Q3} {sl : Sv} {C : CaM} {D : Dev} {bc : Nat} {b s : Int} {d : Bool} (hC : C.ok D) (hs : itOk sl C.l) :
    Con Tryz.prog 35 ([i64 b, i64 s, .bool d] ++ [ptr bc]) [sc bc [ptr A.p] 26, caP A C, enS A C, puS A C, lgS A q sl C, dev q D] R
      (fun u L' => ∃ sl', u = i64 (C.put D (aw b s d)).1 ∧ itOk sl' (C.put D (aw b s d)).2.1.l ∧ L' = [sc bc [ptr A.p] 26, caP A (C.put D (aw b s d)).2.1, enS A (C.put D (aw b s d)).2.1, puS A (C.put D (aw b s d)).2.1, lgS A q sl' (C.put D (aw b s d)).2.1, dev q (C.put D (aw b s d)).2.2]) := by
  refine con_enter Tryz.func35 Tryz.ntmps35 rfl rfl ?_
  refine cseq ?_; intro K1 hK1
  refine creg ?_
  refine y (ev_assign rfl) rfl ?_
  refine ynil' (kthn (hK1 _ _ ?_))
  clear hK1
  refine cseq ?_; intro K2 hK2
  refine creg ?_
  refine y (ev_load rfl Tryz.isAgg26 zin rfl) rfl ?_
  refine y (ev_move rfl) rfl ?_
  refine y (ev_move rfl) rfl ?_
  refine y (ev_build (zs := _) rfl Tryz.underlying31 Tryz.zeroValue31 rfl (.cons Tryz.sizeOf2 (.cons Tryz.sizeOf2 .nil)) ⟨⟨_, _, rfl, (by first | rfl | simp), (by first | decide | simp)⟩, ⟨⟨_, _, rfl, (by first | rfl | simp), (by first | decide | simp)⟩, trivial⟩⟩ (by dsimp [fillL, splice, vcells] <;> rfl)) rfl ?_
  refine y (ev_move rfl) rfl ?_
  refine y (ev_move rfl) rfl ?_
  refine y (ev_build (zs := _) rfl Tryz.underlying34 Tryz.zeroValue34 rfl (.cons Tryz.sizeOf3 (.cons Tryz.sizeOf31 (.cons Tryz.sizeOf9 (.cons Tryz.sizeOf4 (.cons Tryz.sizeOf3 (.cons Tryz.sizeOf2 .nil)))))) ⟨⟨_, _, rfl, (by first | rfl | simp), (by first | decide | simp)⟩, ⟨⟨_, _, rfl, (by first | rfl | simp), (by first | decide | simp)⟩, ⟨⟨_, _, rfl, (by first | rfl | simp), (by first | decide | simp)⟩, ⟨⟨_, _, rfl, (by first | rfl | simp), (by first | decide | simp)⟩, ⟨⟨_, _, rfl, (by first | rfl | simp), (by first | decide | simp)⟩, ⟨⟨_, _, rfl, (by first | rfl | simp), (by first | decide | simp)⟩, trivial⟩⟩⟩⟩⟩⟩ (by dsimp [fillL, splice, vcells] <;> rfl)) rfl ?_
  refine ycall (kPut (C := C) (sl := sl) (q := q) (D := D) (x := aw b s d) ?cok97 ?its97) rfl Tryz.call13 ztk rfl ?_
  case cok97 => exact hC
  case its97 => exact hs
  rintro v L' ⟨sl15, rfl, ok15, rfl⟩
  refine y (ev_assign rfl) rfl ?_
  refine ynil' (kthn (hK2 _ _ ?_))
  clear hK2
  refine cret ?_
  first
    | (exfalso; omega; done)
    | (refine kretv Tryz.results35 rfl (L1 := [sc bc [ptr A.p] 26, caP A _, enS A _, puS A _, lgS A q sl15 _, dev q _] ++ R) zge ?_
       exact ⟨_, ⟨sl15, rfl, ok15, rfl⟩, rfl⟩)
end W
end Go.Proofs
