/- A part of the proof: contracts and plain lemmas, each without conditions beyond those that it names. -/
import Derived.Test.YtebijajimmjknaaGreatS4
import Derived.Test.YtebijajimmjknaaGreatGC
set_option linter.unusedVariables false
set_option linter.unusedSimpArgs false
set_option linter.constructorNameAsVariable false
namespace Go.Proofs
open Go Go.Sl
namespace W
set_option linter.unusedVariables false
abbrev badV : Value := .iface 149 (.agg #[])
abbrev rdrP (p : Nat) (v : Value) : Seg := sc p [v] 152
theorem cTake [Env] {R : List Seg} {p : Nat} {v : Value} {bs : Bytes} {k : Int} (hb : RdY R v bs) (h0 : 0 ≤ k) :
   ConP Tryz.prog 96 [ptr p, i64 k] [rdrP p v] R (fun u L' => k ≤ bs.length ∧ u = vSl v 0 k.toNat 1 ∧ L' = [rdrP p (vSl v k.toNat bs.length 1)]) badV (fun L' => (bs.length : Int) < k ∧ L' = [rdrP p v]) := by
 have hv := hb.rd
 refine conP_enter Tryz.func96 Tryz.ntmps96 rfl rfl ?_
 refine cseq ?_; intro K1 hK1
 refine creg ?_
 refine yas ?_
 refine ynil' (kthn (hK1 _ _ ?_))
 clear hK1
 refine cseq ?_; intro K2 hK2
 refine cseq ?_; intro K3 hK3
 refine creg ?_
 refine ymv ?_
 refine ymv ?_
 refine yni ?_
 refine y (ev_fieldAddr 0 rfl Tryz.underlying152 rfl Tryz.sizeOf50) rfl ?_
 refine y (ev_load rfl Tryz.isAgg50 zin rfl) rfl ?_
 first
   | refine y (ev_len rfl Tryz.underlying50) rfl ?_
   | refine y (ev_lenSv rfl Tryz.underlying50 (by assumption)) rfl ?_
   | refine y (ev_lenV rfl Tryz.underlying50 (RdV.lenVal (by assumption))) rfl ?_
   | refine y (ev_lenV rfl Tryz.underlying50 (RdB.lenVal (by assumption))) rfl ?_
 refine y (ev_gtr rfl rfl) rfl ?_
 refine ynil' (kthn (hK3 _ _ ?_))
 clear hK3
 refine ccond rfl (fun h9 => ?_) (fun h9 => ?_)
 ·(try simp only [sH] at h9)
  refine creg ?_
  refine y (ev_build (zs := _) rfl Tryz.underlying149 Tryz.zeroValue149 rfl .nil trivial (by dsimp [fillL, splice, vcells] <;> rfl)) rfl ?_
  refine y (ev_iface rfl (by kernel_rfl)) rfl ?_
  refine ypanic rfl ?_
  refine kthp ?_
  refine kpan (L1 := [sc p _ 152] ++ R) zge ?_
  exact ⟨_, ⟨by omega, rfl⟩, rfl⟩
 ·(try simp only [sH] at h9)
  refine cskip' (kthn (hK2 _ _ ?_))
  clear hK2
  refine cseq ?_; intro K4 hK4
  refine creg ?_
  refine ymv ?_
  refine yni ?_
  refine y (ev_fieldAddr 0 rfl Tryz.underlying152 rfl Tryz.sizeOf50) rfl ?_
  refine y (ev_load rfl Tryz.isAgg50 zin rfl) rfl ?_
  refine ymv ?_
  refine y (ev_slHV hv hb.cap rfl rfl Tryz.underlying50 Tryz.sizeOf5 (by omega) (by omega)) rfl ?_
  refine yas ?_
  refine ynil' (kthn (hK4 _ _ ?_))
  clear hK4
  refine cseq ?_; intro K5 hK5
  refine creg ?_
  refine ymv ?_
  refine ymv ?_
  refine yni ?_
  refine y (ev_fieldAddr 0 rfl Tryz.underlying152 rfl Tryz.sizeOf50) rfl ?_
  refine y (ev_load rfl Tryz.isAgg50 zin rfl) rfl ?_
  refine ymv ?_
  refine y (ev_slLV hv rfl rfl Tryz.underlying50 Tryz.sizeOf5 (by omega) (by omega)) rfl ?_
  refine yni ?_
  refine y (ev_fieldAddr 0 rfl Tryz.underlying152 rfl Tryz.sizeOf50) rfl ?_
  refine ya0 (ac_store rfl rfl (vSl_one hv.lenVal) Tryz.sizeOf50 zrp rfl rfl) ?_
  rintro v L' ⟨rfl, rfl⟩
  refine ynil' (kthn (hK5 _ _ ?_))
  clear hK5
  refine cseq ?_; intro K6 hK6
  refine creg ?_
  refine ymv ?_
  refine yas ?_
  refine ynil' (kthn (hK6 _ _ ?_))
  clear hK6
  refine cret ?_
  first
    | (exfalso; omega; done)
    | (refine kretvP Tryz.results96 rfl (L1 := [sc p _ 152] ++ R) zge ?_
       exact ⟨_, ⟨by omega, rfl, rfl⟩, rfl⟩)
end W
end Go.Proofs
