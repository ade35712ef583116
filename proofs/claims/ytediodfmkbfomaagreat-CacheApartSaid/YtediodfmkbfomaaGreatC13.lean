/- A part of the proof: contracts and plain lemmas, each without conditions beyond those that it names. -/
import Derived.Test.YtediodfmkbfomaaGreatC12
import Derived.Test.YtediodfmkbfomaaGreatGO
set_option linter.unusedVariables false
set_option linter.unusedSimpArgs false
set_option linter.constructorNameAsVariable false
namespace Go.Proofs
open Go Go.Sl
namespace W
set_option linter.unusedVariables false
theorem nLarge9 [Env] {R : List Seg} {x : ActC} (hx : x.ok R) : Con Tryz.prog 24 [.agg x.cells.toArray] [] R (fun u L' => ∃ b, u = .bool b ∧ (b = false → x.s.length ≤ 1000 ∧ x.ks.length ≤ 600 ∧ x.x.data.length ≤ 1000 ∧ x.ts.length ≤ 100) ∧ L' = []) := by
  have hkl := hx.keeps.lenVal
  have htl := hx.nums.lenVal
  refine con_enter Tryz.func24 Tryz.ntmps24 rfl rfl ?_
  refine cseq ?_; intro K1 hK1
  refine creg ?_
  refine ya (ac_box (vs := x.cells) rfl rfl) rfl ?_
  rintro v L' ⟨b1, rfl, rfl⟩
  refine y (ev_assign rfl) rfl ?_
  refine ynil' (kthn (hK1 _ _ ?_))
  clear hK1
  refine cseq ?_; intro K2 hK2
  refine creg ?_
  refine y (ev_fieldAddr 10 rfl Tryz.underlying59 rfl Tryz.sizeOf9) rfl ?_
  refine y (ev_load rfl Tryz.isAgg9 (by repeat first | exact .z | apply In.s) rfl) rfl ?_
  first
    | refine y (ev_lenStr rfl Tryz.underlying9) rfl ?_
    | refine y (ev_lenS rfl Tryz.underlying9) rfl ?_
  refine y (ev_gtr rfl rfl) rfl ?_
  refine y (ev_move rfl) rfl ?_
  refine ysplit 7 rfl (fun h29 => ?_) (fun h29 => ?_)
  ·(try simp only [sH] at h29)
   refine yg0 rfl rfl rfl rfl ?_
   refine yg0 rfl rfl rfl rfl ?_
   refine yg0 rfl rfl rfl rfl ?_
   refine yg0 rfl rfl rfl rfl ?_
   refine y (ev_pick1 rfl rfl) rfl ?_
   refine y (ev_move rfl) rfl ?_
   refine yg0 rfl rfl rfl rfl ?_
   refine yg0 rfl rfl rfl rfl ?_
   refine yg0 rfl rfl rfl rfl ?_
   refine yg0 rfl rfl rfl rfl ?_
   refine yg0 rfl rfl rfl rfl ?_
   refine y (ev_pick1 rfl rfl) rfl ?_
   refine y (ev_move rfl) rfl ?_
   refine yg0 rfl rfl rfl rfl ?_
   refine yg0 rfl rfl rfl rfl ?_
   refine yg0 rfl rfl rfl rfl ?_
   refine yg0 rfl rfl rfl rfl ?_
   refine y (ev_pick1 rfl rfl) rfl ?_
   refine y (ev_assign rfl) rfl ?_
   refine ynil' (kthn (hK2 _ _ ?_))
   clear hK2
   refine cret ?_
   first
     | (exfalso; omega; done)
     | (refine kretv Tryz.results24 rfl (L1 := [] ++ R) (by repeat first | exact .refl | exact .nil | exact .z | apply Pk.s | refine Ge.e ?_ | apply Ge.pick | apply Ge.drop) ?_
        exact ⟨_, ⟨_, rfl, fun h => by first | omega | (simp at h; done) | (simp at h; omega), rfl⟩, rfl⟩)
  ·(try simp only [sH] at h29)
   refine yg1 rfl rfl ?_
   refine y (ev_fieldAddr 11 rfl Tryz.underlying59 rfl Tryz.sizeOf57) rfl ?_
   refine yg1 rfl rfl ?_
   refine y (ev_load rfl Tryz.isAgg57 (by repeat first | exact .z | apply In.s) rfl) rfl ?_
   refine yg1 rfl rfl ?_
   refine y (ev_lenV rfl Tryz.underlying57 hkl) rfl ?_
   refine yg1 rfl rfl ?_
   refine y (ev_gtr rfl rfl) rfl ?_
   refine y (ev_pick0 rfl rfl) rfl ?_
   refine y (ev_move rfl) rfl ?_
   refine ysplit 13 rfl (fun h42 => ?_) (fun h42 => ?_)
   ·(try simp only [sH] at h42)
    refine yg0 rfl rfl rfl rfl ?_
    refine yg0 rfl rfl rfl rfl ?_
    refine yg0 rfl rfl rfl rfl ?_
    refine yg0 rfl rfl rfl rfl ?_
    refine yg0 rfl rfl rfl rfl ?_
    refine y (ev_pick1 rfl rfl) rfl ?_
    refine y (ev_move rfl) rfl ?_
    refine yg0 rfl rfl rfl rfl ?_
    refine yg0 rfl rfl rfl rfl ?_
    refine yg0 rfl rfl rfl rfl ?_
    refine yg0 rfl rfl rfl rfl ?_
    refine y (ev_pick1 rfl rfl) rfl ?_
    refine y (ev_assign rfl) rfl ?_
    refine ynil' (kthn (hK2 _ _ ?_))
    clear hK2
    refine cret ?_
    first
      | (exfalso; omega; done)
      | (refine kretv Tryz.results24 rfl (L1 := [] ++ R) (by repeat first | exact .refl | exact .nil | exact .z | apply Pk.s | refine Ge.e ?_ | apply Ge.pick | apply Ge.drop) ?_
         exact ⟨_, ⟨_, rfl, fun h => by first | omega | (simp at h; done) | (simp at h; omega), rfl⟩, rfl⟩)
   ·(try simp only [sH] at h42)
    refine yg1 rfl rfl ?_
    refine y (ev_fieldAddr 2 rfl Tryz.underlying59 rfl Tryz.sizeOf34) rfl ?_
    refine yg1 rfl rfl ?_
    refine y (ev_fieldAddr 3 rfl Tryz.underlying34 rfl Tryz.sizeOf9) rfl ?_
    refine yg1 rfl rfl ?_
    refine y (ev_load rfl Tryz.isAgg9 (by repeat first | exact .z | apply In.s) rfl) rfl ?_
    refine yg1 rfl rfl ?_
    first
      | refine y (ev_lenStr rfl Tryz.underlying9) rfl ?_
      | refine y (ev_lenS rfl Tryz.underlying9) rfl ?_
    refine yg1 rfl rfl ?_
    refine y (ev_gtr rfl rfl) rfl ?_
    refine y (ev_pick0 rfl rfl) rfl ?_
    refine y (ev_move rfl) rfl ?_
    refine ysplit 20 rfl (fun h54 => ?_) (fun h54 => ?_)
    ·(try simp only [sH] at h54)
     refine yg0 rfl rfl rfl rfl ?_
     refine yg0 rfl rfl rfl rfl ?_
     refine yg0 rfl rfl rfl rfl ?_
     refine yg0 rfl rfl rfl rfl ?_
     refine y (ev_pick1 rfl rfl) rfl ?_
     refine y (ev_assign rfl) rfl ?_
     refine ynil' (kthn (hK2 _ _ ?_))
     clear hK2
     refine cret ?_
     first
       | (exfalso; omega; done)
       | (refine kretv Tryz.results24 rfl (L1 := [] ++ R) (by repeat first | exact .refl | exact .nil | exact .z | apply Pk.s | refine Ge.e ?_ | apply Ge.pick | apply Ge.drop) ?_
          exact ⟨_, ⟨_, rfl, fun h => by first | omega | (simp at h; done) | (simp at h; omega), rfl⟩, rfl⟩)
    ·(try simp only [sH] at h54)
     refine yg1 rfl rfl ?_
     refine y (ev_fieldAddr 9 rfl Tryz.underlying59 rfl Tryz.sizeOf56) rfl ?_
     refine yg1 rfl rfl ?_
     refine y (ev_load rfl Tryz.isAgg56 (by repeat first | exact .z | apply In.s) rfl) rfl ?_
     refine yg1 rfl rfl ?_
     refine y (ev_lenV rfl Tryz.underlying56 htl) rfl ?_
     refine yg1 rfl rfl ?_
     refine y (ev_gtr rfl rfl) rfl ?_
     refine y (ev_pick0 rfl rfl) rfl ?_
     refine y (ev_assign rfl) rfl ?_
     refine ynil' (kthn (hK2 _ _ ?_))
     clear hK2
     refine cret ?_
     first
       | (exfalso; omega; done)
       | (refine kretv Tryz.results24 rfl (L1 := [] ++ R) (by repeat first | exact .refl | exact .nil | exact .z | apply Pk.s | refine Ge.e ?_ | apply Ge.pick | apply Ge.drop) ?_
          exact ⟨_, ⟨_, rfl, fun h => by first | omega | (simp at h; done) | (simp at h; omega), rfl⟩, rfl⟩)
theorem all_le {C : CaM} {D : Dev} (h : C.ok D) : C.all.length ≤ 32 := by
  have h1 := allTo_len C C.bl
  have h2 := h.bl
  show (allTo C C.bl).length ≤ 32
  omega
end W
end Go.Proofs
