/- A part of the proof: contracts and plain lemmas, each without conditions beyond those that it names. -/
import Derived.Test.YtnfbhgalkcmbdaaGreatY8
import Derived.Test.YtnfbhgalkcmbdaaGreatR4
import Derived.Test.YtnfbhgalkcmbdaaGreatGL
set_option linter.unusedVariables false
set_option linter.unusedSimpArgs false
set_option linter.constructorNameAsVariable false
namespace Go.Proofs
open Go Go.Sl
namespace W
set_option linter.unusedVariables false
theorem nKeeps8 [Env] {R : List Seg} {kv : Value} {ks : Keeps} (hkk : RdV R kv ks.length (keepsV ks)) (h6 : ks.length ≤ 600) :
    Con Tryz.prog 18 [kv] [] R (KSv 99 ks.length 2 (keepsV ks) []) := by
  refine con_enter Tryz.func18 Tryz.ntmps18 rfl rfl ?_
  refine cseq ?_; intro K1 hK1
  refine creg ?_
  refine y (ev_assign rfl) rfl ?_
  refine ynil' (kthn (hK1 _ _ ?_))
  clear hK1
  refine cseq ?_; intro K2 hK2
  refine creg ?_
  refine ya (ac_bslice0 Tryz.underlying44 Tryz.sizeOf99) rfl ?_
  rintro v L' ⟨b5, rfl, rfl⟩
  refine y (ev_assign rfl) rfl ?_
  refine ynil' (kthn (hK2 _ _ ?_))
  clear hK2
  refine cseq ?_; intro K3 hK3
  refine cseq ?_; intro K4 hK4
  refine creg ?_
  refine y (ev_assign rfl) rfl ?_
  refine ynil' (kthn (hK4 _ _ ?_))
  clear hK4
  have hJ1 : ∀ x : Nat × Sv, ((svOk x.2 x.1 2 (keepsV (ks.take x.1)) ∧ x.1 ≤ ks.length) ∧ (x.1 = ks.length)) → Sk 31 K3 ([(4, i64 x.1), (3, svVal x.2 x.1), (0, kv)]) ([svSeg x.2 99 (keepsV (ks.take x.1))] ++ R) := by
   rintro ⟨k, s3⟩ ⟨hI1, hX1⟩
   refine hK3 _ _ ?_
   obtain ⟨ok3, hk⟩ := hI1; dsimp only at ok3 hk ⊢
   dsimp only at hX1; subst hX1; rw [List.take_length] at ok3 ⊢
   refine cseq ?_; intro K5 hK5
   refine creg ?_
   refine y (ev_move rfl) rfl ?_
   refine y (ev_assign rfl) rfl ?_
   refine ynil' (kthn (hK5 _ _ ?_))
   clear hK5
   refine cret ?_
   first
     | (exfalso; omega; done)
     | (refine kretv Tryz.results18 rfl (L1 := [svSeg _ _ _] ++ R) (by repeat first | exact .refl | exact .nil | exact .z | apply Pk.s | refine Ge.e ?_ | apply Ge.pick | apply Ge.drop) ?_
        exact ⟨_, ⟨s3, rfl, ok3, rfl⟩, rfl⟩)
  clear hK3
  refine cblock ?_
  refine cloop (A := Nat × Sv) (fun x => [(4, i64 x.1), (3, svVal x.2 x.1), (0, kv)]) (fun x => [svSeg x.2 99 (keepsV (ks.take x.1))] ++ R) (fun x => svOk x.2 x.1 2 (keepsV (ks.take x.1)) ∧ x.1 ≤ ks.length) (fun x => ks.length - x.1) ((0, some (b5, 0, []))) ?_ (by repeat first | exact sub_nil | refine sub_cons rfl ?_ | refine sub_cons' rfl (by simp) ?_) (by repeat first | exact .refl | exact .nil | exact .z | apply Pk.s | refine Ge.e ?_ | apply Ge.pick | apply Ge.drop) ?_
  · exact ⟨⟨Nat.le_refl _, Nat.zero_le _, rfl, rfl⟩, Nat.zero_le _⟩
  rintro ⟨k, s3⟩ hI1 KL1 hL1
  have hI1o := hI1
  obtain ⟨ok3, hk⟩ := hI1; dsimp only at ok3 hk ⊢
  refine cseq ?_; intro K6 hK6
  refine cseq ?_; intro K7 hK7
  refine creg ?_
  refine y (ev_move rfl) rfl ?_
  refine y (ev_move rfl) rfl ?_
  first
    | refine y (ev_len rfl Tryz.underlying35) rfl ?_
    | refine y (ev_lenSv rfl Tryz.underlying35 (by assumption)) rfl ?_
    | refine y (ev_lenV rfl Tryz.underlying35 (RdV.lenVal (by assumption))) rfl ?_
    | refine y (ev_lenV rfl Tryz.underlying35 (RdB.lenVal (by assumption))) rfl ?_
  refine y (ev_lss rfl rfl) rfl ?_
  refine y (ev_move rfl) rfl ?_
  refine ysplit 10 rfl (fun h12 => ?_) (fun h12 => ?_)
  ·(try simp only [sH] at h12)
   refine yg1 rfl rfl ?_
   refine y (ev_move rfl) rfl ?_
   refine yg1 rfl rfl ?_
   refine y (ev_lss rfl rfl) rfl ?_
   refine y (ev_pick1 rfl rfl) rfl ?_
   refine ynil' (kthn (hK7 _ _ ?_))
   clear hK7
   refine ccond rfl (fun h16 => ?_) (fun h16 => ?_)
   ·(try simp only [sH] at h16)
    obtain ⟨yy, hy⟩ : ∃ yy, ks[k]? = some yy := ⟨_, List.getElem?_eq_getElem (by omega)⟩
    obtain ⟨hy1, hy2⟩ := keepsV_get ks _ yy hy
    refine cskip' (kthn (hK6 _ _ ?_))
    clear hK6
    refine cseq ?_; intro K8 hK8
    refine cblock ?_
    refine cdraw 13 [(0, true), (1, true), (2, true), (3, true), (4, true), (5, true), (6, true), (7, true), (8, true), (9, true), (10, true), (11, true), (12, false)] (_) Tryz.mixed (by kernel_rfl) .refl ?_
    refine hr rfl (ev_move rfl) rfl ?_
    refine hr rfl (ev_move rfl) rfl ?_
    refine hr rfl (ev_move rfl) rfl ?_
    first
      | refine hr rfl (ev_ixAddr rfl rfl Tryz.underlying35 Tryz.sizeOf96 (by omega) (by omega)) rfl ?_
      | refine hr rfl (ev_ixV (by assumption) rfl rfl Tryz.underlying35 Tryz.sizeOf96 (by omega) (by omega)) rfl ?_
    refine hr rfl (ev_fieldAddr 0 rfl Tryz.underlying96 rfl Tryz.sizeOf3) rfl ?_
    refine hr rfl (ev_loadV (k * 2) hkk (by repeat first | exact .refl | exact .nil | exact .z | apply Pk.s | refine Ge.e ?_ | apply Ge.pick | apply Ge.drop) rfl Tryz.isAgg3 (by simp) hy1) rfl ?_
    refine hr rfl (ev_move rfl) rfl ?_
    refine hr rfl (ev_move rfl) rfl ?_
    first
      | refine hr rfl (ev_ixAddr rfl rfl Tryz.underlying35 Tryz.sizeOf96 (by omega) (by omega)) rfl ?_
      | refine hr rfl (ev_ixV (by assumption) rfl rfl Tryz.underlying35 Tryz.sizeOf96 (by omega) (by omega)) rfl ?_
    refine hr rfl (ev_fieldAddr 1 rfl Tryz.underlying96 rfl Tryz.sizeOf3) rfl ?_
    refine hr rfl (ev_loadV (k * 2 + 1) hkk (by repeat first | exact .refl | exact .nil | exact .z | apply Pk.s | refine Ge.e ?_ | apply Ge.pick | apply Ge.drop) rfl Tryz.isAgg3 (by simp; omega) hy2) rfl ?_
    refine hr rfl (ev_build (zs := _) rfl Tryz.underlying99 Tryz.zeroValue99 rfl (.cons Tryz.sizeOf3 (.cons Tryz.sizeOf3 .nil)) ⟨⟨_, _, rfl, (by first | rfl | simp), (by first | decide | simp)⟩, ⟨⟨_, _, rfl, (by first | rfl | simp), (by first | decide | simp)⟩, trivial⟩⟩ (by dsimp [fillL, splice, vcells] <;> rfl)) rfl ?_
    refine ha rfl (ac_bsliceR rfl Tryz.underlying44 Tryz.sizeOf99 Tryz.zeroValue99 rfl rfl rfl rfl ⟨⟨_, _, rfl, (by first | rfl | simp), (by first | decide | simp)⟩, trivial⟩ (by dsimp [fillL, splice, vcells, reps] <;> rfl)) rfl ?_
    rintro v L' ⟨b28, rfl, rfl⟩; refine ⟨(by repeat first | exact .refl | exact .nil | exact .z | apply Pk.s | refine Ge.e ?_ | apply Ge.pick | apply Ge.drop), ?_⟩
    refine hnil ?_
    refine ya (ac_append (xs := keepsV (ks.take k)) (m := k) (k := 1) (us := [i64 yy.1, i64 yy.2]) (size := 2) rfl rfl (by repeat first | exact .z | apply Pk.s) Tryz.underlying44 Tryz.underlying44 (by intro q hq; cases hq) Tryz.typeInfo99 rfl rfl rfl ?ok30 ?src30 ?one30 ?big30) rfl ?_
    case ok30 => exact ok3
    case src30 => exact src_at (by repeat first | exact .z | apply In.s) rfl rfl
    case one30 => simp [Value.oneCell']
    case big30 => show (k + 1) * 17 ≤ _; omega
    rintro v L' ⟨s29, rfl, ok29, rfl⟩
    rw [← keepsV_succ hy] at ok29 ⊢
    refine y (ev_assign rfl) rfl ?_
    refine hnoP' (kbn (kthn (hK8 _ _ ?_)))
    clear hK8
    refine creg ?_
    refine y (ev_move rfl) rfl ?_
    refine y (ev_add rfl rfl) rfl ?_
    rw [show IntKind.i64.wrap ((k:Int) + 1) = ((k+1 : Nat) : Int) by rw [wr (by omega) (by omega)]; rfl]
    refine y (ev_assign rfl) rfl ?_
    refine ynil' (kthn ?_)
    exact hL1 ((k + 1, s29)) (⟨ok29, by dsimp only; omega⟩) (by dsimp only; omega) _ _ (by repeat first | exact sub_nil | refine sub_cons rfl ?_ | refine sub_cons' rfl (by simp) ?_) (by repeat first | exact .refl | exact .nil | exact .z | apply Pk.s | refine Ge.e ?_ | apply Ge.pick | apply Ge.drop)
   ·(try simp only [sH] at h16)
    refine cexit (kthx (kthx (kbx (kthn ?_))))
    exact ksub (by repeat first | exact sub_nil | refine sub_cons rfl ?_ | refine sub_cons' rfl (by simp) ?_) (by repeat first | exact .refl | exact .nil | exact .z | apply Pk.s | refine Ge.e ?_ | apply Ge.pick | apply Ge.drop) (hJ1 ⟨k, s3⟩ ⟨hI1o, by dsimp only; omega⟩)
  ·(try simp only [sH] at h12)
   refine yg0 rfl rfl rfl rfl ?_
   refine yg0 rfl rfl rfl rfl ?_
   refine y (ev_pick0 rfl rfl) rfl ?_
   refine ynil' (kthn (hK7 _ _ ?_))
   clear hK7
   refine ccond0 rfl ?_
   refine cexit (kthx (kthx (kbx (kthn ?_))))
   exact ksub (by repeat first | exact sub_nil | refine sub_cons rfl ?_ | refine sub_cons' rfl (by simp) ?_) (by repeat first | exact .refl | exact .nil | exact .z | apply Pk.s | refine Ge.e ?_ | apply Ge.pick | apply Ge.drop) (hJ1 ⟨k, s3⟩ ⟨hI1o, by dsimp only; omega⟩)
theorem secReadU [Env] {R : List Seg} {q : Q3} {D : Dev} {i : Int} (hD : D.ok) : Con Tryz.prog 29 [dp q, i64 i] [dev q D] R
    (fun v L' => ∃ s, v = .tuple #[svVal s (D.rdB i).length, i64 (D.has i)] ∧ svOk s (D.rdB i).length 1 (bytesV (D.rdB i)) ∧ L' = [svSeg s 5 (bytesV (D.rdB i)), dev q D]) := by
  refine (secRead hD).via (List.Perm.refl _) ?_
  unfold Dev.rdB
  rintro v L (⟨h1, rfl, rfl⟩ | ⟨h1, s, rfl, h2, rfl⟩)
  · exact ⟨_, ⟨none, by rw [if_neg h1]; rfl, by rw [if_neg h1]; exact ⟨rfl, rfl⟩, rfl⟩, by simp [svSeg]⟩
  · refine ⟨_, ⟨s, by rw [if_pos h1, sec_length hD, h1], ?_, rfl⟩, by rw [if_pos h1]⟩
    rw [if_pos h1, sec_length hD]; exact h2
theorem rdReadU [Env] {R : List Seg} {p la : Nat} {D : RDev} {i : Int} (hD : D.ok) (hl : D.has i = 0 → (D.sec i).length = 144) : Con Tryz.prog 30 [ptr p, i64 i] [rdev p la D] R
    (fun v L' => ∃ s, v = .tuple #[svVal s (D.rdB i).length, i64 (D.has i)] ∧ svOk s (D.rdB i).length 1 (bytesV (D.rdB i)) ∧ L' = [svSeg s 5 (bytesV (D.rdB i)), rdev p la D]) := by
  refine (rdRead hD).via (List.Perm.refl _) ?_
  unfold RDev.rdB
  rintro v L (⟨h1, rfl, rfl⟩ | ⟨h1, s, rfl, h2, rfl⟩)
  · exact ⟨_, ⟨none, by rw [if_neg h1]; rfl, by rw [if_neg h1]; exact ⟨rfl, rfl⟩, rfl⟩, by simp [svSeg]⟩
  · refine ⟨_, ⟨s, by rw [if_pos h1, hl h1, h1], ?_, rfl⟩, by rw [if_pos h1]⟩
    rw [if_pos h1, hl h1]; exact h2
theorem nLarge8 [Env] {R : List Seg} {x : ActL} (hx : x.ok R) : Con Tryz.prog 9 [.agg x.cells.toArray] [] R (fun u L' => ∃ b, u = .bool b ∧ (b = false → x.s.length ≤ 1000 ∧ x.ks.length ≤ 600) ∧ L' = []) := by
  have hkk := hx.keeps
  have hkl := hkk.lenVal
  refine con_enter Tryz.func9 Tryz.ntmps9 rfl rfl ?_
  refine cseq ?_; intro K1 hK1
  refine creg ?_
  refine ya (ac_box (vs := x.cells) rfl rfl) rfl ?_
  rintro v L' ⟨b1, rfl, rfl⟩
  refine y (ev_assign rfl) rfl ?_
  refine ynil' (kthn (hK1 _ _ ?_))
  clear hK1
  refine cseq ?_; intro K2 hK2
  refine creg ?_
  refine y (ev_fieldAddr 2 rfl Tryz.underlying37 rfl Tryz.sizeOf9) rfl ?_
  refine y (ev_load rfl Tryz.isAgg9 (by repeat first | exact .z | apply In.s) rfl) rfl ?_
  first
    | refine y (ev_lenStr rfl Tryz.underlying9) rfl ?_
    | refine y (ev_lenS rfl Tryz.underlying9) rfl ?_
  refine y (ev_gtr rfl rfl) rfl ?_
  refine y (ev_move rfl) rfl ?_
  refine ysplit 7 rfl (fun h43 => ?_) (fun h43 => ?_)
  ·(try simp only [sH] at h43)
   refine yg0 rfl rfl rfl rfl ?_
   refine yg0 rfl rfl rfl rfl ?_
   refine yg0 rfl rfl rfl rfl ?_
   refine yg0 rfl rfl rfl rfl ?_
   refine y (ev_pick1 rfl rfl) rfl ?_
   refine y (ev_assign rfl) rfl ?_
   refine ynil' (kthn (hK2 _ _ ?_))
   clear hK2
   refine cret ?_
   first
     | (exfalso; omega; done)
     | (refine kretv Tryz.results9 rfl (L1 := [] ++ R) (by repeat first | exact .refl | exact .nil | exact .z | apply Pk.s | refine Ge.e ?_ | apply Ge.pick | apply Ge.drop) ?_
        exact ⟨_, ⟨_, rfl, fun h => by first | omega | (simp at h; done) | (simp at h; omega), rfl⟩, rfl⟩)
  ·(try simp only [sH] at h43)
   refine yg1 rfl rfl ?_
   refine y (ev_fieldAddr 3 rfl Tryz.underlying37 rfl Tryz.sizeOf35) rfl ?_
   refine yg1 rfl rfl ?_
   refine y (ev_load rfl Tryz.isAgg35 (by repeat first | exact .z | apply In.s) rfl) rfl ?_
   refine yg1 rfl rfl ?_
   refine y (ev_lenV rfl Tryz.underlying35 hkl) rfl ?_
   refine yg1 rfl rfl ?_
   refine y (ev_gtr rfl rfl) rfl ?_
   refine y (ev_pick0 rfl rfl) rfl ?_
   refine y (ev_assign rfl) rfl ?_
   refine ynil' (kthn (hK2 _ _ ?_))
   clear hK2
   refine cret ?_
   first
     | (exfalso; omega; done)
     | (refine kretv Tryz.results9 rfl (L1 := [] ++ R) (by repeat first | exact .refl | exact .nil | exact .z | apply Pk.s | refine Ge.e ?_ | apply Ge.pick | apply Ge.drop) ?_
        exact ⟨_, ⟨_, rfl, fun h => by first | omega | (simp at h; done) | (simp at h; omega), rfl⟩, rfl⟩)
end W
end Go.Proofs
