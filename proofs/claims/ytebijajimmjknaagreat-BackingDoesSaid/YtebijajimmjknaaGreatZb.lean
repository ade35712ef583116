/- A part of the proof: contracts and plain lemmas, each without conditions beyond those that it names. -/
import Derived.Test.YtebijajimmjknaaGreatZa
import Derived.Test.YtebijajimmjknaaGreatGP
import Derived.Test.YtebijajimmjknaaGreatGJ
set_option linter.unusedVariables false
set_option linter.unusedSimpArgs false
set_option linter.constructorNameAsVariable false
namespace Go.Proofs
open Go Go.Sl
namespace W
set_option linter.unusedVariables false
theorem xbLarge [Env] {R : List Seg} {x : ActB} (hx : x.ok R) : Con Tryz.prog 31 [.agg x.cells.toArray] [] R (fun u L' => ∃ b, u = .bool b ∧ (b = false → x.ks.length ≤ 600) ∧ L' = []) := by
 have hkk := hx.keeps
 have hkl := hkk.lenVal
 refine con_enter Tryz.func31 Tryz.ntmps31 rfl rfl ?_
 refine cseq ?_; intro K1 hK1
 refine creg ?_
 refine ya (ac_box (vs := x.cells) rfl rfl) rfl ?_
 rintro v L' ⟨b1, rfl, rfl⟩
 refine yas ?_
 refine ynil' (kthn (hK1 _ _ ?_))
 clear hK1
 refine cseq ?_; intro K2 hK2
 refine creg ?_
 refine y (ev_fieldAddr 15 rfl Tryz.underlying68 rfl Tryz.sizeOf9) rfl ?_
 refine y (ev_load rfl Tryz.isAgg9 zin rfl) rfl ?_
 first
   | refine y (ev_lenStr rfl Tryz.underlying9) rfl ?_
   | refine y (ev_lenS rfl Tryz.underlying9) rfl ?_
 refine y (ev_gtr rfl rfl) rfl ?_
 refine ymv ?_
 refine ysplit 7 rfl (fun h8 => ?_) (fun h8 => ?_)
 ·(try simp only [sH] at h8)
  refine ygz ?_
  refine ygz ?_
  refine ygz ?_
  refine ygz ?_
  refine ypa ?_
  refine ymv ?_
  refine ygz ?_
  refine ygz ?_
  refine ygz ?_
  refine ygz ?_
  refine ygz ?_
  refine ypa ?_
  refine ymv ?_
  refine ygz ?_
  refine ygz ?_
  refine ygz ?_
  refine ygz ?_
  refine ygz ?_
  refine ypa ?_
  refine yas ?_
  refine ynil' (kthn (hK2 _ _ ?_))
  clear hK2
  refine cret ?_
  first
    | (exfalso; omega; done)
    | (refine kretv Tryz.results31 rfl (L1 := [] ++ R) zge ?_
       exact ⟨_, ⟨_, rfl, fun h => by first | omega | (simp at h; done) | (simp at h; omega), rfl⟩, rfl⟩)
 ·(try simp only [sH] at h8)
  refine ygo ?_
  refine y (ev_fieldAddr 16 rfl Tryz.underlying68 rfl Tryz.sizeOf38) rfl ?_
  refine ygo ?_
  refine y (ev_load rfl Tryz.isAgg38 zin rfl) rfl ?_
  refine ygo ?_
  refine y (ev_lenV rfl Tryz.underlying38 hkl) rfl ?_
  refine ygo ?_
  refine y (ev_gtr rfl rfl) rfl ?_
  refine ypb ?_
  refine ymv ?_
  refine ysplit 13 rfl (fun h21 => ?_) (fun h21 => ?_)
  ·(try simp only [sH] at h21)
   refine ygz ?_
   refine ygz ?_
   refine ygz ?_
   refine ygz ?_
   refine ygz ?_
   refine ypa ?_
   refine ymv ?_
   refine ygz ?_
   refine ygz ?_
   refine ygz ?_
   refine ygz ?_
   refine ygz ?_
   refine ypa ?_
   refine yas ?_
   refine ynil' (kthn (hK2 _ _ ?_))
   clear hK2
   refine cret ?_
   first
     | (exfalso; omega; done)
     | (refine kretv Tryz.results31 rfl (L1 := [] ++ R) zge ?_
        exact ⟨_, ⟨_, rfl, fun h => by first | omega | (simp at h; done) | (simp at h; omega), rfl⟩, rfl⟩)
  ·(try simp only [sH] at h21)
   refine ygo ?_
   refine y (ev_fieldAddr 2 rfl Tryz.underlying68 rfl Tryz.sizeOf37) rfl ?_
   refine ygo ?_
   refine y (ev_fieldAddr 11 rfl Tryz.underlying37 rfl Tryz.sizeOf9) rfl ?_
   refine ygo ?_
   refine y (ev_load rfl Tryz.isAgg9 zin rfl) rfl ?_
   refine ygo ?_
   first
     | refine y (ev_lenStr rfl Tryz.underlying9) rfl ?_
     | refine y (ev_lenS rfl Tryz.underlying9) rfl ?_
   refine ygo ?_
   refine y (ev_gtr rfl rfl) rfl ?_
   refine ypb ?_
   refine ymv ?_
   refine ysplit 20 rfl (fun h33 => ?_) (fun h33 => ?_)
   ·(try simp only [sH] at h33)
    refine ygz ?_
    refine ygz ?_
    refine ygz ?_
    refine ygz ?_
    refine ygz ?_
    refine ypa ?_
    refine yas ?_
    refine ynil' (kthn (hK2 _ _ ?_))
    clear hK2
    refine cret ?_
    first
      | (exfalso; omega; done)
      | (refine kretv Tryz.results31 rfl (L1 := [] ++ R) zge ?_
         exact ⟨_, ⟨_, rfl, fun h => by first | omega | (simp at h; done) | (simp at h; omega), rfl⟩, rfl⟩)
   ·(try simp only [sH] at h33)
    refine ygo ?_
    refine y (ev_fieldAddr 2 rfl Tryz.underlying68 rfl Tryz.sizeOf37) rfl ?_
    refine ygo ?_
    refine y (ev_fieldAddr 12 rfl Tryz.underlying37 rfl Tryz.sizeOf9) rfl ?_
    refine ygo ?_
    refine y (ev_load rfl Tryz.isAgg9 zin rfl) rfl ?_
    refine ygo ?_
    first
      | refine y (ev_lenStr rfl Tryz.underlying9) rfl ?_
      | refine y (ev_lenS rfl Tryz.underlying9) rfl ?_
    refine ygo ?_
    refine y (ev_gtr rfl rfl) rfl ?_
    refine ypb ?_
    refine yas ?_
    refine ynil' (kthn (hK2 _ _ ?_))
    clear hK2
    refine cret ?_
    first
      | (exfalso; omega; done)
      | (refine kretv Tryz.results31 rfl (L1 := [] ++ R) zge ?_
         exact ⟨_, ⟨_, rfl, fun h => by first | omega | (simp at h; done) | (simp at h; omega), rfl⟩, rfl⟩)
theorem xbKeeps [Env] {R : List Seg} {kv : Value} {ks : Keeps} (hkk : RdV R kv ks.length (keepsV ks)) (h6 : ks.length ≤ 600) :
   Con Tryz.prog 34 [kv] [] R (KSv 119 ks.length 2 (keepsV ks) []) := by
 refine con_enter Tryz.func34 Tryz.ntmps34 rfl rfl ?_
 refine cseq ?_; intro K1 hK1
 refine creg ?_
 refine yas ?_
 refine ynil' (kthn (hK1 _ _ ?_))
 clear hK1
 refine cseq ?_; intro K2 hK2
 refine creg ?_
 refine ya (ac_bslice0 Tryz.underlying46 Tryz.sizeOf119) rfl ?_
 rintro v L' ⟨b5, rfl, rfl⟩
 refine yas ?_
 refine ynil' (kthn (hK2 _ _ ?_))
 clear hK2
 refine cseq ?_; intro K3 hK3
 refine cseq ?_; intro K4 hK4
 refine creg ?_
 refine yas ?_
 refine ynil' (kthn (hK4 _ _ ?_))
 clear hK4
 have hJ1 : ∀ x : Nat × Sv, ((svOk x.2 x.1 2 (keepsV (ks.take x.1)) ∧ x.1 ≤ ks.length) ∧ (x.1 = ks.length)) → Sk 31 K3 ([(4, i64 x.1), (3, svVal x.2 x.1), (0, kv)]) ([svSeg x.2 119 (keepsV (ks.take x.1))] ++ R) := by
  rintro ⟨k, s3⟩ ⟨hI1, hX1⟩
  refine hK3 _ _ ?_
  obtain ⟨ok3, hk⟩ := hI1; dsimp only at ok3 hk ⊢
  dsimp only at hX1; subst hX1; rw [List.take_length] at ok3 ⊢
  refine cseq ?_; intro K5 hK5
  refine creg ?_
  refine ymv ?_
  refine yas ?_
  refine ynil' (kthn (hK5 _ _ ?_))
  clear hK5
  refine cret ?_
  first
    | (exfalso; omega; done)
    | (refine kretv Tryz.results34 rfl (L1 := [svSeg _ _ _] ++ R) zge ?_
       exact ⟨_, ⟨s3, rfl, ok3, rfl⟩, rfl⟩)
 clear hK3
 refine cblock ?_
 refine cloop (A := Nat × Sv) (fun x => [(4, i64 x.1), (3, svVal x.2 x.1), (0, kv)]) (fun x => [svSeg x.2 119 (keepsV (ks.take x.1))] ++ R) (fun x => svOk x.2 x.1 2 (keepsV (ks.take x.1)) ∧ x.1 ≤ ks.length) (fun x => ks.length - x.1) ((0, some (b5, 0, []))) ?_ zsub zge ?_
 · exact ⟨⟨Nat.le_refl _, Nat.zero_le _, rfl, rfl⟩, Nat.zero_le _⟩
 rintro ⟨k, s3⟩ hI1 KL1 hL1
 have hI1o := hI1
 obtain ⟨ok3, hk⟩ := hI1; dsimp only at ok3 hk ⊢
 refine cseq ?_; intro K6 hK6
 refine cseq ?_; intro K7 hK7
 refine creg ?_
 refine ymv ?_
 refine ymv ?_
 first
   | refine y (ev_len rfl Tryz.underlying38) rfl ?_
   | refine y (ev_lenSv rfl Tryz.underlying38 (by assumption)) rfl ?_
   | refine y (ev_lenV rfl Tryz.underlying38 (RdV.lenVal (by assumption))) rfl ?_
   | refine y (ev_lenV rfl Tryz.underlying38 (RdB.lenVal (by assumption))) rfl ?_
 refine y (ev_lss rfl rfl) rfl ?_
 refine ymv ?_
 refine ysplit 10 rfl (fun h54 => ?_) (fun h54 => ?_)
 ·(try simp only [sH] at h54)
  refine ygo ?_
  refine ymv ?_
  refine ygo ?_
  refine y (ev_lss rfl rfl) rfl ?_
  refine ypa ?_
  refine ynil' (kthn (hK7 _ _ ?_))
  clear hK7
  refine ccond rfl (fun h58 => ?_) (fun h58 => ?_)
  ·(try simp only [sH] at h58)
   obtain ⟨yy, hy⟩ : ∃ yy, ks[k]? = some yy := ⟨_, List.getElem?_eq_getElem (by omega)⟩
   obtain ⟨hy1, hy2⟩ := keepsV_get ks _ yy hy
   refine cskip' (kthn (hK6 _ _ ?_))
   clear hK6
   refine cseq ?_; intro K8 hK8
   refine cblock ?_
   refine cdraw 13 [(0, true), (1, true), (2, true), (3, true), (4, true), (5, true), (6, true), (7, true), (8, true), (9, true), (10, true), (11, true), (12, false)] (_) Tryz.mixed (by kernel_rfl) .refl ?_
   refine hr rfl (ev_move rfl) rfl ?_
   refine hr rfl (ev_move rfl) rfl ?_
   refine hr rfl (ev_move rfl) rfl ?_
   first
     | refine hr rfl (ev_ixAddr rfl rfl Tryz.underlying38 Tryz.sizeOf116 (by omega) (by omega)) rfl ?_
     | refine hr rfl (ev_ixV (by assumption) rfl rfl Tryz.underlying38 Tryz.sizeOf116 (by omega) (by omega)) rfl ?_
   refine hr rfl (ev_fieldAddr 0 rfl Tryz.underlying116 rfl Tryz.sizeOf3) rfl ?_
   refine hr rfl (ev_loadV (k * 2) hkk zge rfl Tryz.isAgg3 (by simp) hy1) rfl ?_
   refine hr rfl (ev_move rfl) rfl ?_
   refine hr rfl (ev_move rfl) rfl ?_
   first
     | refine hr rfl (ev_ixAddr rfl rfl Tryz.underlying38 Tryz.sizeOf116 (by omega) (by omega)) rfl ?_
     | refine hr rfl (ev_ixV (by assumption) rfl rfl Tryz.underlying38 Tryz.sizeOf116 (by omega) (by omega)) rfl ?_
   refine hr rfl (ev_fieldAddr 1 rfl Tryz.underlying116 rfl Tryz.sizeOf3) rfl ?_
   refine hr rfl (ev_loadV (k * 2 + 1) hkk zge rfl Tryz.isAgg3 (by simp; omega) hy2) rfl ?_
   refine hr rfl (ev_build (zs := _) rfl Tryz.underlying119 Tryz.zeroValue119 rfl (.cons Tryz.sizeOf3 (.cons Tryz.sizeOf3 .nil)) ⟨⟨_, _, rfl, (by first | rfl | simp), (by first | decide | simp)⟩, ⟨⟨_, _, rfl, (by first | rfl | simp), (by first | decide | simp)⟩, trivial⟩⟩ (by dsimp [fillL, splice, vcells] <;> rfl)) rfl ?_
   refine ha rfl (ac_bsliceR rfl Tryz.underlying46 Tryz.sizeOf119 Tryz.zeroValue119 rfl rfl rfl rfl ⟨⟨_, _, rfl, (by first | rfl | simp), (by first | decide | simp)⟩, trivial⟩ (by dsimp [fillL, splice, vcells, reps] <;> rfl)) rfl ?_
   rintro v L' ⟨b28, rfl, rfl⟩; refine ⟨zge, ?_⟩
   refine hnil ?_
   refine ya (ac_append (xs := keepsV (ks.take k)) (m := k) (k := 1) (us := [i64 yy.1, i64 yy.2]) (size := 2) rfl rfl (by repeat first | exact .z | apply Pk.s) Tryz.underlying46 Tryz.underlying46 (by intro q hq; cases hq) Tryz.typeInfo119 rfl rfl rfl ?ok72 ?src72 ?one72 ?big72) rfl ?_
   case ok72 => exact ok3
   case src72 => exact src_at zin rfl rfl
   case one72 => simp [Value.oneCell']
   case big72 => show (k + 1) * 17 ≤ _; omega
   rintro v L' ⟨s29, rfl, ok29, rfl⟩
   rw [← keepsV_succ hy] at ok29 ⊢
   refine yas ?_
   refine hnoP' (kbn (kthn (hK8 _ _ ?_)))
   clear hK8
   refine creg ?_
   refine ymv ?_
   refine y (ev_add rfl rfl) rfl ?_
   rw [show IntKind.i64.wrap ((k:Int) + 1) = ((k+1 : Nat) : Int) by rw [wr (by omega) (by omega)]; rfl]
   refine yas ?_
   refine ynil' (kthn ?_)
   exact hL1 ((k + 1, s29)) (⟨ok29, by dsimp only; omega⟩) (by dsimp only; omega) _ _ zsub zge
  ·(try simp only [sH] at h58)
   refine cexit (kthx (kthx (kbx (kthn ?_))))
   exact ksub zsub zge (hJ1 ⟨k, s3⟩ ⟨hI1o, by dsimp only; omega⟩)
 ·(try simp only [sH] at h54)
  refine ygz ?_
  refine ygz ?_
  refine ypb ?_
  refine ynil' (kthn (hK7 _ _ ?_))
  clear hK7
  refine ccond0 rfl ?_
  refine cexit (kthx (kthx (kbx (kthn ?_))))
  exact ksub zsub zge (hJ1 ⟨k, s3⟩ ⟨hI1o, by dsimp only; omega⟩)
/-- The two stores, where there are such. -/
structure PrB where
 s : Nat
 t : Nat
 ps : List Nat
 s2 : Nat
 c2 : Nat
 b2 : Nat
 cap : Nat
 sp : List Value
 qs : List Nat
abbrev TwB := Option (PrB × StoM)
def ubV1 : TwB → Value
 | none => nilP
 | some x => ptr x.1.s
def ubV2 : TwB → Value
 | none => nilP
 | some x => ptr x.1.s2
def ubA : TwB → Seg
 | none => []
 | some x => stoP x.1.s x.1.t x.1.ps x.2
def ubB (q : Q3) : TwB → Seg
 | none => []
 | some x => celP x.1.t q x.2.tok
def ubC (q : Q3) : TwB → Seg
 | none => []
 | some x => celsP x.1.ps q x.2.cs
def ubD : TwB → Seg
 | none => []
 | some x => rsP x.1.s2 x.1.c2 (bkV x.1.b2 x.2.bs.length x.1.cap) x.2
def ubE : TwB → Seg
 | none => []
 | some x => rsB x.1.b2 x.1.sp x.1.qs x.2.bs
def ubF (p : Nat) : TwB → Seg
 | none => []
 | some x => rcelP x.1.c2 p x.2.tok
def ubG (p : Nat) : TwB → Seg
 | none => []
 | some x => rcelsP x.1.qs p x.2.cs
structure BdM where
 D : Dev
 E : RDev
 t : TwB
structure BdM.ok (x : BdM) (N : Nat) : Prop where
 r : Rel x.D x.E
 len : x.D.l.length = N
 t : ∀ z, x.t = some z → StoK z.2 N ∧ z.1.ps.length = z.2.bs.length ∧ z.1.qs.length = z.2.bs.length
theorem BdM.ok.l {D : Dev} {E : RDev} {N : Nat} {z : PrB} {S : StoM} (h : BdM.ok ⟨D, E, some (z, S)⟩ N) : S.ok D z.ps ∧ S.ok D z.qs := by
 obtain ⟨h1, h2, h3⟩ := h.t _ rfl
 exact ⟨h1.ok h.r.ok h.len h2, h1.ok h.r.ok h.len h3⟩
theorem BdM.ok.of {D : Dev} {E : RDev} {N : Nat} {z : PrB} {S : StoM} (hr : Rel D E) (hl : D.l.length = N) (h : S.ok D z.ps) (hq : z.qs.length = S.bs.length) : BdM.ok ⟨D, E, some (z, S)⟩ N :=
 ⟨hr, hl, fun y hy => by cases hy; exact ⟨.of h hl, h.wf.lp, hq⟩⟩
theorem BdM.ok.dev {D D' : Dev} {E E' : RDev} {N : Nat} {t : TwB} (h : BdM.ok ⟨D, E, t⟩ N) (hr : Rel D' E') (hl : D'.l.length = N) : BdM.ok ⟨D', E', t⟩ N := ⟨hr, hl, h.t⟩
theorem BdM.ok.none' {D : Dev} {E : RDev} {N : Nat} (h : Rel D E) (hl : D.l.length = N) : BdM.ok ⟨D, E, none⟩ N := ⟨h, hl, fun z hz => by cases hz⟩
theorem ubOpenBad [Env] {R : List Seg} {q : Q3} {D : Dev} {f n : Int} (hD : D.ok) (ho : stoE D f n ≠ 0) : Con Tryz.prog 29 [dp q, i64 f, i64 n] [dev q D] R (Is (.tuple #[nilP, i64 (stoE D f n)]) [dev q D]) := by
 refine (bOpen hD).mono ?_
 rintro v L (⟨_, rfl, rfl⟩ | ⟨h1, _⟩)
 · exact ⟨rfl, rfl⟩
 · exact absurd h1 ho
theorem ubOpenOk [Env] {R : List Seg} {q : Q3} {D : Dev} {f n : Int} (hD : D.ok) (ho : stoE D f n = 0) : Con Tryz.prog 29 [dp q, i64 f, i64 n] [dev q D] R (fun u L' => ∃ s t ps, u = .tuple #[ptr s, i64 0] ∧ ps.length = n.toNat ∧ L' = [stoP s t ps (openS D f n.toNat), celP t q (openS D f n.toNat).tok, celsP ps q (openS D f n.toNat).cs, dev q D]) := by
 refine (bOpen hD).mono ?_
 rintro v L (⟨h1, _⟩ | ⟨_, s, t, ps, hp, rfl, rfl⟩)
 · exact absurd ho h1
 · exact ⟨s, t, ps, rfl, hp, rfl⟩
theorem vbOpenBad [Env] {R : List Seg} {p la : Nat} {D : Dev} {E : RDev} {f n : Int} (h : Rel D E) (ho : stoE D f n ≠ 0) : Con Tryz.prog 30 [ptr p, i64 f, i64 n] [rdev p la E] R (Is (.tuple #[nilP, i64 (stoE D f n)]) [rdev p la E]) := by
 refine (xbOpen h).mono ?_
 rintro v L (⟨_, rfl, rfl⟩ | ⟨h1, _⟩)
 · exact ⟨rfl, rfl⟩
 · exact absurd h1 ho
theorem vbOpenOk [Env] {R : List Seg} {p la : Nat} {D : Dev} {E : RDev} {f n : Int} (h : Rel D E) (ho : stoE D f n = 0) : Con Tryz.prog 30 [ptr p, i64 f, i64 n] [rdev p la E] R
   (fun u L' => ∃ s c b cap sp ps, u = .tuple #[ptr s, i64 0] ∧ ps.length = n.toNat ∧ L' = [rsP s c (bkV b (openS D f n.toNat).bs.length cap) (openS D f n.toNat), rsB b sp ps (openS D f n.toNat).bs, rcelP c p (openS D f n.toNat).tok, rcelsP ps p (openS D f n.toNat).cs, rdev p la E]) := by
 refine (xbOpen h).mono ?_
 rintro v L (⟨h1, _⟩ | ⟨_, s, c, b, cap, sp, ps, hp, rfl, rfl⟩)
 · exact absurd ho h1
 · exact ⟨s, c, b, cap, sp, ps, rfl, hp, by rw [openS_n]⟩
theorem sto_any {D : Dev} {f n : Int} {ps : List Nat} (hD : D.ok) (ho : stoE D f n = 0) (hp : ps.length = n.toNat) : (openS D f n.toNat).ok D ps := by
 unfold stoE at ho
 by_cases c1 : n < 1 ∨ 32 < n ∨ f < 0 ∨ (D.l.length : Int) - 2 - 2 * n < f
 · rw [if_pos c1] at ho; cases ho
 rw [if_neg c1] at ho
 by_cases c2 : D.dead = true
 · rw [if_pos c2] at ho; cases ho
 exact openS_any hD (by simpa using c2) (by omega) (by omega) (by omega) hp
end W
end Go.Proofs
