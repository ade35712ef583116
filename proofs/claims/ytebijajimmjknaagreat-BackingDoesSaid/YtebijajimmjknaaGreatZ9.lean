/- A part of the proof: contracts and plain lemmas, each without conditions beyond those that it names. -/
import Derived.Test.YtebijajimmjknaaGreatZ8
import Derived.Test.YtebijajimmjknaaGreatB8
set_option linter.unusedVariables false
set_option linter.unusedSimpArgs false
set_option linter.constructorNameAsVariable false
namespace Go.Proofs
open Go Go.Sl
namespace W
set_option linter.unusedVariables false
def aboveB (a b c d : Int) : Bool := if a ≠ c then decide (c < a) else decide (d < b)
theorem bAbove [Env] {R : List Seg} {a b c d : Int} : Con Tryz.prog 94 [.agg #[i64 a, i64 b], .agg #[i64 c, i64 d]] [] R (Is (.bool (aboveB a b c d)) []) := by
 refine con_enter Tryz.func94 Tryz.ntmps94 rfl rfl ?_
 refine cseq ?_; intro K1 hK1
 refine creg ?_
 refine ya (ac_box (vs := [i64 a, i64 b]) rfl rfl) rfl ?_
 rintro v L' ⟨b2, rfl, rfl⟩
 refine ya (ac_box (vs := [i64 c, i64 d]) rfl rfl) rfl ?_
 rintro v L' ⟨b3, rfl, rfl⟩
 refine yas ?_
 refine ynil' (kthn (hK1 _ _ ?_))
 clear hK1
 refine cseq ?_; intro K2 hK2
 refine cseq ?_; intro K3 hK3
 refine creg ?_
 refine y (ev_fieldAddr 0 rfl Tryz.underlying72 rfl Tryz.sizeOf2) rfl ?_
 refine y (ev_load rfl Tryz.isAgg2 zin rfl) rfl ?_
 refine y (ev_fieldAddr 0 rfl Tryz.underlying72 rfl Tryz.sizeOf2) rfl ?_
 refine y (ev_load rfl Tryz.isAgg2 zin rfl) rfl ?_
 refine y (ev_neq rfl rfl) rfl ?_
 refine ynil' (kthn (hK3 _ _ ?_))
 clear hK3
 refine ccond rfl (fun h9 => ?_) (fun h9 => ?_)
 ·(try simp only [sH] at h9)
  have hab : aboveB a b c d = decide (c < a) := by unfold aboveB; rw [if_pos (by omega)]
  refine cseq ?_; intro K4 hK4
  refine creg ?_
  refine y (ev_fieldAddr 0 rfl Tryz.underlying72 rfl Tryz.sizeOf2) rfl ?_
  refine y (ev_load rfl Tryz.isAgg2 zin rfl) rfl ?_
  refine y (ev_fieldAddr 0 rfl Tryz.underlying72 rfl Tryz.sizeOf2) rfl ?_
  refine y (ev_load rfl Tryz.isAgg2 zin rfl) rfl ?_
  refine y (ev_gtr rfl rfl) rfl ?_
  refine yas ?_
  refine ynil' (kthn (hK4 _ _ ?_))
  clear hK4
  refine cret (kthr ?_)
  first
    | (exfalso; omega; done)
    | (refine kretv Tryz.results94 rfl (L1 := [] ++ R) zge ?_
       exact ⟨_, ⟨by rw [hab], rfl⟩, rfl⟩)
 ·(try simp only [sH] at h9)
  have hab : aboveB a b c d = decide (d < b) := by unfold aboveB; rw [if_neg (by omega)]
  refine cskip' (kthn (hK2 _ _ ?_))
  clear hK2
  refine cseq ?_; intro K5 hK5
  refine creg ?_
  refine y (ev_fieldAddr 1 rfl Tryz.underlying72 rfl Tryz.sizeOf2) rfl ?_
  refine y (ev_load rfl Tryz.isAgg2 zin rfl) rfl ?_
  refine y (ev_fieldAddr 1 rfl Tryz.underlying72 rfl Tryz.sizeOf2) rfl ?_
  refine y (ev_load rfl Tryz.isAgg2 zin rfl) rfl ?_
  refine y (ev_gtr rfl rfl) rfl ?_
  refine yas ?_
  refine ynil' (kthn (hK5 _ _ ?_))
  clear hK5
  refine cret ?_
  first
    | (exfalso; omega; done)
    | (refine kretv Tryz.results94 rfl (L1 := [] ++ R) zge ?_
       exact ⟨_, ⟨by rw [hab], rfl⟩, rfl⟩)
theorem tn_get (m : MsgM) {k : Nat} (hk : k < 4) : m.tn k = (msgT m).getD k 0 := by
 match k, hk with
 | 0, _ => rfl
 | 1, _ => rfl
 | 2, _ => rfl
 | 3, _ => rfl
 | k + 4, hk => omega
theorem zrow {S : StoM} {ps : List Nat} (h : S.wf ps) {i : Int} (hi : inN S.bs.length i = true) : ∃ p b, ps[i.toNat]? = some p ∧ S.bs[i.toNat]? = some b ∧ (zipR ps S.bs)[i.toNat]? = some ⟨ptr p, b⟩ ∧ S.getB i = b := by
 obtain ⟨p, b, h1, h2, h3, h4⟩ := h.row hi
 exact ⟨p, b, h1, h2, zipR_get h1 h2, h4⟩
theorem xbGet [Env] {R : List Seg} {s c b cap : Nat} {sp : List Value} {ps : List Nat} {S : StoM} {i : Int} (hS : S.wf ps) :
   Con Tryz.prog 36 [ptr s, i64 i] [rsP s c (bkV b S.bs.length cap) S, rsB b sp ps S.bs] R
     (Is (.tuple #[.agg #[i64 (S.getB i).v0, i64 (S.getB i).v1], str (S.getB i).data]) [rsP s c (bkV b S.bs.length cap) S, rsB b sp ps S.bs]) := by
 have hn := hS.n
 refine con_enter Tryz.func36 Tryz.ntmps36 rfl rfl ?_
 unfold rsP rsB rsV13 bkV
 refine cseq ?_; intro K1 hK1
 refine creg ?_
 refine ya (ac_alloc Tryz.zeroValue72 rfl) rfl ?_
 rintro v L' ⟨b4, rfl, rfl⟩
 refine yas ?_
 refine ynil' (kthn (hK1 _ _ ?_))
 clear hK1
 refine cseq ?_; intro K2 hK2
 refine cseq ?_; intro K3 hK3
 refine creg ?_
 refine ymv ?_
 refine y (ev_lss rfl rfl) rfl ?_
 refine ymv ?_
 refine ysplit 8 rfl (fun h27 => ?_) (fun h27 => ?_)
 ·(try simp only [sH] at h27)
  refine ygz ?_
  refine ygz ?_
  refine ygz ?_
  refine ygz ?_
  refine ygz ?_
  refine ygz ?_
  refine ygz ?_
  refine ypa ?_
  refine ynil' (kthn (hK3 _ _ ?_))
  clear hK3
  refine ccond1 rfl ?_
  refine cseq ?_; intro K4 hK4
  refine creg ?_
  have hin : ¬ inN S.bs.length i = true := fun h => by obtain ⟨h1, h2⟩ := inN_iff.1 h; omega
  have hgb : S.getB i = ⟨0, 0, []⟩ := by unfold StoM.getB; rw [if_neg hin]
  refine y (ev_build (zs := _) rfl Tryz.underlying72 Tryz.zeroValue72 rfl (.cons Tryz.sizeOf2 (.cons Tryz.sizeOf2 .nil)) trivial (by dsimp [fillL, splice, vcells] <;> rfl)) rfl ?_
  refine ya0 (ac_storeAll rfl rfl (by first | exact bytesV_one _ | (simp [Value.oneCell']; done) | (simp only [List.forall_mem_cons, List.not_mem_nil, false_implies, implies_true, svVal_one, and_true, true_and, and_self]; first | done | simp [Value.oneCell'])) Tryz.sizeOf72 zrp (by first | rfl | assumption | (simp [*]; done) | (simp [*]; omega)) (by first | rfl | assumption | (simp [*]; done) | (simp [*]; omega))) ?_
  rintro v L' ⟨rfl, rfl⟩
  refine yas ?_
  refine ynil' (kthn (hK4 _ _ ?_))
  clear hK4
  refine cret (kthr ?_)
  first
    | (exfalso; omega; done)
    | (refine kretct Tryz.results36 rfl rfl Tryz.isAgg72 Tryz.sizeOf72 zin (rfl) (L1 := [sc s _ 77, sc b _ 137] ++ R) zge ?_
       rw [hgb]; exact ⟨_, ⟨rfl, rfl⟩, rfl⟩)
 ·(try simp only [sH] at h27)
  refine ygo ?_
  refine ymv ?_
  refine ygo ?_
  refine ymv ?_
  refine ygo ?_
  refine yni ?_
  refine ygo ?_
  refine y (ev_fieldAddr 2 rfl Tryz.underlying77 rfl Tryz.sizeOf75) rfl ?_
  refine ygo ?_
  refine y (ev_load rfl Tryz.isAgg75 zin rfl) rfl ?_
  refine ygo ?_
  first
    | refine y (ev_len rfl Tryz.underlying75) rfl ?_
    | refine y (ev_lenSv rfl Tryz.underlying75 (by assumption)) rfl ?_
    | refine y (ev_lenV rfl Tryz.underlying75 (RdV.lenVal (by assumption))) rfl ?_
    | refine y (ev_lenV rfl Tryz.underlying75 (RdB.lenVal (by assumption))) rfl ?_
  refine ygo ?_
  refine y (ev_geq rfl rfl) rfl ?_
  refine ypb ?_
  refine ynil' (kthn (hK3 _ _ ?_))
  clear hK3
  refine ccond rfl (fun h40 => ?_) (fun h40 => ?_)
  ·(try simp only [sH] at h40)
   refine cseq ?_; intro K5 hK5
   refine creg ?_
   have hin : ¬ inN S.bs.length i = true := fun h => by obtain ⟨h1, h2⟩ := inN_iff.1 h; omega
   have hgb : S.getB i = ⟨0, 0, []⟩ := by unfold StoM.getB; rw [if_neg hin]
   refine y (ev_build (zs := _) rfl Tryz.underlying72 Tryz.zeroValue72 rfl (.cons Tryz.sizeOf2 (.cons Tryz.sizeOf2 .nil)) trivial (by dsimp [fillL, splice, vcells] <;> rfl)) rfl ?_
   refine ya0 (ac_storeAll rfl rfl (by first | exact bytesV_one _ | (simp [Value.oneCell']; done) | (simp only [List.forall_mem_cons, List.not_mem_nil, false_implies, implies_true, svVal_one, and_true, true_and, and_self]; first | done | simp [Value.oneCell'])) Tryz.sizeOf72 zrp (by first | rfl | assumption | (simp [*]; done) | (simp [*]; omega)) (by first | rfl | assumption | (simp [*]; done) | (simp [*]; omega))) ?_
   rintro v L' ⟨rfl, rfl⟩
   refine yas ?_
   refine ynil' (kthn (hK5 _ _ ?_))
   clear hK5
   refine cret (kthr ?_)
   first
     | (exfalso; omega; done)
     | (refine kretct Tryz.results36 rfl rfl Tryz.isAgg72 Tryz.sizeOf72 zin (rfl) (L1 := [sc s _ 77, sc b _ 137] ++ R) zge ?_
        rw [hgb]; exact ⟨_, ⟨rfl, rfl⟩, rfl⟩)
  ·(try simp only [sH] at h40)
   have hin : inN S.bs.length i = true := inN_iff.2 (by omega)
   obtain ⟨p0, b0, hp0, hb0, hrow, hgb⟩ := zrow hS hin
   refine cskip' (kthn (hK2 _ _ ?_))
   clear hK2
   refine cseq ?_; intro K6 hK6
   refine cdraw 17 [(0, true), (1, true), (2, true), (3, true), (4, true), (5, true), (6, true), (7, true), (8, true), (9, true), (10, true), (11, true), (12, true), (13, true), (14, true), (15, true), (16, false)] ([sc s _ 77, sc b (rowsV (zipR ps S.bs) ++ sp) 137] ++ R) Tryz.mixed (by kernel_rfl) zge ?_
   refine hr rfl (ev_move rfl) rfl ?_
   refine hr rfl (ev_nil rfl) rfl ?_
   refine hr rfl (ev_fieldAddr 2 rfl Tryz.underlying77 rfl Tryz.sizeOf75) rfl ?_
   refine hr rfl (ev_load rfl Tryz.isAgg75 zin rfl) rfl ?_
   refine hr rfl (ev_move rfl) rfl ?_
   first
     | refine hr rfl (ev_ixAddr rfl rfl Tryz.underlying75 Tryz.sizeOf137 (by omega) (by omega)) rfl ?_
     | refine hr rfl (ev_ixV (by assumption) rfl rfl Tryz.underlying75 Tryz.sizeOf137 (by omega) (by omega)) rfl ?_
   refine hr rfl (ev_fieldAddr 1 rfl Tryz.underlying137 rfl Tryz.sizeOf72) rfl ?_
   refine hr rfl (ev_loadN (u := [i64 b0.v0, i64 b0.v1]) rfl Tryz.isAgg72 Tryz.sizeOf72 zin (by rw [Nat.zero_add]; exact zip_ver hrow) rfl) rfl ?_
   refine hr rfl (ev_move rfl) rfl ?_
   refine hr rfl (ev_nil rfl) rfl ?_
   refine hr rfl (ev_fieldAddr 2 rfl Tryz.underlying77 rfl Tryz.sizeOf75) rfl ?_
   refine hr rfl (ev_load rfl Tryz.isAgg75 zin rfl) rfl ?_
   refine hr rfl (ev_move rfl) rfl ?_
   first
     | refine hr rfl (ev_ixAddr rfl rfl Tryz.underlying75 Tryz.sizeOf137 (by omega) (by omega)) rfl ?_
     | refine hr rfl (ev_ixV (by assumption) rfl rfl Tryz.underlying75 Tryz.sizeOf137 (by omega) (by omega)) rfl ?_
   refine hr rfl (ev_fieldAddr 3 rfl Tryz.underlying137 rfl Tryz.sizeOf9) rfl ?_
   refine hr rfl (ev_load rfl Tryz.isAgg9 zin (by rw [Nat.zero_add]; exact zip_at (r := 3) hrow (by decide))) rfl ?_
   refine haN rfl (ac_storeAll rfl rfl (by first | exact bytesV_one _ | (simp [Value.oneCell']; done) | (simp only [List.forall_mem_cons, List.not_mem_nil, false_implies, implies_true, svVal_one, and_true, true_and, and_self]; first | done | simp [Value.oneCell'])) Tryz.sizeOf72 zrp (by first | rfl | assumption | (simp [*]; done) | (simp [*]; omega)) (by first | rfl | assumption | (simp [*]; done) | (simp [*]; omega))) ?_
   rintro v L' ⟨rfl, rfl⟩; refine ⟨zge, ?_⟩
   refine hnil ?_
   refine yas ?_
   refine hnoP' (kthn (hK6 _ _ ?_))
   clear hK6
   refine cret ?_
   first
     | (exfalso; omega; done)
     | (refine kretct Tryz.results36 rfl rfl Tryz.isAgg72 Tryz.sizeOf72 zin (rfl) (L1 := [sc s _ 77, sc b _ 137] ++ R) zge ?_
        rw [hgb]; exact ⟨_, ⟨rfl, rfl⟩, rfl⟩)
set_option maxHeartbeats 2000000 in
theorem xbStore [Env] {R : List Seg} {s c b cap p la : Nat} {sp : List Value} {ps : List Nat} {S : StoM} {E : RDev} {m : MsgM} (hS : RBok S E ps) (hm : m.ok) :
   Con Tryz.prog 72 [ptr s, .agg m.cells.toArray] [rsP s c (bkV b S.bs.length cap) S, rsB b sp ps S.bs, rcelsP ps p S.cs, rdev p la E] R
     (Is (i64 (S.storeR E m).1) [rsP s c (bkV b S.bs.length cap) (S.storeR E m).2.1, rsB b sp ps (S.storeR E m).2.1.bs, rcelsP ps p (S.storeR E m).2.1.cs, rdev p la (S.storeR E m).2.2]) := by
 have hn := hS.wf.n
 have htab := hS.wf.tab
 refine con_enter Tryz.func72 Tryz.ntmps72 rfl rfl ?_
 unfold rsP rsB bkV
 refine cseq ?_; intro K1 hK1
 refine creg ?_
 refine ya (ac_box (vs := m.cells) rfl rfl) rfl ?_
 rintro v L' ⟨b3, rfl, rfl⟩
 refine yas ?_
 refine ynil' (kthn (hK1 _ _ ?_))
 clear hK1
 refine cseq ?_; intro K2 hK2
 refine cseq ?_; intro K3 hK3
 refine cdraw 12 [(0, true), (1, true), (2, true), (3, true), (4, true), (5, true), (6, true), (7, true), (8, true), (9, true), (10, true), (11, true)] ([sc b3 m.cells 37, sc s (rsV13 c (.slice (some ⟨b, 0, none⟩) S.bs.length cap) S) 77] ++ R) Tryz.mixed (by kernel_rfl) zge ?_
 refine hr rfl (ev_fieldAddr 4 rfl Tryz.underlying37 rfl Tryz.sizeOf3) rfl ?_
 refine hr rfl (ev_load rfl Tryz.isAgg3 zin rfl) rfl ?_
 refine hr rfl (ev_lss rfl rfl) rfl ?_
 refine hr rfl (ev_move rfl) rfl ?_
 refine hsplit 14 rfl (fun h68 => ?_) (fun h68 => ?_)
 ·(try simp only [sH] at h68)
  refine hr0 rfl rfl rfl rfl rfl ?_
  refine hr0 rfl rfl rfl rfl rfl ?_
  refine hr0 rfl rfl rfl rfl rfl ?_
  refine hr0 rfl rfl rfl rfl rfl ?_
  refine hr0 rfl rfl rfl rfl rfl ?_
  refine hr0 rfl rfl rfl rfl rfl ?_
  refine hr0 rfl rfl rfl rfl rfl ?_
  refine hr0 rfl rfl rfl rfl rfl ?_
  refine hnil ?_
  refine ypa ?_
  refine hnoP' (kthn (hK3 _ _ ?_))
  clear hK3
  refine ccond1 rfl ?_
  refine cseq ?_; intro K4 hK4
  refine creg ?_
  have hin : inN S.bs.length m.block = false := Bool.eq_false_iff.2 fun h => by obtain ⟨h1, h2⟩ := inN_iff.1 h; omega
  have hst : S.storeR E m = (2, S, E) := by unfold StoM.storeR; rw [if_pos hin]
  refine yas ?_
  refine ynil' (kthn (hK4 _ _ ?_))
  clear hK4
  refine cret (kthr ?_)
  first
    | (exfalso; omega; done)
    | (refine kretv Tryz.results72 rfl (L1 := [sc s _ 77, sc b _ 137, rcelsP ps p S.cs, rdev p la E] ++ R) zge ?_
       rw [hst]; exact ⟨_, ⟨rfl, rfl⟩, rfl⟩)
 ·(try simp only [sH] at h68)
  refine hr1 rfl rfl rfl (ev_fieldAddr 4 rfl Tryz.underlying37 rfl Tryz.sizeOf3) rfl ?_
  refine hr1 rfl rfl rfl (ev_load rfl Tryz.isAgg3 zin rfl) rfl ?_
  refine hr1 rfl rfl rfl (ev_move rfl) rfl ?_
  refine hr1 rfl rfl rfl (ev_nil rfl) rfl ?_
  refine hr1 rfl rfl rfl (ev_fieldAddr 2 rfl Tryz.underlying77 rfl Tryz.sizeOf75) rfl ?_
  refine hr1 rfl rfl rfl (ev_load rfl Tryz.isAgg75 zin rfl) rfl ?_
  first
    | refine hr1 rfl rfl rfl (ev_len rfl Tryz.underlying75) rfl ?_
    | refine hr1 rfl rfl rfl (ev_lenSv rfl Tryz.underlying75 (by assumption)) rfl ?_
    | refine hr1 rfl rfl rfl (ev_lenV rfl Tryz.underlying75 (RdV.lenVal (by assumption))) rfl ?_
    | refine hr1 rfl rfl rfl (ev_lenV rfl Tryz.underlying75 (RdB.lenVal (by assumption))) rfl ?_
  refine hr1 rfl rfl rfl (ev_geq rfl rfl) rfl ?_
  refine hnil ?_
  refine ypb ?_
  refine hnoP' (kthn (hK3 _ _ ?_))
  clear hK3
  refine ccond rfl (fun h80 => ?_) (fun h80 => ?_)
  ·(try simp only [sH] at h80)
   refine cseq ?_; intro K5 hK5
   refine creg ?_
   have hin : inN S.bs.length m.block = false := Bool.eq_false_iff.2 fun h => by obtain ⟨h1, h2⟩ := inN_iff.1 h; omega
   have hst : S.storeR E m = (2, S, E) := by unfold StoM.storeR; rw [if_pos hin]
   refine yas ?_
   refine ynil' (kthn (hK5 _ _ ?_))
   clear hK5
   refine cret (kthr ?_)
   first
     | (exfalso; omega; done)
     | (refine kretv Tryz.results72 rfl (L1 := [sc s _ 77, sc b _ 137, rcelsP ps p S.cs, rdev p la E] ++ R) zge ?_
        rw [hst]; exact ⟨_, ⟨rfl, rfl⟩, rfl⟩)
  ·(try simp only [sH] at h80)
   refine cskip' (kthn (hK2 _ _ ?_))
   clear hK2
   refine cseq ?_; intro K6 hK6
   refine cseq ?_; intro K7 hK7
   refine creg ?_
   have hin : inN S.bs.length m.block = true := inN_iff.2 (by omega)
   obtain ⟨p0, b0, hp0, hb0, hrow, hgb⟩ := zrow hS.wf hin
   refine y (ev_fieldAddr 11 rfl Tryz.underlying37 rfl Tryz.sizeOf9) rfl ?_
   refine y (ev_load rfl Tryz.isAgg9 zin rfl) rfl ?_
   first
     | refine y (ev_lenStr rfl Tryz.underlying9) rfl ?_
     | refine y (ev_lenS rfl Tryz.underlying9) rfl ?_
   refine y (ev_neq rfl rfl) rfl ?_
   refine ynil' (kthn (hK7 _ _ ?_))
   clear hK7
   refine ccond rfl (fun h86 => ?_) (fun h86 => ?_)
   ·(try simp only [sH] at h86)
    have hst : S.storeR E m = (3, S, E) := by unfold StoM.storeR; rw [if_neg (by rw [hin]; decide), if_pos (by omega)]
    refine cseq ?_; intro K8 hK8
    refine creg ?_
    refine yas ?_
    refine ynil' (kthn (hK8 _ _ ?_))
    clear hK8
    refine cret (kthr ?_)
    first
      | (exfalso; omega; done)
      | (refine kretv Tryz.results72 rfl (L1 := [sc s _ 77, sc b _ 137, rcelsP ps p S.cs, rdev p la E] ++ R) zge ?_
         rw [hst]; exact ⟨_, ⟨rfl, rfl⟩, rfl⟩)
   ·(try simp only [sH] at h86)
    have hd8 : (m.data.length : Int) = 8 := by omega
    refine cskip' (kthn (hK6 _ _ ?_))
    clear hK6
    refine cseq ?_; intro K9 hK9
    refine creg ?_
    refine y (ev_fieldAddr 1 rfl Tryz.underlying37 rfl Tryz.sizeOf2) rfl ?_
    refine y (ev_load rfl Tryz.isAgg2 zin rfl) rfl ?_
    refine y (ev_fieldAddr 2 rfl Tryz.underlying37 rfl Tryz.sizeOf2) rfl ?_
    refine y (ev_load rfl Tryz.isAgg2 zin rfl) rfl ?_
    refine y (ev_build (zs := _) rfl Tryz.underlying72 Tryz.zeroValue72 rfl (.cons Tryz.sizeOf2 (.cons Tryz.sizeOf2 .nil)) ⟨⟨_, _, rfl, (by first | rfl | simp), (by first | decide | simp)⟩, ⟨⟨_, _, rfl, (by first | rfl | simp), (by first | decide | simp)⟩, trivial⟩⟩ (by dsimp [fillL, splice, vcells] <;> rfl)) rfl ?_
    refine ya (ac_alloc Tryz.zeroValue72 rfl) rfl ?_
    rintro v L' ⟨b5, rfl, rfl⟩
    refine ya0 (ac_storeAll rfl rfl (by first | exact bytesV_one _ | (simp [Value.oneCell']; done) | (simp only [List.forall_mem_cons, List.not_mem_nil, false_implies, implies_true, svVal_one, and_true, true_and, and_self]; first | done | simp [Value.oneCell'])) Tryz.sizeOf72 zrp (by first | rfl | assumption | (simp [*]; done) | (simp [*]; omega)) (by first | rfl | assumption | (simp [*]; done) | (simp [*]; omega))) ?_
    rintro v L' ⟨rfl, rfl⟩
    refine ynil' (kthn (hK9 _ _ ?_))
    clear hK9
    refine cseq ?_; intro K10 hK10
    refine cseq ?_; intro K11 hK11
    refine cdraw 10 [(0, true), (1, true), (2, true), (3, true), (4, true), (5, true), (6, true), (7, true), (8, true), (9, true)] ([sc b5 [i64 m.epoch, i64 m.seq] 72, sc b3 m.cells 37, sc s (rsV13 c (.slice (some ⟨b, 0, none⟩) S.bs.length cap) S) 77, sc b (rowsV (zipR ps S.bs) ++ sp) 137] ++ R) Tryz.mixed (by kernel_rfl) zge ?_
    refine hr rfl (ev_loadAll rfl Tryz.isAgg72 Tryz.sizeOf72 zin (by first | rfl | assumption | (simp [*]; done) | (simp [*]; omega))) rfl ?_
    refine hr rfl (ev_move rfl) rfl ?_
    refine hr rfl (ev_nil rfl) rfl ?_
    refine hr rfl (ev_fieldAddr 2 rfl Tryz.underlying77 rfl Tryz.sizeOf75) rfl ?_
    refine hr rfl (ev_load rfl Tryz.isAgg75 zin rfl) rfl ?_
    refine hr rfl (ev_fieldAddr 4 rfl Tryz.underlying37 rfl Tryz.sizeOf3) rfl ?_
    refine hr rfl (ev_load rfl Tryz.isAgg3 zin rfl) rfl ?_
    first
      | refine hr rfl (ev_ixAddr rfl rfl Tryz.underlying75 Tryz.sizeOf137 (by omega) (by omega)) rfl ?_
      | refine hr rfl (ev_ixV (by assumption) rfl rfl Tryz.underlying75 Tryz.sizeOf137 (by omega) (by omega)) rfl ?_
    refine hr rfl (ev_fieldAddr 1 rfl Tryz.underlying137 rfl Tryz.sizeOf72) rfl ?_
    refine hr rfl (ev_loadN (u := [i64 b0.v0, i64 b0.v1]) rfl Tryz.isAgg72 Tryz.sizeOf72 zin (by rw [Nat.zero_add]; exact zip_ver hrow) rfl) rfl ?_
    refine hnil ?_
    refine ycall (bAbove (a := m.epoch) (b := m.seq) (c := b0.v0) (d := b0.v1)) rfl Tryz.call94 ztk rfl ?_
    rintro v L' ⟨rfl, rfl⟩
    refine y (ev_not rfl) rfl ?_
    refine hnoP' (kthn (hK11 _ _ ?_))
    clear hK11
    refine ccond rfl (fun h107 => ?_) (fun h107 => ?_)
    ·(try simp only [sH] at h107)
     have hst : S.storeR E m = (0, S, E) := by unfold StoM.storeR; rw [if_neg (by rw [hin]; decide), if_neg (by omega), if_pos (by rw [hgb]; have ha := h107; unfold aboveB at ha; split at ha <;> simp only [decide_eq_false_iff_not] at ha <;> omega)]
     refine cseq ?_; intro K12 hK12
     refine creg ?_
     refine yas ?_
     refine ynil' (kthn (hK12 _ _ ?_))
     clear hK12
     refine cret (kthr ?_)
     first
       | (exfalso; omega; done)
       | (refine kretv Tryz.results72 rfl (L1 := [sc s _ 77, sc b _ 137, rcelsP ps p S.cs, rdev p la E] ++ R) zge ?_
          rw [hst]; exact ⟨_, ⟨rfl, rfl⟩, rfl⟩)
    ·(try simp only [sH] at h107)
     have hno : ¬ (m.epoch < (S.getB m.block).v0 ∨ (m.epoch = (S.getB m.block).v0 ∧ m.seq ≤ (S.getB m.block).v1)) := by rw [hgb]; have ha := h107; unfold aboveB at ha; split at ha <;> simp only [decide_eq_true_eq] at ha <;> omega
     have hlc := hS.wf.lc
     have hC0 : S.cs[m.block.toNat]? = some (S.cell m.block) := getd_get (by have := (inN_iff.1 hin); omega)
     have hCok := hS.cs _ (List.mem_of_getElem? hC0)
     obtain ⟨C0, hCe⟩ : ∃ C, S.cell m.block = C := ⟨_, rfl⟩
     rw [hCe] at hC0 hCok
     have hst : S.storeR E m = ((C0.putR E (recB (blkR m.epoch m.seq (tabUp S.tab m) m.data))).1, { S with cs := S.cs.set m.block.toNat (C0.putR E (recB (blkR m.epoch m.seq (tabUp S.tab m) m.data))).2.1, bs := if (C0.putR E (recB (blkR m.epoch m.seq (tabUp S.tab m) m.data))).1 = 0 then S.bs.set m.block.toNat ⟨m.epoch, m.seq, m.data⟩ else S.bs, tab := if (C0.putR E (recB (blkR m.epoch m.seq (tabUp S.tab m) m.data))).1 = 0 then tabUp S.tab m else S.tab }, (C0.putR E (recB (blkR m.epoch m.seq (tabUp S.tab m) m.data))).2.2) := by unfold StoM.storeR; rw [if_neg (by rw [hin]; decide), if_neg (by omega), if_neg hno, hCe]
     have htl := tabUp_len htab m
     have hto := tabUp_ok htab hS.tab hm
     have hbm := blk_may (v0 := m.epoch) (v1 := m.seq) (d := m.data) hm.epoch hm.seq htl hto (by omega)
     have hbl := blk_len (v0 := m.epoch) (v1 := m.seq) (d := m.data) hm.epoch hm.seq htl hto (by omega)
     have henc := enc_of hbm
     have hcl := hm.client
     obtain ⟨hi0, hi1⟩ := inN_iff.1 hin
     clear hno
     refine cskip' (kthn (hK10 _ _ ?_))
     clear hK10
     refine cseq ?_; intro K13 hK13
     refine creg ?_
     refine ymv ?_
     refine yni ?_
     refine y (ev_fieldAddr 3 rfl Tryz.underlying77 rfl Tryz.sizeOf35) rfl ?_
     refine y (ev_loadN (u := intsV S.tab) rfl Tryz.isAgg35 Tryz.sizeOf35 zin (by show (List.drop 3 _).take 4 = _; unfold rsV13; rw [List.drop_left' (by rfl), List.take_of_length_le (by simp [intsV, htab])]) (by simp [intsV, htab])) rfl ?_
     refine ya (ac_alloc Tryz.zeroValue35 rfl) rfl ?_
     rintro v L' ⟨b6, rfl, rfl⟩
     refine ya0 (ac_storeN (vs' := intsV S.tab) rfl rfl (intsV_one _) Tryz.sizeOf35 zrp (by simp [intsV, htab]) (by simp [intsV, htab]) (by simp [intsV, htab])) ?_
     rintro v L' ⟨rfl, rfl⟩
     refine ynil' (kthn (hK13 _ _ ?_))
     clear hK13
     refine cseq ?_; intro K14 hK14
     refine cseq ?_; intro K15 hK15
     refine creg ?_
     rw [← tabUpTo_zero S.tab m]
     refine yas ?_
     refine ynil' (kthn (hK15 _ _ ?_))
     clear hK15
     have hJ1 : ∀ x : Nat, ((x ≤ 4) ∧ (x = 4)) → Sk 142 K14 ([(7, i64 x), (6, ptr b6), (5, ptr b5), (3, ptr b3), (0, ptr s)]) ([sc b6 (intsV (tabUpTo S.tab m x)) 35, sc b5 [i64 m.epoch, i64 m.seq] 72, sc b3 m.cells 37, sc s (rsV13 c (.slice (some ⟨b, 0, none⟩) S.bs.length cap) S) 77, sc b (rowsV (zipR ps S.bs) ++ sp) 137, rcelsP ps p S.cs, rdev p la E] ++ R) := by
      rintro z ⟨hI1, hX1⟩
      refine hK14 _ _ ?_
      have hz := hI1
      subst hX1; rw [tabUpTo_all htab]
      refine cseq ?_; intro K16 hK16
      refine creg ?_
      refine y (ev_fieldAddr 0 rfl Tryz.underlying72 rfl Tryz.sizeOf2) rfl ?_
      refine y (ev_load rfl Tryz.isAgg2 zin rfl) rfl ?_
      refine y (ev_fieldAddr 1 rfl Tryz.underlying72 rfl Tryz.sizeOf2) rfl ?_
      refine y (ev_load rfl Tryz.isAgg2 zin rfl) rfl ?_
      refine y (ev_ixAddrA rfl rfl Tryz.underlying35 Tryz.sizeOf2 (by omega) (by omega)) rfl ?_
      refine y (ev_load rfl Tryz.isAgg2 zin (show (intsV (tabUp S.tab m))[0]? = _ from intsV_get (getd_get (d := 0) (by omega)))) rfl ?_
      refine y (ev_ixAddrA rfl rfl Tryz.underlying35 Tryz.sizeOf2 (by omega) (by omega)) rfl ?_
      refine y (ev_load rfl Tryz.isAgg2 zin (show (intsV (tabUp S.tab m))[1]? = _ from intsV_get (getd_get (d := 0) (by omega)))) rfl ?_
      refine y (ev_ixAddrA rfl rfl Tryz.underlying35 Tryz.sizeOf2 (by omega) (by omega)) rfl ?_
      refine y (ev_load rfl Tryz.isAgg2 zin (show (intsV (tabUp S.tab m))[2]? = _ from intsV_get (getd_get (d := 0) (by omega)))) rfl ?_
      refine y (ev_ixAddrA rfl rfl Tryz.underlying35 Tryz.sizeOf2 (by omega) (by omega)) rfl ?_
      refine y (ev_load rfl Tryz.isAgg2 zin (show (intsV (tabUp S.tab m))[3]? = _ from intsV_get (getd_get (d := 0) (by omega)))) rfl ?_
      refine ya (ac_bsliceR rfl Tryz.underlying53 Tryz.sizeOf2 Tryz.zeroValue2 rfl rfl rfl rfl ⟨⟨_, _, rfl, (by first | rfl | simp), (by first | decide | simp)⟩, ⟨⟨_, _, rfl, (by first | rfl | simp), (by first | decide | simp)⟩, ⟨⟨_, _, rfl, (by first | rfl | simp), (by first | decide | simp)⟩, ⟨⟨_, _, rfl, (by first | rfl | simp), (by first | decide | simp)⟩, ⟨⟨_, _, rfl, (by first | rfl | simp), (by first | decide | simp)⟩, ⟨⟨_, _, rfl, (by first | rfl | simp), (by first | decide | simp)⟩, trivial⟩⟩⟩⟩⟩⟩ (by dsimp [fillL, splice, vcells, reps] <;> rfl)) rfl ?_
      rintro v L' ⟨b96, rfl, rfl⟩
      refine y (ev_fieldAddr 11 rfl Tryz.underlying37 rfl Tryz.sizeOf9) rfl ?_
      refine y (ev_load rfl Tryz.isAgg9 zin rfl) rfl ?_
      refine ya (ac_bsliceR rfl Tryz.underlying98 Tryz.sizeOf9 Tryz.zeroValue9 rfl rfl rfl rfl ⟨⟨_, _, rfl, (by first | rfl | simp), (by first | decide | simp)⟩, trivial⟩ (by dsimp [fillL, splice, vcells, reps] <;> rfl)) rfl ?_
      rintro v L' ⟨b99, rfl, rfl⟩
      refine y (ev_build (zs := _) rfl Tryz.underlying100 Tryz.zeroValue100 rfl (.cons Tryz.sizeOf3 (.cons Tryz.sizeOf53 (.cons Tryz.sizeOf98 .nil))) ⟨⟨_, _, rfl, (by first | rfl | simp), (by first | decide | simp)⟩, ⟨⟨_, _, rfl, (by first | rfl | simp), (by first | decide | simp)⟩, ⟨⟨_, _, rfl, (by first | rfl | simp), (by first | decide | simp)⟩, trivial⟩⟩⟩ (by dsimp [fillL, splice, vcells] <;> rfl)) rfl ?_
      refine ycall (rEncode (r := blkR m.epoch m.seq (tabUp S.tab m) m.data) ?hn133 ?ht133 ?sx133) rfl Tryz.call70 ztk rfl ?_
      case hn133 => (have hne : intsV (blkR m.epoch m.seq (tabUp S.tab m) m.data).nums = [i64 m.epoch, i64 m.seq] ++ intsV (tabUp S.tab m) := by simp [blkR, intsV]); have hnl : (blkR m.epoch m.seq (tabUp S.tab m) m.data).nums.length = 6 := (by simp [blkR, htl]); rw [hnl, hne, tab4 htl]; exact rdV_in zin rfl rfl
      case ht133 => exact rdV_in zin rfl rfl
      case sx133 => exact hbm.num
      rintro v L' ⟨s101, rfl, ok101, rfl⟩
      rw [henc] at ok101 ⊢; dsimp only at ok101 ⊢
      obtain ⟨rb, hrb⟩ : ∃ rb, recB (blkR m.epoch m.seq (tabUp S.tab m) m.data) = rb := ⟨_, rfl⟩
      rw [hrb] at ok101 hst hbl ⊢
      clear hrb henc
      refine ymv ?_
      refine yxt ?_
      refine yxt ?_
      refine yas ?_
      refine yas ?_
      refine ynil' (kthn (hK16 _ _ ?_))
      clear hK16
      refine cseq ?_; intro K17 hK17
      refine cdraw 11 [(0, true), (1, true), (2, true), (3, true), (4, true), (5, true), (6, true), (7, true), (8, true), (9, true), (10, true)] ([sc s _ 77, sc b _ 137, sc b3 m.cells 37, svSeg s101 5 (bytesV rb)] ++ R) Tryz.mixed (by kernel_rfl) zge ?_
      refine hr rfl (ev_move rfl) rfl ?_
      refine hr rfl (ev_nil rfl) rfl ?_
      refine hr rfl (ev_fieldAddr 2 rfl Tryz.underlying77 rfl Tryz.sizeOf75) rfl ?_
      refine hr rfl (ev_load rfl Tryz.isAgg75 zin rfl) rfl ?_
      refine hr rfl (ev_fieldAddr 4 rfl Tryz.underlying37 rfl Tryz.sizeOf3) rfl ?_
      refine hr rfl (ev_load rfl Tryz.isAgg3 zin rfl) rfl ?_
      first
        | refine hr rfl (ev_ixAddr rfl rfl Tryz.underlying75 Tryz.sizeOf137 (by omega) (by omega)) rfl ?_
        | refine hr rfl (ev_ixV (by assumption) rfl rfl Tryz.underlying75 Tryz.sizeOf137 (by omega) (by omega)) rfl ?_
      refine hr rfl (ev_fieldAddr 0 rfl Tryz.underlying137 rfl Tryz.sizeOf52) rfl ?_
      refine hr rfl (ev_load rfl Tryz.isAgg52 zin (by rw [Nat.zero_add]; exact zip_at (r := 0) hrow (by decide))) rfl ?_
      refine hr rfl (ev_move rfl) rfl ?_
      refine hr rfl (ev_toStrB (rdY_sv (L := [svSeg s101 5 (bytesV rb)]) .z ok101).rd.bytes zge rfl Tryz.underlying50 Tryz.underlying9 Tryz.underlying5) rfl ?_
      refine hnil ?_
      refine ycall (rcPutAt hp0 hC0 hCok hS.d hS.wok) rfl Tryz.call71 ztk rfl ?_
      rintro v L' ⟨rfl, rfl⟩
      obtain ⟨r, hr0⟩ : ∃ r, C0.putR E rb = r := ⟨_, rfl⟩
      rw [hr0] at hst ⊢
      refine yas ?_
      refine hnoP' (kthn (hK17 _ _ ?_))
      clear hK17
      refine cseq ?_; intro K18 hK18
      refine cseq ?_; intro K19 hK19
      refine creg ?_
      refine ymv ?_
      refine y (ev_eql rfl rfl) rfl ?_
      refine ynil' (kthn (hK19 _ _ ?_))
      clear hK19
      refine ccond rfl (fun h154 => ?_) (fun h154 => ?_)
      ·(try simp only [sH] at h154)
       rw [if_pos h154, if_pos h154] at hst
       refine cseq ?_; intro K20 hK20
       refine cdraw 9 [(0, true), (1, true), (2, true), (3, true), (4, true), (5, true), (6, true), (7, true), (8, true)] ([sc s _ 77, sc b3 m.cells 37, sc b5 _ 72] ++ R) Tryz.mixed (by kernel_rfl) zge ?_
       refine hr rfl (ev_move rfl) rfl ?_
       refine hr rfl (ev_nil rfl) rfl ?_
       refine hr rfl (ev_fieldAddr 2 rfl Tryz.underlying77 rfl Tryz.sizeOf75) rfl ?_
       refine hr rfl (ev_load rfl Tryz.isAgg75 zin rfl) rfl ?_
       refine hr rfl (ev_fieldAddr 4 rfl Tryz.underlying37 rfl Tryz.sizeOf3) rfl ?_
       refine hr rfl (ev_load rfl Tryz.isAgg3 zin rfl) rfl ?_
       refine hr rfl (ev_loadN (u := [i64 m.epoch, i64 m.seq]) rfl Tryz.isAgg72 Tryz.sizeOf72 zin rfl rfl) rfl ?_
       first
         | refine hr rfl (ev_ixAddr rfl rfl Tryz.underlying75 Tryz.sizeOf137 (by omega) (by omega)) rfl ?_
         | refine hr rfl (ev_ixV (by assumption) rfl rfl Tryz.underlying75 Tryz.sizeOf137 (by omega) (by omega)) rfl ?_
       refine hr rfl (ev_fieldAddr 1 rfl Tryz.underlying137 rfl Tryz.sizeOf72) rfl ?_
       refine hnil ?_
       refine ya0 (ac_storeN (vs' := rowsV ((zipR ps S.bs).set m.block.toNat ⟨ptr p0, ⟨m.epoch, m.seq, b0.data⟩⟩) ++ sp) rfl rfl (by intro u hu; simp at hu; rcases hu with rfl | rfl <;> rfl) Tryz.sizeOf72 zrp rfl (by first | (simp [rowsV_len, zipR_len hS.wf.lp]; done) | (simp [rowsV_len, zipR_len hS.wf.lp]; omega)) (by rw [Nat.zero_add]; exact zip_setN (y := ⟨ptr p0, ⟨m.epoch, m.seq, b0.data⟩⟩) hrow (by simp) rfl)) ?_
       rintro v L' ⟨rfl, rfl⟩
       have hrow2 : ((zipR ps S.bs).set m.block.toNat ⟨ptr p0, ⟨m.epoch, m.seq, b0.data⟩⟩)[m.block.toNat]? = some ⟨ptr p0, ⟨m.epoch, m.seq, b0.data⟩⟩ := List.getElem?_set_self (by rw [zipR_len hS.wf.lp]; omega)
       refine hnoP' (kthn (hK20 _ _ ?_))
       clear hK20
       refine cseq ?_; intro K21 hK21
       refine cdraw 10 [(0, true), (1, true), (2, true), (3, true), (4, true), (5, true), (6, true), (7, true), (8, true), (9, true)] ([sc s _ 77, sc b3 m.cells 37] ++ R) Tryz.mixed (by kernel_rfl) zge ?_
       refine hr rfl (ev_move rfl) rfl ?_
       refine hr rfl (ev_nil rfl) rfl ?_
       refine hr rfl (ev_fieldAddr 2 rfl Tryz.underlying77 rfl Tryz.sizeOf75) rfl ?_
       refine hr rfl (ev_load rfl Tryz.isAgg75 zin rfl) rfl ?_
       refine hr rfl (ev_fieldAddr 4 rfl Tryz.underlying37 rfl Tryz.sizeOf3) rfl ?_
       refine hr rfl (ev_load rfl Tryz.isAgg3 zin rfl) rfl ?_
       refine hr rfl (ev_fieldAddr 11 rfl Tryz.underlying37 rfl Tryz.sizeOf9) rfl ?_
       refine hr rfl (ev_load rfl Tryz.isAgg9 zin rfl) rfl ?_
       first
         | refine hr rfl (ev_ixAddr rfl rfl Tryz.underlying75 Tryz.sizeOf137 (by omega) (by omega)) rfl ?_
         | refine hr rfl (ev_ixV (by assumption) rfl rfl Tryz.underlying75 Tryz.sizeOf137 (by omega) (by omega)) rfl ?_
       refine hr rfl (ev_fieldAddr 3 rfl Tryz.underlying137 rfl Tryz.sizeOf9) rfl ?_
       refine hnil ?_
       refine ya0 (ac_store (vs' := rowsV (((zipR ps S.bs).set m.block.toNat ⟨ptr p0, ⟨m.epoch, m.seq, b0.data⟩⟩).set m.block.toNat ⟨ptr p0, ⟨m.epoch, m.seq, m.data⟩⟩) ++ sp) rfl rfl rfl Tryz.sizeOf9 zrp (by first | (simp [rowsV_len, zipR_len hS.wf.lp]; done) | (simp [rowsV_len, zipR_len hS.wf.lp]; omega)) (by rw [Nat.zero_add]; exact zip_set (y := ⟨ptr p0, ⟨m.epoch, m.seq, m.data⟩⟩) hrow2 (by decide) rfl)) ?_
       rintro v L' ⟨rfl, rfl⟩
       rw [List.set_set, zipR_set (b := ⟨m.epoch, m.seq, m.data⟩) hp0 (by omega)]
       refine hnoP' (kthn (hK21 _ _ ?_))
       clear hK21
       refine creg ?_
       refine ymv ?_
       refine y (ev_loadN (u := intsV (tabUp S.tab m)) rfl Tryz.isAgg35 Tryz.sizeOf35 zin (by rw [List.drop_zero, List.take_of_length_le (by simp [intsV, htl])]) (by simp [intsV, htl])) rfl ?_
       refine yni ?_
       refine y (ev_fieldAddr 3 rfl Tryz.underlying77 rfl Tryz.sizeOf35) rfl ?_
       refine ya0 (ac_storeN (vs' := [ptr c, i64 S.epoch, .slice (some ⟨b, 0, none⟩) S.bs.length cap] ++ intsV (tabUp S.tab m)) rfl rfl (intsV_one _) Tryz.sizeOf35 zrp (by simp [intsV, htl]) (by simp [rsV13, intsV, htab]) (by unfold rsV13; rw [tab4 htab, tab4 htl]; rfl)) ?_
       rintro v L' ⟨rfl, rfl⟩
       refine ynil' (kthn (hK18 _ _ ?_))
       clear hK18
       refine cseq ?_; intro K22 hK22
       refine creg ?_
       refine ymv ?_
       refine yas ?_
       refine ynil' (kthn (hK22 _ _ ?_))
       clear hK22
       refine cret ?_
       first
         | (exfalso; omega; done)
         | (refine kretv Tryz.results72 rfl (L1 := [sc s _ 77, sc b _ 137, rcelsP ps p _, rdev p la _] ++ R) zge ?_
            rw [hst]; refine ⟨_, ⟨rfl, ?_⟩, rfl⟩; simp [rsP, rsB, rsV13, bkV])
      ·(try simp only [sH] at h154)
       rw [if_neg h154, if_neg h154] at hst
       refine cskip' (kthn (hK18 _ _ ?_))
       clear hK18
       refine cseq ?_; intro K23 hK23
       refine creg ?_
       refine ymv ?_
       refine yas ?_
       refine ynil' (kthn (hK23 _ _ ?_))
       clear hK23
       refine cret ?_
       first
         | (exfalso; omega; done)
         | (refine kretv Tryz.results72 rfl (L1 := [sc s _ 77, sc b _ 137, rcelsP ps p _, rdev p la _] ++ R) zge ?_
            rw [hst]; refine ⟨_, ⟨rfl, ?_⟩, rfl⟩; simp [rsP, rsB, rsV13, bkV])
     clear hK14
     refine cblock ?_
     refine cloop (A := Nat) (fun x => [(7, i64 x), (6, ptr b6), (5, ptr b5), (3, ptr b3), (0, ptr s)]) (fun x => [sc b6 (intsV (tabUpTo S.tab m x)) 35, sc b5 [i64 m.epoch, i64 m.seq] 72, sc b3 m.cells 37, sc s (rsV13 c (.slice (some ⟨b, 0, none⟩) S.bs.length cap) S) 77, sc b (rowsV (zipR ps S.bs) ++ sp) 137, rcelsP ps p S.cs, rdev p la E] ++ R) (fun x => x ≤ 4) (fun x => 4 - x) (0) ?_ zsub zge ?_
     · exact Nat.zero_le _
     rintro z hI1 KL1 hL1
     have hI1o := hI1
     have hz := hI1
     refine cseq ?_; intro K24 hK24
     refine cseq ?_; intro K25 hK25
     refine creg ?_
     refine ymv ?_
     refine y (ev_lss rfl rfl) rfl ?_
     refine ynil' (kthn (hK25 _ _ ?_))
     clear hK25
     refine ccond rfl (fun h187 => ?_) (fun h187 => ?_)
     ·(try simp only [sH] at h187)
      have hmz := tabUpTo_get htab m (k := z) (by omega)
      have hms := tabUpTo_set htab (m := m) (by omega) (k := z) (by omega)
      have hzl := tabUpTo_len htab m (k := z) (by omega)
      have hmt := msg_tn m (k := z) (by omega)
      rw [tn_get m (k := z) (by omega)] at hmt
      refine cskip' (kthn (hK24 _ _ ?_))
      clear hK24
      refine cseq ?_; intro K26 hK26
      refine cblock ?_
      refine cseq ?_; intro K27 hK27
      have hJr14 : ∀ x : Int, (z < 4 ∧ max (S.tab.getD z 0) ((msgT m).getD z 0) = x) → Sk 142 K27 ([(7, i64 z), (6, ptr b6), (5, ptr b5), (3, ptr b3), (0, ptr s)]) ([sc b6 (intsV ((tabUpTo S.tab m z).set z x)) 35, sc b5 [i64 m.epoch, i64 m.seq] 72, sc b3 m.cells 37, sc s (rsV13 c (.slice (some ⟨b, 0, none⟩) S.bs.length cap) S) 77, sc b (rowsV (zipR ps S.bs) ++ sp) 137, rcelsP ps p S.cs, rdev p la E] ++ R) := by
       rintro y0 hIr14
       refine hK27 _ _ ?_
       obtain ⟨hz4, hy0⟩ := hIr14
       have hms := tabUpTo_set htab (m := m) (by omega) (k := z) (by omega)
       have hzl := tabUpTo_len htab m (k := z) (by omega)
       have hta : tabAt S.tab m z = if m.client = z ∧ y0 < m.n then m.n else y0 := by unfold tabAt; rw [hy0]
       refine cseq ?_; intro K28 hK28
       refine cdraw 11 [(0, true), (1, true), (2, true), (3, true), (4, true), (5, true), (6, true), (7, true), (8, true), (9, true), (10, true)] ([sc b6 _ 35, sc b3 m.cells 37] ++ R) Tryz.mixed (by kernel_rfl) zge ?_
       refine hr rfl (ev_fieldAddr 5 rfl Tryz.underlying37 rfl Tryz.sizeOf3) rfl ?_
       refine hr rfl (ev_load rfl Tryz.isAgg3 zin rfl) rfl ?_
       refine hr rfl (ev_move rfl) rfl ?_
       refine hr rfl (ev_eql rfl rfl) rfl ?_
       refine hr rfl (ev_move rfl) rfl ?_
       refine hsplit 71 rfl (fun h193 => ?_) (fun h193 => ?_)
       ·(try simp only [sH] at h193)
        refine hr1 rfl rfl rfl (ev_fieldAddr 3 rfl Tryz.underlying37 rfl Tryz.sizeOf2) rfl ?_
        refine hr1 rfl rfl rfl (ev_load rfl Tryz.isAgg2 zin rfl) rfl ?_
        refine hr1 rfl rfl rfl (ev_move rfl) rfl ?_
        refine hr1 rfl rfl rfl (ev_ixAddrA rfl rfl Tryz.underlying35 Tryz.sizeOf2 (by omega) (by omega)) rfl ?_
        refine hr1 rfl rfl rfl (ev_load rfl Tryz.isAgg2 zin (by rw [Nat.zero_add, Int.toNat_natCast, Nat.mul_one]; exact intsV_get (List.getElem?_set_self (by omega)))) rfl ?_
        refine hr1 rfl rfl rfl (ev_gtr rfl rfl) rfl ?_
        refine hnil ?_
        refine ypa ?_
        refine hnoP' (kthn (hK28 _ _ ?_))
        clear hK28
        refine ccond rfl (fun h201 => ?_) (fun h201 => ?_)
        ·(try simp only [sH] at h201)
         refine creg ?_
         refine ymv ?_
         refine y (ev_fieldAddr 3 rfl Tryz.underlying37 rfl Tryz.sizeOf2) rfl ?_
         refine y (ev_load rfl Tryz.isAgg2 zin rfl) rfl ?_
         refine y (ev_ixAddrA rfl rfl Tryz.underlying35 Tryz.sizeOf2 (by omega) (by omega)) rfl ?_
         refine ya0 (ac_store (vs' := intsV ((tabUpTo S.tab m z).set z m.n)) rfl rfl rfl Tryz.sizeOf2 zrp (by simp [intsV, hzl]; omega) (by rw [show 0 + (z : Int).toNat * 1 = z by simp, intsV_set, List.set_set])) ?_
         rintro v L' ⟨rfl, rfl⟩
         refine ynil' (kbn (kthn (hK26 _ _ ?_)))
         clear hK26
         refine creg ?_
         skip
         refine ymv ?_
         refine y (ev_add rfl rfl) rfl ?_
         rw [show IntKind.i64.wrap ((z:Int) + 1) = ((z+1 : Nat) : Int) by rw [wr (by omega) (by omega)]; rfl]
         refine yas ?_
         refine ynil' (kthn ?_)
         first
           | (rw [show m.n = tabAt S.tab m z by rw [hta, if_pos (by omega)], hms]; exact hL1 (z + 1) (show z + 1 ≤ 4 by omega) (by omega) _ _ zsub zge)
           | (rw [show y0 = tabAt S.tab m z by rw [hta, if_neg (by omega)], hms]; exact hL1 (z + 1) (show z + 1 ≤ 4 by omega) (by omega) _ _ zsub zge)
        ·(try simp only [sH] at h201)
         refine cskip' (kbn (kthn (hK26 _ _ ?_)))
         clear hK26
         refine creg ?_
         skip
         refine ymv ?_
         refine y (ev_add rfl rfl) rfl ?_
         rw [show IntKind.i64.wrap ((z:Int) + 1) = ((z+1 : Nat) : Int) by rw [wr (by omega) (by omega)]; rfl]
         refine yas ?_
         refine ynil' (kthn ?_)
         first
           | (rw [show m.n = tabAt S.tab m z by rw [hta, if_pos (by omega)], hms]; exact hL1 (z + 1) (show z + 1 ≤ 4 by omega) (by omega) _ _ zsub zge)
           | (rw [show y0 = tabAt S.tab m z by rw [hta, if_neg (by omega)], hms]; exact hL1 (z + 1) (show z + 1 ≤ 4 by omega) (by omega) _ _ zsub zge)
       ·(try simp only [sH] at h193)
        refine hr0 rfl rfl rfl rfl rfl ?_
        refine hr0 rfl rfl rfl rfl rfl ?_
        refine hr0 rfl rfl rfl rfl rfl ?_
        refine hr0 rfl rfl rfl rfl rfl ?_
        refine hr0 rfl rfl rfl rfl rfl ?_
        refine hr0 rfl rfl rfl rfl rfl ?_
        refine hnil ?_
        refine ypb ?_
        refine hnoP' (kthn (hK28 _ _ ?_))
        clear hK28
        refine ccond0 rfl ?_
        refine cskip' (kbn (kthn (hK26 _ _ ?_)))
        clear hK26
        refine creg ?_
        skip
        refine ymv ?_
        refine y (ev_add rfl rfl) rfl ?_
        rw [show IntKind.i64.wrap ((z:Int) + 1) = ((z+1 : Nat) : Int) by rw [wr (by omega) (by omega)]; rfl]
        refine yas ?_
        refine ynil' (kthn ?_)
        first
          | (rw [show m.n = tabAt S.tab m z by rw [hta, if_pos (by omega)], hms]; exact hL1 (z + 1) (show z + 1 ≤ 4 by omega) (by omega) _ _ zsub zge)
          | (rw [show y0 = tabAt S.tab m z by rw [hta, if_neg (by omega)], hms]; exact hL1 (z + 1) (show z + 1 ≤ 4 by omega) (by omega) _ _ zsub zge)
      clear hK27
      refine cseq ?_; intro K29 hK29
      refine cdraw 7 [(0, true), (1, true), (2, true), (3, true), (4, true), (5, true), (6, true)] ([sc b6 _ 35, sc b3 m.cells 37] ++ R) Tryz.mixed (by kernel_rfl) zge ?_
      refine hr rfl (ev_move rfl) rfl ?_
      refine hr rfl (ev_fieldAddr 7 rfl Tryz.underlying37 rfl Tryz.sizeOf35) rfl ?_
      refine hr rfl (ev_ixAddrA rfl rfl Tryz.underlying35 Tryz.sizeOf2 (by omega) (by omega)) rfl ?_
      refine hr rfl (ev_load rfl Tryz.isAgg2 zin hmt) rfl ?_
      refine hr rfl (ev_move rfl) rfl ?_
      refine hr rfl (ev_ixAddrA rfl rfl Tryz.underlying35 Tryz.sizeOf2 (by omega) (by omega)) rfl ?_
      refine hr rfl (ev_load rfl Tryz.isAgg2 zin (by rw [Nat.zero_add, Int.toNat_natCast, Nat.mul_one]; exact intsV_get hmz)) rfl ?_
      refine hnil ?_
      refine y (ev_gtr rfl rfl) rfl ?_
      refine hnoP' (kthn (hK29 _ _ ?_))
      clear hK29
      refine ccond rfl (fun h225 => ?_) (fun h225 => ?_)
      ·(try simp only [sH] at h225)
       have hjx : max (S.tab.getD z 0) ((msgT m).getD z 0) = (msgT m).getD z 0 := by omega
       refine creg ?_
       refine ymv ?_
       refine ymv ?_
       refine y (ev_fieldAddr 7 rfl Tryz.underlying37 rfl Tryz.sizeOf35) rfl ?_
       refine y (ev_ixAddrA rfl rfl Tryz.underlying35 Tryz.sizeOf2 (by omega) (by omega)) rfl ?_
       refine y (ev_load rfl Tryz.isAgg2 zin hmt) rfl ?_
       refine y (ev_ixAddrA rfl rfl Tryz.underlying35 Tryz.sizeOf2 (by omega) (by omega)) rfl ?_
       refine ya0 (ac_store (vs' := intsV ((tabUpTo S.tab m z).set z ((msgT m).getD z 0))) rfl rfl rfl Tryz.sizeOf2 zrp (by simp [intsV, hzl]; omega) (by rw [← intsV_set]; simp)) ?_
       rintro v L' ⟨rfl, rfl⟩
       refine ynil' (kthn ?_)
       exact ksub zsub zge (hJr14 _ ⟨by omega, hjx⟩)
      ·(try simp only [sH] at h225)
       have hjx : max (S.tab.getD z 0) ((msgT m).getD z 0) = S.tab.getD z 0 := by omega
       have hsame : (tabUpTo S.tab m z).set z (S.tab.getD z 0) = tabUpTo S.tab m z := by obtain ⟨h1, h2⟩ := List.getElem?_eq_some_iff.1 hmz; rw [← h2, List.set_getElem_self]
       rw [← hsame]
       refine cskip' (kthn ?_)
       exact ksub zsub zge (hJr14 _ ⟨by omega, hjx⟩)
     ·(try simp only [sH] at h187)
      refine cexit (kthx (kthx (kbx (kthn ?_))))
      exact ksub zsub zge (hJ1 z ⟨hI1o, by first | trivial | omega⟩)
end W
end Go.Proofs
