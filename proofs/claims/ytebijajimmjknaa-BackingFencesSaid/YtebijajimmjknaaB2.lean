/- A part of the proof: contracts and plain lemmas, each without conditions beyond those that it names. -/
import Derived.Test.YtebijajimmjknaaB1
import Derived.Test.YtebijajimmjknaaGJ
import Derived.Test.YtebijajimmjknaaT10
set_option linter.unusedVariables false
set_option linter.unusedSimpArgs false
set_option linter.constructorNameAsVariable false
namespace Go.Proofs
open Go Go.Sl
namespace W
set_option linter.unusedVariables false
theorem bRaise [Env] {R : List Seg} {b o : Nat} {T : TypeId} {pre post : List Value} {t l : List Int} {lv : Value} (hv : RdV R lv 4 (intsV l)) (ho : o = pre.length) (ht : t.length = 4) (hl : l.length = 4) :
    Con Try.prog 51 [.pointer (some ⟨b, o, none⟩), lv] [sc b (pre ++ intsV t ++ post) T] R (Is (.tuple #[]) [sc b (pre ++ intsV (maxT t l) ++ post) T]) := by
  subst ho
  refine con_enter Try.func51 Try.ntmps51 rfl rfl ?_
  refine cseq ?_; intro K1 hK1
  refine creg ?_
  rw [← maxTo_zero t l]
  refine y (ev_move rfl) rfl ?_
  refine ynil' (kthn (hK1 _ _ ?_))
  clear hK1
  refine cblock ?_
  refine cloop (A := Nat) (fun x => [(5, i64 x), (0, .pointer (some ⟨b, pre.length, none⟩)), (1, lv)]) (fun x => [sc b (pre ++ intsV (maxTo t l x) ++ post) T] ++ R) (fun x => x ≤ 4) (fun x => 4 - x) (0) ?_ (by repeat first | exact sub_nil | refine sub_cons rfl ?_ | refine sub_cons' rfl (by simp) ?_) (by repeat first | exact .refl | exact .nil | exact .z | apply Pk.s | refine Ge.e ?_ | apply Ge.pick | apply Ge.drop) ?_
  · exact Nat.zero_le _
  rintro k hI1 KL1 hL1
  have hk := hI1
  refine cseq ?_; intro K2 hK2
  refine creg ?_
  refine y (ev_lss rfl rfl) rfl ?_
  refine ynil' (kthn (hK2 _ _ ?_))
  clear hK2
  refine cseq ?_; intro K3 hK3
  refine ccond rfl (fun h3 => ?_) (fun h3 => ?_)
  · (try simp only [decide_eq_true_eq, beq_iff_eq, beq_eq_false_iff_ne, decide_eq_decide, decide_eq_false_iff_not, Bool.not_eq_true', Bool.not_eq_false', Bool.not_eq_true, Bool.not_eq_false, Bool.not_not, ne_eq, Option.isNone_some, Option.isSome_some, Option.isNone_none, Option.isSome_none] at h3)
    refine cskip' (kthn (hK3 _ _ ?_))
    clear hK3
    refine cseq ?_; intro K4 hK4
    refine cblock ?_
    refine cseq ?_; intro K5 hK5
    refine creg ?_
    refine y (ev_move rfl) rfl ?_
    refine y (ev_assign rfl) rfl ?_
    refine ynil' (kthn (hK5 _ _ ?_))
    clear hK5
    refine cdraw 14 [(0, true), (1, true), (2, true), (3, true), (4, true), (5, true), (6, true), (7, true), (8, true), (9, true), (10, true), (11, true), (12, true), (13, true)] (_) Try.mixed (by kernel_rfl) .refl ?_
    refine hr rfl (ev_move rfl) rfl ?_
    refine hr rfl (ev_move rfl) rfl ?_
    refine hr rfl (ev_move rfl) rfl ?_
    refine hr rfl (ev_move rfl) rfl ?_
    refine hr rfl (ev_nil rfl) rfl ?_
    refine hr rfl (ev_ixAddrA rfl rfl Try.underlying33 Try.sizeOf2 (by omega) (by omega)) rfl ?_
    refine hr rfl (ev_load rfl Try.isAgg2 (by repeat first | exact .z | apply In.s) (by have h := raise_get (pre := pre) (post := post) (k := k) ht hl (by omega); simpa only [Int.toNat_natCast, Nat.mul_one] using h)) rfl ?_
    refine hr rfl (ev_move rfl) rfl ?_
    refine hr rfl (ev_move rfl) rfl ?_
    refine hr rfl (ev_ixV hv rfl rfl Try.underlying100 Try.sizeOf2 (by omega) (by omega)) rfl ?_
    refine hr rfl (ev_loadV k hv (by repeat first | exact .refl | exact .nil | exact .z | apply Pk.s | refine Ge.e ?_ | apply Ge.pick | apply Ge.drop) rfl Try.isAgg2 (by simp) (intsV_get (getd_get (d := 0) (by omega)))) rfl ?_
    refine hr rfl (ev_max rfl rfl) rfl ?_
    rw [show (if l.getD k 0 > t.getD k 0 then l.getD k 0 else t.getD k 0) = max (t.getD k 0) (l.getD k 0) by split <;> omega]
    refine hr rfl (ev_nil rfl) rfl ?_
    refine hr rfl (ev_ixAddrA rfl rfl Try.underlying33 Try.sizeOf2 (by omega) (by omega)) rfl ?_
    refine hnil ?_
    refine ya0 (ac_store rfl rfl rfl Try.sizeOf2 (by repeat first | exact .z | apply Rp.s) (by simp [intsV, maxTo_len ht hl]; omega) (by have h := raise_set (pre := pre) (post := post) (k := k) ht hl (by omega); simpa only [Int.toNat_natCast, Nat.mul_one] using h)) ?_
    rintro v L' ⟨rfl, rfl⟩
    refine hnoP' (kbn (kthn (hK4 _ _ ?_)))
    clear hK4
    refine creg ?_
    refine y (ev_add rfl rfl) rfl ?_
    rw [show IntKind.i64.wrap ((k:Int) + 1) = ((k+1 : Nat) : Int) by rw [wr (by omega) (by omega)]; rfl]
    refine y (ev_move rfl) rfl ?_
    refine ynil' (kthn ?_)
    exact hL1 (k + 1) (by omega) (by omega) _ _ (by repeat first | exact sub_nil | refine sub_cons rfl ?_ | refine sub_cons' rfl (by simp) ?_) (by repeat first | exact .refl | exact .nil | exact .z | apply Pk.s | refine Ge.e ?_ | apply Ge.pick | apply Ge.drop)
  · (try simp only [decide_eq_true_eq, beq_iff_eq, beq_eq_false_iff_ne, decide_eq_decide, decide_eq_false_iff_not, Bool.not_eq_true', Bool.not_eq_false', Bool.not_eq_true, Bool.not_eq_false, Bool.not_not, ne_eq, Option.isNone_some, Option.isSome_some, Option.isNone_none, Option.isSome_none] at h3)
    refine cexit (kthx (kthx (kbx ?_)))
    first
      | (exfalso; omega; done)
      | (refine kendv0 Try.results51 (L1 := [sc b (pre ++ intsV _ ++ post) T] ++ R) (by repeat first | exact .refl | exact .nil | exact .z | apply Pk.s | refine Ge.e ?_ | apply Ge.pick | apply Ge.drop) ?_
         obtain rfl : k = 4 := (by omega); rw [maxTo_all ht hl]; exact ⟨_, ⟨rfl, rfl⟩, rfl⟩)
def stoP (s t : Nat) (ps : List Nat) (S : StoM) : Seg := sc s (stoV (ptr t) S.epoch S.bs.length (rowsOf ps S.bs) S.tab) 95
def celsP (ps : List Nat) (q : Q3) (cs : List CellM) : Seg := (List.zipWith (fun p C => celP p q C) ps cs).flatten
theorem bIn [Env] {R : List Seg} {s t : Nat} {ps : List Nat} {S : StoM} {i : Int} : Con Try.prog 45 [ptr s, i64 i] [stoP s t ps S] R (Is (.bool (inN S.bs.length i)) [stoP s t ps S]) := by
  unfold stoP
  refine con_enter Try.func45 Try.ntmps45 rfl rfl ?_
  refine cseq ?_; intro K1 hK1
  refine creg ?_
  refine y (ev_assign rfl) rfl ?_
  refine ynil' (kthn (hK1 _ _ ?_))
  clear hK1
  refine cseq ?_; intro K2 hK2
  refine creg ?_
  refine y (ev_move rfl) rfl ?_
  refine y (ev_geq rfl rfl) rfl ?_
  refine y (ev_move rfl) rfl ?_
  refine ysplit 7 rfl (fun h27 => ?_) (fun h27 => ?_)
  · (try simp only [decide_eq_true_eq, beq_iff_eq, beq_eq_false_iff_ne, decide_eq_decide, decide_eq_false_iff_not, Bool.not_eq_true', Bool.not_eq_false', Bool.not_eq_true, Bool.not_eq_false, Bool.not_not, ne_eq, Option.isNone_some, Option.isSome_some, Option.isNone_none, Option.isSome_none] at h27)
    refine yg1 rfl rfl ?_
    refine y (ev_move rfl) rfl ?_
    refine yg1 rfl rfl ?_
    refine y (ev_move rfl) rfl ?_
    refine yg1 rfl rfl ?_
    refine y (ev_nil rfl) rfl ?_
    refine yg1 rfl rfl ?_
    refine y (ev_fieldAddr 2 rfl Try.underlying95 rfl Try.sizeOf3) rfl ?_
    refine yg1 rfl rfl ?_
    refine y (ev_load rfl Try.isAgg3 (by repeat first | exact .z | apply In.s) rfl) rfl ?_
    refine yg1 rfl rfl ?_
    refine y (ev_lss rfl rfl) rfl ?_
    refine y (ev_pick1 rfl rfl) rfl ?_
    refine y (ev_assign rfl) rfl ?_
    refine ynil' (kthn (hK2 _ _ ?_))
    clear hK2
    refine cret ?_
    first
      | (exfalso; omega; done)
      | (refine kretv Try.results45 rfl (L1 := [sc s _ 95] ++ R) (by repeat first | exact .refl | exact .nil | exact .z | apply Pk.s | refine Ge.e ?_ | apply Ge.pick | apply Ge.drop) ?_
         exact ⟨_, ⟨by unfold inN; first | (rw [decide_eq_true (show 0 ≤ i by omega)]; rfl) | (rw [decide_eq_false (show ¬ 0 ≤ i by omega)]; rfl), rfl⟩, rfl⟩)
  · (try simp only [decide_eq_true_eq, beq_iff_eq, beq_eq_false_iff_ne, decide_eq_decide, decide_eq_false_iff_not, Bool.not_eq_true', Bool.not_eq_false', Bool.not_eq_true, Bool.not_eq_false, Bool.not_not, ne_eq, Option.isNone_some, Option.isSome_some, Option.isNone_none, Option.isSome_none] at h27)
    refine yg0 rfl rfl rfl rfl ?_
    refine yg0 rfl rfl rfl rfl ?_
    refine yg0 rfl rfl rfl rfl ?_
    refine yg0 rfl rfl rfl rfl ?_
    refine yg0 rfl rfl rfl rfl ?_
    refine yg0 rfl rfl rfl rfl ?_
    refine y (ev_pick0 rfl rfl) rfl ?_
    refine y (ev_assign rfl) rfl ?_
    refine ynil' (kthn (hK2 _ _ ?_))
    clear hK2
    refine cret ?_
    first
      | (exfalso; omega; done)
      | (refine kretv Try.results45 rfl (L1 := [sc s _ 95] ++ R) (by repeat first | exact .refl | exact .nil | exact .z | apply Pk.s | refine Ge.e ?_ | apply Ge.pick | apply Ge.drop) ?_
         exact ⟨_, ⟨by unfold inN; first | (rw [decide_eq_true (show 0 ≤ i by omega)]; rfl) | (rw [decide_eq_false (show ¬ 0 ≤ i by omega)]; rfl), rfl⟩, rfl⟩)
theorem bToken [Env] {R : List Seg} {s t : Nat} {ps : List Nat} {S : StoM} : Con Try.prog 23 [ptr s] [stoP s t ps S] R (Is (i64 S.epoch) [stoP s t ps S]) := by
  unfold stoP
  refine con_enter Try.func23 Try.ntmps23 rfl rfl ?_
  refine cseq ?_; intro K1 hK1
  refine creg ?_
  refine y (ev_assign rfl) rfl ?_
  refine ynil' (kthn (hK1 _ _ ?_))
  clear hK1
  refine cseq ?_; intro K2 hK2
  refine creg ?_
  refine y (ev_move rfl) rfl ?_
  refine y (ev_nil rfl) rfl ?_
  refine y (ev_fieldAddr 1 rfl Try.underlying95 rfl Try.sizeOf2) rfl ?_
  refine y (ev_load rfl Try.isAgg2 (by repeat first | exact .z | apply In.s) rfl) rfl ?_
  refine y (ev_assign rfl) rfl ?_
  refine ynil' (kthn (hK2 _ _ ?_))
  clear hK2
  refine cret ?_
  first
    | (exfalso; omega; done)
    | (refine kretv Try.results23 rfl (L1 := _) (by repeat first | exact .refl | exact .nil | exact .z | apply Pk.s | refine Ge.e ?_ | apply Ge.pick | apply Ge.drop) ?_
       exact ⟨_, ⟨by first | rfl | (simp [*]; done) | (simp [*]; omega) | simp_all, rfl⟩, by first | rfl | (simp [*]; done) | (simp [*]; omega) | simp_all⟩)
theorem bTable [Env] {R : List Seg} {s t : Nat} {ps : List Nat} {S : StoM} (hS : S.wf ps) : Con Try.prog 24 [ptr s] [stoP s t ps S] R (Is (.agg (intsV S.tab).toArray) [stoP s t ps S]) := by
  have htb := sto_tab (tp := ptr t) (ep := S.epoch) (n := S.bs.length) hS.rows hS.tab
  unfold stoP
  refine con_enter Try.func24 Try.ntmps24 rfl rfl ?_
  refine cseq ?_; intro K1 hK1
  refine creg ?_
  refine ya (ac_alloc Try.zeroValue33 rfl) rfl ?_
  rintro v L' ⟨b2, rfl, rfl⟩
  refine ynil' (kthn (hK1 _ _ ?_))
  clear hK1
  refine cseq ?_; intro K2 hK2
  refine creg ?_
  refine y (ev_move rfl) rfl ?_
  refine y (ev_nil rfl) rfl ?_
  refine y (ev_fieldAddr 131 rfl Try.underlying95 rfl Try.sizeOf33) rfl ?_
  refine y (ev_loadN (u := intsV S.tab) rfl Try.isAgg33 Try.sizeOf33 (by repeat first | exact .z | apply In.s) htb (by simp [intsV, hS.tab])) rfl ?_
  refine ya0 (ac_storeN (vs' := intsV S.tab) rfl rfl (intsV_one _) Try.sizeOf33 (by repeat first | exact .z | apply Rp.s) (by simp [intsV, hS.tab]) (by simp) (by simp)) ?_
  rintro v L' ⟨rfl, rfl⟩
  refine ynil' (kthn (hK2 _ _ ?_))
  clear hK2
  refine cret ?_
  first
    | (exfalso; omega; done)
    | (refine kretc Try.results24 rfl Try.isAgg33 Try.sizeOf33 (by repeat first | exact .z | apply In.s) (by simp [intsV, hS.tab]) (L1 := [sc s _ 95] ++ R) (by repeat first | exact .refl | exact .nil | exact .z | apply Pk.s | refine Ge.e ?_ | apply Ge.pick | apply Ge.drop) ?_
       exact ⟨_, ⟨rfl, rfl⟩, rfl⟩)
theorem bGet [Env] {R : List Seg} {s t : Nat} {ps : List Nat} {S : StoM} {i : Int} (hS : S.wf ps) : Con Try.prog 25 [ptr s, i64 i] [stoP s t ps S] R (Is (.tuple #[.agg #[i64 (S.getB i).v0, i64 (S.getB i).v1], str (S.getB i).data]) [stoP s t ps S]) := by
  refine con_enter Try.func25 Try.ntmps25 rfl rfl ?_
  refine cseq ?_; intro K1 hK1
  refine creg ?_
  refine ya (ac_alloc Try.zeroValue50 rfl) rfl ?_
  rintro v L' ⟨b4, rfl, rfl⟩
  refine y (ev_assign rfl) rfl ?_
  refine ynil' (kthn (hK1 _ _ ?_))
  clear hK1
  refine cseq ?_; intro K2 hK2
  refine cseq ?_; intro K3 hK3
  refine creg ?_
  refine y (ev_move rfl) rfl ?_
  refine y (ev_move rfl) rfl ?_
  refine ycall (bIn) rfl Try.call45 (by repeat first | exact .nil | exact .z | apply Pk.s | apply Tk.cons) rfl ?_
  rintro v L' ⟨rfl, rfl⟩
  refine y (ev_not rfl) rfl ?_
  refine ynil' (kthn (hK3 _ _ ?_))
  clear hK3
  refine ccond rfl (fun h56 => ?_) (fun h56 => ?_)
  · (try simp only [decide_eq_true_eq, beq_iff_eq, beq_eq_false_iff_ne, decide_eq_decide, decide_eq_false_iff_not, Bool.not_eq_true', Bool.not_eq_false', Bool.not_eq_true, Bool.not_eq_false, Bool.not_not, ne_eq, Option.isNone_some, Option.isSome_some, Option.isNone_none, Option.isSome_none] at h56)
    have hin : inN S.bs.length i = false := by simpa using h56
    have hgb : S.getB i = ⟨0, 0, []⟩ := by unfold StoM.getB; rw [if_neg (by rw [hin]; decide)]
    refine cseq ?_; intro K4 hK4
    refine creg ?_
    refine y (ev_build (zs := _) rfl Try.underlying50 Try.zeroValue50 rfl (.cons Try.sizeOf2 (.cons Try.sizeOf2 .nil)) trivial (by dsimp [fillL, splice, vcells] <;> rfl)) rfl ?_
    refine ya0 (ac_storeAll rfl rfl (by first | exact bytesV_one _ | (simp [Value.oneCell']; done) | (simp only [List.forall_mem_cons, List.not_mem_nil, false_implies, implies_true, svVal_one, and_true, true_and, and_self]; first | done | simp [Value.oneCell'])) Try.sizeOf50 (by repeat first | exact .z | apply Rp.s) (by first | rfl | assumption | (simp [*]; done) | (simp [*]; omega)) (by first | rfl | assumption | (simp [*]; done) | (simp [*]; omega))) ?_
    rintro v L' ⟨rfl, rfl⟩
    refine y (ev_assign rfl) rfl ?_
    refine ynil' (kthn (hK4 _ _ ?_))
    clear hK4
    refine cret (kthr ?_)
    first
      | (exfalso; omega; done)
      | (refine kretct Try.results25 rfl rfl Try.isAgg50 Try.sizeOf50 (by repeat first | exact .z | apply In.s) (rfl) (L1 := [stoP s t ps S] ++ R) (by repeat first | exact .refl | exact .nil | exact .z | apply Pk.s | refine Ge.e ?_ | apply Ge.pick | apply Ge.drop) ?_
         rw [hgb]; exact ⟨_, ⟨rfl, rfl⟩, rfl⟩)
  · (try simp only [decide_eq_true_eq, beq_iff_eq, beq_eq_false_iff_ne, decide_eq_decide, decide_eq_false_iff_not, Bool.not_eq_true', Bool.not_eq_false', Bool.not_eq_true, Bool.not_eq_false, Bool.not_not, ne_eq, Option.isNone_some, Option.isSome_some, Option.isNone_none, Option.isSome_none] at h56)
    have hin : inN S.bs.length i = true := by simpa using h56
    obtain ⟨hi0, hi1⟩ := inN_iff.1 hin
    obtain ⟨p0, b0, hp0, hb0, hrow, hgb⟩ := hS.row hin
    have hn := hS.n
    unfold stoP
    refine cskip' (kthn (hK2 _ _ ?_))
    clear hK2
    refine cseq ?_; intro K5 hK5
    refine cdraw 15 [(0, true), (1, true), (2, true), (3, true), (4, true), (5, true), (6, true), (7, true), (8, true), (9, true), (10, true), (11, true), (12, true), (13, true), (14, false)] ([sc s (stoV (ptr t) S.epoch S.bs.length (rowsOf ps S.bs) S.tab) 95] ++ R) Try.mixed (by kernel_rfl) (by repeat first | exact .refl | exact .nil | exact .z | apply Pk.s | refine Ge.e ?_ | apply Ge.pick | apply Ge.drop) ?_
    refine hr rfl (ev_move rfl) rfl ?_
    refine hr rfl (ev_move rfl) rfl ?_
    refine hr rfl (ev_nil rfl) rfl ?_
    refine hr rfl (ev_fieldAddr 3 rfl Try.underlying95 rfl Try.sizeOf93) rfl ?_
    refine hr rfl (ev_ixAddrA rfl rfl Try.underlying93 Try.sizeOf92 (by omega) (by omega)) rfl ?_
    refine hr rfl (ev_fieldAddr 1 rfl Try.underlying92 rfl Try.sizeOf50) rfl ?_
    refine hr rfl (ev_loadN (u := [i64 b0.v0, i64 b0.v1]) rfl Try.isAgg50 Try.sizeOf50 (by repeat first | exact .z | apply In.s) (sto_ver hrow) rfl) rfl ?_
    refine hr rfl (ev_move rfl) rfl ?_
    refine hr rfl (ev_move rfl) rfl ?_
    refine hr rfl (ev_nil rfl) rfl ?_
    refine hr rfl (ev_fieldAddr 3 rfl Try.underlying95 rfl Try.sizeOf93) rfl ?_
    refine hr rfl (ev_ixAddrA rfl rfl Try.underlying93 Try.sizeOf92 (by omega) (by omega)) rfl ?_
    refine hr rfl (ev_fieldAddr 3 rfl Try.underlying92 rfl Try.sizeOf9) rfl ?_
    refine hr rfl (ev_load rfl Try.isAgg9 (by repeat first | exact .z | apply In.s) (sto_at hrow (by decide))) rfl ?_
    refine haN rfl (ac_storeAll rfl rfl (by first | exact bytesV_one _ | (simp [Value.oneCell']; done) | (simp only [List.forall_mem_cons, List.not_mem_nil, false_implies, implies_true, svVal_one, and_true, true_and, and_self]; first | done | simp [Value.oneCell'])) Try.sizeOf50 (by repeat first | exact .z | apply Rp.s) (by first | rfl | assumption | (simp [*]; done) | (simp [*]; omega)) (by first | rfl | assumption | (simp [*]; done) | (simp [*]; omega))) ?_
    rintro v L' ⟨rfl, rfl⟩; refine ⟨(by repeat first | exact .refl | exact .nil | exact .z | apply Pk.s | refine Ge.e ?_ | apply Ge.pick | apply Ge.drop), ?_⟩
    refine hnil ?_
    refine y (ev_assign rfl) rfl ?_
    refine hnoP' (kthn (hK5 _ _ ?_))
    clear hK5
    refine cret ?_
    first
      | (exfalso; omega; done)
      | (refine kretct Try.results25 rfl rfl Try.isAgg50 Try.sizeOf50 (by repeat first | exact .z | apply In.s) (rfl) (L1 := [sc s _ 95] ++ R) (by repeat first | exact .refl | exact .nil | exact .z | apply Pk.s | refine Ge.e ?_ | apply Ge.pick | apply Ge.drop) ?_
         rw [hgb]; exact ⟨_, ⟨rfl, rfl⟩, rfl⟩)
end W
end Go.Proofs
