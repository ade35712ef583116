/- A part of the proof: contracts and plain lemmas, each without conditions beyond those that it names. -/
import Derived.Test.YtebijajimmjknaaGreatB1
import Derived.Test.YtebijajimmjknaaGreatGJ
import Derived.Test.YtebijajimmjknaaGreatT10
set_option linter.unusedVariables false
set_option linter.unusedSimpArgs false
set_option linter.constructorNameAsVariable false
namespace Go.Proofs
open Go Go.Sl
namespace W
set_option linter.unusedVariables false
theorem bRaise [Env] {R : List Seg} {b o : Nat} {T : TypeId} {pre post : List Value} {t l : List Int} {lv : Value} (hv : RdV R lv 4 (intsV l)) (ho : o = pre.length) (ht : t.length = 4) (hl : l.length = 4) :
   Con Tryz.prog 65 [.pointer (some ⟨b, o, none⟩), lv] [sc b (pre ++ intsV t ++ post) T] R (Is (.tuple #[]) [sc b (pre ++ intsV (maxT t l) ++ post) T]) := by
 subst ho
 refine con_enter Tryz.func65 Tryz.ntmps65 rfl rfl ?_
 refine cseq ?_; intro K1 hK1
 refine creg ?_
 rw [← maxTo_zero t l]
 refine ymv ?_
 refine ynil' (kthn (hK1 _ _ ?_))
 clear hK1
 refine cblock ?_
 refine cloop (A := Nat) (fun x => [(5, i64 x), (0, .pointer (some ⟨b, pre.length, none⟩)), (1, lv)]) (fun x => [sc b (pre ++ intsV (maxTo t l x) ++ post) T] ++ R) (fun x => x ≤ 4) (fun x => 4 - x) (0) ?_ zsub zge ?_
 · exact Nat.zero_le _
 rintro k hI1 KL1 hL1
 have hk := hI1
 refine cseq ?_; intro K2 hK2
 refine creg ?_
 refine y (ev_lss rfl rfl) rfl ?_
 refine ynil' (kthn (hK2 _ _ ?_))
 clear hK2
 refine cseq ?_; intro K3 hK3
 refine ccond rfl (fun h3 => ?_) (fun h3 => ?_)
 ·(try simp only [sH] at h3)
  refine cskip' (kthn (hK3 _ _ ?_))
  clear hK3
  refine cseq ?_; intro K4 hK4
  refine cblock ?_
  refine cseq ?_; intro K5 hK5
  refine creg ?_
  refine ymv ?_
  refine yas ?_
  refine ynil' (kthn (hK5 _ _ ?_))
  clear hK5
  refine cdraw 14 [(0, true), (1, true), (2, true), (3, true), (4, true), (5, true), (6, true), (7, true), (8, true), (9, true), (10, true), (11, true), (12, true), (13, true)] (_) Tryz.mixed (by kernel_rfl) .refl ?_
  refine hr rfl (ev_move rfl) rfl ?_
  refine hr rfl (ev_move rfl) rfl ?_
  refine hr rfl (ev_move rfl) rfl ?_
  refine hr rfl (ev_move rfl) rfl ?_
  refine hr rfl (ev_nil rfl) rfl ?_
  refine hr rfl (ev_ixAddrA rfl rfl Tryz.underlying35 Tryz.sizeOf2 (by omega) (by omega)) rfl ?_
  refine hr rfl (ev_load rfl Tryz.isAgg2 zin (by have h := raise_get (pre := pre) (post := post) (k := k) ht hl (by omega); simpa only [Int.toNat_natCast, Nat.mul_one] using h)) rfl ?_
  refine hr rfl (ev_move rfl) rfl ?_
  refine hr rfl (ev_move rfl) rfl ?_
  refine hr rfl (ev_ixV hv rfl rfl Tryz.underlying53 Tryz.sizeOf2 (by omega) (by omega)) rfl ?_
  refine hr rfl (ev_loadV k hv zge rfl Tryz.isAgg2 (by simp) (intsV_get (getd_get (d := 0) (by omega)))) rfl ?_
  refine hr rfl (ev_max rfl rfl) rfl ?_
  rw [show (if l.getD k 0 > t.getD k 0 then l.getD k 0 else t.getD k 0) = max (t.getD k 0) (l.getD k 0) by split <;> omega]
  refine hr rfl (ev_nil rfl) rfl ?_
  refine hr rfl (ev_ixAddrA rfl rfl Tryz.underlying35 Tryz.sizeOf2 (by omega) (by omega)) rfl ?_
  refine hnil ?_
  refine ya0 (ac_store rfl rfl rfl Tryz.sizeOf2 zrp (by simp [intsV, maxTo_len ht hl]; omega) (by have h := raise_set (pre := pre) (post := post) (k := k) ht hl (by omega); simpa only [Int.toNat_natCast, Nat.mul_one] using h)) ?_
  rintro v L' ⟨rfl, rfl⟩
  refine hnoP' (kbn (kthn (hK4 _ _ ?_)))
  clear hK4
  refine creg ?_
  refine y (ev_add rfl rfl) rfl ?_
  rw [show IntKind.i64.wrap ((k:Int) + 1) = ((k+1 : Nat) : Int) by rw [wr (by omega) (by omega)]; rfl]
  refine ymv ?_
  refine ynil' (kthn ?_)
  exact hL1 (k + 1) (by omega) (by omega) _ _ zsub zge
 ·(try simp only [sH] at h3)
  refine cexit (kthx (kthx (kbx ?_)))
  first
    | (exfalso; omega; done)
    | (refine kendv0 Tryz.results65 (L1 := [sc b (pre ++ intsV _ ++ post) T] ++ R) zge ?_
       obtain rfl : k = 4 := (by omega); rw [maxTo_all ht hl]; exact ⟨_, ⟨rfl, rfl⟩, rfl⟩)
def stoP (s t : Nat) (ps : List Nat) (S : StoM) : Seg := sc s (stoV (ptr t) S.epoch S.bs.length (rowsOf ps S.bs) S.tab) 128
def celsP (ps : List Nat) (q : Q3) (cs : List CellM) : Seg := (List.zipWith (fun p C => celP p q C) ps cs).flatten
theorem bIn [Env] {R : List Seg} {s t : Nat} {ps : List Nat} {S : StoM} {i : Int} : Con Tryz.prog 69 [ptr s, i64 i] [stoP s t ps S] R (Is (.bool (inN S.bs.length i)) [stoP s t ps S]) := by
 unfold stoP
 refine con_enter Tryz.func69 Tryz.ntmps69 rfl rfl ?_
 refine cseq ?_; intro K1 hK1
 refine creg ?_
 refine yas ?_
 refine ynil' (kthn (hK1 _ _ ?_))
 clear hK1
 refine cseq ?_; intro K2 hK2
 refine creg ?_
 refine ymv ?_
 refine y (ev_geq rfl rfl) rfl ?_
 refine ymv ?_
 refine ysplit 7 rfl (fun h27 => ?_) (fun h27 => ?_)
 ·(try simp only [sH] at h27)
  refine ygo ?_
  refine ymv ?_
  refine ygo ?_
  refine ymv ?_
  refine ygo ?_
  refine yni ?_
  refine ygo ?_
  refine y (ev_fieldAddr 2 rfl Tryz.underlying128 rfl Tryz.sizeOf3) rfl ?_
  refine ygo ?_
  refine y (ev_load rfl Tryz.isAgg3 zin rfl) rfl ?_
  refine ygo ?_
  refine y (ev_lss rfl rfl) rfl ?_
  refine ypa ?_
  refine yas ?_
  refine ynil' (kthn (hK2 _ _ ?_))
  clear hK2
  refine cret ?_
  first
    | (exfalso; omega; done)
    | (refine kretv Tryz.results69 rfl (L1 := [sc s _ 128] ++ R) zge ?_
       exact ⟨_, ⟨by unfold inN; first | (rw [decide_eq_true (show 0 ≤ i by omega)]; rfl) | (rw [decide_eq_false (show ¬ 0 ≤ i by omega)]; rfl), rfl⟩, rfl⟩)
 ·(try simp only [sH] at h27)
  refine ygz ?_
  refine ygz ?_
  refine ygz ?_
  refine ygz ?_
  refine ygz ?_
  refine ygz ?_
  refine ypb ?_
  refine yas ?_
  refine ynil' (kthn (hK2 _ _ ?_))
  clear hK2
  refine cret ?_
  first
    | (exfalso; omega; done)
    | (refine kretv Tryz.results69 rfl (L1 := [sc s _ 128] ++ R) zge ?_
       exact ⟨_, ⟨by unfold inN; first | (rw [decide_eq_true (show 0 ≤ i by omega)]; rfl) | (rw [decide_eq_false (show ¬ 0 ≤ i by omega)]; rfl), rfl⟩, rfl⟩)
theorem bToken [Env] {R : List Seg} {s t : Nat} {ps : List Nat} {S : StoM} : Con Tryz.prog 37 [ptr s] [stoP s t ps S] R (Is (i64 S.epoch) [stoP s t ps S]) := by
 unfold stoP
 refine con_enter Tryz.func37 Tryz.ntmps37 rfl rfl ?_
 refine cseq ?_; intro K1 hK1
 refine creg ?_
 refine yas ?_
 refine ynil' (kthn (hK1 _ _ ?_))
 clear hK1
 refine cseq ?_; intro K2 hK2
 refine creg ?_
 refine ymv ?_
 refine yni ?_
 refine y (ev_fieldAddr 1 rfl Tryz.underlying128 rfl Tryz.sizeOf2) rfl ?_
 refine y (ev_load rfl Tryz.isAgg2 zin rfl) rfl ?_
 refine yas ?_
 refine ynil' (kthn (hK2 _ _ ?_))
 clear hK2
 refine cret ?_
 first
   | (exfalso; omega; done)
   | (refine kretv Tryz.results37 rfl (L1 := _) zge ?_
      exact ⟨_, ⟨by first | rfl | (simp [*]; done) | (simp [*]; omega) | simp_all, rfl⟩, by first | rfl | (simp [*]; done) | (simp [*]; omega) | simp_all⟩)
theorem bTable [Env] {R : List Seg} {s t : Nat} {ps : List Nat} {S : StoM} (hS : S.wf ps) : Con Tryz.prog 38 [ptr s] [stoP s t ps S] R (Is (.agg (intsV S.tab).toArray) [stoP s t ps S]) := by
 have htb := sto_tab (tp := ptr t) (ep := S.epoch) (n := S.bs.length) hS.rows hS.tab
 unfold stoP
 refine con_enter Tryz.func38 Tryz.ntmps38 rfl rfl ?_
 refine cseq ?_; intro K1 hK1
 refine creg ?_
 refine ya (ac_alloc Tryz.zeroValue35 rfl) rfl ?_
 rintro v L' ⟨b2, rfl, rfl⟩
 refine ynil' (kthn (hK1 _ _ ?_))
 clear hK1
 refine cseq ?_; intro K2 hK2
 refine creg ?_
 refine ymv ?_
 refine yni ?_
 refine y (ev_fieldAddr 131 rfl Tryz.underlying128 rfl Tryz.sizeOf35) rfl ?_
 refine y (ev_loadN (u := intsV S.tab) rfl Tryz.isAgg35 Tryz.sizeOf35 zin htb (by simp [intsV, hS.tab])) rfl ?_
 refine ya0 (ac_storeN (vs' := intsV S.tab) rfl rfl (intsV_one _) Tryz.sizeOf35 zrp (by simp [intsV, hS.tab]) (by simp) (by simp)) ?_
 rintro v L' ⟨rfl, rfl⟩
 refine ynil' (kthn (hK2 _ _ ?_))
 clear hK2
 refine cret ?_
 first
   | (exfalso; omega; done)
   | (refine kretc Tryz.results38 rfl Tryz.isAgg35 Tryz.sizeOf35 zin (by simp [intsV, hS.tab]) (L1 := [sc s _ 128] ++ R) zge ?_
      exact ⟨_, ⟨rfl, rfl⟩, rfl⟩)
theorem bGet [Env] {R : List Seg} {s t : Nat} {ps : List Nat} {S : StoM} {i : Int} (hS : S.wf ps) : Con Tryz.prog 35 [ptr s, i64 i] [stoP s t ps S] R (Is (.tuple #[.agg #[i64 (S.getB i).v0, i64 (S.getB i).v1], str (S.getB i).data]) [stoP s t ps S]) := by
 refine con_enter Tryz.func35 Tryz.ntmps35 rfl rfl ?_
 refine cseq ?_; intro K1 hK1
 refine creg ?_
 refine ya (ac_alloc Tryz.zeroValue72 rfl) rfl ?_
 rintro v L' ⟨b4, rfl, rfl⟩
 refine yas ?_
 refine ynil' (kthn (hK1 _ _ ?_))
 clear hK1
 refine cseq ?_; intro K2 hK2
 refine cseq ?_; intro K3 hK3
 refine creg ?_
 refine ymv ?_
 refine ymv ?_
 refine ycall (bIn) rfl Tryz.call69 ztk rfl ?_
 rintro v L' ⟨rfl, rfl⟩
 refine y (ev_not rfl) rfl ?_
 refine ynil' (kthn (hK3 _ _ ?_))
 clear hK3
 refine ccond rfl (fun h56 => ?_) (fun h56 => ?_)
 ·(try simp only [sH] at h56)
  have hin : inN S.bs.length i = false := by simpa using h56
  have hgb : S.getB i = ⟨0, 0, []⟩ := by unfold StoM.getB; rw [if_neg (by rw [hin]; decide)]
  refine cseq ?_; intro K4 hK4
  refine creg ?_
  refine y (ev_build (zs := _) rfl Tryz.underlying72 Tryz.zeroValue72 rfl (.cons Tryz.sizeOf2 (.cons Tryz.sizeOf2 .nil)) trivial (by dsimp [fillL, splice, vcells] <;> rfl)) rfl ?_
  refine ya0 (ac_storeAll rfl rfl (by first | exact bytesV_one _ | (simp [Value.oneCell']; done) | (simp only [List.forall_mem_cons, List.not_mem_nil, false_implies, implies_true, svVal_one, and_true, true_and, and_self]; first | done | simp [Value.oneCell'])) Tryz.sizeOf72 zrp (by first | rfl | assumption | (simp [*]; done) | (simp [*]; omega)) (by first | rfl | assumption | (simp [*]; done) | (simp [*]; omega))) ?_
  rintro v L' ⟨rfl, rfl⟩
  refine yas ?_
  refine ynil' (kthn (hK4 _ _ ?_))
  clear hK4
  refine cret (kthr ?_)
  first
    | (exfalso; omega; done)
    | (refine kretct Tryz.results35 rfl rfl Tryz.isAgg72 Tryz.sizeOf72 zin (rfl) (L1 := [stoP s t ps S] ++ R) zge ?_
       rw [hgb]; exact ⟨_, ⟨rfl, rfl⟩, rfl⟩)
 ·(try simp only [sH] at h56)
  have hin : inN S.bs.length i = true := by simpa using h56
  obtain ⟨hi0, hi1⟩ := inN_iff.1 hin
  obtain ⟨p0, b0, hp0, hb0, hrow, hgb⟩ := hS.row hin
  have hn := hS.n
  unfold stoP
  refine cskip' (kthn (hK2 _ _ ?_))
  clear hK2
  refine cseq ?_; intro K5 hK5
  refine cdraw 15 [(0, true), (1, true), (2, true), (3, true), (4, true), (5, true), (6, true), (7, true), (8, true), (9, true), (10, true), (11, true), (12, true), (13, true), (14, false)] ([sc s (stoV (ptr t) S.epoch S.bs.length (rowsOf ps S.bs) S.tab) 128] ++ R) Tryz.mixed (by kernel_rfl) zge ?_
  refine hr rfl (ev_move rfl) rfl ?_
  refine hr rfl (ev_move rfl) rfl ?_
  refine hr rfl (ev_nil rfl) rfl ?_
  refine hr rfl (ev_fieldAddr 3 rfl Tryz.underlying128 rfl Tryz.sizeOf126) rfl ?_
  refine hr rfl (ev_ixAddrA rfl rfl Tryz.underlying126 Tryz.sizeOf125 (by omega) (by omega)) rfl ?_
  refine hr rfl (ev_fieldAddr 1 rfl Tryz.underlying125 rfl Tryz.sizeOf72) rfl ?_
  refine hr rfl (ev_loadN (u := [i64 b0.v0, i64 b0.v1]) rfl Tryz.isAgg72 Tryz.sizeOf72 zin (sto_ver hrow) rfl) rfl ?_
  refine hr rfl (ev_move rfl) rfl ?_
  refine hr rfl (ev_move rfl) rfl ?_
  refine hr rfl (ev_nil rfl) rfl ?_
  refine hr rfl (ev_fieldAddr 3 rfl Tryz.underlying128 rfl Tryz.sizeOf126) rfl ?_
  refine hr rfl (ev_ixAddrA rfl rfl Tryz.underlying126 Tryz.sizeOf125 (by omega) (by omega)) rfl ?_
  refine hr rfl (ev_fieldAddr 3 rfl Tryz.underlying125 rfl Tryz.sizeOf9) rfl ?_
  refine hr rfl (ev_load rfl Tryz.isAgg9 zin (sto_at hrow (by decide))) rfl ?_
  refine haN rfl (ac_storeAll rfl rfl (by first | exact bytesV_one _ | (simp [Value.oneCell']; done) | (simp only [List.forall_mem_cons, List.not_mem_nil, false_implies, implies_true, svVal_one, and_true, true_and, and_self]; first | done | simp [Value.oneCell'])) Tryz.sizeOf72 zrp (by first | rfl | assumption | (simp [*]; done) | (simp [*]; omega)) (by first | rfl | assumption | (simp [*]; done) | (simp [*]; omega))) ?_
  rintro v L' ⟨rfl, rfl⟩; refine ⟨zge, ?_⟩
  refine hnil ?_
  refine yas ?_
  refine hnoP' (kthn (hK5 _ _ ?_))
  clear hK5
  refine cret ?_
  first
    | (exfalso; omega; done)
    | (refine kretct Tryz.results35 rfl rfl Tryz.isAgg72 Tryz.sizeOf72 zin (rfl) (L1 := [sc s _ 128] ++ R) zge ?_
       rw [hgb]; exact ⟨_, ⟨rfl, rfl⟩, rfl⟩)
end W
end Go.Proofs
namespace Go.Proofs
open Go Go.Sl
namespace W
set_option linter.unusedVariables false
theorem cels_split {ps : List Nat} {q : Q3} {cs : List CellM} {i p : Nat} {C : CellM} (hp : ps[i]? = some p) (hc : cs[i]? = some C) :
   ∃ A B : Seg, celsP ps q cs = A ++ celP p q C ++ B ∧ ∀ C', celsP ps q (cs.set i C') = A ++ celP p q C' ++ B := by
 induction ps generalizing cs i with
 | nil => simp at hp
 | cons z ps ih =>
   cases cs with
   | nil => simp at hc
   | cons y0 cs =>
     cases i with
     | zero =>
       simp at hp hc
       subst hp; subst hc
       exact ⟨[], celsP ps q cs, by simp [celsP], fun C' => by simp [celsP]⟩
     | succ i =>
       obtain ⟨A, B, h1, h2⟩ := ih (cs := cs) (i := i) (by simpa using hp) (by simpa using hc)
       refine ⟨celP z q y0 ++ A, B, ?_, fun C' => ?_⟩
       · have : celsP (z :: ps) q (y0 :: cs) = celP z q y0 ++ celsP ps q cs := by simp [celsP]
         rw [this, h1]; simp
       · have : celsP (z :: ps) q ((y0 :: cs).set (i + 1) C') = celP z q y0 ++ celsP ps q (cs.set i C') := by simp [celsP]
         rw [this, h2]; simp
theorem cels_perm {q : Q3} {A B X : Seg} {d : Seg} {R : List Seg} : ([A ++ X ++ B, d] ++ R).flatten.Perm ([X, d] ++ (A :: B :: R)).flatten := by
 simp only [List.cons_append, List.nil_append, List.flatten_cons, List.append_assoc]
 refine (List.perm_append_comm_assoc A X _).trans (List.Perm.append_left _ ?_)
 refine (List.perm_append_comm_assoc A B _).trans ?_
 refine (List.Perm.append_left B (List.perm_append_comm_assoc A d _)).trans ?_
 refine (List.perm_append_comm_assoc B d _).trans (List.Perm.append_left _ ?_)
 exact List.perm_append_comm_assoc B A _
theorem cPutAt [Env] {R : List Seg} {ps : List Nat} {q : Q3} {cs : List CellM} {D : Dev} {i p : Nat} {C : CellM} {s : Bytes} (hp : ps[i]? = some p) (hc : cs[i]? = some C) (hC : C.ok D.l.length) (hD : D.ok) :
   Con Tryz.prog 89 [ptr p, str s] [celsP ps q cs, dev q D] R (Is (i64 (C.put D s).1) [celsP ps q (cs.set i (C.put D s).2.1), dev q (C.put D s).2.2]) := by
 obtain ⟨A, B, h1, h2⟩ := cels_split (q := q) hp hc
 rw [h1]
 refine (cPut (R := A :: B :: R) hC hD).via (cels_perm (q := q)) ?_
 rintro v L ⟨rfl, rfl⟩
 refine ⟨_, ⟨rfl, rfl⟩, ?_⟩
 rw [h2]
 exact (cels_perm (q := q)).symm
theorem bRaised [Env] {R : List Seg} {s t : Nat} {ps : List Nat} {q : Q3} {S : StoM} {D : Dev} {ep : Int} (hS : S.ok D ps) (he : inM63 ep) :
   Con Tryz.prog 67 [ptr s, i64 ep] [stoP s t ps S, celP t q S.tok, dev q D] R (Is (i64 (S.raised D ep).1) [stoP s t ps (S.raised D ep).2.1, celP t q (S.raised D ep).2.1.tok, dev q (S.raised D ep).2.2]) := by
 have henc := enc_of (tok_may he)
 have hlen := tok_len he
 refine con_enter Tryz.func67 Tryz.ntmps67 rfl rfl ?_
 unfold stoP
 refine cseq ?_; intro K1 hK1
 refine creg ?_
 refine yas ?_
 refine ynil' (kthn (hK1 _ _ ?_))
 clear hK1
 refine cseq ?_; intro K2 hK2
 refine cseq ?_; intro K3 hK3
 refine creg ?_
 refine ymv ?_
 refine ymv ?_
 refine yni ?_
 refine y (ev_fieldAddr 1 rfl Tryz.underlying128 rfl Tryz.sizeOf2) rfl ?_
 refine y (ev_load rfl Tryz.isAgg2 zin rfl) rfl ?_
 refine y (ev_leq rfl rfl) rfl ?_
 refine ynil' (kthn (hK3 _ _ ?_))
 clear hK3
 refine ccond rfl (fun h8 => ?_) (fun h8 => ?_)
 ·(try simp only [sH] at h8)
  have hra : S.raised D ep = (0, S, D) := by unfold StoM.raised; rw [if_pos (by omega)]
  refine cseq ?_; intro K4 hK4
  refine creg ?_
  refine yas ?_
  refine ynil' (kthn (hK4 _ _ ?_))
  clear hK4
  refine cret (kthr ?_)
  first
    | (exfalso; omega; done)
    | (refine kretv Tryz.results67 rfl (L1 := [sc s _ 128, celP t q _, dev q _] ++ R) zge ?_
       rw [hra]; exact ⟨_, ⟨rfl, rfl⟩, rfl⟩)
 ·(try simp only [sH] at h8)
  have hra : S.raised D ep = ((S.tok.put D (recB (tokR ep))).1, { S with tok := (S.tok.put D (recB (tokR ep))).2.1, epoch := if (S.tok.put D (recB (tokR ep))).1 = 0 then ep else S.epoch }, (S.tok.put D (recB (tokR ep))).2.2) := by unfold StoM.raised; rw [if_neg (by omega)]
  refine cskip' (kthn (hK2 _ _ ?_))
  clear hK2
  refine cseq ?_; intro K5 hK5
  refine creg ?_
  refine ymv ?_
  refine ya (ac_bsliceR rfl Tryz.underlying53 Tryz.sizeOf2 Tryz.zeroValue2 rfl rfl rfl rfl ⟨⟨_, _, rfl, (by first | rfl | simp), (by first | decide | simp)⟩, trivial⟩ (by dsimp [fillL, splice, vcells, reps] <;> rfl)) rfl ?_
  rintro v L' ⟨b16, rfl, rfl⟩
  refine y (ev_build (zs := _) rfl Tryz.underlying100 Tryz.zeroValue100 rfl (.cons Tryz.sizeOf3 (.cons Tryz.sizeOf53 (.cons Tryz.sizeOf98 .nil))) ⟨⟨_, _, rfl, (by first | rfl | simp), (by first | decide | simp)⟩, ⟨⟨_, _, rfl, (by first | rfl | simp), (by first | decide | simp)⟩, trivial⟩⟩ (by dsimp [fillL, splice, vcells] <;> rfl)) rfl ?_
  refine ycall (cEncode (r := tokR ep) ?hn13 ?ht13 ?sx13) rfl Tryz.call88 ztk rfl ?_
  case hn13 => exact rdV_in zin rfl rfl
  case ht13 => exact rdV_nil
  case sx13 => exact (tok_may he).num
  rintro v L' ⟨s18, rfl, ok18, rfl⟩
  rw [henc] at ok18 ⊢; dsimp only at ok18 ⊢
  generalize recB (tokR ep) = rb at *
  refine ymv ?_
  refine yxt ?_
  refine yxt ?_
  refine yas ?_
  refine yas ?_
  refine ynil' (kthn (hK5 _ _ ?_))
  clear hK5
  refine cseq ?_; intro K6 hK6
  refine cdraw 6 [(0, true), (1, true), (2, true), (3, true), (4, true), (5, true)] ([sc s _ 128, svSeg s18 5 (bytesV rb)] ++ R) Tryz.mixed (by kernel_rfl) zge ?_
  refine hr rfl (ev_move rfl) rfl ?_
  refine hr rfl (ev_nil rfl) rfl ?_
  refine hr rfl (ev_fieldAddr 0 rfl Tryz.underlying128 rfl Tryz.sizeOf88) rfl ?_
  refine hr rfl (ev_load rfl Tryz.isAgg88 zin rfl) rfl ?_
  refine hr rfl (ev_move rfl) rfl ?_
  refine hr rfl (ev_toStrB (rdY_sv (L := [svSeg s18 5 (bytesV rb)]) .z ok18).rd.bytes zge rfl Tryz.underlying50 Tryz.underlying9 Tryz.underlying5) rfl ?_
  refine hnil ?_
  refine ycall (cPut ?cok25 ?ok25) rfl Tryz.call89 ztk rfl ?_
  case cok25 => exact hS.tok
  case ok25 => exact hS.d
  rintro v L' ⟨rfl, rfl⟩
  obtain ⟨r, hr0⟩ : ∃ r, S.tok.put D rb = r := ⟨_, rfl⟩
  rw [hr0] at hra ⊢
  refine yas ?_
  refine hnoP' (kthn (hK6 _ _ ?_))
  clear hK6
  refine cseq ?_; intro K7 hK7
  refine cseq ?_; intro K8 hK8
  refine creg ?_
  refine ymv ?_
  refine y (ev_eql rfl rfl) rfl ?_
  refine ynil' (kthn (hK8 _ _ ?_))
  clear hK8
  refine ccond rfl (fun h29 => ?_) (fun h29 => ?_)
  ·(try simp only [sH] at h29)
   rw [if_pos h29] at hra
   refine creg ?_
   refine ymv ?_
   refine ymv ?_
   refine yni ?_
   refine y (ev_fieldAddr 1 rfl Tryz.underlying128 rfl Tryz.sizeOf2) rfl ?_
   refine ya0 (ac_store rfl rfl (by first | rfl | exact svVal_one _ _ | assumption) Tryz.sizeOf2 zrp rfl rfl) ?_
   rintro v L' ⟨rfl, rfl⟩
   refine ynil' (kthn (hK7 _ _ ?_))
   clear hK7
   refine cseq ?_; intro K9 hK9
   refine creg ?_
   refine ymv ?_
   refine yas ?_
   refine ynil' (kthn (hK9 _ _ ?_))
   clear hK9
   refine cret ?_
   first
     | (exfalso; omega; done)
     | (refine kretv Tryz.results67 rfl (L1 := [sc s _ 128, celP t q _, dev q _] ++ R) zge ?_
        rw [hra]; exact ⟨_, ⟨rfl, rfl⟩, rfl⟩)
  ·(try simp only [sH] at h29)
   rw [if_neg h29] at hra
   refine cskip' (kthn (hK7 _ _ ?_))
   clear hK7
   refine cseq ?_; intro K10 hK10
   refine creg ?_
   refine ymv ?_
   refine yas ?_
   refine ynil' (kthn (hK10 _ _ ?_))
   clear hK10
   refine cret ?_
   first
     | (exfalso; omega; done)
     | (refine kretv Tryz.results67 rfl (L1 := [sc s _ 128, celP t q _, dev q _] ++ R) zge ?_
        rw [hra]; exact ⟨_, ⟨rfl, rfl⟩, rfl⟩)
end W
end Go.Proofs
