/- A part of the proof: contracts and plain lemmas, each without conditions beyond those that it names. -/
import Derived.Test.YtediodfmkbfomaaGreatS2
import Derived.Test.YtediodfmkbfomaaGreatGC
set_option linter.unusedVariables false
set_option linter.unusedSimpArgs false
set_option linter.constructorNameAsVariable false
namespace Go.Proofs
open Go Go.Sl
namespace W
set_option linter.unusedVariables false
theorem crash [Env] {R : List Seg} {p la m : Nat} {D : Dev} {kv : Value} {ks : Keeps} (hD : D.ok) (hk : RdV R kv ks.length (keepsV ks)) :
   Con Tryz.prog 31 [ptr p, kv] (devS p la m D) R (Is (.tuple #[]) (devS p la m (D.crash ks))) := by
 have hle := es_le hD
 refine con_enter Tryz.func31 Tryz.ntmps31 rfl rfl ?_
 show Sc _ _ _ _ _ (devP p la m D :: devL la D :: devM m D :: R)
 refine cseq ?_; intro K1 hK1
 refine cseq ?_; intro K2 hK2
 refine creg ?_
 refine ymv ?_
 refine ycall (pending ?ok2) rfl Tryz.call52 ztk rfl ?_
 case ok2 => exact hD
 rintro v L' ⟨s8, rfl, ok8, rfl⟩
 first
   | refine y (ev_len rfl Tryz.underlying113) rfl ?_
   | refine y (ev_lenSv rfl Tryz.underlying113 (by assumption)) rfl ?_
   | refine y (ev_lenV rfl Tryz.underlying113 (RdV.lenVal (by assumption))) rfl ?_
   | refine y (ev_lenV rfl Tryz.underlying113 (RdB.lenVal (by assumption))) rfl ?_
 refine ymv ?_
 refine ynil' (kthn (hK2 _ _ ?_))
 clear hK2
 refine cblock ?_
 refine cloop (A := Nat × List Bytes) (fun x => [(10, i64 x.1), (9, i64 D.es.length), (8, svVal s8 D.es.length), (0, ptr p), (1, kv)]) (fun x => [devP p la m D, sc la (flat x.2) 116, devM m D, svSeg s8 3 (intsV D.pending)] ++ R) (fun x => (∀ s ∈ x.2, s.length = 144) ∧ x.2.length = D.l.length ∧ x.1 ≤ D.es.length ∧ crashL D (D.pending.drop x.1) (ks.drop x.1) x.2 = crashL D D.pending ks D.l) (fun x => D.es.length - x.1) ((0, D.l)) ?_ zsub zge ?_
 · exact ⟨hD.sec, rfl, Nat.zero_le _, rfl⟩
 rintro ⟨k, ls⟩ hI1 KL1 hL1
 obtain ⟨hls, hll, hkl, hcr⟩ := hI1; dsimp only at hls hll hkl hcr ⊢; unfold devP devM
 have hp8 : RdV [svSeg s8 3 (intsV D.pending)] (svVal s8 D.es.length) D.es.length (intsV D.pending) := rdV_sv .z ok8
 refine cseq ?_; intro K3 hK3
 refine creg ?_
 refine y (ev_lss rfl rfl) rfl ?_
 refine ynil' (kthn (hK3 _ _ ?_))
 clear hK3
 refine cseq ?_; intro K4 hK4
 refine ccond rfl (fun h6 => ?_) (fun h6 => ?_)
 ·(try simp only [sH] at h6)
  obtain ⟨i, s, o0, hi, hs, hi0, hi1, hs1, -⟩ := pend_get hD (k := k) (by omega); obtain ⟨old, ho⟩ := at_some hi0 (hll ▸ hi1)
  have ho1 := hls _ (List.mem_of_getElem? ho)
  refine cskip' (kthn (hK4 _ _ ?_))
  clear hK4
  refine cseq ?_; intro K5 hK5
  refine cblock ?_
  refine cseq ?_; intro K6 hK6
  refine creg ?_
  refine ymv ?_
  first
    | refine y (ev_ixAddr rfl rfl Tryz.underlying113 Tryz.sizeOf3 (by omega) (by omega)) rfl ?_
    | refine y (ev_ixV (by assumption) rfl rfl Tryz.underlying113 Tryz.sizeOf3 (by omega) (by omega)) rfl ?_
  refine y (ev_loadV k hp8 zge rfl Tryz.isAgg3 (by simp) (intsV_get hi)) rfl ?_
  refine yas ?_
  refine yas ?_
  refine ynil' (kthn (hK6 _ _ ?_))
  clear hK6
  refine cseq ?_; intro K7 hK7
  refine cseq ?_; intro K8 hK8
  refine creg ?_
  refine ymv ?_
  refine ymv ?_
  first
    | refine y (ev_len rfl Tryz.underlying57) rfl ?_
    | refine y (ev_lenSv rfl Tryz.underlying57 (by assumption)) rfl ?_
    | refine y (ev_lenV rfl Tryz.underlying57 (RdV.lenVal (by assumption))) rfl ?_
    | refine y (ev_lenV rfl Tryz.underlying57 (RdB.lenVal (by assumption))) rfl ?_
  refine y (ev_geq rfl rfl) rfl ?_
  refine ynil' (kthn (hK8 _ _ ?_))
  clear hK8
  refine ccond rfl (fun h16 => ?_) (fun h16 => ?_)
  ·(try simp only [sH] at h16)
   have hfin : crashL D D.pending ks D.l = ls := by rw [← hcr, show ks.drop k = [] from List.drop_eq_nil_of_le (by omega), crashL_nil']
   refine cexit (kthx (kbp rfl (kthx (kthx (kbx (kthn (hK1 _ _ ?_)))))))
   clear hK1
   refine creg ?_
   refine ymv ?_
   refine ycall (up) rfl Tryz.call53 ztk rfl ?_
   rintro v L' ⟨rfl, rfl⟩
   refine ynil' ?_
   first
     | (exfalso; omega; done)
     | (refine kendv0 Tryz.results31 (L1 := [sc p _ _, sc la _ _, so m _] ++ R) zge ?_
        exact ⟨_, ⟨by simp [Dev.crash, Dev.up, devP, devL, devM, *], rfl⟩, by simp [Dev.crash, Dev.up, devP, devL, devM, *]⟩)
  ·(try simp only [sH] at h16)
   obtain ⟨x, hx⟩ : ∃ x, ks[k]? = some x := ⟨_, List.getElem?_eq_getElem (by omega)⟩
   obtain ⟨hx1, hx2⟩ := keepsV_get ks k x hx
   have hst := crashL_step hi hx hs ho hcr
   refine cskip' (kthn (hK7 _ _ ?_))
   clear hK7
   refine cseq ?_; intro K9 hK9
   refine creg ?_
   refine ymv ?_
   refine yni ?_
   refine y (ev_fieldAddr 1 rfl Tryz.underlying112 rfl Tryz.sizeOf110) rfl ?_
   refine y (ev_load rfl Tryz.isAgg110 zin rfl) rfl ?_
   refine ymv ?_
   refine y (ev_lookups (by rw [kvs_get, hs]; rfl) rfl rfl Tryz.underlying110 Tryz.underlying3 Tryz.zeroValue116 zin) rfl ?_
   refine ya (ac_alloc (vs := bytesV zsec) Tryz.zeroValue116 Tryz.zc) rfl ?_
   rintro v L' ⟨b6, rfl, rfl⟩
   refine ya0 (ac_storeAll rfl rfl (by first | exact bytesV_one _ | (simp [Value.oneCell']; done) | (simp only [List.forall_mem_cons, List.not_mem_nil, false_implies, implies_true, svVal_one, and_true, true_and, and_self]; first | done | simp [Value.oneCell'])) Tryz.sizeOf116 zrp (by first | rfl | assumption | (simp [*]; done) | (simp [*]; omega)) (by first | rfl | assumption | (simp [*]; done) | (simp [*]; omega))) ?_
   rintro v L' ⟨rfl, rfl⟩
   refine ynil' (kthn (hK9 _ _ ?_))
   clear hK9
   refine cseq ?_; intro K10 hK10
   refine creg ?_
   refine ymv ?_
   refine ymv ?_
   first
     | refine y (ev_ixAddr rfl rfl Tryz.underlying57 Tryz.sizeOf71 (by omega) (by omega)) rfl ?_
     | refine y (ev_ixV (by assumption) rfl rfl Tryz.underlying57 Tryz.sizeOf71 (by omega) (by omega)) rfl ?_
   refine y (ev_fieldAddr 0 rfl Tryz.underlying71 rfl Tryz.sizeOf3) rfl ?_
   refine y (ev_loadV (k * 2) hk zge rfl Tryz.isAgg3 (by simp) hx1) rfl ?_
   refine ynil' (kthn (hK10 _ _ ?_))
   clear hK10
   refine cblock ?_
   refine cseq ?_; intro K11 hK11
   refine creg ?_
   refine y (ev_eql rfl rfl) rfl ?_
   refine yas ?_
   refine ynil' (kthn (hK11 _ _ ?_))
   clear hK11
   refine ccond rfl (fun h34 => ?_) (fun h34 => ?_)
   ·(try simp only [sH] at h34)
    refine cdraw 7 [(0, true), (1, true), (2, true), (3, true), (4, true), (5, true), (6, true)] (_) Tryz.mixed (by kernel_rfl) .refl ?_
    refine hr rfl (ev_move rfl) rfl ?_
    refine hr rfl (ev_nil rfl) rfl ?_
    refine hr rfl (ev_fieldAddr 0 rfl Tryz.underlying112 rfl Tryz.sizeOf109) rfl ?_
    refine hr rfl (ev_load rfl Tryz.isAgg109 zin rfl) rfl ?_
    refine hr rfl (ev_move rfl) rfl ?_
    refine hr rfl (ev_loadAll rfl Tryz.isAgg116 Tryz.sizeOf116 zin (by first | rfl | assumption | (simp [*]; done) | (simp [*]; omega))) rfl ?_
    first
      | refine hr rfl (ev_ixAddr rfl rfl Tryz.underlying109 Tryz.sizeOf116 (by omega) (by omega)) rfl ?_
      | refine hr rfl (ev_ixV (by assumption) rfl rfl Tryz.underlying109 Tryz.sizeOf116 (by omega) (by omega)) rfl ?_
    refine hnil ?_
    refine ya0 (ac_storeN (vs' := flat (ls.set i.toNat s)) rfl rfl (bytesV_one _) Tryz.sizeOf116 zrp (by simp [hs1]) (by rw [flat_length hls]; omega) (by rw [Nat.zero_add]; exact flat_set hls (by omega))) ?_; rintro v L' ⟨rfl, rfl⟩
    refine hnoP' (kbn (kbn (kthn (hK5 _ _ ?_))))
    clear hK5
    refine creg ?_
    refine y (ev_add rfl rfl) rfl ?_
    rw [show IntKind.i64.wrap ((k:Int) + 1) = ((k+1 : Nat) : Int) by rw [wr (by omega) (by omega)]; rfl]
    refine ymv ?_
    refine ynil' (kthn ?_)
    first
      | exact hL1 (k + 1, ls.set i.toNat s) ⟨set_len hls hs1, by simpa using hll, by dsimp only; omega, by rwa [keep1_a (by assumption)] at hst⟩ (by dsimp only; omega) _ _ zsub zge
      | exact hL1 (k + 1, ls) ⟨hls, hll, by dsimp only; omega, by rwa [keep1_c (by assumption) (by assumption), set_same ho] at hst⟩ (by dsimp only; omega) _ _ zsub zge
      | exact hL1 (k + 1, ls.set i.toNat (s.take (torn x.2) ++ old.drop (torn x.2))) ⟨set_len hls (by simp [hs1, ho1]; unfold torn; omega), by simpa using hll, by dsimp only; omega, by rwa [keep1_b (by assumption)] at hst⟩ (by dsimp only; omega) _ _ zsub zge
   ·(try simp only [sH] at h34)
    refine cseq ?_; intro K12 hK12
    refine creg ?_
    refine y (ev_eql rfl rfl) rfl ?_
    refine yas ?_
    refine ynil' (kthn (hK12 _ _ ?_))
    clear hK12
    refine ccond rfl (fun h47 => ?_) (fun h47 => ?_)
    ·(try simp only [sH] at h47)
     refine cdraw 15 [(0, true), (1, true), (2, true), (3, true), (4, true), (5, true), (6, true), (7, true), (8, true), (9, true), (10, true), (11, true), (12, true), (13, true), (14, true)] (_) Tryz.mixed (by kernel_rfl) .refl ?_
     refine hr rfl (ev_move rfl) rfl ?_
     refine hr rfl (ev_nil rfl) rfl ?_
     refine hr rfl (ev_fieldAddr 0 rfl Tryz.underlying112 rfl Tryz.sizeOf109) rfl ?_
     refine hr rfl (ev_load rfl Tryz.isAgg109 zin rfl) rfl ?_
     refine hr rfl (ev_move rfl) rfl ?_
     first
       | refine hr rfl (ev_ixAddr rfl rfl Tryz.underlying109 Tryz.sizeOf116 (by omega) (by omega)) rfl ?_
       | refine hr rfl (ev_ixV (by assumption) rfl rfl Tryz.underlying109 Tryz.sizeOf116 (by omega) (by omega)) rfl ?_
     refine hr rfl (ev_slA rfl Tryz.underlying116 Tryz.sizeOf5) rfl ?_
     refine hr rfl (ev_move rfl) rfl ?_
     refine hr rfl (ev_move rfl) rfl ?_
     first
       | refine hr rfl (ev_ixAddr rfl rfl Tryz.underlying57 Tryz.sizeOf71 (by omega) (by omega)) rfl ?_
       | refine hr rfl (ev_ixV (by assumption) rfl rfl Tryz.underlying57 Tryz.sizeOf71 (by omega) (by omega)) rfl ?_
     refine hr rfl (ev_fieldAddr 1 rfl Tryz.underlying71 rfl Tryz.sizeOf3) rfl ?_
     refine hr rfl (ev_loadV (k * 2 + 1) hk zge rfl Tryz.isAgg3 (by simp; omega) hx2) rfl ?_
     refine hr rfl (ev_max rfl rfl) rfl ?_
     refine hr rfl (ev_min rfl rfl) rfl ?_
     refine hr rfl (ev_slAh rfl rfl Tryz.underlying116 Tryz.sizeOf5 (by omega) (by omega)) rfl ?_
     refine hnil ?_
     refine ya (ac_copyB (bs := s.take (torn x.2)) (k := torn x.2) (vs' := flat (ls.set i.toNat (s.take (torn x.2) ++ old.drop (torn x.2)))) rfl rfl Tryz.underlying22 Tryz.sizeOf5 ?rd63 ?kk63 zrp ?fit63 ?eq63) rfl ?_
     case rd63 => exact rdB_torn hs1 zin
     case kk63 => have := torn_le x.2; simp [hs1]; omega
     case fit63 => have := torn_le x.2; rw [flat_length hls]; omega
     case eq63 => rw [Nat.zero_add]; exact flat_torn hls ho hs1 (torn_le _)
     rintro v L' ⟨rfl, rfl⟩
     refine hnoP' (kbn (kbn (kthn (hK5 _ _ ?_))))
     clear hK5
     refine creg ?_
     refine y (ev_add rfl rfl) rfl ?_
     rw [show IntKind.i64.wrap ((k:Int) + 1) = ((k+1 : Nat) : Int) by rw [wr (by omega) (by omega)]; rfl]
     refine ymv ?_
     refine ynil' (kthn ?_)
     first
       | exact hL1 (k + 1, ls.set i.toNat s) ⟨set_len hls hs1, by simpa using hll, by dsimp only; omega, by rwa [keep1_a (by assumption)] at hst⟩ (by dsimp only; omega) _ _ zsub zge
       | exact hL1 (k + 1, ls) ⟨hls, hll, by dsimp only; omega, by rwa [keep1_c (by assumption) (by assumption), set_same ho] at hst⟩ (by dsimp only; omega) _ _ zsub zge
       | exact hL1 (k + 1, ls.set i.toNat (s.take (torn x.2) ++ old.drop (torn x.2))) ⟨set_len hls (by simp [hs1, ho1]; unfold torn; omega), by simpa using hll, by dsimp only; omega, by rwa [keep1_b (by assumption)] at hst⟩ (by dsimp only; omega) _ _ zsub zge
    ·(try simp only [sH] at h47)
     refine cskip' (kbn (kbn (kthn (hK5 _ _ ?_))))
     clear hK5
     refine creg ?_
     refine y (ev_add rfl rfl) rfl ?_
     rw [show IntKind.i64.wrap ((k:Int) + 1) = ((k+1 : Nat) : Int) by rw [wr (by omega) (by omega)]; rfl]
     refine ymv ?_
     refine ynil' (kthn ?_)
     first
       | exact hL1 (k + 1, ls.set i.toNat s) ⟨set_len hls hs1, by simpa using hll, by dsimp only; omega, by rwa [keep1_a (by assumption)] at hst⟩ (by dsimp only; omega) _ _ zsub zge
       | exact hL1 (k + 1, ls) ⟨hls, hll, by dsimp only; omega, by rwa [keep1_c (by assumption) (by assumption), set_same ho] at hst⟩ (by dsimp only; omega) _ _ zsub zge
       | exact hL1 (k + 1, ls.set i.toNat (s.take (torn x.2) ++ old.drop (torn x.2))) ⟨set_len hls (by simp [hs1, ho1]; unfold torn; omega), by simpa using hll, by dsimp only; omega, by rwa [keep1_b (by assumption)] at hst⟩ (by dsimp only; omega) _ _ zsub zge
 ·(try simp only [sH] at h6)
  have hfin : crashL D D.pending ks D.l = ls := by rw [← hcr, show D.pending.drop k = [] from List.drop_eq_nil_of_le (by rw [pending_length]; omega), crashL_nil]
  refine cexit (kthx (kthx (kbx (kthn (hK1 _ _ ?_)))))
  clear hK1
  refine creg ?_
  refine ymv ?_
  refine ycall (up) rfl Tryz.call53 ztk rfl ?_
  rintro v L' ⟨rfl, rfl⟩
  refine ynil' ?_
  first
    | (exfalso; omega; done)
    | (refine kendv0 Tryz.results31 (L1 := [sc p _ _, sc la _ _, so m _] ++ R) zge ?_
       exact ⟨_, ⟨by simp [Dev.crash, Dev.up, devP, devL, devM, *], rfl⟩, by simp [Dev.crash, Dev.up, devP, devL, devM, *]⟩)
end W
end Go.Proofs
namespace Go.Proofs
open Go Go.Sl
namespace W
set_option linter.unusedVariables false
abbrev Q3 := Nat × Nat × Nat
def dev (q : Q3) (D : Dev) : Seg := devP q.1 q.2.1 q.2.2 D ++ devL q.2.1 D ++ devM q.2.2 D
abbrev dp (q : Q3) : Value := ptr q.1
abbrev nilP : Value := .pointer none
theorem dev_in {q : Q3} {D : Dev} {R : List Seg} : ([dev q D] ++ R).flatten.Perm (devS q.1 q.2.1 q.2.2 D ++ R).flatten := by simp [dev]
theorem dev_out {q : Q3} {D : Dev} {R : List Seg} : (devS q.1 q.2.1 q.2.2 D ++ R).flatten.Perm ([dev q D] ++ R).flatten := dev_in.symm
theorem devPM_in {q : Q3} {D : Dev} {R : List Seg} : ([dev q D] ++ R).flatten.Perm ([devP q.1 q.2.1 q.2.2 D, devM q.2.2 D] ++ (devL q.2.1 D :: R)).flatten := by
 simp only [dev, List.cons_append, List.nil_append, List.flatten_cons, List.append_assoc]
 exact List.Perm.append_left _ (List.perm_append_comm_assoc _ _ _)
theorem devP_in {q : Q3} {D : Dev} {R : List Seg} : ([dev q D] ++ R).flatten.Perm ([devP q.1 q.2.1 q.2.2 D] ++ (devL q.2.1 D :: devM q.2.2 D :: R)).flatten := by
 simp [dev]
theorem secNew [Env] {R : List Seg} {n : Nat} (hn : n ≤ 512) : Con Tryz.prog 34 [i64 n] [] R (fun v L' => ∃ q, v = dp q ∧ L' = [dev q (Dev.new n)]) :=
 (new hn).via (List.Perm.refl _) (fun _ _ ⟨p, la, m, h1, h2⟩ => ⟨_, ⟨(p, la, m), h1, rfl⟩, h2 ▸ dev_out (q := (p, la, m))⟩)
theorem secWrite [Env] {R : List Seg} {q : Q3} {D : Dev} {i : Int} {bv : Value} {bs : Bytes} (hD : D.ok) (hb : RdB R bv bs) :
   Con Tryz.prog 74 [dp q, i64 i, bv] [dev q D] R (Is (i64 (D.write i bs).1) [dev q (D.write i bs).2]) :=
 (write hD (hb.mono (.drop .refl))).via devPM_in (fun _ _ ⟨h1, h2⟩ => ⟨_, ⟨h1, rfl⟩, h2 ▸ (by rw [show devL q.2.1 D = devL q.2.1 (D.write i bs).2 by unfold devL; rw [write_l]]; exact devPM_in.symm)⟩)
theorem secBarrier [Env] {R : List Seg} {q : Q3} {D : Dev} (hD : D.ok) : Con Tryz.prog 70 [dp q] [dev q D] R (Is (i64 D.barrier.1) [dev q D.barrier.2]) :=
 (barrier hD).via dev_in (fun _ _ ⟨h1, h2⟩ => ⟨_, ⟨h1, rfl⟩, h2 ▸ dev_out⟩)
theorem secCrash [Env] {R : List Seg} {q : Q3} {D : Dev} {kv : Value} {ks : Keeps} (hD : D.ok) (hk : RdV R kv ks.length (keepsV ks)) : Con Tryz.prog 31 [dp q, kv] [dev q D] R (Is (.tuple #[]) [dev q (D.crash ks)]) :=
 (crash hD hk).via dev_in (fun _ _ ⟨h1, h2⟩ => ⟨_, ⟨h1, rfl⟩, h2 ▸ dev_out⟩)
theorem secFuse [Env] {R : List Seg} {q : Q3} {D : Dev} {i : Int} : Con Tryz.prog 30 [dp q, i64 i] [dev q D] R (Is (.tuple #[]) [dev q (D.setFuse i)]) :=
 setFuse.via devP_in (fun _ _ ⟨h1, h2⟩ => ⟨_, ⟨h1, rfl⟩, h2 ▸ devP_in.symm⟩)
theorem secDead [Env] {R : List Seg} {q : Q3} {D : Dev} : Con Tryz.prog 78 [dp q] [dev q D] R (Is (.bool D.dead) [dev q D]) :=
 dead.via devP_in (fun _ _ ⟨h1, h2⟩ => ⟨_, ⟨h1, rfl⟩, h2 ▸ devP_in.symm⟩)
theorem secSectors [Env] {R : List Seg} {q : Q3} {D : Dev} : Con Tryz.prog 59 [dp q] [dev q D] R (Is (i64 D.l.length) [dev q D]) :=
 sectors.via devP_in (fun _ _ ⟨h1, h2⟩ => ⟨_, ⟨h1, rfl⟩, h2 ▸ devP_in.symm⟩)
theorem secRead [Env] {R : List Seg} {q : Q3} {D : Dev} {i : Int} (hD : D.ok) : Con Tryz.prog 79 [dp q, i64 i] [dev q D] R (KRead D i [dev q D]) :=
 (read hD).via dev_in (fun _ _ h => h.elim (fun ⟨h0, h1, h2⟩ => ⟨_, .inl ⟨h0, h1, rfl⟩, h2 ▸ dev_out⟩) (fun ⟨h0, s, h1, h2, h3⟩ => ⟨_, .inr ⟨h0, s, h1, h2, rfl⟩, h3 ▸ (by
   simp only [List.cons_append, List.flatten_cons]
   exact List.Perm.append_left _ (by simpa using dev_out))⟩))
end W
end Go.Proofs
namespace Go.Proofs
open Go Go.Sl
namespace W
set_option linter.unusedVariables false
abbrev badV : Value := .iface 152 (.agg #[])
abbrev rdrP (p : Nat) (v : Value) : Seg := sc p [v] 155
theorem cTake [Env] {R : List Seg} {p : Nat} {v : Value} {bs : Bytes} {k : Int} (hb : RdY R v bs) (h0 : 0 ≤ k) :
   ConP Tryz.prog 98 [ptr p, i64 k] [rdrP p v] R (fun u L' => k ≤ bs.length ∧ u = vSl v 0 k.toNat 1 ∧ L' = [rdrP p (vSl v k.toNat bs.length 1)]) badV (fun L' => (bs.length : Int) < k ∧ L' = [rdrP p v]) := by
 have hv := hb.rd
 refine conP_enter Tryz.func98 Tryz.ntmps98 rfl rfl ?_
 refine cseq ?_; intro K1 hK1
 refine creg ?_
 refine yas ?_
 refine ynil' (kthn (hK1 _ _ ?_))
 clear hK1
 refine cseq ?_; intro K2 hK2
 refine cseq ?_; intro K3 hK3
 refine creg ?_
 refine ymv ?_
 refine ymv ?_
 refine yni ?_
 refine y (ev_fieldAddr 0 rfl Tryz.underlying155 rfl Tryz.sizeOf22) rfl ?_
 refine y (ev_load rfl Tryz.isAgg22 zin rfl) rfl ?_
 first
   | refine y (ev_len rfl Tryz.underlying22) rfl ?_
   | refine y (ev_lenSv rfl Tryz.underlying22 (by assumption)) rfl ?_
   | refine y (ev_lenV rfl Tryz.underlying22 (RdV.lenVal (by assumption))) rfl ?_
   | refine y (ev_lenV rfl Tryz.underlying22 (RdB.lenVal (by assumption))) rfl ?_
 refine y (ev_gtr rfl rfl) rfl ?_
 refine ynil' (kthn (hK3 _ _ ?_))
 clear hK3
 refine ccond rfl (fun h9 => ?_) (fun h9 => ?_)
 ·(try simp only [sH] at h9)
  refine creg ?_
  refine y (ev_build (zs := _) rfl Tryz.underlying152 Tryz.zeroValue152 rfl .nil trivial (by dsimp [fillL, splice, vcells] <;> rfl)) rfl ?_
  refine y (ev_iface rfl (by kernel_rfl)) rfl ?_
  refine ypanic rfl ?_
  refine kthp ?_
  refine kpan (L1 := [sc p _ 155] ++ R) zge ?_
  exact ⟨_, ⟨by omega, rfl⟩, rfl⟩
 ·(try simp only [sH] at h9)
  refine cskip' (kthn (hK2 _ _ ?_))
  clear hK2
  refine cseq ?_; intro K4 hK4
  refine creg ?_
  refine ymv ?_
  refine yni ?_
  refine y (ev_fieldAddr 0 rfl Tryz.underlying155 rfl Tryz.sizeOf22) rfl ?_
  refine y (ev_load rfl Tryz.isAgg22 zin rfl) rfl ?_
  refine ymv ?_
  refine y (ev_slHV hv hb.cap rfl rfl Tryz.underlying22 Tryz.sizeOf5 (by omega) (by omega)) rfl ?_
  refine yas ?_
  refine ynil' (kthn (hK4 _ _ ?_))
  clear hK4
  refine cseq ?_; intro K5 hK5
  refine creg ?_
  refine ymv ?_
  refine ymv ?_
  refine yni ?_
  refine y (ev_fieldAddr 0 rfl Tryz.underlying155 rfl Tryz.sizeOf22) rfl ?_
  refine y (ev_load rfl Tryz.isAgg22 zin rfl) rfl ?_
  refine ymv ?_
  refine y (ev_slLV hv rfl rfl Tryz.underlying22 Tryz.sizeOf5 (by omega) (by omega)) rfl ?_
  refine yni ?_
  refine y (ev_fieldAddr 0 rfl Tryz.underlying155 rfl Tryz.sizeOf22) rfl ?_
  refine ya0 (ac_store rfl rfl (vSl_one hv.lenVal) Tryz.sizeOf22 zrp rfl rfl) ?_
  rintro v L' ⟨rfl, rfl⟩
  refine ynil' (kthn (hK5 _ _ ?_))
  clear hK5
  refine cseq ?_; intro K6 hK6
  refine creg ?_
  refine ymv ?_
  refine yas ?_
  refine ynil' (kthn (hK6 _ _ ?_))
  clear hK6
  refine cret ?_
  first
    | (exfalso; omega; done)
    | (refine kretvP Tryz.results98 rfl (L1 := [sc p _ 155] ++ R) zge ?_
       exact ⟨_, ⟨by omega, rfl, rfl⟩, rfl⟩)
end W
end Go.Proofs
