/- A part of the proof: contracts and plain lemmas, each without conditions beyond those that it names. -/
import Derived.Shelf.Lay
import Derived.Shelf.LaySoft
import Derived.Shelf.SlIterI.Nil
import Derived.Shelf.SortM.Plain
import Derived.Shelf.SortM.SortNone
import Derived.Ground.GgzProg
import Derived.Ground.SlgmProg
import Derived.Test.YtebijajimmjknaaGreatProg
import Derived.Test.YtebijajimmjknaaGreatS1
import Derived.Test.YtebijajimmjknaaGreatGC
set_option linter.unusedVariables false
set_option linter.unusedSimpArgs false
set_option linter.constructorNameAsVariable false
namespace Go.Proofs
open Go.Shelf
shelf_try shelf_lay_g SlLaysZI.n7 Ggz 7 at Tryz 85 as Tryz.keysA
shelf_try shelf_lay_g SlLaysZI.n6 Ggz 6 at Tryz 84 as Tryz.sortedA
shelf_try shelf_lay_g SlLaysM.n5 Slgm 5 at Tryz 100 as Tryz.sortA
shelf_tried
end Go.Proofs
namespace Go.Proofs
open Go.RowKit Go.Maps Go.Sort Go.Shelf
theorem Tryz.sortsA (m : Nat) : AnyZI.SortsIn Tryz.prog Tryz.sortedA_ren Fence.wide m :=
 ⟨fun blk off cap ss W hH hblk hsz => callsIn_wide.2 (AnyM.slices_Sort_int Tryz.sortA blk off cap ss W hH hblk hsz),
  fun p cap W => callsIn_wide.2 (AnyM.slices_Sort_int_none Tryz.sortA p cap W)⟩
namespace W
open Go.Sl
set_option linter.unusedVariables false
abbrev keysF : Nat := 101
theorem ent1 : Enters Tryz.prog 100 := enters_of Tryz.func100 (by kernel_rfl) rfl
theorem ent2 : Enters Tryz.prog keysF := enters_of Tryz.func101 (by kernel_rfl) rfl
abbrev seqV (g : Nat) : Value := .func (.func 101) #[] #[ptr g]
theorem mapsKeys [Env] {R : List Seg} {mb : Nat} : Con Tryz.prog 85 [.map (some mb)] [] R
   (fun v L' => ∃ g, v = seqV g ∧ L' = [sc g [.map (some mb)] 81]) := by
 intro w hh
 have cK : CallsIn Fence.wide 5 Tryz.prog 85 #[.map (some mb)] w fun e w' => e = .returned (seqV w.heap.size) ∧ w' = w.alloc (.cells #[.map (some mb)] 81) := AnyZI.keys_in Tryz.keysA Fence.wide 5 trivial rfl (some mb) w
 refine (callsIn_wide.1 cK).mono ?_
 rintro e w' ⟨rfl, rfl⟩
 exact ⟨_, _, rfl, ⟨w.heap.size, rfl, rfl⟩, hh.alloc (.cells _ _)⟩
theorem slicesSorted [Env] {R : List Seg} {g mb c : Nat} {kv : Kv} (hst : stamped kv c) (hq : uniq kv) (hk : ∀ x ∈ kv, -9223372036854775808 ≤ x.1 ∧ x.1 ≤ 9223372036854775807) (hn : kv.length ≤ 2 ^ 40) :
   Con Tryz.prog 84 [seqV g] [sc g [.map (some mb)] 81, so mb (.map (ents kv) c)] R
   (KSv 3 kv.length 1 (intsV (keysOf kv)) [sc g [.map (some mb)] 81, so mb (.map (ents kv) c)]) := by
 intro w hh
 have h1 : w.heap[g]? = some (.cells #[.map (some mb)] 81 (0, 0)) := hh.cells (vs := [.map (some mb)]) .z
 have h2 : w.heap[mb]? = some (.map (ents kv) c) := hh.obj (.s .z)
 have hown := own_of (K := 3) (P := Tryz.prog) Tryz.underlying3 h2 hst hq hk hn
 have hseq : SeqGives Fence.wide 2 Tryz.prog keysF #[ptr g] encZ (fun ss => ss.Perm (intKeys (dU kv))) (Maps.size (dU kv)) w :=
   AnyZI.keys_gives (ρ := Tryz.keysA_ren) { Tryz.keysA with } Fence.wide _ trivial rfl (by omega) g mb kv.length (dU kv) w (Array.getElem?_eq_some_iff.1 h1).1 (by simp [World.cell?, h1]) hown
 have hsz := dU_size kv
 have cS := AnyZI.sorted_in Tryz.sortedA Fence.wide 5 trivial trivial trivial trivial rfl (by decide) (Tryz.sortsA 4) (by rw [show Tryz.sortedA_ren.f 9 = 100 from by kernel_rfl]; exact ent1) keysF #[ptr g] trivial ent2 _ _ (by rw [hsz]; simp [maxLen]; omega) (by omega) _ hseq
 change CallsIn _ _ Tryz.prog 84 _ _ _ at cS
 refine (callsIn_wide.1 cS).mono ?_
 rintro e w' ⟨v, ss, rfl, hS, hrow, -, hb⟩
 have hp := hS.trans (dU_keys kv)
 have hl : ss.length = kv.length := by simpa using hp.length_eq
 obtain ⟨s, rfl, hok, hh'⟩ := has_row hh hb hrow
 have he : (ss.mergeSort (fun x y => decide (x ≤ y))).map encZ = intsV (keysOf kv) := by rw [sort_perm hp]; rfl
 rw [he] at hok hh'
 rw [hl] at hok
 exact ⟨svVal s ss.length, _, rfl, ⟨s, by rw [hl], hok, rfl⟩, hh'⟩
theorem pending [Env] {R : List Seg} {p la m : Nat} {D : Dev} (hD : D.ok) : Con Tryz.prog 55 [ptr p] [devP p la m D, devM m D] R
   (KSv 3 D.es.length 1 (intsV D.pending) [devP p la m D, devM m D]) := by
 have hle := es_le hD
 refine con_enter Tryz.func55 Tryz.ntmps55 rfl rfl ?_
 unfold devP devM
 refine cseq ?_; intro K1 hK1
 refine creg ?_
 refine yas ?_
 refine ynil' (kthn (hK1 _ _ ?_))
 clear hK1
 refine cseq ?_; intro K2 hK2
 refine creg ?_
 refine ymv ?_
 refine yni ?_
 refine y (ev_fieldAddr 1 rfl Tryz.underlying83 rfl Tryz.sizeOf81) rfl ?_
 refine y (ev_load rfl Tryz.isAgg81 zin rfl) rfl ?_
 refine ycall (mapsKeys) rfl Tryz.call85 ztk rfl ?_
 rintro v L' ⟨g7, rfl, rfl⟩
 refine ycall (slicesSorted ?st7 ?un7 ?ks7 ?nn7) rfl Tryz.call84 ztk rfl ?_
 case st7 => exact kvs_stamped hD.born hD.once
 case un7 => exact kvs_uniq hD.uniq
 case ks7 => intro x hx; obtain ⟨y, hy, rfl⟩ := List.mem_map.1 hx; have := hD.keys y hy; have := hD.n; dsimp only; omega
 case nn7 => simp [kvs]; omega
 rintro v L' ⟨s8, rfl, ok8, rfl⟩
 rw [show (kvs D.es).length = D.es.length by simp [kvs]] at *; rw [keysOf_kvs] at *
 refine yas ?_
 refine ynil' (kthn (hK2 _ _ ?_))
 clear hK2
 refine cret ?_
 first
   | (exfalso; omega; done)
   | (refine kretv Tryz.results55 rfl (L1 := [svSeg _ _ _, devP p la m _, devM m D] ++ R) zge ?_
      exact ⟨_, ⟨s8, rfl, ok8, rfl⟩, rfl⟩)
end W
end Go.Proofs
namespace Go.Proofs
open Go Go.Sl
namespace W
set_option linter.unusedVariables false
theorem crash [Env] {R : List Seg} {p la m : Nat} {D : Dev} {kv : Value} {ks : Keeps} (hD : D.ok) (hk : RdV R kv ks.length (keepsV ks)) :
   Con Tryz.prog 15 [ptr p, kv] (devS p la m D) R (Is (.tuple #[]) (devS p la m (D.crash ks))) := by
 have hle := es_le hD
 refine con_enter Tryz.func15 Tryz.ntmps15 rfl rfl ?_
 show Sc _ _ _ _ _ (devP p la m D :: devL la D :: devM m D :: R)
 refine cseq ?_; intro K1 hK1
 refine cseq ?_; intro K2 hK2
 refine creg ?_
 refine ymv ?_
 refine ycall (pending ?ok2) rfl Tryz.call55 ztk rfl ?_
 case ok2 => exact hD
 rintro v L' ⟨s8, rfl, ok8, rfl⟩
 first
   | refine y (ev_len rfl Tryz.underlying111) rfl ?_
   | refine y (ev_lenSv rfl Tryz.underlying111 (by assumption)) rfl ?_
   | refine y (ev_lenV rfl Tryz.underlying111 (RdV.lenVal (by assumption))) rfl ?_
   | refine y (ev_lenV rfl Tryz.underlying111 (RdB.lenVal (by assumption))) rfl ?_
 refine ymv ?_
 refine ynil' (kthn (hK2 _ _ ?_))
 clear hK2
 refine cblock ?_
 refine cloop (A := Nat × List Bytes) (fun x => [(10, i64 x.1), (9, i64 D.es.length), (8, svVal s8 D.es.length), (0, ptr p), (1, kv)]) (fun x => [devP p la m D, sc la (flat x.2) 114, devM m D, svSeg s8 3 (intsV D.pending)] ++ R) (fun x => (∀ s ∈ x.2, s.length = 144) ∧ x.2.length = D.l.length ∧ x.1 ≤ D.es.length ∧ crashL D (D.pending.drop x.1) (ks.drop x.1) x.2 = crashL D D.pending ks D.l) (fun x => D.es.length - x.1) ((0, D.l)) ?_ zsub zge ?_
 · exact ⟨hD.sec, rfl, Nat.zero_le _, rfl⟩
 rintro ⟨k, ls⟩ hI1 KL1 hL1
 obtain ⟨hls, hll, hkl, hcr⟩ := hI1; dsimp only at hls hll hkl hcr ⊢; unfold devP devM
 have hp8 : RdV [svSeg s8 3 (intsV D.pending)] (svVal s8 D.es.length) D.es.length (intsV D.pending) := rdV_sv .z ok8
 refine cseq ?_; intro K3 hK3
 refine creg ?_
 refine y (ev_lss rfl rfl) rfl ?_
 refine ynil' (kthn (hK3 _ _ ?_))
 clear hK3
 refine cseq ?_; intro K4 hK4
 refine ccond rfl (fun h6 => ?_) (fun h6 => ?_)
 ·(try simp only [sH] at h6)
  obtain ⟨i, s, o0, hi, hs, hi0, hi1, hs1, -⟩ := pend_get hD (k := k) (by omega); obtain ⟨old, ho⟩ := at_some hi0 (hll ▸ hi1)
  have ho1 := hls _ (List.mem_of_getElem? ho)
  refine cskip' (kthn (hK4 _ _ ?_))
  clear hK4
  refine cseq ?_; intro K5 hK5
  refine cblock ?_
  refine cseq ?_; intro K6 hK6
  refine creg ?_
  refine ymv ?_
  first
    | refine y (ev_ixAddr rfl rfl Tryz.underlying111 Tryz.sizeOf3 (by omega) (by omega)) rfl ?_
    | refine y (ev_ixV (by assumption) rfl rfl Tryz.underlying111 Tryz.sizeOf3 (by omega) (by omega)) rfl ?_
  refine y (ev_loadV k hp8 zge rfl Tryz.isAgg3 (by simp) (intsV_get hi)) rfl ?_
  refine yas ?_
  refine yas ?_
  refine ynil' (kthn (hK6 _ _ ?_))
  clear hK6
  refine cseq ?_; intro K7 hK7
  refine cseq ?_; intro K8 hK8
  refine creg ?_
  refine ymv ?_
  refine ymv ?_
  first
    | refine y (ev_len rfl Tryz.underlying38) rfl ?_
    | refine y (ev_lenSv rfl Tryz.underlying38 (by assumption)) rfl ?_
    | refine y (ev_lenV rfl Tryz.underlying38 (RdV.lenVal (by assumption))) rfl ?_
    | refine y (ev_lenV rfl Tryz.underlying38 (RdB.lenVal (by assumption))) rfl ?_
  refine y (ev_geq rfl rfl) rfl ?_
  refine ynil' (kthn (hK8 _ _ ?_))
  clear hK8
  refine ccond rfl (fun h16 => ?_) (fun h16 => ?_)
  ·(try simp only [sH] at h16)
   have hfin : crashL D D.pending ks D.l = ls := by rw [← hcr, show ks.drop k = [] from List.drop_eq_nil_of_le (by omega), crashL_nil']
   refine cexit (kthx (kbp rfl (kthx (kthx (kbx (kthn (hK1 _ _ ?_)))))))
   clear hK1
   refine creg ?_
   refine ymv ?_
   refine ycall (up) rfl Tryz.call56 ztk rfl ?_
   rintro v L' ⟨rfl, rfl⟩
   refine ynil' ?_
   first
     | (exfalso; omega; done)
     | (refine kendv0 Tryz.results15 (L1 := [sc p _ _, sc la _ _, so m _] ++ R) zge ?_
        exact ⟨_, ⟨by simp [Dev.crash, Dev.up, devP, devL, devM, *], rfl⟩, by simp [Dev.crash, Dev.up, devP, devL, devM, *]⟩)
  ·(try simp only [sH] at h16)
   obtain ⟨x, hx⟩ : ∃ x, ks[k]? = some x := ⟨_, List.getElem?_eq_getElem (by omega)⟩
   obtain ⟨hx1, hx2⟩ := keepsV_get ks k x hx
   have hst := crashL_step hi hx hs ho hcr
   refine cskip' (kthn (hK7 _ _ ?_))
   clear hK7
   refine cseq ?_; intro K9 hK9
   refine creg ?_
   refine ymv ?_
   refine yni ?_
   refine y (ev_fieldAddr 1 rfl Tryz.underlying83 rfl Tryz.sizeOf81) rfl ?_
   refine y (ev_load rfl Tryz.isAgg81 zin rfl) rfl ?_
   refine ymv ?_
   refine y (ev_lookups (by rw [kvs_get, hs]; rfl) rfl rfl Tryz.underlying81 Tryz.underlying3 Tryz.zeroValue114 zin) rfl ?_
   refine ya (ac_alloc (vs := bytesV zsec) Tryz.zeroValue114 Tryz.zc) rfl ?_
   rintro v L' ⟨b6, rfl, rfl⟩
   refine ya0 (ac_storeAll rfl rfl (by first | exact bytesV_one _ | (simp [Value.oneCell']; done) | (simp only [List.forall_mem_cons, List.not_mem_nil, false_implies, implies_true, svVal_one, and_true, true_and, and_self]; first | done | simp [Value.oneCell'])) Tryz.sizeOf114 zrp (by first | rfl | assumption | (simp [*]; done) | (simp [*]; omega)) (by first | rfl | assumption | (simp [*]; done) | (simp [*]; omega))) ?_
   rintro v L' ⟨rfl, rfl⟩
   refine ynil' (kthn (hK9 _ _ ?_))
   clear hK9
   refine cseq ?_; intro K10 hK10
   refine creg ?_
   refine ymv ?_
   refine ymv ?_
   first
     | refine y (ev_ixAddr rfl rfl Tryz.underlying38 Tryz.sizeOf116 (by omega) (by omega)) rfl ?_
     | refine y (ev_ixV (by assumption) rfl rfl Tryz.underlying38 Tryz.sizeOf116 (by omega) (by omega)) rfl ?_
   refine y (ev_fieldAddr 0 rfl Tryz.underlying116 rfl Tryz.sizeOf3) rfl ?_
   refine y (ev_loadV (k * 2) hk zge rfl Tryz.isAgg3 (by simp) hx1) rfl ?_
   refine ynil' (kthn (hK10 _ _ ?_))
   clear hK10
   refine cblock ?_
   refine cseq ?_; intro K11 hK11
   refine creg ?_
   refine y (ev_eql rfl rfl) rfl ?_
   refine yas ?_
   refine ynil' (kthn (hK11 _ _ ?_))
   clear hK11
   refine ccond rfl (fun h34 => ?_) (fun h34 => ?_)
   ·(try simp only [sH] at h34)
    refine cdraw 7 [(0, true), (1, true), (2, true), (3, true), (4, true), (5, true), (6, true)] (_) Tryz.mixed (by kernel_rfl) .refl ?_
    refine hr rfl (ev_move rfl) rfl ?_
    refine hr rfl (ev_nil rfl) rfl ?_
    refine hr rfl (ev_fieldAddr 0 rfl Tryz.underlying83 rfl Tryz.sizeOf80) rfl ?_
    refine hr rfl (ev_load rfl Tryz.isAgg80 zin rfl) rfl ?_
    refine hr rfl (ev_move rfl) rfl ?_
    refine hr rfl (ev_loadAll rfl Tryz.isAgg114 Tryz.sizeOf114 zin (by first | rfl | assumption | (simp [*]; done) | (simp [*]; omega))) rfl ?_
    first
      | refine hr rfl (ev_ixAddr rfl rfl Tryz.underlying80 Tryz.sizeOf114 (by omega) (by omega)) rfl ?_
      | refine hr rfl (ev_ixV (by assumption) rfl rfl Tryz.underlying80 Tryz.sizeOf114 (by omega) (by omega)) rfl ?_
    refine hnil ?_
    refine ya0 (ac_storeN (vs' := flat (ls.set i.toNat s)) rfl rfl (bytesV_one _) Tryz.sizeOf114 zrp (by simp [hs1]) (by rw [flat_length hls]; omega) (by rw [Nat.zero_add]; exact flat_set hls (by omega))) ?_; rintro v L' ⟨rfl, rfl⟩
    refine hnoP' (kbn (kbn (kthn (hK5 _ _ ?_))))
    clear hK5
    refine creg ?_
    refine y (ev_add rfl rfl) rfl ?_
    rw [show IntKind.i64.wrap ((k:Int) + 1) = ((k+1 : Nat) : Int) by rw [wr (by omega) (by omega)]; rfl]
    refine ymv ?_
    refine ynil' (kthn ?_)
    first
      | exact hL1 (k + 1, ls.set i.toNat s) ⟨set_len hls hs1, by simpa using hll, by dsimp only; omega, by rwa [keep1_a (by assumption)] at hst⟩ (by dsimp only; omega) _ _ zsub zge
      | exact hL1 (k + 1, ls) ⟨hls, hll, by dsimp only; omega, by rwa [keep1_c (by assumption) (by assumption), set_same ho] at hst⟩ (by dsimp only; omega) _ _ zsub zge
      | exact hL1 (k + 1, ls.set i.toNat (s.take (torn x.2) ++ old.drop (torn x.2))) ⟨set_len hls (by simp [hs1, ho1]; unfold torn; omega), by simpa using hll, by dsimp only; omega, by rwa [keep1_b (by assumption)] at hst⟩ (by dsimp only; omega) _ _ zsub zge
   ·(try simp only [sH] at h34)
    refine cseq ?_; intro K12 hK12
    refine creg ?_
    refine y (ev_eql rfl rfl) rfl ?_
    refine yas ?_
    refine ynil' (kthn (hK12 _ _ ?_))
    clear hK12
    refine ccond rfl (fun h47 => ?_) (fun h47 => ?_)
    ·(try simp only [sH] at h47)
     refine cdraw 15 [(0, true), (1, true), (2, true), (3, true), (4, true), (5, true), (6, true), (7, true), (8, true), (9, true), (10, true), (11, true), (12, true), (13, true), (14, true)] (_) Tryz.mixed (by kernel_rfl) .refl ?_
     refine hr rfl (ev_move rfl) rfl ?_
     refine hr rfl (ev_nil rfl) rfl ?_
     refine hr rfl (ev_fieldAddr 0 rfl Tryz.underlying83 rfl Tryz.sizeOf80) rfl ?_
     refine hr rfl (ev_load rfl Tryz.isAgg80 zin rfl) rfl ?_
     refine hr rfl (ev_move rfl) rfl ?_
     first
       | refine hr rfl (ev_ixAddr rfl rfl Tryz.underlying80 Tryz.sizeOf114 (by omega) (by omega)) rfl ?_
       | refine hr rfl (ev_ixV (by assumption) rfl rfl Tryz.underlying80 Tryz.sizeOf114 (by omega) (by omega)) rfl ?_
     refine hr rfl (ev_slA rfl Tryz.underlying114 Tryz.sizeOf5) rfl ?_
     refine hr rfl (ev_move rfl) rfl ?_
     refine hr rfl (ev_move rfl) rfl ?_
     first
       | refine hr rfl (ev_ixAddr rfl rfl Tryz.underlying38 Tryz.sizeOf116 (by omega) (by omega)) rfl ?_
       | refine hr rfl (ev_ixV (by assumption) rfl rfl Tryz.underlying38 Tryz.sizeOf116 (by omega) (by omega)) rfl ?_
     refine hr rfl (ev_fieldAddr 1 rfl Tryz.underlying116 rfl Tryz.sizeOf3) rfl ?_
     refine hr rfl (ev_loadV (k * 2 + 1) hk zge rfl Tryz.isAgg3 (by simp; omega) hx2) rfl ?_
     refine hr rfl (ev_max rfl rfl) rfl ?_
     refine hr rfl (ev_min rfl rfl) rfl ?_
     refine hr rfl (ev_slAh rfl rfl Tryz.underlying114 Tryz.sizeOf5 (by omega) (by omega)) rfl ?_
     refine hnil ?_
     refine ya (ac_copyB (bs := s.take (torn x.2)) (k := torn x.2) (vs' := flat (ls.set i.toNat (s.take (torn x.2) ++ old.drop (torn x.2)))) rfl rfl Tryz.underlying50 Tryz.sizeOf5 ?rd63 ?kk63 zrp ?fit63 ?eq63) rfl ?_
     case rd63 => exact rdB_torn hs1 zin
     case kk63 => have := torn_le x.2; simp [hs1]; omega
     case fit63 => have := torn_le x.2; rw [flat_length hls]; omega
     case eq63 => rw [Nat.zero_add]; exact flat_torn hls ho hs1 (torn_le _)
     rintro v L' ⟨rfl, rfl⟩
     refine hnoP' (kbn (kbn (kthn (hK5 _ _ ?_))))
     clear hK5
     refine creg ?_
     refine y (ev_add rfl rfl) rfl ?_
     rw [show IntKind.i64.wrap ((k:Int) + 1) = ((k+1 : Nat) : Int) by rw [wr (by omega) (by omega)]; rfl]
     refine ymv ?_
     refine ynil' (kthn ?_)
     first
       | exact hL1 (k + 1, ls.set i.toNat s) ⟨set_len hls hs1, by simpa using hll, by dsimp only; omega, by rwa [keep1_a (by assumption)] at hst⟩ (by dsimp only; omega) _ _ zsub zge
       | exact hL1 (k + 1, ls) ⟨hls, hll, by dsimp only; omega, by rwa [keep1_c (by assumption) (by assumption), set_same ho] at hst⟩ (by dsimp only; omega) _ _ zsub zge
       | exact hL1 (k + 1, ls.set i.toNat (s.take (torn x.2) ++ old.drop (torn x.2))) ⟨set_len hls (by simp [hs1, ho1]; unfold torn; omega), by simpa using hll, by dsimp only; omega, by rwa [keep1_b (by assumption)] at hst⟩ (by dsimp only; omega) _ _ zsub zge
    ·(try simp only [sH] at h47)
     refine cskip' (kbn (kbn (kthn (hK5 _ _ ?_))))
     clear hK5
     refine creg ?_
     refine y (ev_add rfl rfl) rfl ?_
     rw [show IntKind.i64.wrap ((k:Int) + 1) = ((k+1 : Nat) : Int) by rw [wr (by omega) (by omega)]; rfl]
     refine ymv ?_
     refine ynil' (kthn ?_)
     first
       | exact hL1 (k + 1, ls.set i.toNat s) ⟨set_len hls hs1, by simpa using hll, by dsimp only; omega, by rwa [keep1_a (by assumption)] at hst⟩ (by dsimp only; omega) _ _ zsub zge
       | exact hL1 (k + 1, ls) ⟨hls, hll, by dsimp only; omega, by rwa [keep1_c (by assumption) (by assumption), set_same ho] at hst⟩ (by dsimp only; omega) _ _ zsub zge
       | exact hL1 (k + 1, ls.set i.toNat (s.take (torn x.2) ++ old.drop (torn x.2))) ⟨set_len hls (by simp [hs1, ho1]; unfold torn; omega), by simpa using hll, by dsimp only; omega, by rwa [keep1_b (by assumption)] at hst⟩ (by dsimp only; omega) _ _ zsub zge
 ·(try simp only [sH] at h6)
  have hfin : crashL D D.pending ks D.l = ls := by rw [← hcr, show D.pending.drop k = [] from List.drop_eq_nil_of_le (by rw [pending_length]; omega), crashL_nil]
  refine cexit (kthx (kthx (kbx (kthn (hK1 _ _ ?_)))))
  clear hK1
  refine creg ?_
  refine ymv ?_
  refine ycall (up) rfl Tryz.call56 ztk rfl ?_
  rintro v L' ⟨rfl, rfl⟩
  refine ynil' ?_
  first
    | (exfalso; omega; done)
    | (refine kendv0 Tryz.results15 (L1 := [sc p _ _, sc la _ _, so m _] ++ R) zge ?_
       exact ⟨_, ⟨by simp [Dev.crash, Dev.up, devP, devL, devM, *], rfl⟩, by simp [Dev.crash, Dev.up, devP, devL, devM, *]⟩)
end W
end Go.Proofs
namespace Go.Proofs
open Go Go.Sl
namespace W
set_option linter.unusedVariables false
abbrev Q3 := Nat × Nat × Nat
def dev (q : Q3) (D : Dev) : Seg := devP q.1 q.2.1 q.2.2 D ++ devL q.2.1 D ++ devM q.2.2 D
abbrev dp (q : Q3) : Value := ptr q.1
abbrev nilP : Value := .pointer none
theorem dev_in {q : Q3} {D : Dev} {R : List Seg} : ([dev q D] ++ R).flatten.Perm (devS q.1 q.2.1 q.2.2 D ++ R).flatten := by simp [dev]
theorem dev_out {q : Q3} {D : Dev} {R : List Seg} : (devS q.1 q.2.1 q.2.2 D ++ R).flatten.Perm ([dev q D] ++ R).flatten := dev_in.symm
theorem devPM_in {q : Q3} {D : Dev} {R : List Seg} : ([dev q D] ++ R).flatten.Perm ([devP q.1 q.2.1 q.2.2 D, devM q.2.2 D] ++ (devL q.2.1 D :: R)).flatten := by
 simp only [dev, List.cons_append, List.nil_append, List.flatten_cons, List.append_assoc]
 exact List.Perm.append_left _ (List.perm_append_comm_assoc _ _ _)
theorem devP_in {q : Q3} {D : Dev} {R : List Seg} : ([dev q D] ++ R).flatten.Perm ([devP q.1 q.2.1 q.2.2 D] ++ (devL q.2.1 D :: devM q.2.2 D :: R)).flatten := by
 simp [dev]
theorem secNew [Env] {R : List Seg} {n : Nat} (hn : n ≤ 512) : Con Tryz.prog 6 [i64 n] [] R (fun v L' => ∃ q, v = dp q ∧ L' = [dev q (Dev.new n)]) :=
 (new hn).via (List.Perm.refl _) (fun _ _ ⟨p, la, m, h1, h2⟩ => ⟨_, ⟨(p, la, m), h1, rfl⟩, h2 ▸ dev_out (q := (p, la, m))⟩)
theorem secNewNil [Env] {R : List Seg} {n : Int} (hn : n < 0 ∨ 512 < n) : Con Tryz.prog 6 [i64 n] [] R (Is nilP []) := by
 refine con_enter Tryz.func6 Tryz.ntmps6 rfl rfl ?_
 refine cseq ?_; intro K1 hK1
 refine creg ?_
 refine yas ?_
 refine ynil' (kthn (hK1 _ _ ?_))
 clear hK1
 refine cseq ?_; intro K2 hK2
 refine cseq ?_; intro K3 hK3
 refine creg ?_
 refine ymv ?_
 refine y (ev_lss rfl rfl) rfl ?_
 refine ymv ?_
 refine ysplit 5 rfl (fun h5 => ?_) (fun h5 => ?_)
 ·(try simp only [sH] at h5)
  refine ygz ?_
  refine ygz ?_
  refine ypa ?_
  refine ynil' (kthn (hK3 _ _ ?_))
  clear hK3
  refine ccond1 rfl ?_
  refine cseq ?_; intro K4 hK4
  refine creg ?_
  refine yas ?_
  refine ynil' (kthn (hK4 _ _ ?_))
  clear hK4
  refine cret (kthr ?_)
  first
    | (exfalso; omega; done)
    | (refine kretv Tryz.results6 rfl (L1 := _) zge ?_
       exact ⟨_, ⟨by first | rfl | (simp [*]; done) | (simp [*]; omega) | simp_all, rfl⟩, by first | rfl | (simp [*]; done) | (simp [*]; omega) | simp_all⟩)
 ·(try simp only [sH] at h5)
  refine ygo ?_
  refine ymv ?_
  refine ygo ?_
  refine y (ev_gtr rfl rfl) rfl ?_
  refine ypb ?_
  refine ynil' (kthn (hK3 _ _ ?_))
  clear hK3
  refine ccond rfl (fun h11 => ?_) (fun h11 => ?_)
  ·(try simp only [sH] at h11)
   refine cseq ?_; intro K5 hK5
   refine creg ?_
   refine yas ?_
   refine ynil' (kthn (hK5 _ _ ?_))
   clear hK5
   refine cret (kthr ?_)
   first
     | (exfalso; omega; done)
     | (refine kretv Tryz.results6 rfl (L1 := _) zge ?_
        exact ⟨_, ⟨by first | rfl | (simp [*]; done) | (simp [*]; omega) | simp_all, rfl⟩, by first | rfl | (simp [*]; done) | (simp [*]; omega) | simp_all⟩)
  ·(try simp only [sH] at h11)
   exfalso; omega
theorem secWrite [Env] {R : List Seg} {q : Q3} {D : Dev} {i : Int} {bv : Value} {bs : Bytes} (hD : D.ok) (hb : RdB R bv bs) :
   Con Tryz.prog 20 [dp q, i64 i, bv] [dev q D] R (Is (i64 (D.write i bs).1) [dev q (D.write i bs).2]) :=
 (write hD (hb.mono (.drop .refl))).via devPM_in (fun _ _ ⟨h1, h2⟩ => ⟨_, ⟨h1, rfl⟩, h2 ▸ (by rw [show devL q.2.1 D = devL q.2.1 (D.write i bs).2 by unfold devL; rw [write_l]]; exact devPM_in.symm)⟩)
theorem secBarrier [Env] {R : List Seg} {q : Q3} {D : Dev} (hD : D.ok) : Con Tryz.prog 107 [dp q] [dev q D] R (Is (i64 D.barrier.1) [dev q D.barrier.2]) :=
 (barrier hD).via dev_in (fun _ _ ⟨h1, h2⟩ => ⟨_, ⟨h1, rfl⟩, h2 ▸ dev_out⟩)
theorem secCrash [Env] {R : List Seg} {q : Q3} {D : Dev} {kv : Value} {ks : Keeps} (hD : D.ok) (hk : RdV R kv ks.length (keepsV ks)) : Con Tryz.prog 15 [dp q, kv] [dev q D] R (Is (.tuple #[]) [dev q (D.crash ks)]) :=
 (crash hD hk).via dev_in (fun _ _ ⟨h1, h2⟩ => ⟨_, ⟨h1, rfl⟩, h2 ▸ dev_out⟩)
theorem secFuse [Env] {R : List Seg} {q : Q3} {D : Dev} {i : Int} : Con Tryz.prog 18 [dp q, i64 i] [dev q D] R (Is (.tuple #[]) [dev q (D.setFuse i)]) :=
 setFuse.via devP_in (fun _ _ ⟨h1, h2⟩ => ⟨_, ⟨h1, rfl⟩, h2 ▸ devP_in.symm⟩)
theorem secDead [Env] {R : List Seg} {q : Q3} {D : Dev} : Con Tryz.prog 63 [dp q] [dev q D] R (Is (.bool D.dead) [dev q D]) :=
 dead.via devP_in (fun _ _ ⟨h1, h2⟩ => ⟨_, ⟨h1, rfl⟩, h2 ▸ devP_in.symm⟩)
theorem secSectors [Env] {R : List Seg} {q : Q3} {D : Dev} : Con Tryz.prog 62 [dp q] [dev q D] R (Is (i64 D.l.length) [dev q D]) :=
 sectors.via devP_in (fun _ _ ⟨h1, h2⟩ => ⟨_, ⟨h1, rfl⟩, h2 ▸ devP_in.symm⟩)
theorem secRead [Env] {R : List Seg} {q : Q3} {D : Dev} {i : Int} (hD : D.ok) : Con Tryz.prog 26 [dp q, i64 i] [dev q D] R (KRead D i [dev q D]) :=
 (read hD).via dev_in (fun _ _ h => h.elim (fun ⟨h0, h1, h2⟩ => ⟨_, .inl ⟨h0, h1, rfl⟩, h2 ▸ dev_out⟩) (fun ⟨h0, s, h1, h2, h3⟩ => ⟨_, .inr ⟨h0, s, h1, h2, rfl⟩, h3 ▸ (by
   simp only [List.cons_append, List.flatten_cons]
   exact List.Perm.append_left _ (by simpa using dev_out))⟩))
end W
end Go.Proofs
