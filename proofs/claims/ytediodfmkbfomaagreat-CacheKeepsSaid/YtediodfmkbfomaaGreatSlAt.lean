/- A part of the proof: contracts and plain lemmas, each without conditions beyond those that it names. -/
import Derived.Test.YtediodfmkbfomaaGreatC18
import Derived.Test.YtediodfmkbfomaaGreatGR
import Derived.Test.YtediodfmkbfomaaGreatGH
import Derived.Test.YtediodfmkbfomaaGreatGC
set_option linter.unusedVariables false
set_option linter.unusedSimpArgs false
set_option linter.constructorNameAsVariable false
namespace Go.Proofs
open Go Go.Sl
namespace W
set_option linter.unusedVariables false
theorem nFull9 [Env] {R : List Seg} {A : CaA} {C : CaM} {b : Int} (hb : C.bl ≤ 32) (hn : C.n ≤ 512) : Con Tryz.prog 32 [ptr A.p, i64 b] [caP A C, enS A C] R (Is (.bool (fullB C b)) [caP A C, enS A C]) := by
 refine con_enter Tryz.func32 Tryz.ntmps32 rfl rfl ?_
 refine cseq ?_; intro K1 hK1
 refine creg ?_
 refine yas ?_
 refine ynil' (kthn (hK1 _ _ ?_))
 clear hK1
 refine cseq ?_; intro K2 hK2
 refine creg ?_
 refine ymv ?_
 refine ymv ?_
 refine ycall (kGet) rfl Tryz.call15 ztk rfl ?_
 rintro v L' ⟨rfl, rfl⟩
 refine ymv ?_
 refine yxt ?_
 refine yxt ?_
 refine ya (ac_alloc Tryz.zeroValue34 rfl) rfl ?_
 rintro v L' ⟨b5, rfl, rfl⟩
 refine ya0 (ac_storeAll rfl rfl (ent_one _) Tryz.sizeOf34 zrp rfl rfl) ?_
 rintro v L' ⟨rfl, rfl⟩
 refine yas ?_
 refine ynil' (kthn (hK2 _ _ ?_))
 clear hK2
 refine cseq ?_; intro K3 hK3
 refine creg ?_
 refine ymv ?_
 refine y (ev_not rfl) rfl ?_
 refine ymv ?_
 refine ysplit 15 rfl (fun h14 => ?_) (fun h14 => ?_)
 ·(try simp only [sH] at h14)
  refine ygo ?_
  refine ymv ?_
  refine ygo ?_
  refine ycall (kAll hb) rfl Tryz.call17 ztk rfl ?_
  rintro v L' ⟨s17, rfl, ok17, rfl⟩
  refine ygo ?_
  first
    | refine y (ev_len rfl Tryz.underlying41) rfl ?_
    | refine y (ev_lenSv rfl Tryz.underlying41 (by assumption)) rfl ?_
    | refine y (ev_lenV rfl Tryz.underlying41 (RdV.lenVal (by assumption))) rfl ?_
    | refine y (ev_lenV rfl Tryz.underlying41 (RdB.lenVal (by assumption))) rfl ?_
  refine ygo ?_
  refine ymv ?_
  refine ygo ?_
  refine ycall (kRoom hn) rfl Tryz.call14 ztk rfl ?_
  rintro v L' ⟨rfl, rfl⟩
  refine ygo ?_
  refine y (ev_geq rfl rfl) rfl ?_
  refine ypa ?_
  refine yas ?_
  refine ynil' (kthn (hK3 _ _ ?_))
  clear hK3
  refine cret ?_
  first
    | (exfalso; omega; done)
    | (refine kretv Tryz.results32 rfl (L1 := [caP A C, enS A C] ++ R) zge ?_
       exact ⟨_, ⟨by unfold fullB; simp_all, rfl⟩, rfl⟩)
 ·(try simp only [sH] at h14)
  refine ygz ?_
  refine ygz ?_
  refine ygz ?_
  refine ygz ?_
  refine ygz ?_
  refine ygz ?_
  refine ypb ?_
  refine yas ?_
  refine ynil' (kthn (hK3 _ _ ?_))
  clear hK3
  refine cret ?_
  first
    | (exfalso; omega; done)
    | (refine kretv Tryz.results32 rfl (L1 := [caP A C, enS A C] ++ R) zge ?_
       exact ⟨_, ⟨by unfold fullB; simp_all, rfl⟩, rfl⟩)
theorem without_snoc {l : List EntM} {b : Int} {k : Nat} {x : EntM} (h : l[k]? = some x) : without (l.take (k + 1)) b = if x.blk = b then without (l.take k) b else without (l.take k) b ++ [x] := by
 rw [take_snoc h]
 unfold without
 rw [List.filter_append]
 by_cases hb : x.blk = b
 · rw [if_pos hb]; simp [hb]
 · rw [if_neg hb]; simp [hb]
theorem nWithout9 [Env] {R : List Seg} {v : Value} {l : List EntM} {b : Int} (hv : RdV R v l.length (entsV l)) (hl : l.length ≤ 1000) : Con Tryz.prog 33 [v, i64 b] [] R (KSv 34 (without l b).length 7 (entsV (without l b)) []) := by
 have hvl := hv.lenVal
 refine con_enter Tryz.func33 Tryz.ntmps33 rfl rfl ?_
 refine cseq ?_; intro K1 hK1
 refine creg ?_
 refine yas ?_
 refine ynil' (kthn (hK1 _ _ ?_))
 clear hK1
 refine cseq ?_; intro K2 hK2
 refine creg ?_
 refine ya (ac_bslice0 Tryz.underlying41 Tryz.sizeOf34) rfl ?_
 rintro v L' ⟨b7, rfl, rfl⟩
 refine yas ?_
 refine ynil' (kthn (hK2 _ _ ?_))
 clear hK2
 refine cseq ?_; intro K3 hK3
 refine cseq ?_; intro K4 hK4
 refine creg ?_
 refine ymv ?_
 refine y (ev_lenV rfl Tryz.underlying41 hvl) rfl ?_
 refine ymv ?_
 refine ynil' (kthn (hK4 _ _ ?_))
 clear hK4
 have hJ1 : ∀ x : Nat × Sv, ((svOk x.2 (without (l.take x.1) b).length 7 (entsV (without (l.take x.1) b)) ∧ x.1 ≤ l.length) ∧ (x.1 = l.length)) → Sk 29 K3 ([(10, i64 x.1), (9, i64 l.length), (5, svVal x.2 (without (l.take x.1) b).length), (0, v), (1, i64 b)]) ([svSeg x.2 34 (entsV (without (l.take x.1) b))] ++ R) := by
  rintro ⟨k, s5⟩ ⟨hI1, hX1⟩
  refine hK3 _ _ ?_
  obtain ⟨ok5, hk⟩ := hI1; dsimp only at ok5 hk ⊢
  dsimp only at hX1; subst hX1; rw [List.take_length] at ok5 ⊢
  refine cseq ?_; intro K5 hK5
  refine creg ?_
  refine ymv ?_
  refine yas ?_
  refine ynil' (kthn (hK5 _ _ ?_))
  clear hK5
  refine cret ?_
  first
    | (exfalso; omega; done)
    | (refine kretv Tryz.results33 rfl (L1 := [svSeg _ _ _] ++ R) zge ?_
       exact ⟨_, ⟨s5, rfl, ok5, rfl⟩, rfl⟩)
 clear hK3
 refine cblock ?_
 refine cloop (A := Nat × Sv) (fun x => [(10, i64 x.1), (9, i64 l.length), (5, svVal x.2 (without (l.take x.1) b).length), (0, v), (1, i64 b)]) (fun x => [svSeg x.2 34 (entsV (without (l.take x.1) b))] ++ R) (fun x => svOk x.2 (without (l.take x.1) b).length 7 (entsV (without (l.take x.1) b)) ∧ x.1 ≤ l.length) (fun x => l.length - x.1) ((0, some (b7, 0, []))) ?_ zsub zge ?_
 · exact ⟨⟨Nat.le_refl _, Nat.zero_le _, rfl, rfl⟩, Nat.zero_le _⟩
 rintro ⟨k, s5⟩ hI1 KL1 hL1
 have hI1o := hI1
 obtain ⟨ok5, hk⟩ := hI1; dsimp only at ok5 hk ⊢
 refine cseq ?_; intro K6 hK6
 refine creg ?_
 refine y (ev_lss rfl rfl) rfl ?_
 refine ynil' (kthn (hK6 _ _ ?_))
 clear hK6
 refine cseq ?_; intro K7 hK7
 refine ccond rfl (fun h34 => ?_) (fun h34 => ?_)
 ·(try simp only [sH] at h34)
  obtain ⟨yv, hy⟩ : ∃ y, l[k]? = some y := ⟨_, List.getElem?_eq_getElem (by omega)⟩
  have hws := without_snoc (b := b) hy
  have hwl : (without (l.take k) b).length ≤ k := by unfold without; exact Nat.le_trans (List.length_filter_le _ _) (by simp; omega)
  refine cskip' (kthn (hK7 _ _ ?_))
  clear hK7
  refine cseq ?_; intro K8 hK8
  refine cblock ?_
  refine cseq ?_; intro K9 hK9
  refine creg ?_
  refine ymv ?_
  refine yas ?_
  refine ynil' (kthn (hK9 _ _ ?_))
  clear hK9
  refine cseq ?_; intro K10 hK10
  refine creg ?_
  refine ymv ?_
  refine ymv ?_
  refine y (ev_ixV hv rfl rfl Tryz.underlying41 Tryz.sizeOf34 (by omega) (by omega)) rfl ?_
  refine y (ev_fieldAddr 0 rfl Tryz.underlying34 rfl Tryz.sizeOf3) rfl ?_
  refine y (ev_loadV (k * 7) hv zge rfl Tryz.isAgg3 (by simp) (by have h := entsV_get hy; have := congrArg (fun z => z[0]?) h; simpa [EntM.cells] using this)) rfl ?_
  refine ymv ?_
  refine y (ev_neq rfl rfl) rfl ?_
  refine ynil' (kthn (hK10 _ _ ?_))
  clear hK10
  refine ccond rfl (fun h44 => ?_) (fun h44 => ?_)
  ·(try simp only [sH] at h44)
   rw [if_neg h44] at hws
   refine creg ?_
   refine ymv ?_
   refine ymv ?_
   refine ymv ?_
   refine y (ev_ixV hv rfl rfl Tryz.underlying41 Tryz.sizeOf34 (by omega) (by omega)) rfl ?_
   refine y (ev_loadNV (us := yv.cells) (k * 7) hv zge rfl Tryz.isAgg34 Tryz.sizeOf34 (by simp) (entsV_get hy) rfl) rfl ?_
   refine ya (ac_bsliceR rfl Tryz.underlying41 Tryz.sizeOf34 Tryz.zeroValue34 rfl rfl rfl rfl ⟨⟨_, _, rfl, (by first | rfl | simp), (by first | decide | simp)⟩, trivial⟩ (by dsimp [fillL, splice, vcells, reps] <;> rfl)) rfl ?_
   rintro v L' ⟨b25, rfl, rfl⟩
   refine ya (ac_append (s := s5) (xs := entsV (without (l.take k) b)) (m := (without (l.take k) b).length) (k := 1) (us := yv.cells) (size := 7) rfl rfl (by repeat first | exact .z | apply Pk.s) Tryz.underlying41 Tryz.underlying41 (by intro q hq; cases hq) Tryz.typeInfo34 rfl rfl rfl ?ok51 ?src51 ?one51 ?big51) rfl ?_
   case ok51 => exact ok5
   case src51 => exact src_at zin rfl rfl
   case one51 => exact ent_one yv
   case big51 => show (_ + _) * 65 ≤ _; omega
   rintro v L' ⟨s26, rfl, ok26, rfl⟩
   rw [show entsV (without (l.take k) b) ++ yv.cells = entsV (without (l.take (k + 1)) b) by rw [hws]; simp [entsV], show (without (l.take k) b).length + 1 = (without (l.take (k + 1)) b).length by rw [hws]; simp] at *
   refine yas ?_
   refine ynil' (kbn (kthn (hK8 _ _ ?_)))
   clear hK8
   refine creg ?_
   refine y (ev_add rfl rfl) rfl ?_
   rw [show IntKind.i64.wrap ((k:Int) + 1) = ((k+1 : Nat) : Int) by rw [wr (by omega) (by omega)]; rfl]
   refine ymv ?_
   refine ynil' (kthn ?_)
   first
     | exact hL1 (k + 1, s26) ⟨ok26, by dsimp only; omega⟩ (by dsimp only; omega) _ _ zsub zge
     | exact hL1 (k + 1, s5) ⟨ok5, by dsimp only; omega⟩ (by dsimp only; omega) _ _ zsub zge
  ·(try simp only [sH] at h44)
   rw [if_pos h44] at hws
   rw [← hws] at ok5 ⊢
   refine cskip' (kbn (kthn (hK8 _ _ ?_)))
   clear hK8
   refine creg ?_
   refine y (ev_add rfl rfl) rfl ?_
   rw [show IntKind.i64.wrap ((k:Int) + 1) = ((k+1 : Nat) : Int) by rw [wr (by omega) (by omega)]; rfl]
   refine ymv ?_
   refine ynil' (kthn ?_)
   first
     | exact hL1 (k + 1, s26) ⟨ok26, by dsimp only; omega⟩ (by dsimp only; omega) _ _ zsub zge
     | exact hL1 (k + 1, s5) ⟨ok5, by dsimp only; omega⟩ (by dsimp only; omega) _ _ zsub zge
 ·(try simp only [sH] at h34)
  refine cexit (kthx (kthx (kbx (kthn ?_))))
  exact ksub zsub zge (hJ1 ⟨k, s5⟩ ⟨hI1o, by dsimp only; omega⟩)
theorem nOpenK [Env] {R : List Seg} {r : Int} (h0 : 0 ≤ r) (h1 : r ≤ 255) :
   Con Tryz.prog 12 [.int .u8 r] [] R (fun u L' => ∃ q A sl C D, u = .tuple #[dp q, ptr A.p, i64 (nCa r)] ∧ CGo (cp9 (nCa r)) 1 C D [(C.all, C.k)] ∧ CaS 32 (nCa r) 1 C D ∧ itOk sl C.l ∧ L' = [caP A C, enS A C, puS A C, lgS A q sl C, dev q D]) := by
 obtain ⟨n8, n37⟩ := nCa_le r
 obtain ⟨C, D, hop, hS, hv⟩ := new_cas (m := 32) (n := nCa r) (by decide) ⟨n8, by omega⟩
 have hG := new_go ⟨n8, by omega⟩ hop
 refine con_enter Tryz.func12 Tryz.ntmps12 rfl rfl ?_
 refine cseq ?_; intro K1 hK1
 refine creg ?_
 refine yas ?_
 refine yas ?_
 refine yas ?_
 refine ynil' (kthn (hK1 _ _ ?_))
 clear hK1
 refine cseq ?_; intro K2 hK2
 refine creg ?_
 refine ymv ?_
 refine y (ev_rem rfl rfl (by decide)) rfl ?_
 refine y (ev_conv rfl Tryz.underlying5 Tryz.underlying3) rfl ?_
 refine y (ev_add rfl rfl) rfl ?_
 rw [nCa_eq h0 h1]; generalize nCa r = n at *
 refine yas ?_
 refine ynil' (kthn (hK2 _ _ ?_))
 clear hK2
 refine cseq ?_; intro K3 hK3
 refine creg ?_
 refine ymv ?_
 refine y (ev_add rfl rfl) rfl ?_
 rw [wr (by omega) (by omega), show (n : Int) + 2 = ((n + 2 : Nat) : Int) by omega]
 refine ycall (secNew (n := n + 2) (by omega)) rfl Tryz.call34 ztk rfl ?_
 rintro v L' ⟨q15, rfl, rfl⟩
 refine yas ?_
 refine ynil' (kthn (hK3 _ _ ?_))
 clear hK3
 refine cseq ?_; intro K4 hK4
 refine creg ?_
 refine ymv ?_
 refine ymv ?_
 refine ycall (kOpenY (Dev.new_ok (by omega)) (by decide) (by decide) hop) rfl Tryz.call20 ztk rfl ?_
 rintro v L' ⟨A19, sl19, rfl, ok19, rfl⟩
 refine ymv ?_
 refine yxt ?_
 refine yxt ?_
 refine yas ?_
 refine yas ?_
 refine ynil' (kthn (hK4 _ _ ?_))
 clear hK4
 refine cseq ?_; intro K5 hK5
 refine creg ?_
 refine ymv ?_
 refine ymv ?_
 refine ymv ?_
 refine yas ?_
 refine yas ?_
 refine yas ?_
 refine ynil' (kthn (hK5 _ _ ?_))
 clear hK5
 refine cret ?_
 first
   | (exfalso; omega; done)
   | (refine kretv3 Tryz.results12 rfl rfl rfl (L1 := [caP A19 C, enS A19 C, puS A19 C, lgS A19 q15 sl19 C, dev q15 D] ++ R) zge ?_
      exact ⟨_, ⟨q15, A19, sl19, C, D, rfl, hG, hS, ok19, rfl⟩, rfl⟩)
structure KpM where
 A : CaA
 sl : Sv
 C : CaM
 D : Dev
 ov : Ov
 ws : Ws
structure KpOk (n k z : Nat) (x : KpM) : Prop where
 go : CGo (cp9 n) k x.C x.D (wsW x.ws)
 ok : x.C.ok x.D
 bl : x.C.bl = 32
 nn : x.C.n = n
 it : itOk x.sl x.C.l
 ov : ovOk x.ov x.ws.length 7 (wsV x.ws)
 ws : WsOk x.ws
 len : x.ws.length ≤ z
end W
end Go.Proofs
namespace Go.Sl
variable {P : Program} {ops : Array Oper} {n : Nat} {rest : List Oper} {Q : Exit → Act → World → Prop} {l : List (Nat × Value)} {L M M' : List Seg} {A B : Seg}
theorem join_perm (h1 : Pk L A M) (h2 : Pk M B M') : L.flatten.Perm ((A ++ B) :: M').flatten := by
  rw [List.flatten_cons, List.append_assoc]
  exact h1.perm.trans (List.Perm.append_left _ h2.perm)
/-- Two parts are taken as one. -/
theorem yjoin [Env] (h1 : Pk L A M) (h2 : Pk M B M') (h : Sy P ops n rest Q l ((A ++ B) :: M')) : Sy P ops n rest Q l L := yreP (join_perm h1 h2) h
theorem cjoin [Env] {c : Code} (h1 : Pk L A M) (h2 : Pk M B M') (h : Sc P n c Q l ((A ++ B) :: M')) : Sc P n c Q l L := fun a w hf hh => h a w hf (hh.perm (join_perm h1 h2))
end Go.Sl
