/- A part of the proof: contracts and plain lemmas, each without conditions beyond those that it names. -/
import Derived.Test.YtediodfmkbfomaaGreatT4
import Derived.Test.YtediodfmkbfomaaGreatGC
set_option linter.unusedVariables false
set_option linter.unusedSimpArgs false
set_option linter.constructorNameAsVariable false
namespace Go.Proofs
open Go Go.Sl
namespace W
set_option linter.unusedVariables false
abbrev badMsg (b e : Nat) (vs : List Value) (x : Int) : List Seg := [sc b vs 126, sc e [i64 x] 36]
theorem decRecovers [Env] {b e : Nat} {x k : Int} {n1 n2 : Value} : Recovers Tryz.prog 81 #[ptr b, ptr e] badV (badMsg b e [i64 k, n1, n2] x) (badMsg b e [i64 0, nilS, nilS] 4) := by
 refine recovers_enter (caps := [ptr b, ptr e]) (t := 3) (u := 2) Tryz.func81 Tryz.ntmps81 Tryz.results81 rfl rfl ⟨rfl, rfl, rfl⟩ ⟨rfl, rfl, rfl⟩ rfl rfl ?_ ?_
 · intro Q w hh hQ a hfa
   refine wp_seq (wp_region_lit ?_)
   refine wy (ev_move rfl) rfl hfa hh (fun hfa => ?_)
   refine wp_block ?_
   refine wp_seq (wp_region_lit ?_)
   refine wy (ev_eqlIn rfl Tryz.underlying20 (.inl rfl)) rfl hfa hh (fun hfa => ?_)
   refine wp_cond_true (hfa.ev rfl) ?_
   exact wp_skip (hQ _ hfa.defers)
 · intro Q R hQ
   refine cseq ?_; intro K1 hK1
   refine creg ?_
   refine ymv ?_
   refine ynil' (kthn (hK1 _ _ ?_))
   clear hK1
   refine cblock ?_
   refine cseq ?_; intro K2 hK2
   refine creg ?_
   skip
   ·skip
    refine y (ev_eqlIn rfl Tryz.underlying20 (by first | exact .inl rfl | exact .inr ⟨_, _, rfl⟩)) rfl ?_
    refine ynil' (kthn (hK2 _ _ ?_))
    clear hK2
    refine ccond0 rfl ?_
    refine cseq ?_; intro K3 hK3
    refine creg ?_
    refine ymv ?_
    refine y (ev_assert rfl Tryz.underlying152 (by intro q hq; cases hq)) rfl ?_
    refine ynil' (kthn (hK3 _ _ ?_))
    clear hK3
    refine creg ?_
    refine y (ev_build (zs := _) rfl Tryz.underlying126 Tryz.zeroValue126 rfl (.cons Tryz.sizeOf3 (.cons Tryz.sizeOf56 (.cons Tryz.sizeOf98 .nil))) trivial (by dsimp [fillL, splice, vcells] <;> rfl)) rfl ?_
    refine ya0 (ac_storeN rfl rfl (by first | exact bytesV_one _ | (simp [Value.oneCell']; done) | (simp only [List.forall_mem_cons, List.not_mem_nil, false_implies, implies_true, svVal_one, and_true, true_and, and_self]; first | done | simp [Value.oneCell'])) Tryz.sizeOf126 zrp rfl (by first | decide | (simp; done) | (simp; omega)) rfl) ?_
    rintro v L' ⟨rfl, rfl⟩
    refine ya0 (ac_store rfl rfl (by first | rfl | exact svVal_one _ _ | assumption) Tryz.sizeOf36 zrp rfl rfl) ?_
    rintro v L' ⟨rfl, rfl⟩
    refine ynil' (kbn ?_)
    exact fun a w hf hh => hQ a w hf.defers ((show Ge _ (badMsg b e [i64 0, nilS, nilS] 4 ++ R) from zge).has hh)
theorem cDecode [Env] {R : List Seg} {v : Value} {bs : Bytes} (hb : RdY R v bs) :
   Con Tryz.prog 61 [v] [] R (fun u L' => ∃ sn st, u = .tuple #[recV (decM bs).1 sn st, i64 (decM bs).2] ∧ RecOk (decM bs).1 sn st ∧ L' = recSegs (decM bs).1 sn st) := by
 obtain ⟨vb, vc, rfl⟩ := hb.rd.lenVal
 refine conD_enter Tryz.func61 Tryz.ntmps61 rfl rfl ?_
 refine cseq ?_; intro K1 hK1
 refine creg ?_
 refine ya (ac_alloc Tryz.zeroValue126 rfl) rfl ?_
 rintro v1 L1 ⟨b2, rfl, rfl⟩
 refine ya (ac_alloc Tryz.zeroValue36 rfl) rfl ?_
 rintro v1 L1 ⟨b3, rfl, rfl⟩
 refine ynil' (kthn (hK1 _ _ ?_)); clear hK1
 refine cseqW ?_
 refine creg ?_
 refine y (ev_mkFunc (vs := #[ptr b2, ptr b3]) (fun a hf => by
   have h1 : a.eval (.tmp 2) = ptr b2 := hf.ev rfl
   have h2 : a.eval (.tmp 3) = ptr b3 := hf.ev rfl
   simp [h1, h2])) rfl ?_
 refine ydefer rfl ?_
 refine ynilD' ?_
 refine cseqD (cregD ?_)
 refine yD (ev_move rfl) rfl ?_
 refine yD (ev_build (zs := _) rfl Tryz.underlying155 Tryz.zeroValue155 rfl (.cons Tryz.sizeOf22 .nil) ⟨⟨_, _, rfl, (by first | rfl | simp), (by first | decide | simp)⟩, trivial⟩ (by dsimp [fillL, splice, vcells] <;> rfl)) rfl ?_
 refine yaD (ac_box rfl rfl) rfl ?_
 rintro v1 L1 ⟨b8, rfl, rfl⟩
 refine yD (ev_assign rfl) rfl ?_
 refine ynilD' ?_
 refine cseqD (cregD ?_)
 refine yD (ev_move rfl) rfl ?_
 refine ycallPD (cRec (bs := bs) ?hb) rfl Tryz.call82 ztk rfl ?_ ?_
 case hb => exact hb.mono zge
 · rintro L1 ⟨hn, v2, rfl⟩
   refine kpanD (L1 := [[], []] ++ R) (decRecovers (x := 0) (k := 0) (n1 := nilS) (n2 := nilS)) Tryz.call81 Tryz.results61 rfl rfl Tryz.isAgg126 Tryz.sizeOf126 rfl Tryz.isAgg36 ztk zin zin zge ?_
   exact ⟨[[], []], ⟨none, none, by unfold decM; rw [hn]; rfl, by unfold decM; rw [hn]; exact ⟨⟨rfl, rfl⟩, ⟨rfl, rfl⟩⟩, by unfold decM; rw [hn]; rfl⟩, rfl⟩
 rintro v1 L1 ⟨r, sn, st, v2, hr, rfl, hok, rfl⟩
 refine ya0D (ac_storeN rfl rfl (by simp only [List.forall_mem_cons, List.not_mem_nil, false_implies, implies_true, svVal_one, and_true, true_and, and_self]; rfl) Tryz.sizeOf126 zrp rfl (by simp) rfl) ?_
 rintro v1 L1 ⟨rfl, rfl⟩
 refine ya0D (ac_store rfl rfl rfl Tryz.sizeOf36 zrp rfl rfl) ?_
 rintro v1 L1 ⟨rfl, rfl⟩
 refine ynilD' ?_
 refine cretD ?_
 refine kretD (L1 := recSegs r sn st ++ R) (decRecovers (x := 0) (k := 0) (n1 := nilS) (n2 := nilS)) Tryz.call81 Tryz.results61 rfl rfl Tryz.isAgg126 Tryz.sizeOf126 rfl Tryz.isAgg36 zin zin zge ?_
 exact ⟨_, ⟨sn, st, by unfold decM; rw [hr]; rfl, by unfold decM; rw [hr]; exact hok, by unfold decM; rw [hr]⟩, rfl⟩
end W
end Go.Proofs
