/- A part of the proof: contracts and plain lemmas, each without conditions beyond those that it names. -/
import Derived.Test.YtebijajimmjknaaGreatB6
import Derived.Test.YtebijajimmjknaaGreatGJ
import Derived.Test.YtebijajimmjknaaGreatGL
set_option linter.unusedVariables false
set_option linter.unusedSimpArgs false
set_option linter.constructorNameAsVariable false
namespace Go.Proofs
open Go Go.Sl
namespace W
set_option linter.unusedVariables false
structure StX where
 s : Nat
 t : Nat
 ps : List Nat
 q : Q3
def stG (X : StX) (D : Dev) (n : Nat) : Seg := stoP X.s X.t X.ps (openS D 0 n) ++ celP X.t X.q (openS D 0 n).tok ++ celsP X.ps X.q (openS D 0 n).cs ++ dev X.q D
theorem stG_in {X : StX} {D : Dev} {n : Nat} {R : List Seg} : ([stG X D n] ++ R).flatten.Perm ([stoP X.s X.t X.ps (openS D 0 n), celP X.t X.q (openS D 0 n).tok, celsP X.ps X.q (openS D 0 n).cs, dev X.q D] ++ R).flatten := by
 simp [stG]
theorem stG_in1 {X : StX} {D : Dev} {n : Nat} {R : List Seg} : ([stG X D n] ++ R).flatten.Perm ([stoP X.s X.t X.ps (openS D 0 n)] ++ (celP X.t X.q (openS D 0 n).tok :: celsP X.ps X.q (openS D 0 n).cs :: dev X.q D :: R)).flatten := by
 simp [stG]
theorem gTake [Env] {R : List Seg} {X : StX} {D : Dev} {n k : Nat} {m : MsgM} (hG : SGood X.ps D n k) (hk : k < 4611686018427387904) :
   Con Tryz.prog 32 [ptr X.s, .agg m.cells.toArray] [stG X D n] R (fun u L' => ∃ D', u = .tuple #[.agg ((absS D n).take m).1.1.cells.toArray, .bool ((absS D n).take m).1.2] ∧ SGood X.ps D' n (k + 1) ∧ absS D' n = ((absS D n).take m).2 ∧ L' = [stG X D' n]) := by
 obtain ⟨D', h1, h2, h3⟩ := hG.take hk m
 refine (bTake (q := X.q) (t := X.t) (m := m) hG.ok).via stG_in ?_
 rintro v L ⟨rfl, rfl⟩
 rw [h1]
 exact ⟨_, ⟨D', rfl, h2, h3, rfl⟩, stG_in.symm⟩
theorem gToken [Env] {R : List Seg} {X : StX} {D : Dev} {n : Nat} : Con Tryz.prog 37 [ptr X.s] [stG X D n] R (Is (i64 (absS D n).ep) [stG X D n]) :=
 bToken.via stG_in1 fun _ _ ⟨h1, h2⟩ => ⟨_, ⟨h1, rfl⟩, h2 ▸ stG_in1.symm⟩
theorem gTable [Env] {R : List Seg} {X : StX} {D : Dev} {n : Nat} (hw : (openS D 0 n).wf X.ps) : Con Tryz.prog 38 [ptr X.s] [stG X D n] R (Is (.agg (intsV (absS D n).tab).toArray) [stG X D n]) :=
 (bTable hw).via stG_in1 fun _ _ ⟨h1, h2⟩ => ⟨_, ⟨h1, rfl⟩, h2 ▸ stG_in1.symm⟩
theorem gGet [Env] {R : List Seg} {X : StX} {D : Dev} {n : Nat} {i : Int} (hw : (openS D 0 n).wf X.ps) : Con Tryz.prog 35 [ptr X.s, i64 i] [stG X D n] R (Is (.tuple #[.agg #[i64 ((absS D n).getB i).v0, i64 ((absS D n).getB i).v1], str ((absS D n).getB i).data]) [stG X D n]) :=
 (bGet hw).via stG_in1 fun _ _ ⟨h1, h2⟩ => ⟨_, ⟨h1, rfl⟩, h2 ▸ stG_in1.symm⟩
theorem gOpen [Env] {R : List Seg} {q : Q3} {D : Dev} {n : Nat} {nb : Int} (hn : nb = n) (h1 : 1 ≤ n) (h32 : n ≤ 32) (hL : Live D (2 + 2 * n)) : Con Tryz.prog 29 [dp q, i64 0, i64 nb] [dev q D] R (fun u L' => ∃ s t ps, ps.length = n ∧ u = .tuple #[ptr s, i64 0] ∧ L' = [stoP s t ps (openS D 0 n), celP t q (openS D 0 n).tok, celsP ps q (openS D 0 n).cs, dev q D]) := by
 subst hn
 have hE : stoE D 0 n = 0 := by unfold stoE; rw [if_neg (by rw [hL.len]; omega), if_neg (by rw [hL.live]; decide)]
 refine (bOpen hL.ok).mono ?_
 rintro v L (⟨h2, _⟩ | ⟨_, s, t, ps, h2, rfl, rfl⟩)
 · exact absurd hE h2
 · rw [Int.toNat_natCast] at h2 ⊢
   exact ⟨s, t, ps, h2, rfl, rfl⟩
theorem gOpenBad [Env] {R : List Seg} {q : Q3} {D : Dev} {f nb e : Int} (hD : D.ok) (h : stoE D f nb = e) (he : e ≠ 0) : Con Tryz.prog 29 [dp q, i64 f, i64 nb] [dev q D] R (Is (.tuple #[nilP, i64 e]) [dev q D]) := by
 subst h
 refine (bOpen hD).mono ?_
 rintro v L (⟨_, rfl, rfl⟩ | ⟨h1, _⟩)
 · exact ⟨rfl, rfl⟩
 · exact absurd h1 he
end W
end Go.Proofs
namespace Go.Proofs
open Go Go.Sl
namespace W
set_option linter.unusedVariables false
abbrev dataB : Bytes := [97, 98, 99, 100, 101, 102, 103, 104]
abbrev awM : MsgM := ⟨10, 2, 1, 7, 0, 1, 0, 0, 0, 0, 0, dataB, []⟩
abbrev ldM (e : Int) : MsgM := ⟨12, e, 0, 0, 0, 0, 0, 0, 0, 0, 0, [], []⟩
abbrev akM : MsgM := ⟨1, 0, 0, 0, 0, 0, 0, 0, 0, 0, 0, [], []⟩
abbrev aA : StA := ⟨2, [⟨2, 1, dataB⟩, .zero], [0, 7, 0, 0]⟩
abbrev aB : StA := ⟨3, [⟨2, 1, dataB⟩, .zero], [0, 7, 0, 0]⟩
theorem gTakeR [Env] {R : List Seg} {X : StX} {D : Dev} {n k : Nat} {m : MsgM} {A : StA} {r : (MsgM × Bool) × StA} (hG : SGood X.ps D n k) (hk : k < 4611686018427387904) (hA : absS D n = A) (hr : A.take m = r) :
   Con Tryz.prog 32 [ptr X.s, .agg m.cells.toArray] [stG X D n] R (fun u L' => ∃ D', u = .tuple #[.agg r.1.1.cells.toArray, .bool r.1.2] ∧ SGood X.ps D' n (k + 1) ∧ absS D' n = r.2 ∧ L' = [stG X D' n]) := by
 subst hA; subst hr
 exact gTake hG hk
theorem bAwake [Env] {R : List Seg} : Con Tryz.prog 28 [] [] R (Is (.bool true) []) := by
 have hL6 : Live (Dev.new (2 + 2 * 2)) (2 + 2 * 2) := (new_good (n := 2) (ps := [0, 0]) (by decide) rfl).live
 have hE3 : stoE (Dev.new 6) 0 3 = 1 := by unfold stoE; rw [if_pos (by decide)]
 refine con_enter Tryz.func28 Tryz.ntmps28 rfl rfl ?_
 refine cseq ?_; intro K1 hK1
 refine creg ?_
 refine yas ?_
 refine ynil' (kthn (hK1 _ _ ?_))
 clear hK1
 refine cseq ?_; intro K2 hK2
 refine creg ?_
 refine ycall (secNew (n := 6) (by omega)) rfl Tryz.call6 ztk rfl ?_
 rintro v L' ⟨q17, rfl, rfl⟩
 refine yas ?_
 refine ynil' (kthn (hK2 _ _ ?_))
 clear hK2
 refine cseq ?_; intro K3 hK3
 refine cseq ?_; intro K4 hK4
 refine creg ?_
 refine ymv ?_
 skip
 ·skip
  refine y (ev_eqlPnil rfl rfl Tryz.underlying24) rfl ?_
  refine ynil' (kthn (hK4 _ _ ?_))
  clear hK4
  refine ccond0 rfl ?_
  refine cskip' (kthn (hK3 _ _ ?_))
  clear hK3
  refine cseq ?_; intro K5 hK5
  refine creg ?_
  refine ymv ?_
  refine ycall (gOpen (n := 2) rfl (by decide) (by decide) hL6) rfl Tryz.call29 ztk rfl ?_
  rintro v L' ⟨s22, t22, ps22, hps, rfl, rfl⟩
  refine ymv ?_
  refine yxt ?_
  refine yxt ?_
  refine yas ?_
  refine yas ?_
  refine ynil' (kthn (hK5 _ _ ?_))
  clear hK5
  refine cseq ?_; intro K6 hK6
  refine creg ?_
  refine ymv ?_
  refine ycall (gOpenBad hL6.ok hE3 (by decide)) rfl Tryz.call29 ztk rfl ?_
  rintro v L' ⟨rfl, rfl⟩
  refine ymv ?_
  refine yxt ?_
  refine yxt ?_
  refine yas ?_
  refine yas ?_
  refine ynil' (kthn (hK6 _ _ ?_))
  clear hK6
  refine cseq ?_; intro K7 hK7
  refine cseq ?_; intro K8 hK8
  refine creg ?_
  refine ymv ?_
  skip
  ·skip
   refine y (ev_eqlPnil rfl rfl Tryz.underlying61) rfl ?_
   refine ymv ?_
   refine ygo ?_
   refine ymv ?_
   refine ygo ?_
   refine y (ev_neq rfl rfl) rfl ?_
   refine ypb ?_
   refine ymv ?_
   refine ygo ?_
   refine ymv ?_
   refine ygo ?_
   refine y (ev_neq rfl rfl) rfl ?_
   refine ypb ?_
   refine ynil' (kthn (hK8 _ _ ?_))
   clear hK8
   refine ccond0 rfl ?_
   refine cskip' (kthn (hK7 _ _ ?_))
   clear hK7
   refine cseq ?_; intro K9 hK9
   refine creg ?_
   obtain ⟨X, hX⟩ : ∃ X : StX, X = ⟨s22, t22, ps22, q17⟩ := ⟨_, rfl⟩
   have hG0 : SGood X.ps (Dev.new (2 + 2 * 2)) 2 0 := by rw [hX]; exact new_good (by decide) hps
   have hA0 : absS (Dev.new (2 + 2 * 2)) 2 = newA 2 := absS_new 2
   refine ysubG ([stoP s22 t22 ps22 (openS (Dev.new (2 + 2 * 2)) 0 2), celP t22 q17 (openS (Dev.new (2 + 2 * 2)) 0 2).tok, celsP ps22 q17 (openS (Dev.new (2 + 2 * 2)) 0 2).cs, dev q17 (Dev.new (2 + 2 * 2))] ++ R) zge ?_
   refine yreP (L' := [stG X (Dev.new (2 + 2 * 2)) 2] ++ R) (by subst hX; exact (stG_in (X := ⟨s22, t22, ps22, q17⟩)).symm) ?_
   rw [show ptr s22 = ptr X.s by rw [hX]]
   clear hX
   generalize Dev.new (2 + 2 * 2) = D0 at *
   refine y (ev_build (vs := awM.cells) (zs := _) rfl Tryz.underlying37 Tryz.zeroValue37 rfl (.cons Tryz.sizeOf3 (.cons Tryz.sizeOf2 (.cons Tryz.sizeOf2 (.cons Tryz.sizeOf2 (.cons Tryz.sizeOf3 (.cons Tryz.sizeOf3 (.cons Tryz.sizeOf29 (.cons Tryz.sizeOf35 (.cons Tryz.sizeOf9 (.cons Tryz.sizeOf9 .nil)))))))))) ⟨⟨_, _, rfl, (by first | rfl | simp), (by first | decide | simp)⟩, ⟨⟨_, _, rfl, (by first | rfl | simp), (by first | decide | simp)⟩, ⟨⟨_, _, rfl, (by first | rfl | simp), (by first | decide | simp)⟩, ⟨⟨_, _, rfl, (by first | rfl | simp), (by first | decide | simp)⟩, ⟨⟨_, _, rfl, (by first | rfl | simp), (by first | decide | simp)⟩, ⟨⟨_, _, rfl, (by first | rfl | simp), (by first | decide | simp)⟩, trivial⟩⟩⟩⟩⟩⟩ (by dsimp [fillL, splice, vcells] <;> rfl)) rfl ?_
   refine ya (ac_alloc Tryz.zeroValue37 rfl) rfl ?_
   rintro v L' ⟨b6, rfl, rfl⟩
   refine ya0 (ac_storeAll rfl rfl (msg_one awM) Tryz.sizeOf37 zrp (by rfl) (by rfl)) ?_
   rintro v L' ⟨rfl, rfl⟩
   refine ynil' (kthn (hK9 _ _ ?_))
   clear hK9
   refine cseq ?_; intro K10 hK10
   refine creg ?_
   refine ymv ?_
   refine y (ev_loadAll rfl Tryz.isAgg37 Tryz.sizeOf37 zin (by first | rfl | assumption | (simp [*]; done) | (simp [*]; omega))) rfl ?_
   refine ycall (gTakeR (m := awM) (A := newA 2) (r := ((outM13 awM 0 [] [], true), aA)) hG0 (by decide) hA0 (by decide)) rfl Tryz.call32 ztk rfl ?_
   rintro v L' ⟨D1, rfl, hG1, hA1, rfl⟩
   refine ymv ?_
   refine yxt ?_
   refine yxt ?_
   refine ya (ac_alloc Tryz.zeroValue37 rfl) rfl ?_
   rintro v L' ⟨b7, rfl, rfl⟩
   refine ya0 (ac_storeAll rfl rfl (msg_one _) Tryz.sizeOf37 zrp (by rfl) (by rfl)) ?_
   rintro v L' ⟨rfl, rfl⟩
   refine yas ?_
   refine ynil' (kthn (hK10 _ _ ?_))
   clear hK10
   refine cseq ?_; intro K11 hK11
   refine creg ?_
   refine ymv ?_
   refine y (ev_build (vs := (ldM 1).cells) (zs := _) rfl Tryz.underlying37 Tryz.zeroValue37 rfl (.cons Tryz.sizeOf3 (.cons Tryz.sizeOf2 (.cons Tryz.sizeOf2 (.cons Tryz.sizeOf2 (.cons Tryz.sizeOf3 (.cons Tryz.sizeOf3 (.cons Tryz.sizeOf29 (.cons Tryz.sizeOf35 (.cons Tryz.sizeOf9 (.cons Tryz.sizeOf9 .nil)))))))))) ⟨⟨_, _, rfl, (by first | rfl | simp), (by first | decide | simp)⟩, ⟨⟨_, _, rfl, (by first | rfl | simp), (by first | decide | simp)⟩, trivial⟩⟩ (by dsimp [fillL, splice, vcells] <;> rfl)) rfl ?_
   refine ycall (gTakeR (m := ldM 1) (A := aA) (r := ((outM13 (ldM 1) 24 [] [], true), aA)) hG1 (by decide) hA1 (by decide)) rfl Tryz.call32 ztk rfl ?_
   rintro v L' ⟨D2, rfl, hG2, hA2, rfl⟩
   refine ymv ?_
   refine yxt ?_
   refine yxt ?_
   refine ya (ac_alloc Tryz.zeroValue37 rfl) rfl ?_
   rintro v L' ⟨b9, rfl, rfl⟩
   refine ya0 (ac_storeAll rfl rfl (msg_one _) Tryz.sizeOf37 zrp (by rfl) (by rfl)) ?_
   rintro v L' ⟨rfl, rfl⟩
   refine yas ?_
   refine ynil' (kthn (hK11 _ _ ?_))
   clear hK11
   refine cseq ?_; intro K12 hK12
   refine creg ?_
   refine ymv ?_
   refine y (ev_build (vs := (ldM 3).cells) (zs := _) rfl Tryz.underlying37 Tryz.zeroValue37 rfl (.cons Tryz.sizeOf3 (.cons Tryz.sizeOf2 (.cons Tryz.sizeOf2 (.cons Tryz.sizeOf2 (.cons Tryz.sizeOf3 (.cons Tryz.sizeOf3 (.cons Tryz.sizeOf29 (.cons Tryz.sizeOf35 (.cons Tryz.sizeOf9 (.cons Tryz.sizeOf9 .nil)))))))))) ⟨⟨_, _, rfl, (by first | rfl | simp), (by first | decide | simp)⟩, ⟨⟨_, _, rfl, (by first | rfl | simp), (by first | decide | simp)⟩, trivial⟩⟩ (by dsimp [fillL, splice, vcells] <;> rfl)) rfl ?_
   refine ycall (gTakeR (m := ldM 3) (A := aA) (r := ((outM13 (ldM 3) 0 [0, 7, 0, 0] dataB, true), aB)) hG2 (by decide) hA2 (by decide)) rfl Tryz.call32 ztk rfl ?_
   rintro v L' ⟨D3, rfl, hG3, hA3, rfl⟩
   refine ymv ?_
   refine yxt ?_
   refine yxt ?_
   refine ya (ac_alloc Tryz.zeroValue37 rfl) rfl ?_
   rintro v L' ⟨b11, rfl, rfl⟩
   refine ya0 (ac_storeAll rfl rfl (msg_one _) Tryz.sizeOf37 zrp (by rfl) (by rfl)) ?_
   rintro v L' ⟨rfl, rfl⟩
   refine yas ?_
   refine ynil' (kthn (hK12 _ _ ?_))
   clear hK12
   refine cseq ?_; intro K13 hK13
   refine creg ?_
   refine ymv ?_
   refine y (ev_build (vs := akM.cells) (zs := _) rfl Tryz.underlying37 Tryz.zeroValue37 rfl (.cons Tryz.sizeOf3 (.cons Tryz.sizeOf2 (.cons Tryz.sizeOf2 (.cons Tryz.sizeOf2 (.cons Tryz.sizeOf3 (.cons Tryz.sizeOf3 (.cons Tryz.sizeOf29 (.cons Tryz.sizeOf35 (.cons Tryz.sizeOf9 (.cons Tryz.sizeOf9 .nil)))))))))) ⟨⟨_, _, rfl, (by first | rfl | simp), (by first | decide | simp)⟩, trivial⟩ (by dsimp [fillL, splice, vcells] <;> rfl)) rfl ?_
   refine ycall (gTakeR (m := akM) (A := aB) (r := ((.zero, false), aB)) hG3 (by decide) hA3 (by decide)) rfl Tryz.call32 ztk rfl ?_
   rintro v L' ⟨D4, rfl, hG4, hA4, rfl⟩
   refine ymv ?_
   refine yxt ?_
   refine yxt ?_
   refine ya (ac_alloc Tryz.zeroValue37 rfl) rfl ?_
   rintro v L' ⟨b13, rfl, rfl⟩
   refine ya0 (ac_storeAll rfl rfl (msg_one _) Tryz.sizeOf37 zrp (by rfl) (by rfl)) ?_
   rintro v L' ⟨rfl, rfl⟩
   refine yas ?_
   refine ynil' (kthn (hK13 _ _ ?_))
   clear hK13
   refine cseq ?_; intro K14 hK14
   refine creg ?_
   refine ymv ?_
   refine ycall (gGet ?gw70) rfl Tryz.call35 ztk rfl ?_
   case gw70 => exact hG4.wf
   rintro v L' ⟨rfl, rfl⟩
   rw [hA4]
   refine ymv ?_
   refine yxt ?_
   refine yxt ?_
   refine ya (ac_alloc Tryz.zeroValue72 rfl) rfl ?_
   rintro v L' ⟨b15, rfl, rfl⟩
   refine ya0 (ac_storeAll rfl rfl (by first | exact bytesV_one _ | (simp [Value.oneCell']; done) | (simp only [List.forall_mem_cons, List.not_mem_nil, false_implies, implies_true, svVal_one, and_true, true_and, and_self]; first | done | simp [Value.oneCell'])) Tryz.sizeOf72 zrp (by first | rfl | assumption | (simp [*]; done) | (simp [*]; omega)) (by first | rfl | assumption | (simp [*]; done) | (simp [*]; omega))) ?_
   rintro v L' ⟨rfl, rfl⟩
   refine yas ?_
   refine ynil' (kthn (hK14 _ _ ?_))
   clear hK14
   refine cseq ?_; intro K15 hK15
   refine creg ?_
   refine y (ev_fieldAddr 0 rfl Tryz.underlying37 rfl Tryz.sizeOf3) rfl ?_
   refine y (ev_load rfl Tryz.isAgg3 zin rfl) rfl ?_
   skip
   ·skip
    refine y (ev_eql rfl rfl) rfl ?_
    refine ymv ?_
    refine ygo ?_
    refine y (ev_fieldAddr 6 rfl Tryz.underlying37 rfl Tryz.sizeOf29) rfl ?_
    refine ygo ?_
    refine y (ev_load rfl Tryz.isAgg29 zin rfl) rfl ?_
    refine ygo ?_
    refine y (ev_eql rfl rfl) rfl ?_
    refine ypa ?_
    refine ymv ?_
    refine ygo ?_
    refine ymv ?_
    refine ypa ?_
    refine ymv ?_
    refine ygo ?_
    refine y (ev_fieldAddr 6 rfl Tryz.underlying37 rfl Tryz.sizeOf29) rfl ?_
    refine ygo ?_
    refine y (ev_load rfl Tryz.isAgg29 zin rfl) rfl ?_
    refine ygo ?_
    refine y (ev_eql rfl rfl) rfl ?_
    refine ypa ?_
    refine ymv ?_
    refine ygo ?_
    refine ymv ?_
    refine ypa ?_
    refine ymv ?_
    refine ygo ?_
    refine y (ev_fieldAddr 11 rfl Tryz.underlying37 rfl Tryz.sizeOf9) rfl ?_
    refine ygo ?_
    refine y (ev_load rfl Tryz.isAgg9 zin rfl) rfl ?_
    refine ygo ?_
    first
      | refine y (ev_eqlL rfl rfl) rfl ?_
      | refine y (ev_eqlS rfl rfl) rfl ?_
    refine ypa ?_
    refine ymv ?_
    refine ygo ?_
    refine y (ev_fieldAddr 7 rfl Tryz.underlying37 rfl Tryz.sizeOf35) rfl ?_
    refine ygo ?_
    refine y (ev_ixAddrA rfl rfl Tryz.underlying35 Tryz.sizeOf2 (by omega) (by omega)) rfl ?_
    refine ygo ?_
    refine y (ev_load rfl Tryz.isAgg2 zin rfl) rfl ?_
    refine ygo ?_
    refine y (ev_eql rfl rfl) rfl ?_
    refine ypa ?_
    refine ymv ?_
    refine ygo ?_
    refine ymv ?_
    refine ypa ?_
    refine ymv ?_
    refine ygo ?_
    refine ymv ?_
    refine ygo ?_
    refine y (ev_not rfl) rfl ?_
    refine ypa ?_
    refine ymv ?_
    refine ygo ?_
    refine ymv ?_
    refine ygo ?_
    refine ycall (gToken) rfl Tryz.call37 ztk rfl ?_
    rintro v L' ⟨rfl, rfl⟩
    rw [hA4]
    refine ygo ?_
    refine y (ev_eql rfl rfl) rfl ?_
    refine ypa ?_
    refine ymv ?_
    refine ygo ?_
    refine y (ev_fieldAddr 0 rfl Tryz.underlying72 rfl Tryz.sizeOf2) rfl ?_
    refine ygo ?_
    refine y (ev_load rfl Tryz.isAgg2 zin rfl) rfl ?_
    refine ygo ?_
    refine y (ev_eql rfl rfl) rfl ?_
    refine ypa ?_
    refine ymv ?_
    refine ygo ?_
    refine ymv ?_
    refine ygo ?_
    first
      | refine y (ev_eqlL rfl rfl) rfl ?_
      | refine y (ev_eqlS rfl rfl) rfl ?_
    refine ypa ?_
    refine ymv ?_
    refine ygo ?_
    refine ymv ?_
    refine ygo ?_
    refine ycall (gTable ?gw130) rfl Tryz.call38 ztk rfl ?_
    case gw130 => exact hG4.wf
    rintro v L' ⟨rfl, rfl⟩
    rw [hA4]
    refine ygo ?_
    refine y (ev_ixA1 rfl rfl Tryz.underlying35 Tryz.isAgg2 Tryz.sizeOf2 (by omega) (by omega) rfl) rfl ?_
    refine ygo ?_
    refine y (ev_eql rfl rfl) rfl ?_
    refine ypa ?_
    refine yas ?_
    refine ynil' (kthn (hK15 _ _ ?_))
    clear hK15
    refine cret ?_
    first
      | (exfalso; omega; done)
      | (refine kretv Tryz.results28 rfl (L1 := R) zge ?_
         exact ⟨_, ⟨by rfl, rfl⟩, by rfl⟩)
end W
end Go.Proofs
