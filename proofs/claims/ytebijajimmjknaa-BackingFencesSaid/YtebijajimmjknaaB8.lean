/- A part of the proof: contracts and plain lemmas, each without conditions beyond those that it names. -/
import Derived.Test.YtebijajimmjknaaB7
set_option linter.unusedVariables false
set_option linter.unusedSimpArgs false
set_option linter.constructorNameAsVariable false
namespace Go.Proofs
open Go Go.Sl
namespace W
set_option linter.unusedVariables false
abbrev dataB : Bytes := [97, 98, 99, 100, 101, 102, 103, 104]
abbrev awM : MsgM := ⟨10, 2, 1, 7, 0, 1, 0, 0, 0, 0, 0, dataB, []⟩
abbrev ldM (e : Int) : MsgM := ⟨12, e, 0, 0, 0, 0, 0, 0, 0, 0, 0, [], []⟩
abbrev akM : MsgM := ⟨1, 0, 0, 0, 0, 0, 0, 0, 0, 0, 0, [], []⟩
abbrev aA : StA := ⟨2, [⟨2, 1, dataB⟩, .zero], [0, 7, 0, 0]⟩
abbrev aB : StA := ⟨3, [⟨2, 1, dataB⟩, .zero], [0, 7, 0, 0]⟩
theorem gTakeR [Env] {R : List Seg} {X : StX} {D : Dev} {n k : Nat} {m : MsgM} {A : StA} {r : (MsgM × Bool) × StA} (hG : SGood X.ps D n k) (hk : k < 4611686018427387904) (hA : absS D n = A) (hr : A.take m = r) :
    Con Try.prog 22 [ptr X.s, .agg m.cells.toArray] [stG X D n] R (fun u L' => ∃ D', u = .tuple #[.agg r.1.1.cells.toArray, .bool r.1.2] ∧ SGood X.ps D' n (k + 1) ∧ absS D' n = r.2 ∧ L' = [stG X D' n]) := by
  subst hA; subst hr
  exact gTake hG hk
theorem bAwake [Env] {R : List Seg} : Con Try.prog 20 [] [] R (Is (.bool true) []) := by
  have hL6 : Live (Dev.new (2 + 2 * 2)) (2 + 2 * 2) := (new_good (n := 2) (ps := [0, 0]) (by decide) rfl).live
  have hE3 : stoE (Dev.new 6) 0 3 = 1 := by unfold stoE; rw [if_pos (by decide)]
  refine con_enter Try.func20 Try.ntmps20 rfl rfl ?_
  refine cseq ?_; intro K1 hK1
  refine creg ?_
  refine y (ev_assign rfl) rfl ?_
  refine ynil' (kthn (hK1 _ _ ?_))
  clear hK1
  refine cseq ?_; intro K2 hK2
  refine creg ?_
  refine ycall (secNew (n := 6) (by omega)) rfl Try.call37 (by repeat first | exact .nil | exact .z | apply Pk.s | apply Tk.cons) rfl ?_
  rintro v L' ⟨q17, rfl, rfl⟩
  refine y (ev_assign rfl) rfl ?_
  refine ynil' (kthn (hK2 _ _ ?_))
  clear hK2
  refine cseq ?_; intro K3 hK3
  refine cseq ?_; intro K4 hK4
  refine creg ?_
  refine y (ev_move rfl) rfl ?_
  skip
  · skip
    refine y (ev_eqlPnil rfl rfl Try.underlying27) rfl ?_
    refine ynil' (kthn (hK4 _ _ ?_))
    clear hK4
    refine ccond0 rfl ?_
    refine cskip' (kthn (hK3 _ _ ?_))
    clear hK3
    refine cseq ?_; intro K5 hK5
    refine creg ?_
    refine y (ev_move rfl) rfl ?_
    refine ycall (gOpen (n := 2) rfl (by decide) (by decide) hL6) rfl Try.call27 (by repeat first | exact .nil | exact .z | apply Pk.s | apply Tk.cons) rfl ?_
    rintro v L' ⟨s22, t22, ps22, hps, rfl, rfl⟩
    refine y (ev_move rfl) rfl ?_
    refine y (ev_extract rfl rfl) rfl ?_
    refine y (ev_extract rfl rfl) rfl ?_
    refine y (ev_assign rfl) rfl ?_
    refine y (ev_assign rfl) rfl ?_
    refine ynil' (kthn (hK5 _ _ ?_))
    clear hK5
    refine cseq ?_; intro K6 hK6
    refine creg ?_
    refine y (ev_move rfl) rfl ?_
    refine ycall (gOpenBad hL6.ok hE3 (by decide)) rfl Try.call27 (by repeat first | exact .nil | exact .z | apply Pk.s | apply Tk.cons) rfl ?_
    rintro v L' ⟨rfl, rfl⟩
    refine y (ev_move rfl) rfl ?_
    refine y (ev_extract rfl rfl) rfl ?_
    refine y (ev_extract rfl rfl) rfl ?_
    refine y (ev_assign rfl) rfl ?_
    refine y (ev_assign rfl) rfl ?_
    refine ynil' (kthn (hK6 _ _ ?_))
    clear hK6
    refine cseq ?_; intro K7 hK7
    refine cseq ?_; intro K8 hK8
    refine creg ?_
    refine y (ev_move rfl) rfl ?_
    skip
    · skip
      refine y (ev_eqlPnil rfl rfl Try.underlying42) rfl ?_
      refine y (ev_move rfl) rfl ?_
      refine yg1 rfl rfl ?_
      refine y (ev_move rfl) rfl ?_
      refine yg1 rfl rfl ?_
      refine y (ev_neq rfl rfl) rfl ?_
      refine y (ev_pick0 rfl rfl) rfl ?_
      refine y (ev_move rfl) rfl ?_
      refine yg1 rfl rfl ?_
      refine y (ev_move rfl) rfl ?_
      refine yg1 rfl rfl ?_
      refine y (ev_neq rfl rfl) rfl ?_
      refine y (ev_pick0 rfl rfl) rfl ?_
      refine ynil' (kthn (hK8 _ _ ?_))
      clear hK8
      refine ccond0 rfl ?_
      refine cskip' (kthn (hK7 _ _ ?_))
      clear hK7
      refine cseq ?_; intro K9 hK9
      refine creg ?_
      obtain ⟨X, hX⟩ : ∃ X : StX, X = ⟨s22, t22, ps22, q17⟩ := ⟨_, rfl⟩
      have hG0 : SGood X.ps (Dev.new (2 + 2 * 2)) 2 0 := by rw [hX]; exact new_good (by decide) hps
      have hA0 : absS (Dev.new (2 + 2 * 2)) 2 = newA 2 := absS_new 2
      refine ysubG ([stoP s22 t22 ps22 (openS (Dev.new (2 + 2 * 2)) 0 2), celP t22 q17 (openS (Dev.new (2 + 2 * 2)) 0 2).tok, celsP ps22 q17 (openS (Dev.new (2 + 2 * 2)) 0 2).cs, dev q17 (Dev.new (2 + 2 * 2))] ++ R) (by repeat first | exact .refl | exact .nil | exact .z | apply Pk.s | refine Ge.e ?_ | apply Ge.pick | apply Ge.drop) ?_
      refine yreP (L' := [stG X (Dev.new (2 + 2 * 2)) 2] ++ R) (by subst hX; exact (stG_in (X := ⟨s22, t22, ps22, q17⟩)).symm) ?_
      rw [show ptr s22 = ptr X.s by rw [hX]]
      clear hX
      generalize Dev.new (2 + 2 * 2) = D0 at *
      refine y (ev_build (vs := awM.cells) (zs := _) rfl Try.underlying35 Try.zeroValue35 rfl (.cons Try.sizeOf3 (.cons Try.sizeOf2 (.cons Try.sizeOf2 (.cons Try.sizeOf2 (.cons Try.sizeOf3 (.cons Try.sizeOf3 (.cons Try.sizeOf32 (.cons Try.sizeOf33 (.cons Try.sizeOf9 (.cons Try.sizeOf9 .nil)))))))))) ⟨⟨_, _, rfl, (by first | rfl | simp), (by first | decide | simp)⟩, ⟨⟨_, _, rfl, (by first | rfl | simp), (by first | decide | simp)⟩, ⟨⟨_, _, rfl, (by first | rfl | simp), (by first | decide | simp)⟩, ⟨⟨_, _, rfl, (by first | rfl | simp), (by first | decide | simp)⟩, ⟨⟨_, _, rfl, (by first | rfl | simp), (by first | decide | simp)⟩, ⟨⟨_, _, rfl, (by first | rfl | simp), (by first | decide | simp)⟩, trivial⟩⟩⟩⟩⟩⟩ (by dsimp [fillL, splice, vcells] <;> rfl)) rfl ?_
      refine ya (ac_alloc Try.zeroValue35 rfl) rfl ?_
      rintro v L' ⟨b6, rfl, rfl⟩
      refine ya0 (ac_storeAll rfl rfl (msg_one awM) Try.sizeOf35 (by repeat first | exact .z | apply Rp.s) (by rfl) (by rfl)) ?_
      rintro v L' ⟨rfl, rfl⟩
      refine ynil' (kthn (hK9 _ _ ?_))
      clear hK9
      refine cseq ?_; intro K10 hK10
      refine creg ?_
      refine y (ev_move rfl) rfl ?_
      refine y (ev_loadAll rfl Try.isAgg35 Try.sizeOf35 (by repeat first | exact .z | apply In.s) (by first | rfl | assumption | (simp [*]; done) | (simp [*]; omega))) rfl ?_
      refine ycall (gTakeR (m := awM) (A := newA 2) (r := ((outM13 awM 0 [] [], true), aA)) hG0 (by decide) hA0 (by decide)) rfl Try.call22 (by repeat first | exact .nil | exact .z | apply Pk.s | apply Tk.cons) rfl ?_
      rintro v L' ⟨D1, rfl, hG1, hA1, rfl⟩
      refine y (ev_move rfl) rfl ?_
      refine y (ev_extract rfl rfl) rfl ?_
      refine y (ev_extract rfl rfl) rfl ?_
      refine ya (ac_alloc Try.zeroValue35 rfl) rfl ?_
      rintro v L' ⟨b7, rfl, rfl⟩
      refine ya0 (ac_storeAll rfl rfl (msg_one _) Try.sizeOf35 (by repeat first | exact .z | apply Rp.s) (by rfl) (by rfl)) ?_
      rintro v L' ⟨rfl, rfl⟩
      refine y (ev_assign rfl) rfl ?_
      refine ynil' (kthn (hK10 _ _ ?_))
      clear hK10
      refine cseq ?_; intro K11 hK11
      refine creg ?_
      refine y (ev_move rfl) rfl ?_
      refine y (ev_build (vs := (ldM 1).cells) (zs := _) rfl Try.underlying35 Try.zeroValue35 rfl (.cons Try.sizeOf3 (.cons Try.sizeOf2 (.cons Try.sizeOf2 (.cons Try.sizeOf2 (.cons Try.sizeOf3 (.cons Try.sizeOf3 (.cons Try.sizeOf32 (.cons Try.sizeOf33 (.cons Try.sizeOf9 (.cons Try.sizeOf9 .nil)))))))))) ⟨⟨_, _, rfl, (by first | rfl | simp), (by first | decide | simp)⟩, ⟨⟨_, _, rfl, (by first | rfl | simp), (by first | decide | simp)⟩, trivial⟩⟩ (by dsimp [fillL, splice, vcells] <;> rfl)) rfl ?_
      refine ycall (gTakeR (m := ldM 1) (A := aA) (r := ((outM13 (ldM 1) 24 [] [], true), aA)) hG1 (by decide) hA1 (by decide)) rfl Try.call22 (by repeat first | exact .nil | exact .z | apply Pk.s | apply Tk.cons) rfl ?_
      rintro v L' ⟨D2, rfl, hG2, hA2, rfl⟩
      refine y (ev_move rfl) rfl ?_
      refine y (ev_extract rfl rfl) rfl ?_
      refine y (ev_extract rfl rfl) rfl ?_
      refine ya (ac_alloc Try.zeroValue35 rfl) rfl ?_
      rintro v L' ⟨b9, rfl, rfl⟩
      refine ya0 (ac_storeAll rfl rfl (msg_one _) Try.sizeOf35 (by repeat first | exact .z | apply Rp.s) (by rfl) (by rfl)) ?_
      rintro v L' ⟨rfl, rfl⟩
      refine y (ev_assign rfl) rfl ?_
      refine ynil' (kthn (hK11 _ _ ?_))
      clear hK11
      refine cseq ?_; intro K12 hK12
      refine creg ?_
      refine y (ev_move rfl) rfl ?_
      refine y (ev_build (vs := (ldM 3).cells) (zs := _) rfl Try.underlying35 Try.zeroValue35 rfl (.cons Try.sizeOf3 (.cons Try.sizeOf2 (.cons Try.sizeOf2 (.cons Try.sizeOf2 (.cons Try.sizeOf3 (.cons Try.sizeOf3 (.cons Try.sizeOf32 (.cons Try.sizeOf33 (.cons Try.sizeOf9 (.cons Try.sizeOf9 .nil)))))))))) ⟨⟨_, _, rfl, (by first | rfl | simp), (by first | decide | simp)⟩, ⟨⟨_, _, rfl, (by first | rfl | simp), (by first | decide | simp)⟩, trivial⟩⟩ (by dsimp [fillL, splice, vcells] <;> rfl)) rfl ?_
      refine ycall (gTakeR (m := ldM 3) (A := aA) (r := ((outM13 (ldM 3) 0 [0, 7, 0, 0] dataB, true), aB)) hG2 (by decide) hA2 (by decide)) rfl Try.call22 (by repeat first | exact .nil | exact .z | apply Pk.s | apply Tk.cons) rfl ?_
      rintro v L' ⟨D3, rfl, hG3, hA3, rfl⟩
      refine y (ev_move rfl) rfl ?_
      refine y (ev_extract rfl rfl) rfl ?_
      refine y (ev_extract rfl rfl) rfl ?_
      refine ya (ac_alloc Try.zeroValue35 rfl) rfl ?_
      rintro v L' ⟨b11, rfl, rfl⟩
      refine ya0 (ac_storeAll rfl rfl (msg_one _) Try.sizeOf35 (by repeat first | exact .z | apply Rp.s) (by rfl) (by rfl)) ?_
      rintro v L' ⟨rfl, rfl⟩
      refine y (ev_assign rfl) rfl ?_
      refine ynil' (kthn (hK12 _ _ ?_))
      clear hK12
      refine cseq ?_; intro K13 hK13
      refine creg ?_
      refine y (ev_move rfl) rfl ?_
      refine y (ev_build (vs := akM.cells) (zs := _) rfl Try.underlying35 Try.zeroValue35 rfl (.cons Try.sizeOf3 (.cons Try.sizeOf2 (.cons Try.sizeOf2 (.cons Try.sizeOf2 (.cons Try.sizeOf3 (.cons Try.sizeOf3 (.cons Try.sizeOf32 (.cons Try.sizeOf33 (.cons Try.sizeOf9 (.cons Try.sizeOf9 .nil)))))))))) ⟨⟨_, _, rfl, (by first | rfl | simp), (by first | decide | simp)⟩, trivial⟩ (by dsimp [fillL, splice, vcells] <;> rfl)) rfl ?_
      refine ycall (gTakeR (m := akM) (A := aB) (r := ((.zero, false), aB)) hG3 (by decide) hA3 (by decide)) rfl Try.call22 (by repeat first | exact .nil | exact .z | apply Pk.s | apply Tk.cons) rfl ?_
      rintro v L' ⟨D4, rfl, hG4, hA4, rfl⟩
      refine y (ev_move rfl) rfl ?_
      refine y (ev_extract rfl rfl) rfl ?_
      refine y (ev_extract rfl rfl) rfl ?_
      refine ya (ac_alloc Try.zeroValue35 rfl) rfl ?_
      rintro v L' ⟨b13, rfl, rfl⟩
      refine ya0 (ac_storeAll rfl rfl (msg_one _) Try.sizeOf35 (by repeat first | exact .z | apply Rp.s) (by rfl) (by rfl)) ?_
      rintro v L' ⟨rfl, rfl⟩
      refine y (ev_assign rfl) rfl ?_
      refine ynil' (kthn (hK13 _ _ ?_))
      clear hK13
      refine cseq ?_; intro K14 hK14
      refine creg ?_
      refine y (ev_move rfl) rfl ?_
      refine ycall (gGet ?gw70) rfl Try.call25 (by repeat first | exact .nil | exact .z | apply Pk.s | apply Tk.cons) rfl ?_
      case gw70 => exact hG4.wf
      rintro v L' ⟨rfl, rfl⟩
      rw [hA4]
      refine y (ev_move rfl) rfl ?_
      refine y (ev_extract rfl rfl) rfl ?_
      refine y (ev_extract rfl rfl) rfl ?_
      refine ya (ac_alloc Try.zeroValue50 rfl) rfl ?_
      rintro v L' ⟨b15, rfl, rfl⟩
      refine ya0 (ac_storeAll rfl rfl (by first | exact bytesV_one _ | (simp [Value.oneCell']; done) | (simp only [List.forall_mem_cons, List.not_mem_nil, false_implies, implies_true, svVal_one, and_true, true_and, and_self]; first | done | simp [Value.oneCell'])) Try.sizeOf50 (by repeat first | exact .z | apply Rp.s) (by first | rfl | assumption | (simp [*]; done) | (simp [*]; omega)) (by first | rfl | assumption | (simp [*]; done) | (simp [*]; omega))) ?_
      rintro v L' ⟨rfl, rfl⟩
      refine y (ev_assign rfl) rfl ?_
      refine ynil' (kthn (hK14 _ _ ?_))
      clear hK14
      refine cseq ?_; intro K15 hK15
      refine creg ?_
      refine y (ev_fieldAddr 0 rfl Try.underlying35 rfl Try.sizeOf3) rfl ?_
      refine y (ev_load rfl Try.isAgg3 (by repeat first | exact .z | apply In.s) rfl) rfl ?_
      skip
      · skip
        refine y (ev_eql rfl rfl) rfl ?_
        refine y (ev_move rfl) rfl ?_
        refine yg1 rfl rfl ?_
        refine y (ev_fieldAddr 6 rfl Try.underlying35 rfl Try.sizeOf32) rfl ?_
        refine yg1 rfl rfl ?_
        refine y (ev_load rfl Try.isAgg32 (by repeat first | exact .z | apply In.s) rfl) rfl ?_
        refine yg1 rfl rfl ?_
        refine y (ev_eql rfl rfl) rfl ?_
        refine y (ev_pick1 rfl rfl) rfl ?_
        refine y (ev_move rfl) rfl ?_
        refine yg1 rfl rfl ?_
        refine y (ev_move rfl) rfl ?_
        refine y (ev_pick1 rfl rfl) rfl ?_
        refine y (ev_move rfl) rfl ?_
        refine yg1 rfl rfl ?_
        refine y (ev_fieldAddr 6 rfl Try.underlying35 rfl Try.sizeOf32) rfl ?_
        refine yg1 rfl rfl ?_
        refine y (ev_load rfl Try.isAgg32 (by repeat first | exact .z | apply In.s) rfl) rfl ?_
        refine yg1 rfl rfl ?_
        refine y (ev_eql rfl rfl) rfl ?_
        refine y (ev_pick1 rfl rfl) rfl ?_
        refine y (ev_move rfl) rfl ?_
        refine yg1 rfl rfl ?_
        refine y (ev_move rfl) rfl ?_
        refine y (ev_pick1 rfl rfl) rfl ?_
        refine y (ev_move rfl) rfl ?_
        refine yg1 rfl rfl ?_
        refine y (ev_fieldAddr 11 rfl Try.underlying35 rfl Try.sizeOf9) rfl ?_
        refine yg1 rfl rfl ?_
        refine y (ev_load rfl Try.isAgg9 (by repeat first | exact .z | apply In.s) rfl) rfl ?_
        refine yg1 rfl rfl ?_
        first
          | refine y (ev_eqlL rfl rfl) rfl ?_
          | refine y (ev_eqlS rfl rfl) rfl ?_
        refine y (ev_pick1 rfl rfl) rfl ?_
        refine y (ev_move rfl) rfl ?_
        refine yg1 rfl rfl ?_
        refine y (ev_fieldAddr 7 rfl Try.underlying35 rfl Try.sizeOf33) rfl ?_
        refine yg1 rfl rfl ?_
        refine y (ev_ixAddrA rfl rfl Try.underlying33 Try.sizeOf2 (by omega) (by omega)) rfl ?_
        refine yg1 rfl rfl ?_
        refine y (ev_load rfl Try.isAgg2 (by repeat first | exact .z | apply In.s) rfl) rfl ?_
        refine yg1 rfl rfl ?_
        refine y (ev_eql rfl rfl) rfl ?_
        refine y (ev_pick1 rfl rfl) rfl ?_
        refine y (ev_move rfl) rfl ?_
        refine yg1 rfl rfl ?_
        refine y (ev_move rfl) rfl ?_
        refine y (ev_pick1 rfl rfl) rfl ?_
        refine y (ev_move rfl) rfl ?_
        refine yg1 rfl rfl ?_
        refine y (ev_move rfl) rfl ?_
        refine yg1 rfl rfl ?_
        refine y (ev_not rfl) rfl ?_
        refine y (ev_pick1 rfl rfl) rfl ?_
        refine y (ev_move rfl) rfl ?_
        refine yg1 rfl rfl ?_
        refine y (ev_move rfl) rfl ?_
        refine yg1 rfl rfl ?_
        refine ycall (gToken) rfl Try.call23 (by repeat first | exact .nil | exact .z | apply Pk.s | apply Tk.cons) rfl ?_
        rintro v L' ⟨rfl, rfl⟩
        rw [hA4]
        refine yg1 rfl rfl ?_
        refine y (ev_eql rfl rfl) rfl ?_
        refine y (ev_pick1 rfl rfl) rfl ?_
        refine y (ev_move rfl) rfl ?_
        refine yg1 rfl rfl ?_
        refine y (ev_fieldAddr 0 rfl Try.underlying50 rfl Try.sizeOf2) rfl ?_
        refine yg1 rfl rfl ?_
        refine y (ev_load rfl Try.isAgg2 (by repeat first | exact .z | apply In.s) rfl) rfl ?_
        refine yg1 rfl rfl ?_
        refine y (ev_eql rfl rfl) rfl ?_
        refine y (ev_pick1 rfl rfl) rfl ?_
        refine y (ev_move rfl) rfl ?_
        refine yg1 rfl rfl ?_
        refine y (ev_move rfl) rfl ?_
        refine yg1 rfl rfl ?_
        first
          | refine y (ev_eqlL rfl rfl) rfl ?_
          | refine y (ev_eqlS rfl rfl) rfl ?_
        refine y (ev_pick1 rfl rfl) rfl ?_
        refine y (ev_move rfl) rfl ?_
        refine yg1 rfl rfl ?_
        refine y (ev_move rfl) rfl ?_
        refine yg1 rfl rfl ?_
        refine ycall (gTable ?gw130) rfl Try.call24 (by repeat first | exact .nil | exact .z | apply Pk.s | apply Tk.cons) rfl ?_
        case gw130 => exact hG4.wf
        rintro v L' ⟨rfl, rfl⟩
        rw [hA4]
        refine yg1 rfl rfl ?_
        refine y (ev_ixA1 rfl rfl Try.underlying33 Try.isAgg2 Try.sizeOf2 (by omega) (by omega) rfl) rfl ?_
        refine yg1 rfl rfl ?_
        refine y (ev_eql rfl rfl) rfl ?_
        refine y (ev_pick1 rfl rfl) rfl ?_
        refine y (ev_assign rfl) rfl ?_
        refine ynil' (kthn (hK15 _ _ ?_))
        clear hK15
        refine cret ?_
        first
          | (exfalso; omega; done)
          | (refine kretv Try.results20 rfl (L1 := R) (by repeat first | exact .refl | exact .nil | exact .z | apply Pk.s | refine Ge.e ?_ | apply Ge.pick | apply Ge.drop) ?_
             exact ⟨_, ⟨by rfl, rfl⟩, by rfl⟩)
end W
end Go.Proofs
