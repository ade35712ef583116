/- A part of the proof: contracts and plain lemmas, each without conditions beyond those that it names. -/
import Derived.Test.YtnedokioglfipaaT10
import Derived.Test.YtnedokioglfipaaGG
set_option linter.unusedVariables false
set_option linter.unusedSimpArgs false
set_option linter.constructorNameAsVariable false
namespace Go.Proofs
open Go Go.Sl
namespace W
set_option linter.unusedVariables false
theorem cPutGood [Env] {R : List Seg} {c n : Nat} {q : Q3} {C : CellM} {D : Dev} {s : Bytes} (hU : Up D n) (hC : C.ok n) (hs : s.length ≤ 100) (hg : C.gen < 4611686018427387904) :
    Con Try.prog 43 [ptr c, str s] [celP c q C, dev q D] R (fun u L' => ∃ D', u = i64 0 ∧ PutOk C D s n D' ∧ L' = [celP c q (C.next s), dev q D']) := by
  obtain ⟨D', h1, h2⟩ := put_good hU hC hs hg
  refine (cPut (by rw [hU.len]; exact hC) hU.ok).mono ?_
  rintro v L ⟨rfl, rfl⟩
  rw [h1]
  exact ⟨D', rfl, h2, rfl⟩
theorem cOpenGood [Env] {R : List Seg} {q : Q3} {D : Dev} {a b : Int} (hD : D.ok) (h : openE D a b = 0) : Con Try.prog 40 [dp q, i64 a, i64 b] [dev q D] R (fun u L' => ∃ c, u = .tuple #[ptr c, i64 0] ∧ L' = [celP c q (openC D a b), dev q D]) := by
  refine (cOpen hD).mono ?_
  rintro v L (⟨h1, _⟩ | ⟨_, c, rfl, rfl⟩)
  · exact absurd h h1
  · exact ⟨c, rfl, rfl⟩
theorem cOpenBad [Env] {R : List Seg} {q : Q3} {D : Dev} {a b : Int} {e : Int} (hD : D.ok) (h : openE D a b = e) (he : e ≠ 0) : Con Try.prog 40 [dp q, i64 a, i64 b] [dev q D] R (Is (.tuple #[nilP, i64 e]) [dev q D]) := by
  subst h
  refine (cOpen hD).mono ?_
  rintro v L (⟨_, rfl, rfl⟩ | ⟨h1, _⟩)
  · exact ⟨rfl, rfl⟩
  · exact absurd h1 he
theorem awake5 [Env] {R : List Seg} : Con Try.prog 37 [] [] R (Is (.bool true) []) := by
  have hU0 : Up (Dev.new 3) 3 := new_up (by decide)
  have hE0 : openE (Dev.new 3) 0 2 = 0 := openE_up hU0 (by decide) (by decide) (by decide)
  have hE1 : openE (Dev.new 3) 1 1 = 1 := openE_arg (.inl rfl)
  have hC0 : openC (Dev.new 3) 0 2 = CellM.init 0 2 := open_new (by decide) (by decide) (by decide) (by decide)
  have hCok0 : (CellM.init 0 2).ok 3 := by have := (openC_ok hE0).1; rwa [hC0] at this
  have hCok1 : ((CellM.init 0 2).next [97]).ok 3 := next_ok hCok0 (by decide) (by decide)
  have hsl : (slotM 2 [98]).length = 10 := by
    have hok : slotOk 2 [98] = true := by decide
    unfold slotM; rw [if_pos hok, framed_len]; simp [recB, slotR, numsB, textsB, numB_last (show zig 2 < 128 by decide)]
  refine con_enter Try.func37 Try.ntmps37 rfl rfl ?_
  refine cseq ?_; intro K1 hK1
  refine creg ?_
  refine y (ev_assign rfl) rfl ?_
  refine ynil' (kthn (hK1 _ _ ?_))
  clear hK1
  refine cseq ?_; intro K2 hK2
  refine creg ?_
  refine ycall (secNew (n := 3) (by omega)) rfl Try.call15 (by repeat first | exact .nil | exact .z | apply Pk.s | apply Tk.cons) rfl ?_
  rintro v L' ⟨q10, rfl, rfl⟩
  refine y (ev_assign rfl) rfl ?_
  refine ynil' (kthn (hK2 _ _ ?_))
  clear hK2
  refine cseq ?_; intro K3 hK3
  refine cseq ?_; intro K4 hK4
  refine creg ?_
  refine y (ev_move rfl) rfl ?_
  skip
  · skip
    refine y (ev_eqlPnil rfl rfl Try.underlying24) rfl ?_
    refine ynil' (kthn (hK4 _ _ ?_))
    clear hK4
    refine ccond0 rfl ?_
    refine cskip' (kthn (hK3 _ _ ?_))
    clear hK3
    refine cseq ?_; intro K5 hK5
    refine creg ?_
    refine y (ev_move rfl) rfl ?_
    refine ycall (cOpenGood hU0.ok hE0) rfl Try.call40 (by repeat first | exact .nil | exact .z | apply Pk.s | apply Tk.cons) rfl ?_
    rintro v L' ⟨c15, rfl, rfl⟩
    rw [hC0]
    refine y (ev_move rfl) rfl ?_
    refine y (ev_extract rfl rfl) rfl ?_
    refine y (ev_extract rfl rfl) rfl ?_
    refine y (ev_assign rfl) rfl ?_
    refine y (ev_assign rfl) rfl ?_
    refine ynil' (kthn (hK5 _ _ ?_))
    clear hK5
    refine cseq ?_; intro K6 hK6
    refine creg ?_
    refine y (ev_move rfl) rfl ?_
    refine ycall (cOpenBad hU0.ok hE1 (by decide)) rfl Try.call40 (by repeat first | exact .nil | exact .z | apply Pk.s | apply Tk.cons) rfl ?_
    rintro v L' ⟨rfl, rfl⟩
    refine y (ev_move rfl) rfl ?_
    refine y (ev_extract rfl rfl) rfl ?_
    refine y (ev_extract rfl rfl) rfl ?_
    refine y (ev_assign rfl) rfl ?_
    refine y (ev_assign rfl) rfl ?_
    refine ynil' (kthn (hK6 _ _ ?_))
    clear hK6
    refine cseq ?_; intro K7 hK7
    refine cseq ?_; intro K8 hK8
    refine creg ?_
    refine y (ev_move rfl) rfl ?_
    skip
    · skip
      refine y (ev_eqlPnil rfl rfl Try.underlying61) rfl ?_
      refine y (ev_move rfl) rfl ?_
      refine yg1 rfl rfl ?_
      refine y (ev_move rfl) rfl ?_
      refine yg1 rfl rfl ?_
      refine y (ev_neq rfl rfl) rfl ?_
      refine y (ev_pick0 rfl rfl) rfl ?_
      refine y (ev_move rfl) rfl ?_
      refine yg1 rfl rfl ?_
      refine y (ev_move rfl) rfl ?_
      refine yg1 rfl rfl ?_
      refine y (ev_neq rfl rfl) rfl ?_
      refine y (ev_pick0 rfl rfl) rfl ?_
      refine y (ev_move rfl) rfl ?_
      refine yg1 rfl rfl ?_
      refine y (ev_move rfl) rfl ?_
      refine yg1 rfl rfl ?_
      refine ycall (cGet) rfl Try.call41 (by repeat first | exact .nil | exact .z | apply Pk.s | apply Tk.cons) rfl ?_
      rintro v L' ⟨rfl, rfl⟩
      refine yg1 rfl rfl ?_
      refine y (ev_neqL (p := []) (q := []) rfl rfl) rfl ?_
      refine y (ev_pick0 rfl rfl) rfl ?_
      refine y (ev_move rfl) rfl ?_
      refine yg1 rfl rfl ?_
      refine y (ev_move rfl) rfl ?_
      refine yg1 rfl rfl ?_
      refine ycall (cGen) rfl Try.call42 (by repeat first | exact .nil | exact .z | apply Pk.s | apply Tk.cons) rfl ?_
      rintro v L' ⟨rfl, rfl⟩
      refine yg1 rfl rfl ?_
      refine y (ev_neq rfl rfl) rfl ?_
      refine y (ev_pick0 rfl rfl) rfl ?_
      refine ynil' (kthn (hK8 _ _ ?_))
      clear hK8
      refine ccond0 rfl ?_
      refine cskip' (kthn (hK7 _ _ ?_))
      clear hK7
      refine cseq ?_; intro K9 hK9
      refine creg ?_
      refine y (ev_move rfl) rfl ?_
      refine ycall (cPutGood (s := [97]) hU0 hCok0 (by decide) (by decide)) rfl Try.call43 (by repeat first | exact .nil | exact .z | apply Pk.s | apply Tk.cons) rfl ?_
      rintro v L' ⟨D1, rfl, hp1, rfl⟩
      have hU1 := hp1.up
      have hO1 : openC D1 0 2 = (CellM.init 0 2).next [97] := by rw [← hC0]; exact open_next rfl hE0 (by decide) (by rw [hC0]; decide) (by rw [hC0]; exact hp1)
      have hE2 : openE D1 0 2 = 0 := openE_up hU1 (by decide) (by decide) (by decide)
      refine y (ev_assign rfl) rfl ?_
      refine ynil' (kthn (hK9 _ _ ?_))
      clear hK9
      refine cseq ?_; intro K10 hK10
      refine creg ?_
      refine y (ev_move rfl) rfl ?_
      refine ycall (cPutGood (s := [98]) hU1 hCok1 (by decide) (by decide)) rfl Try.call43 (by repeat first | exact .nil | exact .z | apply Pk.s | apply Tk.cons) rfl ?_
      rintro v L' ⟨D2, rfl, hp2, rfl⟩
      have hU2 := hp2.up
      have hO2 : openC D2 0 2 = ((CellM.init 0 2).next [97]).next [98] := by rw [← hO1]; exact open_next (n := 3) hU1.len hE2 (by decide) (by rw [hO1]; decide) (by rw [hO1]; exact hp2)
      have hU3 := crash_up hU2.ok []
      rw [hU2.len] at hU3
      have hO3 : openC (D2.crash []) 0 2 = ((CellM.init 0 2).next [97]).next [98] := by rw [← hO2]; exact open_same (sec_crash_nil hp2.es [] 0) (sec_crash_nil hp2.es [] 2)
      have hE3 : openE (D2.crash []) 0 2 = 0 := openE_up hU3 (by decide) (by decide) (by decide)
      refine y (ev_assign rfl) rfl ?_
      refine ynil' (kthn (hK10 _ _ ?_))
      clear hK10
      refine cseq ?_; intro K11 hK11
      refine creg ?_
      refine y (ev_move rfl) rfl ?_
      refine ycall (secCrash (ks := []) ?ok47 ?ks47) rfl Try.call25 (by repeat first | exact .nil | exact .z | apply Pk.s | apply Tk.cons) rfl ?_
      case ok47 => exact hU2.ok
      case ks47 => exact rdV_nil
      rintro v L' ⟨rfl, rfl⟩
      refine ynil' (kthn (hK11 _ _ ?_))
      clear hK11
      refine cseq ?_; intro K12 hK12
      refine creg ?_
      refine y (ev_move rfl) rfl ?_
      refine ycall (cOpenGood hU3.ok hE3) rfl Try.call40 (by repeat first | exact .nil | exact .z | apply Pk.s | apply Tk.cons) rfl ?_
      rintro v L' ⟨c51, rfl, rfl⟩
      rw [hO3]
      refine y (ev_move rfl) rfl ?_
      refine y (ev_extract rfl rfl) rfl ?_
      refine y (ev_extract rfl rfl) rfl ?_
      refine y (ev_assign rfl) rfl ?_
      refine y (ev_assign rfl) rfl ?_
      refine ynil' (kthn (hK12 _ _ ?_))
      clear hK12
      refine cseq ?_; intro K13 hK13
      refine creg ?_
      refine y (ev_move rfl) rfl ?_
      skip
      · skip
        refine y (ev_eql rfl rfl) rfl ?_
        refine y (ev_move rfl) rfl ?_
        refine yg1 rfl rfl ?_
        refine y (ev_move rfl) rfl ?_
        refine yg1 rfl rfl ?_
        refine y (ev_eql rfl rfl) rfl ?_
        refine y (ev_pick1 rfl rfl) rfl ?_
        refine y (ev_move rfl) rfl ?_
        refine yg1 rfl rfl ?_
        refine y (ev_move rfl) rfl ?_
        refine yg1 rfl rfl ?_
        refine ycall (cGet) rfl Try.call41 (by repeat first | exact .nil | exact .z | apply Pk.s | apply Tk.cons) rfl ?_
        rintro v L' ⟨rfl, rfl⟩
        refine yg1 rfl rfl ?_
        refine y (ev_eqlL (p := [98]) (q := [98]) rfl rfl) rfl ?_
        refine y (ev_pick1 rfl rfl) rfl ?_
        refine y (ev_move rfl) rfl ?_
        refine yg1 rfl rfl ?_
        refine y (ev_move rfl) rfl ?_
        refine yg1 rfl rfl ?_
        refine ycall (cGen) rfl Try.call42 (by repeat first | exact .nil | exact .z | apply Pk.s | apply Tk.cons) rfl ?_
        rintro v L' ⟨rfl, rfl⟩
        refine yg1 rfl rfl ?_
        refine y (ev_eql rfl rfl) rfl ?_
        refine y (ev_pick1 rfl rfl) rfl ?_
        refine y (ev_move rfl) rfl ?_
        refine yg1 rfl rfl ?_
        refine y (ev_move rfl) rfl ?_
        refine yg1 rfl rfl ?_
        refine y (ev_eql rfl rfl) rfl ?_
        refine y (ev_pick1 rfl rfl) rfl ?_
        refine y (ev_move rfl) rfl ?_
        refine yg1 rfl rfl ?_
        refine y (ev_move rfl) rfl ?_
        refine yg1 rfl rfl ?_
        refine y (ev_neqPnil rfl rfl Try.underlying61) rfl ?_
        refine y (ev_pick1 rfl rfl) rfl ?_
        refine y (ev_move rfl) rfl ?_
        refine yg1 rfl rfl ?_
        refine y (ev_move rfl) rfl ?_
        refine yg1 rfl rfl ?_
        refine ycall (cGet) rfl Try.call41 (by repeat first | exact .nil | exact .z | apply Pk.s | apply Tk.cons) rfl ?_
        rintro v L' ⟨rfl, rfl⟩
        refine yg1 rfl rfl ?_
        refine y (ev_eqlL (p := [98]) (q := [98]) rfl rfl) rfl ?_
        refine y (ev_pick1 rfl rfl) rfl ?_
        refine y (ev_move rfl) rfl ?_
        refine yg1 rfl rfl ?_
        refine y (ev_move rfl) rfl ?_
        refine yg1 rfl rfl ?_
        refine ycall (cGen) rfl Try.call42 (by repeat first | exact .nil | exact .z | apply Pk.s | apply Tk.cons) rfl ?_
        rintro v L' ⟨rfl, rfl⟩
        refine yg1 rfl rfl ?_
        refine y (ev_eql rfl rfl) rfl ?_
        refine y (ev_pick1 rfl rfl) rfl ?_
        refine y (ev_move rfl) rfl ?_
        refine yg1 rfl rfl ?_
        refine ycall (cSlot (gen := 2) (s := [98]) ?lo90 ?hi90) rfl Try.call38 (by repeat first | exact .nil | exact .z | apply Pk.s | apply Tk.cons) rfl ?_
        case lo90 => decide
        case hi90 => decide
        rintro v L' ⟨s89, rfl, ok89, rfl⟩
        rw [hsl] at ok89 ⊢
        refine yg1 rfl rfl ?_
        first
          | refine y (ev_len rfl Try.underlying27) rfl ?_
          | refine y (ev_lenSv rfl Try.underlying27 (by assumption)) rfl ?_
          | refine y (ev_lenV rfl Try.underlying27 (RdV.lenVal (by assumption))) rfl ?_
          | refine y (ev_lenV rfl Try.underlying27 (RdB.lenVal (by assumption))) rfl ?_
        refine yg1 rfl rfl ?_
        refine y (ev_eql rfl rfl) rfl ?_
        refine y (ev_pick1 rfl rfl) rfl ?_
        refine y (ev_assign rfl) rfl ?_
        refine ynil' (kthn (hK13 _ _ ?_))
        clear hK13
        refine cret ?_
        first
          | (exfalso; omega; done)
          | (refine kretv Try.results37 rfl (L1 := R) (by repeat first | exact .refl | exact .nil | exact .z | apply Pk.s | refine Ge.e ?_ | apply Ge.pick | apply Ge.drop) ?_
             exact ⟨_, ⟨by rfl, rfl⟩, by rfl⟩)
end W
end Go.Proofs
