/- A part of the proof: contracts and plain lemmas, each without conditions beyond those that it names. -/
import Derived.Test.YtebijajimmjknaaB6
import Derived.Test.YtebijajimmjknaaGJ
import Derived.Test.YtebijajimmjknaaSlH
set_option linter.unusedVariables false
set_option linter.unusedSimpArgs false
set_option linter.constructorNameAsVariable false
namespace Go.Proofs
open Go Go.Sl
namespace W
set_option linter.unusedVariables false
/-! package backing on a device whose power is there, as one segment -/
structure StX where
  s : Nat
  t : Nat
  ps : List Nat
  q : Q3
def stG (X : StX) (D : Dev) (n : Nat) : Seg := stoP X.s X.t X.ps (openS D 0 n) ++ celP X.t X.q (openS D 0 n).tok ++ celsP X.ps X.q (openS D 0 n).cs ++ dev X.q D
theorem stG_in {X : StX} {D : Dev} {n : Nat} {R : List Seg} : ([stG X D n] ++ R).flatten.Perm ([stoP X.s X.t X.ps (openS D 0 n), celP X.t X.q (openS D 0 n).tok, celsP X.ps X.q (openS D 0 n).cs, dev X.q D] ++ R).flatten := by
  simp [stG]
theorem stG_in1 {X : StX} {D : Dev} {n : Nat} {R : List Seg} : ([stG X D n] ++ R).flatten.Perm ([stoP X.s X.t X.ps (openS D 0 n)] ++ (celP X.t X.q (openS D 0 n).tok :: celsP X.ps X.q (openS D 0 n).cs :: dev X.q D :: R)).flatten := by
  simp [stG]
theorem gTake [Env] {R : List Seg} {X : StX} {D : Dev} {n k : Nat} {m : MsgM} (hG : SGood X.ps D n k) (hk : k < 4611686018427387904) :
    Con Try.prog 22 [ptr X.s, .agg m.cells.toArray] [stG X D n] R (fun u L' => ∃ D', u = .tuple #[.agg ((absS D n).take m).1.1.cells.toArray, .bool ((absS D n).take m).1.2] ∧ SGood X.ps D' n (k + 1) ∧ absS D' n = ((absS D n).take m).2 ∧ L' = [stG X D' n]) := by
  obtain ⟨D', h1, h2, h3⟩ := hG.take hk m
  refine (bTake (q := X.q) (t := X.t) (m := m) hG.ok).via stG_in ?_
  rintro v L ⟨rfl, rfl⟩
  rw [h1]
  exact ⟨_, ⟨D', rfl, h2, h3, rfl⟩, stG_in.symm⟩
theorem gToken [Env] {R : List Seg} {X : StX} {D : Dev} {n : Nat} : Con Try.prog 23 [ptr X.s] [stG X D n] R (Is (i64 (absS D n).ep) [stG X D n]) :=
  bToken.via stG_in1 fun _ _ ⟨h1, h2⟩ => ⟨_, ⟨h1, rfl⟩, h2 ▸ stG_in1.symm⟩
theorem gTable [Env] {R : List Seg} {X : StX} {D : Dev} {n : Nat} (hw : (openS D 0 n).wf X.ps) : Con Try.prog 24 [ptr X.s] [stG X D n] R (Is (.agg (intsV (absS D n).tab).toArray) [stG X D n]) :=
  (bTable hw).via stG_in1 fun _ _ ⟨h1, h2⟩ => ⟨_, ⟨h1, rfl⟩, h2 ▸ stG_in1.symm⟩
theorem gGet [Env] {R : List Seg} {X : StX} {D : Dev} {n : Nat} {i : Int} (hw : (openS D 0 n).wf X.ps) : Con Try.prog 25 [ptr X.s, i64 i] [stG X D n] R (Is (.tuple #[.agg #[i64 ((absS D n).getB i).v0, i64 ((absS D n).getB i).v1], str ((absS D n).getB i).data]) [stG X D n]) :=
  (bGet hw).via stG_in1 fun _ _ ⟨h1, h2⟩ => ⟨_, ⟨h1, rfl⟩, h2 ▸ stG_in1.symm⟩
theorem gOpen [Env] {R : List Seg} {q : Q3} {D : Dev} {n : Nat} {nb : Int} (hn : nb = n) (h1 : 1 ≤ n) (h32 : n ≤ 32) (hL : Live D (2 + 2 * n)) : Con Try.prog 27 [dp q, i64 0, i64 nb] [dev q D] R (fun u L' => ∃ s t ps, ps.length = n ∧ u = .tuple #[ptr s, i64 0] ∧ L' = [stoP s t ps (openS D 0 n), celP t q (openS D 0 n).tok, celsP ps q (openS D 0 n).cs, dev q D]) := by
  subst hn
  have hE : stoE D 0 n = 0 := by unfold stoE; rw [if_neg (by rw [hL.len]; omega), if_neg (by rw [hL.live]; decide)]
  refine (bOpen hL.ok).mono ?_
  rintro v L (⟨h2, _⟩ | ⟨_, s, t, ps, h2, rfl, rfl⟩)
  · exact absurd hE h2
  · rw [Int.toNat_natCast] at h2 ⊢
    exact ⟨s, t, ps, h2, rfl, rfl⟩
theorem gOpenBad [Env] {R : List Seg} {q : Q3} {D : Dev} {f nb e : Int} (hD : D.ok) (h : stoE D f nb = e) (he : e ≠ 0) : Con Try.prog 27 [dp q, i64 f, i64 nb] [dev q D] R (Is (.tuple #[nilP, i64 e]) [dev q D]) := by
  subst h
  refine (bOpen hD).mono ?_
  rintro v L (⟨_, rfl, rfl⟩ | ⟨h1, _⟩)
  · exact ⟨rfl, rfl⟩
  · exact absurd h1 he
def nBl (b : Int) : Nat := b.toNat % 32 + 1
theorem nBl_le (b : Int) : 1 ≤ nBl b ∧ nBl b ≤ 32 := by unfold nBl; omega
theorem bNew [Env] {R : List Seg} {b : Int} (h0 : 0 ≤ b ∧ b ≤ 255) : Con Try.prog 21 [.int .u8 b] [] R (fun u L' => ∃ s t ps q, ps.length = nBl b ∧ u = .tuple #[dp q, ptr s, i64 (nBl b)] ∧ L' = [stoP s t ps (openS (Dev.new (2 + 2 * nBl b)) 0 (nBl b)), celP t q (openS (Dev.new (2 + 2 * nBl b)) 0 (nBl b)).tok, celsP ps q (openS (Dev.new (2 + 2 * nBl b)) 0 (nBl b)).cs, dev q (Dev.new (2 + 2 * nBl b))]) := by
  obtain ⟨n1, n32⟩ := nBl_le b
  have hLn : Live (Dev.new (2 + 2 * nBl b)) (2 + 2 * nBl b) := (new_good (n := nBl b) (ps := List.replicate (nBl b) 0) n32 (by simp)).live
  refine con_enter Try.func21 Try.ntmps21 rfl rfl ?_
  refine cseq ?_; intro K1 hK1
  refine creg ?_
  refine y (ev_assign rfl) rfl ?_
  refine y (ev_assign rfl) rfl ?_
  refine y (ev_assign rfl) rfl ?_
  refine ynil' (kthn (hK1 _ _ ?_))
  clear hK1
  refine cseq ?_; intro K2 hK2
  refine creg ?_
  refine y (ev_move rfl) rfl ?_
  refine y (ev_rem rfl rfl (by decide)) rfl ?_
  refine y (ev_conv rfl Try.underlying5 Try.underlying3) rfl ?_
  refine y (ev_add rfl rfl) rfl ?_
  rw [show IntKind.i64.wrap (IntKind.i64.wrap (b.tmod 32) + 1) = ((nBl b : Nat) : Int) by rw [Int.tmod_eq_emod_of_nonneg h0.1, wr (x := b % 32) (by omega) (by omega), wr (by omega) (by omega)]; unfold nBl; omega]
  refine y (ev_assign rfl) rfl ?_
  refine ynil' (kthn (hK2 _ _ ?_))
  clear hK2
  refine cseq ?_; intro K3 hK3
  refine creg ?_
  refine y (ev_move rfl) rfl ?_
  refine y (ev_mul rfl rfl) rfl ?_
  refine y (ev_add rfl rfl) rfl ?_
  rw [show IntKind.i64.wrap (2 + IntKind.i64.wrap (2 * ((nBl b : Nat) : Int))) = ((2 + 2 * nBl b : Nat) : Int) by rw [wr (x := 2 * ((nBl b : Nat) : Int)) (by omega) (by omega), wr (by omega) (by omega)]; omega]
  refine ycall (secNew (n := 2 + 2 * nBl b) (by omega)) rfl Try.call37 (by repeat first | exact .nil | exact .z | apply Pk.s | apply Tk.cons) rfl ?_
  rintro v L' ⟨q16, rfl, rfl⟩
  refine y (ev_assign rfl) rfl ?_
  refine ynil' (kthn (hK3 _ _ ?_))
  clear hK3
  refine cseq ?_; intro K4 hK4
  refine creg ?_
  refine y (ev_move rfl) rfl ?_
  refine y (ev_move rfl) rfl ?_
  refine ycall (gOpen (n := nBl b) rfl n1 n32 hLn) rfl Try.call27 (by repeat first | exact .nil | exact .z | apply Pk.s | apply Tk.cons) rfl ?_
  rintro v L' ⟨s20, t20, ps20, hps, rfl, rfl⟩
  refine y (ev_move rfl) rfl ?_
  refine y (ev_extract rfl rfl) rfl ?_
  refine y (ev_extract rfl rfl) rfl ?_
  refine y (ev_assign rfl) rfl ?_
  refine y (ev_assign rfl) rfl ?_
  refine ynil' (kthn (hK4 _ _ ?_))
  clear hK4
  refine cseq ?_; intro K5 hK5
  refine creg ?_
  refine y (ev_move rfl) rfl ?_
  refine y (ev_move rfl) rfl ?_
  refine y (ev_move rfl) rfl ?_
  refine y (ev_assign rfl) rfl ?_
  refine y (ev_assign rfl) rfl ?_
  refine y (ev_assign rfl) rfl ?_
  refine ynil' (kthn (hK5 _ _ ?_))
  clear hK5
  refine cret ?_
  first
    | (exfalso; omega; done)
    | (refine kretv3 Try.results21 rfl rfl rfl (L1 := [stoP s20 t20 ps20 _, celP t20 q16 _, celsP ps20 q16 _, dev q16 _] ++ R) (by repeat first | exact .refl | exact .nil | exact .z | apply Pk.s | refine Ge.e ?_ | apply Ge.pick | apply Ge.drop) ?_
       exact ⟨_, ⟨s20, t20, ps20, q16, hps, rfl, rfl⟩, rfl⟩)
theorem bNewG [Env] {R : List Seg} {b : Int} (h0 : 0 ≤ b ∧ b ≤ 255) : Con Try.prog 21 [.int .u8 b] [] R (fun u L' => ∃ X : StX, SGood X.ps (Dev.new (2 + 2 * nBl b)) (nBl b) 0 ∧ u = .tuple #[dp X.q, ptr X.s, i64 (nBl b)] ∧ L' = [stG X (Dev.new (2 + 2 * nBl b)) (nBl b)]) := by
  refine (bNew h0).via (List.Perm.refl _) ?_
  rintro v L ⟨s, t, ps, q, h1, rfl, rfl⟩
  exact ⟨_, ⟨⟨s, t, ps, q⟩, new_good (nBl_le b).2 h1, rfl, rfl⟩, (stG_in (X := ⟨s, t, ps, q⟩)).symm⟩
end W
end Go.Proofs
