/- A part of the proof: contracts and plain lemmas, each without conditions beyond those that it names. -/
import Derived.Test.YtebijajimmjknaaB2
import Derived.Test.YtebijajimmjknaaGJ
set_option linter.unusedVariables false
set_option linter.unusedSimpArgs false
set_option linter.constructorNameAsVariable false
namespace Go.Proofs
open Go Go.Sl
namespace W
set_option linter.unusedVariables false
theorem cels_split {ps : List Nat} {q : Q3} {cs : List CellM} {i p : Nat} {C : CellM} (hp : ps[i]? = some p) (hc : cs[i]? = some C) :
    ∃ A B : Seg, celsP ps q cs = A ++ celP p q C ++ B ∧ ∀ C', celsP ps q (cs.set i C') = A ++ celP p q C' ++ B := by
  induction ps generalizing cs i with
  | nil => simp at hp
  | cons z ps ih =>
    cases cs with
    | nil => simp at hc
    | cons y0 cs =>
      cases i with
      | zero =>
        simp at hp hc
        subst hp; subst hc
        exact ⟨[], celsP ps q cs, by simp [celsP], fun C' => by simp [celsP]⟩
      | succ i =>
        obtain ⟨A, B, h1, h2⟩ := ih (cs := cs) (i := i) (by simpa using hp) (by simpa using hc)
        refine ⟨celP z q y0 ++ A, B, ?_, fun C' => ?_⟩
        · have : celsP (z :: ps) q (y0 :: cs) = celP z q y0 ++ celsP ps q cs := by simp [celsP]
          rw [this, h1]; simp
        · have : celsP (z :: ps) q ((y0 :: cs).set (i + 1) C') = celP z q y0 ++ celsP ps q (cs.set i C') := by simp [celsP]
          rw [this, h2]; simp
theorem cels_perm {q : Q3} {A B X : Seg} {d : Seg} {R : List Seg} : ([A ++ X ++ B, d] ++ R).flatten.Perm ([X, d] ++ (A :: B :: R)).flatten := by
  simp only [List.cons_append, List.nil_append, List.flatten_cons, List.append_assoc]
  refine (List.perm_append_comm_assoc A X _).trans (List.Perm.append_left _ ?_)
  refine (List.perm_append_comm_assoc A B _).trans ?_
  refine (List.Perm.append_left B (List.perm_append_comm_assoc A d _)).trans ?_
  refine (List.perm_append_comm_assoc B d _).trans (List.Perm.append_left _ ?_)
  exact List.perm_append_comm_assoc B A _
theorem cPutAt [Env] {R : List Seg} {ps : List Nat} {q : Q3} {cs : List CellM} {D : Dev} {i p : Nat} {C : CellM} {s : Bytes} (hp : ps[i]? = some p) (hc : cs[i]? = some C) (hC : C.ok D.l.length) (hD : D.ok) :
    Con Try.prog 63 [ptr p, str s] [celsP ps q cs, dev q D] R (Is (i64 (C.put D s).1) [celsP ps q (cs.set i (C.put D s).2.1), dev q (C.put D s).2.2]) := by
  obtain ⟨A, B, h1, h2⟩ := cels_split (q := q) hp hc
  rw [h1]
  refine (cPut (R := A :: B :: R) hC hD).via (cels_perm (q := q)) ?_
  rintro v L ⟨rfl, rfl⟩
  refine ⟨_, ⟨rfl, rfl⟩, ?_⟩
  rw [h2]
  exact (cels_perm (q := q)).symm
theorem bRaised [Env] {R : List Seg} {s t : Nat} {ps : List Nat} {q : Q3} {S : StoM} {D : Dev} {ep : Int} (hS : S.ok D ps) (he : inM63 ep) :
    Con Try.prog 43 [ptr s, i64 ep] [stoP s t ps S, celP t q S.tok, dev q D] R (Is (i64 (S.raised D ep).1) [stoP s t ps (S.raised D ep).2.1, celP t q (S.raised D ep).2.1.tok, dev q (S.raised D ep).2.2]) := by
  have henc := enc_of (tok_may he)
  have hlen := tok_len he
  refine con_enter Try.func43 Try.ntmps43 rfl rfl ?_
  unfold stoP
  refine cseq ?_; intro K1 hK1
  refine creg ?_
  refine y (ev_assign rfl) rfl ?_
  refine ynil' (kthn (hK1 _ _ ?_))
  clear hK1
  refine cseq ?_; intro K2 hK2
  refine cseq ?_; intro K3 hK3
  refine creg ?_
  refine y (ev_move rfl) rfl ?_
  refine y (ev_move rfl) rfl ?_
  refine y (ev_nil rfl) rfl ?_
  refine y (ev_fieldAddr 1 rfl Try.underlying95 rfl Try.sizeOf2) rfl ?_
  refine y (ev_load rfl Try.isAgg2 (by repeat first | exact .z | apply In.s) rfl) rfl ?_
  refine y (ev_leq rfl rfl) rfl ?_
  refine ynil' (kthn (hK3 _ _ ?_))
  clear hK3
  refine ccond rfl (fun h8 => ?_) (fun h8 => ?_)
  · (try simp only [decide_eq_true_eq, beq_iff_eq, beq_eq_false_iff_ne, decide_eq_decide, decide_eq_false_iff_not, Bool.not_eq_true', Bool.not_eq_false', Bool.not_eq_true, Bool.not_eq_false, Bool.not_not, ne_eq, Option.isNone_some, Option.isSome_some, Option.isNone_none, Option.isSome_none] at h8)
    have hra : S.raised D ep = (0, S, D) := by unfold StoM.raised; rw [if_pos (by omega)]
    refine cseq ?_; intro K4 hK4
    refine creg ?_
    refine y (ev_assign rfl) rfl ?_
    refine ynil' (kthn (hK4 _ _ ?_))
    clear hK4
    refine cret (kthr ?_)
    first
      | (exfalso; omega; done)
      | (refine kretv Try.results43 rfl (L1 := [sc s _ 95, celP t q _, dev q _] ++ R) (by repeat first | exact .refl | exact .nil | exact .z | apply Pk.s | refine Ge.e ?_ | apply Ge.pick | apply Ge.drop) ?_
         rw [hra]; exact ⟨_, ⟨rfl, rfl⟩, rfl⟩)
  · (try simp only [decide_eq_true_eq, beq_iff_eq, beq_eq_false_iff_ne, decide_eq_decide, decide_eq_false_iff_not, Bool.not_eq_true', Bool.not_eq_false', Bool.not_eq_true, Bool.not_eq_false, Bool.not_not, ne_eq, Option.isNone_some, Option.isSome_some, Option.isNone_none, Option.isSome_none] at h8)
    have hra : S.raised D ep = ((S.tok.put D (recB (tokR ep))).1, { S with tok := (S.tok.put D (recB (tokR ep))).2.1, epoch := if (S.tok.put D (recB (tokR ep))).1 = 0 then ep else S.epoch }, (S.tok.put D (recB (tokR ep))).2.2) := by unfold StoM.raised; rw [if_neg (by omega)]
    refine cskip' (kthn (hK2 _ _ ?_))
    clear hK2
    refine cseq ?_; intro K5 hK5
    refine creg ?_
    refine y (ev_move rfl) rfl ?_
    refine ya (ac_bsliceR rfl Try.underlying100 Try.sizeOf2 Try.zeroValue2 rfl rfl rfl rfl ⟨⟨_, _, rfl, (by first | rfl | simp), (by first | decide | simp)⟩, trivial⟩ (by dsimp [fillL, splice, vcells, reps] <;> rfl)) rfl ?_
    rintro v L' ⟨b16, rfl, rfl⟩
    refine y (ev_build (zs := _) rfl Try.underlying102 Try.zeroValue102 rfl (.cons Try.sizeOf3 (.cons Try.sizeOf100 (.cons Try.sizeOf48 .nil))) ⟨⟨_, _, rfl, (by first | rfl | simp), (by first | decide | simp)⟩, ⟨⟨_, _, rfl, (by first | rfl | simp), (by first | decide | simp)⟩, trivial⟩⟩ (by dsimp [fillL, splice, vcells] <;> rfl)) rfl ?_
    refine ycall (cEncode (r := tokR ep) ?hn13 ?ht13 ?sx13) rfl Try.call62 (by repeat first | exact .nil | exact .z | apply Pk.s | apply Tk.cons) rfl ?_
    case hn13 => exact rdV_in (by repeat first | exact .z | apply In.s) rfl rfl
    case ht13 => exact rdV_nil
    case sx13 => exact (tok_may he).num
    rintro v L' ⟨s18, rfl, ok18, rfl⟩
    rw [henc] at ok18 ⊢; dsimp only at ok18 ⊢
    generalize recB (tokR ep) = rb at *
    refine y (ev_move rfl) rfl ?_
    refine y (ev_extract rfl rfl) rfl ?_
    refine y (ev_extract rfl rfl) rfl ?_
    refine y (ev_assign rfl) rfl ?_
    refine y (ev_assign rfl) rfl ?_
    refine ynil' (kthn (hK5 _ _ ?_))
    clear hK5
    refine cseq ?_; intro K6 hK6
    refine cdraw 6 [(0, true), (1, true), (2, true), (3, true), (4, true), (5, true)] ([sc s _ 95, svSeg s18 5 (bytesV rb)] ++ R) Try.mixed (by kernel_rfl) (by repeat first | exact .refl | exact .nil | exact .z | apply Pk.s | refine Ge.e ?_ | apply Ge.pick | apply Ge.drop) ?_
    refine hr rfl (ev_move rfl) rfl ?_
    refine hr rfl (ev_nil rfl) rfl ?_
    refine hr rfl (ev_fieldAddr 0 rfl Try.underlying95 rfl Try.sizeOf81) rfl ?_
    refine hr rfl (ev_load rfl Try.isAgg81 (by repeat first | exact .z | apply In.s) rfl) rfl ?_
    refine hr rfl (ev_move rfl) rfl ?_
    refine hr rfl (ev_toStrB (rdY_sv (L := [svSeg s18 5 (bytesV rb)]) .z ok18).rd.bytes (by repeat first | exact .refl | exact .nil | exact .z | apply Pk.s | refine Ge.e ?_ | apply Ge.pick | apply Ge.drop) rfl Try.underlying23 Try.underlying9 Try.underlying5) rfl ?_
    refine hnil ?_
    refine ycall (cPut ?cok25 ?ok25) rfl Try.call63 (by repeat first | exact .nil | exact .z | apply Pk.s | apply Tk.cons) rfl ?_
    case cok25 => exact hS.tok
    case ok25 => exact hS.d
    rintro v L' ⟨rfl, rfl⟩
    obtain ⟨r, hr0⟩ : ∃ r, S.tok.put D rb = r := ⟨_, rfl⟩
    rw [hr0] at hra ⊢
    refine y (ev_assign rfl) rfl ?_
    refine hnoP' (kthn (hK6 _ _ ?_))
    clear hK6
    refine cseq ?_; intro K7 hK7
    refine cseq ?_; intro K8 hK8
    refine creg ?_
    refine y (ev_move rfl) rfl ?_
    refine y (ev_eql rfl rfl) rfl ?_
    refine ynil' (kthn (hK8 _ _ ?_))
    clear hK8
    refine ccond rfl (fun h29 => ?_) (fun h29 => ?_)
    · (try simp only [decide_eq_true_eq, beq_iff_eq, beq_eq_false_iff_ne, decide_eq_decide, decide_eq_false_iff_not, Bool.not_eq_true', Bool.not_eq_false', Bool.not_eq_true, Bool.not_eq_false, Bool.not_not, ne_eq, Option.isNone_some, Option.isSome_some, Option.isNone_none, Option.isSome_none] at h29)
      rw [if_pos h29] at hra
      refine creg ?_
      refine y (ev_move rfl) rfl ?_
      refine y (ev_move rfl) rfl ?_
      refine y (ev_nil rfl) rfl ?_
      refine y (ev_fieldAddr 1 rfl Try.underlying95 rfl Try.sizeOf2) rfl ?_
      refine ya0 (ac_store rfl rfl (by first | rfl | exact svVal_one _ _ | assumption) Try.sizeOf2 (by repeat first | exact .z | apply Rp.s) rfl rfl) ?_
      rintro v L' ⟨rfl, rfl⟩
      refine ynil' (kthn (hK7 _ _ ?_))
      clear hK7
      refine cseq ?_; intro K9 hK9
      refine creg ?_
      refine y (ev_move rfl) rfl ?_
      refine y (ev_assign rfl) rfl ?_
      refine ynil' (kthn (hK9 _ _ ?_))
      clear hK9
      refine cret ?_
      first
        | (exfalso; omega; done)
        | (refine kretv Try.results43 rfl (L1 := [sc s _ 95, celP t q _, dev q _] ++ R) (by repeat first | exact .refl | exact .nil | exact .z | apply Pk.s | refine Ge.e ?_ | apply Ge.pick | apply Ge.drop) ?_
           rw [hra]; exact ⟨_, ⟨rfl, rfl⟩, rfl⟩)
    · (try simp only [decide_eq_true_eq, beq_iff_eq, beq_eq_false_iff_ne, decide_eq_decide, decide_eq_false_iff_not, Bool.not_eq_true', Bool.not_eq_false', Bool.not_eq_true, Bool.not_eq_false, Bool.not_not, ne_eq, Option.isNone_some, Option.isSome_some, Option.isNone_none, Option.isSome_none] at h29)
      rw [if_neg h29] at hra
      refine cskip' (kthn (hK7 _ _ ?_))
      clear hK7
      refine cseq ?_; intro K10 hK10
      refine creg ?_
      refine y (ev_move rfl) rfl ?_
      refine y (ev_assign rfl) rfl ?_
      refine ynil' (kthn (hK10 _ _ ?_))
      clear hK10
      refine cret ?_
      first
        | (exfalso; omega; done)
        | (refine kretv Try.results43 rfl (L1 := [sc s _ 95, celP t q _, dev q _] ++ R) (by repeat first | exact .refl | exact .nil | exact .z | apply Pk.s | refine Ge.e ?_ | apply Ge.pick | apply Ge.drop) ?_
           rw [hra]; exact ⟨_, ⟨rfl, rfl⟩, rfl⟩)
end W
end Go.Proofs
