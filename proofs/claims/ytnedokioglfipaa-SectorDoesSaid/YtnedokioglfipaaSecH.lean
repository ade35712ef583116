/- A part of the proof: contracts and plain lemmas, each without conditions beyond those that it names. -/
import Derived.Test.YtnedokioglfipaaSecG
set_option linter.unusedVariables false
set_option linter.unusedSimpArgs false
set_option linter.constructorNameAsVariable false
namespace Go.Sl
set_option linter.unusedSimpArgs false
/-! a crash of the document's device, sector by sector -/
def crash1 (r : RS) (x : Option (Int × Int)) : RS := if r.is then ⟨(match x with | none => r.b | some x => keep1 r.p x r.b), zsec, false⟩ else r
def cnt (l : List RS) : Nat := (RDev.pendF l 0).length
theorem pendF_len : ∀ (l : List RS) (k j : Nat), (RDev.pendF l k).length = (RDev.pendF l j).length
  | [], _, _ => rfl
  | r :: l, k, j => by
    have := pendF_len l (k + 1) (j + 1)
    simp only [RDev.pendF]
    split <;> simp [this]
theorem crashF_snoc : ∀ (a : List RS) (r : RS) (ks : Keeps), RDev.crashF (a ++ [r]) ks = RDev.crashF a ks ++ [crash1 r (ks[cnt a]?)]
  | [], r, ks => by
    cases ks with
    | nil => unfold RDev.crashF crash1; by_cases h : r.is <;> simp [h, RDev.crashF]
    | cons x ks => unfold RDev.crashF crash1 cnt; by_cases h : r.is <;> simp [h, RDev.crashF, RDev.pendF]
  | t :: a, r, ks => by
    have hc : cnt (t :: a) = if t.is then cnt a + 1 else cnt a := by
      unfold cnt
      have := pendF_len a 1 0
      simp only [RDev.pendF]
      by_cases h : t.is <;> simp [h, this]
    by_cases h : t.is
    · cases ks with
      | nil => simp only [List.cons_append, RDev.crashF, h, if_true, crashF_snoc a r []]; simp
      | cons x ks => simp only [List.cons_append, RDev.crashF, h, if_true, crashF_snoc a r ks, hc]; simp
    · simp only [List.cons_append, RDev.crashF, h, if_false, crashF_snoc a r ks, hc]; simp
theorem crashF_len : ∀ (l : List RS) (ks : Keeps), (RDev.crashF l ks).length = l.length
  | [], ks => by cases ks <;> rfl
  | r :: l, ks => by
    by_cases h : r.is
    · cases ks with
      | nil => simp [RDev.crashF, h, crashF_len l]
      | cons x ks => simp [RDev.crashF, h, crashF_len l]
    · simp [RDev.crashF, h, crashF_len l]
def crashTo (l : List RS) (ks : Keeps) (i : Nat) : List RS := RDev.crashF (l.take i) ks ++ l.drop i
theorem crashTo_zero (l : List RS) (ks : Keeps) : crashTo l ks 0 = l := by
  unfold crashTo; cases ks <;> simp [RDev.crashF]
theorem crashTo_all (l : List RS) (ks : Keeps) : crashTo l ks l.length = RDev.crashF l ks := by simp [crashTo]
theorem crashTo_len (l : List RS) (ks : Keeps) (i : Nat) : (crashTo l ks i).length = l.length := by simp [crashTo, crashF_len]; omega
theorem crashTo_get {l : List RS} {ks : Keeps} {i : Nat} {r : RS} (h : l[i]? = some r) : (crashTo l ks i)[i]? = some r := by
  have hl := (List.getElem?_eq_some_iff.1 h).1
  unfold crashTo
  rw [List.getElem?_append_right (by rw [crashF_len]; simp; omega), crashF_len]
  simp only [List.length_take, List.getElem?_drop]
  rw [show min i l.length = i by omega, show i + (i - i) = i by omega]
  exact h
theorem crashTo_succ {l : List RS} {ks : Keeps} {i : Nat} {r : RS} (h : l[i]? = some r) : (crashTo l ks i).set i (crash1 r (ks[cnt (l.take i)]?)) = crashTo l ks (i + 1) := by
  have hl := (List.getElem?_eq_some_iff.1 h).1
  have e : l.take (i + 1) = l.take i ++ [r] := by rw [List.take_add_one, h]; rfl
  have hlen : (RDev.crashF (l.take i) ks).length = i := by rw [crashF_len]; simp; omega
  unfold crashTo
  rw [e, crashF_snoc, List.set_append_right _ _ (by omega), hlen, Nat.sub_self, List.append_assoc]
  congr 1
  rw [List.drop_eq_getElem_cons hl, List.set_cons_zero]
  rfl
theorem crash1_ok {r : RS} (h : r.ok) (x : Option (Int × Int)) : (crash1 r x).ok := by
  unfold crash1
  split
  · refine ⟨?_, by simp⟩
    cases x with
    | none => exact h.1
    | some x => exact keep1_length h.2 h.1
  · exact h
theorem cnt_succ {l : List RS} {i : Nat} {r : RS} (h : l[i]? = some r) : cnt (l.take (i + 1)) = cnt (l.take i) + if r.is then 1 else 0 := by
  have := congrArg List.length (pendTo_succ h)
  unfold pendTo at this
  unfold cnt
  rw [this]
  by_cases h : r.is <;> simp [h]
theorem crashF_ok : ∀ {l : List RS} (ks : Keeps), (∀ r ∈ l, r.ok) → ∀ r ∈ RDev.crashF l ks, r.ok
  | [], ks, _ => by cases ks <;> simp [RDev.crashF]
  | t :: l, ks, h => by
    have ht := h t (by simp)
    have hl := fun ks => crashF_ok (l := l) ks (fun r hr => h r (by simp [hr]))
    by_cases hi : t.is
    · cases ks with
      | nil =>
        simp only [RDev.crashF, hi, if_true, List.mem_cons]
        rintro r (rfl | hr)
        · exact ⟨ht.1, by simp⟩
        · exact hl [] r hr
      | cons x ks =>
        simp only [RDev.crashF, hi, if_true, List.mem_cons]
        rintro r (rfl | hr)
        · exact ⟨keep1_length ht.2 ht.1, by simp⟩
        · exact hl ks r hr
    · have e : RDev.crashF (t :: l) ks = t :: RDev.crashF l ks := by simp [RDev.crashF, hi]
      rw [e]
      intro r hr
      rcases List.mem_cons.1 hr with rfl | hr
      · exact ht
      · exact hl ks r hr
theorem crashTo_ok {l : List RS} (h : ∀ r ∈ l, r.ok) (ks : Keeps) (i : Nat) : ∀ r ∈ crashTo l ks i, r.ok := by
  intro r hr
  rcases List.mem_append.1 hr with hr | hr
  · exact crashF_ok ks (fun t ht => h t (List.mem_of_mem_take ht)) r hr
  · exact h r (List.mem_of_mem_drop hr)
theorem copy_byte {s old : Bytes} (hs : s.length = 144) (ho : old.length = 144) {k : Nat} (hk : k < 144) :
    (bytesV (s.take k ++ old.drop k)).set k (.int .u8 (s[k]?.getD 0).toNat) = bytesV (s.take (k + 1) ++ old.drop (k + 1)) := by
  have h1 : s[k]? = some s[k] := List.getElem?_eq_getElem (by omega)
  have e : bytesV (s.take (k + 1) ++ old.drop (k + 1)) = bytesV (s.take k) ++ (.int .u8 (s[k]?.getD 0).toNat :: bytesV (old.drop (k + 1))) := by
    rw [List.take_add_one, h1, bytesV_append, bytesV_append, List.append_assoc]; rfl
  rw [e, bytesV_append, List.set_append_right _ _ (by simp; omega)]
  have hl : (bytesV (s.take k)).length = k := by simp; omega
  rw [hl, Nat.sub_self, List.drop_eq_getElem_cons (show k < old.length by omega)]
  rfl
theorem crash_inv1 {r : RS} {o : Option (Int × Int)} {q : Int × Int} (hi : r.is = true) (hr : r.ok) (ho : o = some q) (h2 : q.1 = 2) :
    (r.p.take (torn q.2) ++ r.b.drop (torn q.2)).length = 144 ∧ (⟨r.p.take (torn q.2) ++ r.b.drop (torn q.2), zsec, false⟩ : RS) = crash1 r o := by
  have := torn_le q.2
  refine ⟨by simp [hr.1, hr.2]; omega, ?_⟩
  subst ho
  unfold crash1
  rw [if_pos hi]
  simp only [keep1_b h2]
theorem crash_inv8 {r : RS} {o : Option (Int × Int)} {x : Bytes} (hi : r.is = true) (hr : r.ok) (hx : x = (match o with | some q => if q.1 = 1 then r.p else r.b | none => r.b)) (h2 : ∀ q, o = some q → ¬ q.1 = 2) :
    x.length = 144 ∧ (⟨x, zsec, false⟩ : RS) = crash1 r o := by
  unfold crash1
  rw [if_pos hi]
  cases o with
  | none => subst hx; exact ⟨hr.1, rfl⟩
  | some q =>
    have := h2 q rfl
    simp only at hx ⊢
    by_cases h1 : q.1 = 1
    · rw [if_pos h1] at hx; subst hx; exact ⟨hr.2, by rw [keep1_a h1]⟩
    · rw [if_neg h1] at hx; subst hx; exact ⟨hr.1, by rw [keep1_c h1 this]⟩
end Go.Sl
