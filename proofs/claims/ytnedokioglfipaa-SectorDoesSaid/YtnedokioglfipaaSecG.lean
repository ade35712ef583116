/- A part of the proof: contracts and plain lemmas, each without conditions beyond those that it names. -/
import Derived.Test.YtnedokioglfipaaSecF
set_option linter.unusedVariables false
set_option linter.unusedSimpArgs false
set_option linter.constructorNameAsVariable false
namespace Go.Sl
set_option linter.unusedSimpArgs false
/-! the document's device, as it lies: each sector its bytes, what is pending, whether something is -/
structure RS where
  b : Bytes
  p : Bytes
  is : Bool
def rsV (r : RS) : List Value := bytesV r.b ++ bytesV r.p ++ [.bool r.is]
def RS.ok (r : RS) : Prop := r.b.length = 144 ∧ r.p.length = 144
theorem rsV_length {r : RS} (h : r.ok) : (rsV r).length = 289 := by simp [rsV, h.1, h.2]
def zrs : RS := ⟨zsec, zsec, false⟩
theorem zrs_ok : zrs.ok := ⟨by simp [zrs], by simp [zrs]⟩
def rflat (l : List RS) : List Value := (l.map rsV).flatten
structure RDev where
  l : List RS
  dead : Bool
  fuse : Int
structure RDev.ok (D : RDev) : Prop where
  n : D.l.length ≤ 512
  sec : ∀ r ∈ D.l, r.ok
  fuse : -1 ≤ D.fuse ∧ D.fuse ≤ 9223372036854775807
theorem rflat_length : ∀ {l : List RS}, (∀ r ∈ l, r.ok) → (rflat l).length = l.length * 289
  | [], _ => by simp [rflat]
  | r :: l, h => by
    have ih := rflat_length (l := l) (fun t ht => h t (by simp [ht]))
    have hr := rsV_length (h r (by simp))
    simp only [rflat, List.map_cons, List.flatten_cons, List.length_append, List.length_cons] at ih ⊢
    omega
theorem rflat_get : ∀ {l : List RS}, (∀ r ∈ l, r.ok) → ∀ {i j : Nat} {r : RS}, l[i]? = some r → j < 289 → (rflat l)[i * 289 + j]? = (rsV r)[j]?
  | [], _, i, j, r, h, _ => by simp at h
  | t :: l, h, i, j, r, hi, hj => by
    have ht := rsV_length (h t (by simp))
    cases i with
    | zero =>
      simp at hi; subst hi
      simp only [rflat, List.map_cons, List.flatten_cons, Nat.zero_mul, Nat.zero_add]
      rw [List.getElem?_append_left (by omega)]
    | succ i =>
      have ih := rflat_get (l := l) (fun u hu => h u (by simp [hu])) (i := i) (j := j) (r := r) (by simpa using hi) hj
      simp only [rflat, List.map_cons, List.flatten_cons] at ih ⊢
      rw [List.getElem?_append_right (by omega), ht, show (i + 1) * 289 + j - 289 = i * 289 + j by omega]
      exact ih
/-- What is stored inside one sector. -/
theorem rflat_splice : ∀ {l : List RS}, (∀ r ∈ l, r.ok) → ∀ {i o : Nat} {us : List Value} {r r' : RS}, l[i]? = some r → o + us.length ≤ 289 → (rsV r).take o ++ us ++ (rsV r).drop (o + us.length) = rsV r' →
    (rflat l).take (i * 289 + o) ++ us ++ (rflat l).drop (i * 289 + o + us.length) = rflat (l.set i r')
  | [], _, i, o, us, r, r', h, _, _ => by simp at h
  | t :: l, h, i, o, us, r, r', hi, ho, he => by
    have ht := rsV_length (h t (by simp))
    cases i with
    | zero =>
      simp at hi; subst hi
      simp only [rflat, List.map_cons, List.flatten_cons, Nat.zero_mul, Nat.zero_add, List.set_cons_zero]
      rw [List.take_append_of_le_length (by omega), List.drop_append_of_le_length (by omega), ← he]
      simp only [List.append_assoc]
    | succ i =>
      have ih := rflat_splice (l := l) (fun u hu => h u (by simp [hu])) (i := i) (o := o) (us := us) (r := r) (r' := r') (by simpa using hi) ho he
      simp only [rflat, List.map_cons, List.flatten_cons, List.set_cons_succ] at ih ⊢
      rw [← ih, List.take_append, List.drop_append, List.drop_eq_nil_of_le (by omega), List.take_of_length_le (by omega), ht]
      simp only [List.nil_append, List.append_assoc]
      rw [show (i + 1) * 289 + o - 289 = i * 289 + o by omega, show (i + 1) * 289 + o + us.length - 289 = i * 289 + o + us.length by omega]
theorem rs_p {r : RS} (h : r.ok) {s : Bytes} (hs : s.length = 144) : (rsV r).take 144 ++ bytesV s ++ (rsV r).drop (144 + (bytesV s).length) = rsV { r with p := s } := by
  obtain ⟨h1, h2⟩ := h
  have e : rsV r = bytesV r.b ++ (bytesV r.p ++ [.bool r.is]) := by simp [rsV]
  have e1 : (rsV r).take 144 = bytesV r.b := by rw [e, List.take_append_of_le_length (by simp [h1]), List.take_of_length_le (by simp [h1])]
  have e2 : (rsV r).drop 288 = [.bool r.is] := by
    rw [e, show 288 = 144 + 144 by omega, ← List.drop_drop, List.drop_left' (by simp [h1]), List.drop_left' (by simp [h2])]
  rw [e1, bytesV_length, hs, e2]
  simp [rsV]
theorem rs_is {r : RS} (h : r.ok) (v : Bool) : (rsV r).take 288 ++ [.bool v] ++ (rsV r).drop (288 + [Value.bool v].length) = rsV { r with is := v } := by
  obtain ⟨h1, h2⟩ := h
  unfold rsV
  rw [List.take_append_of_le_length (by simp [h1, h2]), List.take_of_length_le (by simp [h1, h2]), List.drop_eq_nil_of_le (by simp [h1, h2])]
  simp
/-! what is done to it -/
def RDev.act (D : RDev) : Int × RDev := if D.fuse = 0 then (30, { D with dead := true }) else (0, if 0 < D.fuse then { D with fuse := IntKind.i64.wrap (D.fuse - 1) } else D)
def RDev.upd (D : RDev) (i : Int) (f : RS → RS) : RDev := { D with l := D.l.modify i.toNat f }
def RDev.write (D : RDev) (i : Int) (bs : Bytes) : Int × RDev :=
  if D.dead = true then (30, D) else if i < 0 ∨ (D.l.length : Int) ≤ i then (2, D) else if (144 : Int) < bs.length then (3, D) else if D.act.1 ≠ 0 then D.act else
  (0, D.act.2.upd i fun r => { r with p := pad bs, is := true })
def RS.settle (r : RS) : RS := if r.is then ⟨r.p, zsec, false⟩ else r
def RDev.barrier (D : RDev) : Int × RDev := if D.dead = true then (30, D) else if D.act.1 ≠ 0 then D.act else (0, { D.act.2 with l := D.act.2.l.map RS.settle })
def RS.sec (r : RS) : Bytes := if r.is then r.p else r.b
def RDev.pendF : List RS → Nat → List Int
  | [], _ => []
  | r :: l, k => if r.is then (k : Int) :: pendF l (k + 1) else pendF l (k + 1)
def RDev.pending (D : RDev) : List Int := RDev.pendF D.l 0
def RDev.crashF : List RS → Keeps → List RS
  | [], _ => []
  | r :: l, ks => if r.is then (match ks with
    | [] => ⟨r.b, zsec, false⟩ :: crashF l []
    | x :: ks => ⟨keep1 r.p x r.b, zsec, false⟩ :: crashF l ks) else r :: crashF l ks
def RDev.crash (D : RDev) (ks : Keeps) : RDev := { l := RDev.crashF D.l ks, dead := false, fuse := -1 }
def RDev.lose (D : RDev) : RDev := { l := List.replicate D.l.length zrs, dead := false, fuse := -1 }
def RDev.setFuse (D : RDev) (n : Int) : RDev := { D with fuse := if n < 0 then -1 else n }
def RDev.new (n : Nat) : RDev := ⟨List.replicate n zrs, false, -1⟩
/-- So many bytes copied into a row of zeros. -/
def padk (bs : Bytes) (k : Nat) : Bytes := bs.take k ++ List.replicate (144 - k) 0
theorem padk_zero (bs : Bytes) : padk bs 0 = zsec := by simp [padk, zsec]
theorem padk_all (bs : Bytes) : padk bs bs.length = pad bs := by simp [padk, pad]
theorem padk_set {bs : Bytes} {k : Nat} (hk : k < bs.length) (hb : bs.length ≤ 144) : (bytesV (padk bs k)).set k (.int .u8 (bs[k]?.getD 0).toNat) = bytesV (padk bs (k + 1)) := by
  apply List.ext_getElem?
  intro j
  unfold padk bytesV
  rw [List.getElem?_set]
  by_cases e : k = j
  · subst e
    have h1 : k < bs.length := hk
    rw [if_pos rfl, if_pos (by simp; omega)]
    rw [List.getElem?_map, List.getElem?_append_left (by simp; omega), List.getElem?_take, if_pos (by omega)]
    simp [h1]
  · rw [if_neg e, List.getElem?_map, List.getElem?_map]
    congr 1
    rcases Nat.lt_or_ge j k with h | h
    · rw [List.getElem?_append_left (by simp; omega), List.getElem?_append_left (by simp; omega), List.getElem?_take, if_pos h, List.getElem?_take, if_pos (by omega)]
    · rw [List.getElem?_append_right (by simp; omega), List.getElem?_append_right (by simp; omega), List.getElem?_replicate, List.getElem?_replicate]
      simp only [List.length_take]
      have h1 : min k bs.length = k := by omega
      have h2 : min (k + 1) bs.length = k + 1 := by omega
      rw [h1, h2]
      by_cases h3 : j < 144
      · rw [if_pos (by omega), if_pos (by omega)]
      · rw [if_neg (by omega), if_neg (by omega)]
@[simp] theorem ract_l {D : RDev} : D.act.2.l = D.l := by unfold RDev.act; split <;> (try split) <;> rfl
theorem upd_flat {l : List RS} (h : ∀ r ∈ l, r.ok) {i : Nat} {r : RS} (hr : l[i]? = some r) (f : RS → RS) : l.modify i f = l.set i (f r) := by
  obtain ⟨h1, h2⟩ := List.getElem?_eq_some_iff.1 hr
  apply List.ext_getElem?
  intro j
  rw [List.getElem?_modify, List.getElem?_set]
  by_cases e : i = j
  · subst e; simp [h1, h2]
  · simp [e]
theorem rdV_of_rdB [Env] {R : List Seg} {v : Value} {bs : Bytes} {w : World} (h : RdB R v bs) (hh : Has w R) : RdV R v bs.length (bytesV bs) := by
  rcases h with ⟨rfl, rfl⟩ | ⟨a, c, rfl, h2⟩
  · exact .inl ⟨rfl, rfl, rfl⟩
  · have hs : bs.length ≠ 0 → a.spot = none := fun h0 => by
      have := h2 w hh 0 (by omega)
      cases hq : a.spot with
      | none => rfl
      | some s =>
        exfalso
        have e : a.add 0 = a := by simp [Addr.add]
        rw [e] at this
        unfold World.cell? at this
        split at this
        · rw [hq] at this; simp at this
        · cases this
    refine .inr ⟨a, c, rfl, hs, fun w' hw' j hj => ?_⟩
    have hj' : j < bs.length := by simpa using hj
    have := h2 w' hw' j hj'
    have hsp := hs (by omega)
    rw [show a.add j = ⟨a.block, a.off + j, none⟩ by cases a; simp at hsp; subst hsp; exact add_lit _ _ _] at this
    rw [this]
    simp [bytesV]
theorem set_ok {l : List RS} (h : ∀ r ∈ l, r.ok) {i : Nat} {r : RS} (hr : r.ok) : ∀ t ∈ l.set i r, t.ok := by
  intro t ht
  rcases List.mem_or_eq_of_mem_set ht with h1 | rfl
  · exact h t h1
  · exact hr
theorem list_set_eq {vs : List Value} {o : Nat} {v : Value} (h : o < vs.length) : vs.set o v = vs.take o ++ [v] ++ vs.drop (o + [v].length) := by
  rw [List.set_eq_take_append_cons_drop, if_pos h]; simp
theorem rs_store {l : List RS} (h : ∀ r ∈ l, r.ok) {i : Int} {r : RS} {s : Bytes} (hr : l[i.toNat]? = some r) (hro : r.ok) (hs : s.length = 144) {o : Nat} (ho : o = i.toNat * 289 + 288) :
    (rflat (l.set i.toNat { r with p := s })).set o (.bool true) = rflat (l.set i.toNat { r with p := s, is := true }) := by
  subst ho
  have hl := (List.getElem?_eq_some_iff.1 hr).1
  have hro' : RS.ok { r with p := s } := ⟨hro.1, hs⟩
  have h1 := rflat_splice (o := 288) (us := [.bool true]) (set_ok h hro') (r := { r with p := s }) (List.getElem?_set_self hl) (by simp) (rs_is hro' true)
  rw [List.set_set] at h1
  rw [list_set_eq (by rw [rflat_length (set_ok h hro')]; simp; omega)]
  exact h1
theorem rflat_slice {l : List RS} (h : ∀ r ∈ l, r.ok) {i : Nat} {r : RS} (hr : l[i]? = some r) {o m : Nat} (ho : o + m ≤ 289) : ((rflat l).drop (i * 289 + o)).take m = ((rsV r).drop o).take m := by
  apply List.ext_getElem?
  intro j
  rw [List.getElem?_take, List.getElem?_take]
  split
  · rw [List.getElem?_drop, List.getElem?_drop, Nat.add_assoc, rflat_get h hr (by omega)]
  · rfl
theorem rsV_b {r : RS} (h : r.ok) : ((rsV r).drop 0).take 144 = bytesV r.b := by
  unfold rsV
  rw [List.drop_zero, List.append_assoc, List.take_append_of_le_length (by simp [h.1]), List.take_of_length_le (by simp [h.1])]
theorem rsV_p {r : RS} (h : r.ok) : ((rsV r).drop 144).take 144 = bytesV r.p := by
  unfold rsV
  rw [List.append_assoc, List.drop_left' (by simp [h.1]), List.take_append_of_le_length (by simp [h.2]), List.take_of_length_le (by simp [h.2])]
theorem rsV_is {r : RS} (h : r.ok) : (rsV r)[288]? = some (.bool r.is) := by
  unfold rsV
  rw [List.getElem?_append_right (by simp [h.1, h.2])]
  simp [h.1, h.2]
theorem settle_ok {r : RS} (h : r.ok) : r.settle.ok := by
  unfold RS.settle
  split
  · exact ⟨h.2, by simp⟩
  · exact h
/-- So many sectors settled. -/
def stl (l : List RS) (k : Nat) : List RS := (l.take k).map RS.settle ++ l.drop k
theorem stl_zero (l : List RS) : stl l 0 = l := by simp [stl]
theorem stl_all (l : List RS) : stl l l.length = l.map RS.settle := by simp [stl]
theorem stl_len (l : List RS) (k : Nat) : (stl l k).length = l.length := by simp [stl]; omega
theorem stl_ok {l : List RS} (h : ∀ r ∈ l, r.ok) (k : Nat) : ∀ r ∈ stl l k, r.ok := by
  intro r hr
  rcases List.mem_append.1 hr with hr | hr
  · obtain ⟨t, ht, rfl⟩ := List.mem_map.1 hr
    exact settle_ok (h t (List.mem_of_mem_take ht))
  · exact h r (List.mem_of_mem_drop hr)
theorem stl_get {l : List RS} {k : Nat} {r : RS} (h : l[k]? = some r) : (stl l k)[k]? = some r := by
  have hl := (List.getElem?_eq_some_iff.1 h).1
  unfold stl
  rw [List.getElem?_append_right (by simp; omega)]
  simp only [List.length_map, List.length_take, List.getElem?_drop]
  rw [show min k l.length = k by omega, show k + (k - k) = k by omega]
  exact h
theorem stl_succ {l : List RS} {k : Nat} {r : RS} (h : l[k]? = some r) : (stl l k).set k r.settle = stl l (k + 1) := by
  have hl := (List.getElem?_eq_some_iff.1 h).1
  apply List.ext_getElem?
  intro j
  rw [List.getElem?_set]
  unfold stl
  by_cases e : k = j
  · subst e
    rw [if_pos rfl, if_pos (by simp; omega), List.getElem?_append_left (by simp; omega), List.getElem?_map, List.getElem?_take, if_pos (by omega), h]
    rfl
  · rw [if_neg e]
    rcases Nat.lt_or_ge j k with hj | hj
    · rw [List.getElem?_append_left (by simp; omega), List.getElem?_append_left (by simp; omega), List.getElem?_map, List.getElem?_map, List.getElem?_take, List.getElem?_take, if_pos hj, if_pos (by omega)]
    · rw [List.getElem?_append_right (by simp; omega), List.getElem?_append_right (by simp; omega)]
      simp only [List.length_map, List.length_take, List.getElem?_drop]
      congr 1
      omega
theorem rs_store_all {l : List RS} (h : ∀ r ∈ l, r.ok) {i : Nat} {r r' : RS} (hr : l[i]? = some r) (hr' : r'.ok) :
    (rflat l).take (i * 289) ++ rsV r' ++ (rflat l).drop (i * 289 + 289) = rflat (l.set i r') := by
  have hro := h r (List.mem_of_getElem? hr)
  have := rflat_splice (o := 0) (us := rsV r') h hr (by rw [rsV_length hr']; omega) (r' := r') (by rw [rsV_length hr', Nat.zero_add, List.take_zero, List.nil_append, List.drop_eq_nil_of_le (by rw [rsV_length hro]; omega), List.append_nil])
  rw [rsV_length hr'] at this
  simpa using this
theorem rsV_one (r : RS) : ∀ u ∈ rsV r, u.oneCell' = true := by
  intro u hu
  unfold rsV at hu
  simp only [List.mem_append, List.mem_cons, List.not_mem_nil, or_false] at hu
  rcases hu with (hu | hu) | rfl
  · exact bytesV_one _ u hu
  · exact bytesV_one _ u hu
  · rfl
theorem build_b {s : Bytes} (hs : s.length = 144) : splice (rsV zrs) (bytesV s) 0 = rsV ⟨s, zsec, false⟩ := by
  unfold splice
  have e : rsV zrs = bytesV zsec ++ (bytesV zsec ++ [.bool false]) := by simp [rsV, zrs]
  rw [List.take_zero, List.nil_append, bytesV_length, hs, e, Nat.zero_add, List.drop_left' (by simp)]
  simp [rsV]
/-- What is pending of the first so many sectors. -/
def pendTo (l : List RS) (k : Nat) : List Int := RDev.pendF (l.take k) 0
theorem pendF_append : ∀ (a b : List RS) (k : Nat), RDev.pendF (a ++ b) k = RDev.pendF a k ++ RDev.pendF b (k + a.length)
  | [], b, k => by simp [RDev.pendF]
  | r :: a, b, k => by
    simp only [List.cons_append, RDev.pendF, List.length_cons, pendF_append a b (k + 1)]
    rw [show k + 1 + a.length = k + (a.length + 1) by omega]
    split <;> simp
theorem pendTo_all (D : RDev) : pendTo D.l D.l.length = D.pending := by simp [pendTo, RDev.pending]
theorem pendTo_succ {l : List RS} {k : Nat} {r : RS} (h : l[k]? = some r) : pendTo l (k + 1) = pendTo l k ++ (if r.is then [(k : Int)] else []) := by
  have hl := (List.getElem?_eq_some_iff.1 h).1
  unfold pendTo
  rw [List.take_add_one, h, Option.toList_some, pendF_append]
  congr 1
  simp only [RDev.pendF, List.length_take]
  rw [show 0 + min k l.length = k by omega]
theorem pendTo_is {l : List RS} {k : Nat} {r : RS} (h : l[k]? = some r) (hi : r.is = true) : pendTo l (k + 1) = pendTo l k ++ [(k : Int)] := by rw [pendTo_succ h, if_pos hi]
theorem pendTo_not {l : List RS} {k : Nat} {r : RS} (h : l[k]? = some r) (hi : r.is = false) : pendTo l (k + 1) = pendTo l k := by rw [pendTo_succ h, if_neg (by simp [hi])]; simp
theorem pendF_le : ∀ (l : List RS) (k : Nat), (RDev.pendF l k).length ≤ l.length
  | [], _ => by simp [RDev.pendF]
  | r :: l, k => by
    have := pendF_le l (k + 1)
    simp only [RDev.pendF]
    split <;> simp <;> omega
theorem pendTo_le (l : List RS) (k : Nat) : (pendTo l k).length ≤ l.length := Nat.le_trans (pendF_le _ _) (by simp; omega)
def RDev.has (D : RDev) (i : Int) : Int := if D.dead = true then 30 else if i < 0 ∨ (D.l.length : Int) ≤ i then 2 else 0
def RDev.sec (D : RDev) (i : Int) : Bytes := ((D.l[i.toNat]?).map RS.sec).getD zsec
theorem rsec_len {r : RS} (h : r.ok) : r.sec.length = 144 := by unfold RS.sec; split; exact h.2; exact h.1
theorem rs_byte_p {r : RS} (h : r.ok) (hi : r.is = true) {k : Nat} (hk : k < 144) : (rsV r)[144 + k]? = some (.int .u8 (r.sec[k]?.getD 0).toNat) := by
  unfold rsV RS.sec
  rw [if_pos hi, List.append_assoc, List.getElem?_append_right (by simp [h.1]), bytesV_length, h.1, show 144 + k - 144 = k by omega, List.getElem?_append_left (by simp [h.2, hk]), bytesV_get (by rw [h.2]; exact hk)]
theorem rs_byte_b {r : RS} (h : r.ok) (hi : r.is = false) {k : Nat} (hk : k < 144) : (rsV r)[k]? = some (.int .u8 (r.sec[k]?.getD 0).toNat) := by
  unfold rsV RS.sec
  rw [if_neg (by simp [hi]), List.append_assoc, List.getElem?_append_left (by simp [h.1, hk]), bytesV_get (by rw [h.1]; exact hk)]
theorem take_byte {s : Bytes} {k : Nat} (hk : k < s.length) : bytesV (s.take k) ++ [.int .u8 (s[k]?.getD 0).toNat] = bytesV (s.take (k + 1)) := by
  rw [List.take_add_one, bytesV_append, List.getElem?_eq_getElem hk]
  rfl
end Go.Sl
