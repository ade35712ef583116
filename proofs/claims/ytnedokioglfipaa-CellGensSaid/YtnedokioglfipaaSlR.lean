/- A part of the proof: contracts and plain lemmas, each without conditions beyond those that it names. -/
import Derived.Test.YtnedokioglfipaaSlK
set_option linter.unusedVariables false
set_option linter.unusedSimpArgs false
set_option linter.constructorNameAsVariable false
namespace Go.Sl
set_option linter.unusedSimpArgs false
/-- Where a slice's elements begin. -/
def sB : Value → Nat
  | .slice (some a) _ _ => a.block
  | _ => 0
def sO : Value → Nat
  | .slice (some a) _ _ => a.off
  | _ => 0
/-- 'v' is a slice of m elements that reads as these cells, in every world in which R lies. -/
def RdV [Env] (R : List Seg) (v : Value) (m : Nat) (vs : List Value) : Prop :=
  (v = .slice none 0 0 ∧ m = 0 ∧ vs = []) ∨ ∃ a c, v = .slice (some a) m c ∧ (m ≠ 0 → a.spot = none) ∧ ∀ w, Has w R → ∀ j (h : j < vs.length), w.cell? ⟨a.block, a.off + j, none⟩ = some vs[j]
theorem RdV.mono [Env] {R R' : List Seg} {v : Value} {m : Nat} {vs : List Value} (h : RdV R v m vs) (hg : Ge R' R) : RdV R' v m vs := by
  rcases h with h | ⟨a, c, h1, h3, h2⟩
  · exact .inl h
  · exact .inr ⟨a, c, h1, h3, fun w hh => h2 w (hg.has hh)⟩
theorem RdV.lenVal [Env] {R : List Seg} {v : Value} {m : Nat} {vs : List Value} (h : RdV R v m vs) : ∃ b c, v = .slice b m c := by
  rcases h with ⟨rfl, rfl, rfl⟩ | ⟨a, c, h1, _⟩
  · exact ⟨none, 0, rfl⟩
  · exact ⟨_, c, h1⟩
theorem rdV_in [Env] {L : List Seg} {b o m c k : Nat} {vs us : List Value} {T : TypeId} {fr : Nat × Nat} (hi : In L (so b (.cells vs.toArray T fr))) (hk : us.length = k) (hv : (vs.drop o).take k = us) :
    RdV L (.slice (some ⟨b, o, none⟩) m c) m us := by
  subst hk
  refine .inr ⟨_, c, rfl, fun _ => rfl, fun w hh j hj => ?_⟩
  refine cell_at hh hi ?_
  have h2 : ((vs.drop o).take us.length)[j]? = us[j]? := by rw [hv]
  rw [List.getElem?_take, if_pos hj, List.getElem?_drop] at h2
  show vs[o + j]? = some us[j]
  rw [h2]
  simp [hj]
theorem rdV_sv [Env] {L : List Seg} {s : Sv} {e : TypeId} {m k : Nat} {xs : List Value} (hi : In L (svSeg s e xs)) (hok : svOk s m k xs) : RdV L (svVal s m) m xs := by
  cases s with
  | none =>
    obtain ⟨h1, h2⟩ := hok
    subst h1; subst h2
    exact .inl ⟨rfl, rfl, rfl⟩
  | some p => exact rdV_in hi rfl (by simp)
theorem RdV.bytes [Env] {R : List Seg} {v : Value} {bs : Bytes} (h : RdV R v bs.length (bytesV bs)) : RdB R v bs := by
  rcases h with ⟨h1, h2, h3⟩ | ⟨a, c, h1, h3, h2⟩
  · exact .inl ⟨h1, List.eq_nil_of_length_eq_zero h2⟩
  · refine .inr ⟨_, c, h1, fun w hh j hj => ?_⟩
    have := h2 w hh j (by simpa using hj)
    have hs := h3 (by omega)
    rw [show a.add j = ⟨a.block, a.off + j, none⟩ by cases a; simp at hs; subst hs; exact add_lit _ _ _, this]
    simp [bytesV]
theorem rdV_nil [Env] {R : List Seg} : RdV R (.slice none 0 0) 0 [] := .inl ⟨rfl, rfl, rfl⟩

section
variable {P : Program} {n : Nat} {l : List (Nat × Value)} {L : List Seg} {d : Option Tmp} {ty : TypeId} {pos : String} {af : Array Edge} {g : Option (Nat × Bool)}
theorem ev_lenV [Env] {x : Operand} {t : TypeId} {T e : TypeId} {v : Value} {m : Nat} (hx : ev l x = some v) (hu : P.underlying T = some (.slice e)) (hb : ∃ b c, v = .slice b m c) :
    Ev P n ⟨d, .call { callee := .builtin .len, args := #[x], argTypes := #[T] }, t, pos, af, g⟩ l L (.int .i64 m) := by
  obtain ⟨b, c, rfl⟩ := hb
  exact ev_len hx hu
theorem ev_lenSv [Env] {x : Operand} {t : TypeId} {T e : TypeId} {s : Sv} {m k : Nat} {xs : List Value} (hx : ev l x = some (svVal s m)) (hu : P.underlying T = some (.slice e)) (hok : svOk s m k xs) :
    Ev P n ⟨d, .call { callee := .builtin .len, args := #[x], argTypes := #[T] }, t, pos, af, g⟩ l L (.int .i64 m) := by
  cases s with
  | none => obtain ⟨rfl, rfl⟩ := hok; exact ev_len hx hu
  | some p => exact ev_len hx hu
theorem ev_toStrB [Env] {R : List Seg} {t u e : TypeId} {x : Operand} {v : Value} {bs : Bytes} (hb : RdB R v bs) (hg : Ge L R) (hx : ev l x = some v)
    (ht : P.underlying t = some (.slice e)) (hu : P.underlying u = some .string) (he : P.underlying e = some (.int .u8)) : Ev P n ⟨d, .convert t u x, ty, pos, af, g⟩ l L (.string ⟨bs.toArray⟩) := by
  rcases hb with ⟨h1, rfl⟩ | ⟨b, c, h1, h2⟩
  · subst h1
    exact ev_toStr0 hx ht hu he
  · subst h1
    intro a w hf hh
    have := run_convert_bytes_back (P := P) w t u e b c bs ht he hu (fun j hj => h2 w (hg.has hh) j hj)
    simp [execOp, hf.ev hx, this]
theorem ev_eqlL [Env] {t t' : TypeId} {x y : Operand} {p q : Bytes} (hx : ev l x = some (.string ⟨p.toArray⟩)) (hy : ev l y = some (.string ⟨q.toArray⟩)) :
    Ev P n ⟨d, .binOp .eql t x y t', ty, pos, af, g⟩ l L (.bool (decide (p = q))) := by
  have h := ev_eqlS (P := P) (n := n) (L := L) (d := d) (ty := ty) (pos := pos) (af := af) (g := g) (t := t) (t' := t') hx hy
  rw [Go.ByteArray.toList_mk, Go.ByteArray.toList_mk] at h
  have e : (p == q) = decide (p = q) := by by_cases h : p = q <;> simp [h]
  rw [← e]
  exact h
theorem ac_bsliceR [Env] {t e : TypeId} {m s : Nat} {parts : List (Nat × Operand)} {ps : List (Nat × Value)} {zv : Value} {z vs : List Value} (hp : evps l parts = some ps)
    (hu : P.underlying t = some (.slice e)) (hs : ∀ w, (sizeOf e).run P w = .ok s w) (hz : ∀ w, (zeroValue e).run P w = .ok zv w) (hzc : zv.cells = z.toArray) (hzl : z.length = s) (hbig : Nat.ble (m * s) 16777216 = true) (hpos : Nat.blt 0 (m * s) = true)
    (hok : fillOk ((List.range m).map fun i => (i * s, s)) (reps m z).length ps) (hv : fillL ((List.range m).map fun i => (i * s, s)) (reps m z) ps = vs) :
    Ac P n ⟨d, .buildSlice t m parts.toArray, ty, pos, af, g⟩ l L (KSl e m vs L) := by
  refine ac_bslice hp hu hs hz hbig hpos ?_ hok hv
  rw [hzc]
  have h0 : 0 < m * s := by simpa using hpos
  have h1 : 0 < z.length := by rw [hzl]; exact Nat.pos_of_mul_pos_left h0
  have := made_cells m z h1
  rw [hzl] at this
  exact this
theorem modify_eq {α : Type} (a : Array α) (i : Nat) (f : α → α) (x : α) (h : a[i]? = some x) : a.modify i f = a.setIfInBounds i (f x) := by
  obtain ⟨hl, hx⟩ := Array.getElem?_eq_some_iff.1 h
  subst hx
  apply Array.ext_getElem?
  intro j
  rw [Array.getElem?_modify, Array.getElem?_setIfInBounds]
  by_cases e : i = j
  · subst e; simp [h, hl]
  · simp [e]
theorem ac_mark [Env] {t e : TypeId} {x : Operand} {b o m c : Nat} {vs : List Value} {T : TypeId} {Lx : Obj → List Seg} (hx : ev l x = some (.slice (some ⟨b, o, none⟩) m c)) (ht : P.underlying t = some (.slice e)) (he : P.underlying e = some (.int .u8))
    (hi : In L (so b (.cells vs.toArray T (0, 0)))) (hr : ∀ o', Rp L (so b (.cells vs.toArray T (0, 0))) (so b o') (Lx o')) :
    Ac P n ⟨d, .convert t t x, ty, pos, af, g⟩ l L (fun v L' => v = .slice (some ⟨b, o, none⟩) m c ∧ ∃ fr, L' = Lx (.cells vs.toArray T fr)) := by
  intro a w hf hh
  have hb := hh.obj hi
  refine ⟨_, setB w b (.cells vs.toArray T (vs.length, vs.length + 1)), _, .inl ?_, ⟨rfl, _, rfl⟩, hh.setB (hr _)⟩
  simp [execOp, hf.ev hx, convert, run_underlying ht, run_underlying he, markStringish, Go.shape, Go.freeze, Sem.run, World.shape?, World.freeze, hb, setB]
  rw [modify_eq _ _ _ _ hb]
  simp
theorem ev_neqL [Env] {t t' : TypeId} {x y : Operand} {p q : Bytes} (hx : ev l x = some (.string ⟨p.toArray⟩)) (hy : ev l y = some (.string ⟨q.toArray⟩)) :
    Ev P n ⟨d, .binOp .neq t x y t', ty, pos, af, g⟩ l L (.bool (decide (p ≠ q))) := by
  have h := ev_neqS (P := P) (n := n) (L := L) (d := d) (ty := ty) (pos := pos) (af := af) (g := g) (t := t) (t' := t') hx hy
  rw [Go.ByteArray.toList_mk, Go.ByteArray.toList_mk] at h
  have e : (!(p == q)) = decide (p ≠ q) := by by_cases h : p = q <;> simp [h]
  rw [← e]
  exact h
theorem sv_some {s : Sv} {m k : Nat} {xs : List Value} (h : svOk s m k xs) (hm : 0 < m) : ∃ b cap sp, s = some (b, cap, sp) ∧ m ≤ cap := by
  cases s with
  | none => obtain ⟨rfl, _⟩ := h; omega
  | some p => exact ⟨p.1, p.2.1, p.2.2, rfl, h.1⟩
theorem ev_ixV [Env] {R : List Seg} {t e : TypeId} {x y : Operand} {k : IntKind} {m s : Nat} {i : Int} {v : Value} {vs : List Value} (hv : RdV R v m vs) (hx : ev l x = some v) (hy : ev l y = some (.int k i))
    (hu : P.underlying t = some (.slice e)) (hs : ∀ w, (sizeOf e).run P w = .ok s w) (h0 : 0 ≤ i) (h1 : i < m) :
    Ev P n ⟨d, .indexAddr t x y, ty, pos, af, g⟩ l L (.pointer (some ⟨sB v, sO v + i.toNat * s, none⟩)) := by
  rcases hv with ⟨_, rfl, _⟩ | ⟨a, c, h2, h3, _⟩
  · omega
  · subst h2
    have e : a = ⟨a.block, a.off, none⟩ := by
      have := h3 (by omega)
      cases a; simp at this; subst this; rfl
    exact ev_ixAddr (hx.trans (show some (Value.slice (some a) m c) = some (.slice (some ⟨a.block, a.off, none⟩) m c) by rw [← e])) hy hu hs h0 h1
theorem RdV.cell [Env] {R : List Seg} {m o k : Nat} {v u : Value} {vs : List Value} (hv : RdV R v m vs) (hg : Ge L R) (ho : o = sO v + k) (hk : vs[k]? = some u) {w : World} (hh : Has w L) : w.cell? ⟨sB v, o, none⟩ = some u := by
  subst ho
  rcases hv with ⟨_, _, rfl⟩ | ⟨a, c, rfl, _, h2⟩
  · simp at hk
  · obtain ⟨h3, h4⟩ := List.getElem?_eq_some_iff.1 hk
    show w.cell? ⟨a.block, a.off + k, none⟩ = some u
    rw [h2 w (hg.has hh) k h3, h4]
theorem ev_loadV [Env] {R : List Seg} {t : TypeId} {x : Operand} {m o : Nat} {v u : Value} {vs : List Value} (k : Nat) (hv : RdV R v m vs) (hg : Ge L R) (hx : ev l x = some (.pointer (some ⟨sB v, o, none⟩)))
    (ha : ∀ w, (isAgg t).run P w = .ok false w) (ho : o = sO v + k) (hk : vs[k]? = some u) : Ev P n ⟨d, .load t x, ty, pos, af, g⟩ l L u :=
  fun a w hf hh => by simp [execOp, Instr.loadAt, hf.ev hx, Instr.sureAddr, loadVar, ha, hv.cell hg ho hk hh]
theorem ev_loadNV [Env] {R : List Seg} {t : TypeId} {x : Operand} {m o q : Nat} {v : Value} {vs us : List Value} (k : Nat) (hv : RdV R v m vs) (hg : Ge L R) (hx : ev l x = some (.pointer (some ⟨sB v, o, none⟩)))
    (ha : ∀ w, (isAgg t).run P w = .ok true w) (hs : ∀ w, (sizeOf t).run P w = .ok q w) (ho : o = sO v + k) (hk : (vs.drop k).take q = us) (hq : us.length = q) : Ev P n ⟨d, .load t x, ty, pos, af, g⟩ l L (.agg us.toArray) := by
  intro a w hf hh
  have hl : (loadCells ⟨sB v, o, none⟩ us.length).run P w = .ok us.toArray w := by
    refine run_loadCells_list w _ us (fun j u hj => ?_)
    rw [add_lit]
    refine hv.cell hg (k := k + j) (by omega) ?_ hh
    rw [← hk, List.getElem?_take] at hj
    split at hj
    · rwa [List.getElem?_drop] at hj
    · cases hj
  rw [hq] at hl
  simp [execOp, Instr.loadAt, hf.ev hx, Instr.sureAddr, loadVar, ha, hs, hl]
end

/-! what a crash leaves -/
abbrev Keeps := List (Int × Int)
def keepsV (ks : Keeps) : List Value := (ks.map fun x => [Value.int .i64 x.1, Value.int .i64 x.2]).flatten
theorem keepsV_get : ∀ (ks : Keeps) (k : Nat) (x : Int × Int), ks[k]? = some x → (keepsV ks)[k * 2]? = some (.int .i64 x.1) ∧ (keepsV ks)[k * 2 + 1]? = some (.int .i64 x.2)
  | [], k, x, h => by simp at h
  | y :: ks, 0, x, h => by simp at h; subst h; simp [keepsV]
  | y :: ks, k + 1, x, h => by
    have := keepsV_get ks k x (by simpa using h)
    rw [show (k + 1) * 2 = k * 2 + 2 by omega, show k * 2 + 2 + 1 = k * 2 + 1 + 2 by omega]
    simpa [keepsV] using this
/-- So many of a torn sector's bytes are new. -/
def torn (n : Int) : Nat := (min (max n 0) 144).toNat
def keep1 (s : Bytes) (x : Int × Int) (old : Bytes) : Bytes := if x.1 = 1 then s else if x.1 = 2 then s.take (torn x.2) ++ old.drop (torn x.2) else old
def crashL (D : Dev) : List Int → Keeps → List Bytes → List Bytes
  | i :: is, x :: ks, ls => crashL D is ks (ls.set i.toNat (keep1 (D.sec i) x (ls[i.toNat]?.getD [])))
  | _, _, ls => ls
def Dev.crash (D : Dev) (ks : Keeps) : Dev := { D with l := crashL D D.pending ks D.l, es := [], dead := false, fuse := -1 }
theorem crashL_nil (D : Dev) (ks : Keeps) (ls : List Bytes) : crashL D [] ks ls = ls := by cases ks <;> rfl
theorem crashL_nil' (D : Dev) (is : List Int) (ls : List Bytes) : crashL D is [] ls = ls := by cases is <;> rfl
theorem pending_length (D : Dev) : D.pending.length = D.es.length := by simp [Dev.pending]
theorem eget_of_mem {es : Es} (hu : (es.map (·.1)).Nodup) {x : Int × Bytes × Nat} (hx : x ∈ es) : eget es x.1 = some x.2.1 := by
  induction es with
  | nil => cases hx
  | cons y es ih =>
    have hn := List.nodup_cons.1 hu
    unfold eget at ih ⊢
    by_cases e : y.1 = x.1
    · rw [List.find?_cons_of_pos (by simpa using e)]
      rcases List.mem_cons.1 hx with rfl | h
      · rfl
      · exact absurd (List.mem_map.2 ⟨x, h, e.symm⟩) hn.1
    · rw [List.find?_cons_of_neg (by simpa using e)]
      rcases List.mem_cons.1 hx with rfl | h
      · exact absurd rfl e
      · exact ih hn.2 h
theorem pend_get {D : Dev} (hD : D.ok) {k : Nat} (hk : k < D.es.length) : ∃ i s old, D.pending[k]? = some i ∧ eget D.es i = some s ∧ 0 ≤ i ∧ i < D.l.length ∧ s.length = 144 ∧ D.l[i.toNat]? = some old := by
  have hl : k < D.pending.length := by rw [pending_length]; exact hk
  have hm : D.pending[k] ∈ D.es.map (·.1) := (List.mergeSort_perm _ _).mem_iff.1 (List.getElem_mem hl)
  obtain ⟨y, hy, e⟩ := List.mem_map.1 hm
  have h1 := hD.keys y hy
  obtain ⟨old, ho⟩ := at_some h1.1 h1.2
  exact ⟨y.1, y.2.1, old, by rw [List.getElem?_eq_getElem hl, e], eget_of_mem hD.uniq hy, h1.1, h1.2, hD.esec y hy, ho⟩
theorem crashL_step {D : Dev} {k : Nat} {i : Int} {x : Int × Int} {ks : Keeps} {ls : List Bytes} {s old : Bytes} (hi : D.pending[k]? = some i) (hx : ks[k]? = some x) (hs : eget D.es i = some s) (ho : ls[i.toNat]? = some old) {r : List Bytes}
    (h : crashL D (D.pending.drop k) (ks.drop k) ls = r) : crashL D (D.pending.drop (k + 1)) (ks.drop (k + 1)) (ls.set i.toNat (keep1 s x old)) = r := by
  rw [← h]
  obtain ⟨h1, h2⟩ := List.getElem?_eq_some_iff.1 hi
  obtain ⟨h3, h4⟩ := List.getElem?_eq_some_iff.1 hx
  rw [List.drop_eq_getElem_cons h1, List.drop_eq_getElem_cons h3, h2, h4]
  simp only [crashL, ho, sec_some hs, Option.getD_some]
theorem keep1_length {s old : Bytes} {x : Int × Int} (hs : s.length = 144) (ho : old.length = 144) : (keep1 s x old).length = 144 := by
  unfold keep1
  split
  · exact hs
  · split
    · simp [hs, ho]; unfold torn; omega
    · exact ho
theorem keep1_a {s old : Bytes} {x : Int × Int} (h : x.1 = 1) : keep1 s x old = s := if_pos h
theorem keep1_b {s old : Bytes} {x : Int × Int} (h : x.1 = 2) : keep1 s x old = s.take (torn x.2) ++ old.drop (torn x.2) := by
  unfold keep1; rw [if_neg (by omega), if_pos h]
theorem keep1_c {s old : Bytes} {x : Int × Int} (h : ¬ x.1 = 1) (h2 : ¬ x.1 = 2) : keep1 s x old = old := by
  unfold keep1; rw [if_neg h, if_neg h2]
theorem set_same {α : Type} {ls : List α} {i : Nat} {s : α} (h : ls[i]? = some s) : ls.set i s = ls := by
  obtain ⟨h1, rfl⟩ := List.getElem?_eq_some_iff.1 h
  simp
theorem torn_eq (n : Int) : (if (144 : Int) < (if 0 > n then 0 else n) then 144 else if 0 > n then 0 else n).toNat = torn n := by
  unfold torn
  split <;> split <;> omega
theorem torn_le (n : Int) : torn n ≤ 144 := by unfold torn; omega
theorem bytesV_append (a b : Bytes) : bytesV (a ++ b) = bytesV a ++ bytesV b := by simp [bytesV]
theorem bytesV_take (a : Bytes) (n : Nat) : bytesV (a.take n) = (bytesV a).take n := by simp [bytesV]
theorem bytesV_drop (a : Bytes) (n : Nat) : bytesV (a.drop n) = (bytesV a).drop n := by simp [bytesV]
theorem flat_torn {ls : List Bytes} (h : ∀ s ∈ ls, s.length = 144) {i : Nat} {s old : Bytes} (ho : ls[i]? = some old) (hs : s.length = 144) {c : Nat} (hc : c ≤ 144) :
    (flat ls).take (i * 144) ++ bytesV ((s.take c).take c) ++ (flat ls).drop (i * 144 + c) = flat (ls.set i (s.take c ++ old.drop c)) := by
  have hi : i < ls.length := (List.getElem?_eq_some_iff.1 ho).1
  rw [← flat_set h hi, bytesV_append, List.take_take, Nat.min_self]
  have h1 := flat_get h ho
  have h2 : (flat ls).drop (i * 144 + c) = bytesV (old.drop c) ++ (flat ls).drop (i * 144 + 144) := by
    rw [bytesV_drop, ← h1, ← List.drop_drop, ← List.drop_drop, List.drop_take]
    have e : List.drop 144 (List.drop (i * 144) (flat ls)) = List.drop (144 - c) (List.drop c (List.drop (i * 144) (flat ls))) := by
      rw [List.drop_drop (i := 144 - c), show c + (144 - c) = 144 by omega]
    rw [e, List.take_append_drop]
  rw [h2, List.append_assoc, List.append_assoc, List.append_assoc]
theorem rdB_torn [Env] {L : List Seg} {b c : Nat} {s : Bytes} {T : TypeId} {fr : Nat × Nat} {n : Int} (hs : s.length = 144) (hi : In L (so b (.cells (bytesV s).toArray T fr))) :
    RdB L (.slice (some ⟨b, 0, none⟩) (if (144 : Int) < (if 0 > n then 0 else n) then 144 else if 0 > n then 0 else n).toNat c) (s.take (torn n)) := by
  have := torn_le n
  rw [torn_eq]
  exact rdB_in hi (by simp [hs]; omega) (by simp [bytesV_take])
theorem intsV_get {l : List Int} {k : Nat} {i : Int} (h : l[k]? = some i) : (intsV l)[k]? = some (.int .i64 i) := by simp [intsV, h]
end Go.Sl
