/- A part of the proof: contracts and plain lemmas, each without conditions beyond those that it names. -/
import Derived.Test.YtnedokioglfipaaSecE
set_option linter.unusedVariables false
set_option linter.unusedSimpArgs false
set_option linter.constructorNameAsVariable false
namespace Go.Sl
set_option linter.unusedSimpArgs false
/-! behind a barrier and a crash, plain -/
theorem barrier_fail {D : Dev} (h : ¬ D.barrier.1 = 0) : D.barrier.2.dead = true := by
  unfold Dev.barrier at h ⊢
  split at h
  · rename_i hd; rw [if_pos hd]; exact hd
  · rename_i hd
    rw [if_neg hd]
    split at h
    · rename_i ha
      rw [if_pos ha]
      unfold Dev.act at ha ⊢
      split
      · rfl
      · rename_i hf; rw [if_neg hf] at ha; exact absurd rfl ha
    · exact absurd rfl h
theorem barrier_live {D : Dev} (h : D.barrier.1 = 0) : D.barrier.2.dead = false ∧ D.barrier.2.es = [] := by
  unfold Dev.barrier at h ⊢
  split at h
  · simp at h
  · rename_i hd
    rw [if_neg hd]
    split at h
    · rename_i ha; exact absurd h ha
    · rename_i ha
      rw [if_neg ha]
      refine ⟨?_, rfl⟩
      have ha' : D.act.1 = 0 := by simpa using ha
      unfold Dev.act at ha' ⊢
      split at ha'
      · simp at ha'
      · rename_i hf
        rw [if_neg hf]
        split <;> simpa using hd
theorem sec_of_l {D : Dev} (h : D.es = []) (i : Int) : D.sec i = (D.l[i.toNat]?).getD zsec := by
  unfold Dev.sec; rw [h]; rfl
/-- A crash leaves a sector that isn't pending; of one that is, each byte is the old one or the new one. -/
theorem crashL_other {D : Dev} {i : Int} : ∀ (is : List Int) (ks : Keeps) (ls : List Bytes), (∀ j ∈ is, j.toNat ≠ i.toNat) → (crashL D is ks ls)[i.toNat]? = ls[i.toNat]?
  | [], ks, ls, _ => by rw [crashL_nil]
  | j :: is, [], ls, _ => rfl
  | j :: is, x :: ks, ls, h => by
    simp only [crashL]
    rw [crashL_other is ks _ (fun y hy => h y (by simp [hy])), List.getElem?_set_ne (h j (by simp))]
theorem keep1_byte {s old : Bytes} {x : Int × Int} (hs : s.length = 144) (ho : old.length = 144) {k : Nat} (hk : k < 144) : (keep1 s x old)[k]? = s[k]? ∨ (keep1 s x old)[k]? = old[k]? := by
  unfold keep1
  split
  · exact .inl rfl
  · split
    · have ht := torn_le x.2
      rcases Nat.lt_or_ge k (torn x.2) with h | h
      · left
        rw [List.getElem?_append_left (by simp [hs]; omega), List.getElem?_take, if_pos h]
      · right
        rw [List.getElem?_append_right (by simp [hs]; omega), List.getElem?_drop]
        congr 1
        simp [hs]; omega
    · exact .inr rfl
theorem crashL_byte {D : Dev} (hD : D.ok) {i : Int} (hi0 : 0 ≤ i) {k : Nat} (hk : k < 144) : ∀ (is : List Int) (ks : Keeps) (ls : List Bytes), is.Nodup → (∀ j ∈ is, 0 ≤ j ∧ j < ls.length) → (∀ s ∈ ls, s.length = 144) → i < ls.length →
    ((crashL D is ks ls)[i.toNat]?.getD zsec)[k]? = (D.sec i)[k]? ∨ ((crashL D is ks ls)[i.toNat]?.getD zsec)[k]? = (ls[i.toNat]?.getD zsec)[k]?
  | [], ks, ls, _, _, _, _ => by rw [crashL_nil]; exact .inr rfl
  | j :: is, [], ls, _, _, _, _ => .inr rfl
  | j :: is, x :: ks, ls, hn, hr, hl, hi => by
    have hn' := List.nodup_cons.1 hn
    have hj := hr j (by simp)
    simp only [crashL]
    by_cases e : j = i
    · subst e
      rw [crashL_other is ks _ (fun y hy => by
        have := hr y (by simp [hy])
        have : y ≠ j := fun e => hn'.1 (e ▸ hy)
        omega)]
      obtain ⟨old, ho⟩ := at_some hj.1 hj.2
      have hol := hl old (List.mem_of_getElem? ho)
      rw [ho, List.getElem?_set_self (by omega)]
      simp only [Option.getD_some]
      exact keep1_byte (sec_length hD j) hol hk
    · have hls : ∀ s ∈ ls.set j.toNat (keep1 (D.sec j) x (ls[j.toNat]?.getD [])), s.length = 144 := by
        obtain ⟨old, ho⟩ := at_some hj.1 hj.2
        refine set_len hl ?_
        rw [ho]
        exact keep1_length (sec_length hD j) (hl old (List.mem_of_getElem? ho))
      have := crashL_byte hD hi0 hk is ks (ls.set j.toNat (keep1 (D.sec j) x (ls[j.toNat]?.getD []))) hn'.2 (fun y hy => by simpa using hr y (by simp [hy])) hls (by simpa using hi)
      rw [List.getElem?_set_ne (by omega)] at this
      exact this
theorem sec_crash_other {D : Dev} (hD : D.ok) {ks : Keeps} {i : Int} (hi0 : 0 ≤ i) (h : i ∉ D.pending) : (D.crash ks).sec i = (D.l[i.toNat]?).getD zsec := by
  rw [sec_of_l (crash_es D ks)]
  unfold Dev.crash
  simp only
  rw [crashL_other _ _ _ (fun j hj => by
    obtain ⟨y, hy, e⟩ := List.mem_map.1 ((List.mergeSort_perm _ _).mem_iff.1 hj)
    have := (hD.keys y hy).1
    have : j ≠ i := fun e => h (e ▸ hj)
    omega)]
theorem sec_crash_byte {D : Dev} (hD : D.ok) {ks : Keeps} {i : Int} (hi0 : 0 ≤ i) (hi1 : i < D.l.length) {k : Nat} (hk : k < 144) :
    ((D.crash ks).sec i)[k]? = (D.sec i)[k]? ∨ ((D.crash ks).sec i)[k]? = ((D.l[i.toNat]?).getD zsec)[k]? := by
  rw [sec_of_l (crash_es D ks)]
  unfold Dev.crash
  simp only
  refine crashL_byte hD hi0 hk _ _ _ ((List.mergeSort_perm _ _).nodup_iff.2 hD.uniq) (fun j hj => ?_) hD.sec hi1
  obtain ⟨y, hy, rfl⟩ := List.mem_map.1 ((List.mergeSort_perm _ _).mem_iff.1 hj)
  exact hD.keys y hy
/-- The map that says what is pending. -/
structure PendOk (l : List Int) (kv : Kv) : Prop where
  keys : kv.map (·.1) = l
  all : ∀ x ∈ kv, x.2.1 = .bool true
theorem PendOk.put {l : List Int} {kv : Kv} {c : Nat} {i : Int} (h : PendOk l kv) (hi : i ∉ l) : PendOk (l ++ [i]) (mput kv c i (.bool true)) := by
  have : kv.any (fun x => decide (x.1 = i)) = false := by
    rw [List.any_eq_false]
    intro x hx hd
    exact hi (h.keys ▸ List.mem_map.2 ⟨x, hx, by simpa using hd⟩)
  unfold mput
  rw [if_neg (by rw [this]; decide)]
  refine ⟨by simp [h.keys], fun x hx => ?_⟩
  rcases List.mem_append.1 hx with hx | hx
  · exact h.all x hx
  · simp at hx; subst hx; rfl
theorem PendOk.get {l : List Int} {kv : Kv} {i : Int} (h : PendOk l kv) (hi : i ∈ l) : mget kv i = some (.bool true) := by
  rw [← h.keys] at hi
  obtain ⟨x, hx, rfl⟩ := List.mem_map.1 hi
  unfold mget
  cases hf : kv.find? (fun y => decide (y.1 = x.1)) with
  | none => have := List.find?_eq_none.1 hf x hx; simp at this
  | some y => have := h.all y (List.mem_of_find?_eq_some hf); simp [this]
theorem PendOk.none {l : List Int} {kv : Kv} {i : Int} (h : PendOk l kv) (hi : i ∉ l) : mget kv i = none := by
  unfold mget
  have : kv.find? (fun y => decide (y.1 = i)) = Option.none := by
    rw [List.find?_eq_none]
    intro x hx hd
    exact hi (h.keys ▸ List.mem_map.2 ⟨x, hx, by simpa using hd⟩)
  rw [this]; rfl
theorem bytesV_get {s : Bytes} {k : Nat} (h : k < s.length) : (bytesV s)[k]? = some (.int .u8 (s[k]?.getD 0).toNat) := by
  simp [bytesV, h]
theorem RdV.weak [Env] {R R' : List Seg} {v : Value} {m : Nat} {vs : List Value} (h : RdV R v m vs) (hg : ∀ w, Has w R' → Has w R) : RdV R' v m vs := by
  rcases h with h | ⟨a, c, h1, h3, h2⟩
  · exact .inl h
  · exact .inr ⟨a, c, h1, h3, fun w hh => h2 w (hg w hh)⟩
/-- Slices, each of which reads as a sector (where 'p' holds). -/
def RowsOk [Env] (sg : Seg) (vs : List Value) (p : Prop) (f : Nat → Bytes) : Prop := ∀ j v, vs[j]? = some v → v.oneCell' = true ∧ (p → RdV [sg] v 144 (bytesV (f j)))
theorem RowsOk.nil [Env] {sg : Seg} {p : Prop} {f : Nat → Bytes} : RowsOk sg [] p f := fun j v h => by simp at h
theorem RowsOk.add [Env] {sg s : Seg} {vs : List Value} {u : Value} {p : Prop} {f : Nat → Bytes} {k : Nat} (h : RowsOk sg vs p f) (hk : vs.length = k) (h1 : u.oneCell' = true) (h2 : p → RdV [s] u 144 (bytesV (f k))) : RowsOk (s ++ sg) (vs ++ [u]) p f := by
  intro j v hv
  rcases Nat.lt_or_ge j vs.length with hj | hj
  · rw [List.getElem?_append_left hj] at hv
    obtain ⟨h3, h4⟩ := h j v hv
    exact ⟨h3, fun hp => (h4 hp).weak fun w hw => hw.sub ⟨s, by simpa using List.perm_append_comm⟩⟩
  · rw [List.getElem?_append_right hj] at hv
    have : j = vs.length := by
      rcases Nat.eq_or_lt_of_le hj with e | e
      · exact e.symm
      · rw [List.getElem?_eq_none (by simp; omega)] at hv; cases hv
    subst this
    simp at hv
    subst hv
    rw [hk]
    exact ⟨h1, fun hp => (h2 hp).weak fun w hw => hw.sub ⟨sg, by simp⟩⟩
section
variable {P : Program} {n : Nat} {l : List (Nat × Value)} {L : List Seg} {d : Option Tmp} {ty : TypeId} {pos : String} {af : Array Edge} {g : Option (Nat × Bool)}
theorem ev_lookupn [Env] {T K E : TypeId} {x y : Operand} {b c : Nat} {kv : Kv} {k : Int} {z : Value} (hg : mget kv k = none) (hx : ev l x = some (.map (some b))) (hy : ev l y = some (.int .i64 k)) (hu : P.underlying T = some (.map K E)) (hK : P.underlying K = some (.int .i64))
    (hz : ∀ w, (zeroValue E).run P w = .ok z w) (hi : In L (so b (.map (ents kv) c))) :
    Ev P n ⟨d, .lookup T x y false, ty, pos, af, g⟩ l L z := by
  have := ev_lookup (n := n) (d := d) (ty := ty) (pos := pos) (af := af) (g := g) hx hy hu hK hz hi
  rw [hg] at this; exact this
end
theorem bytesV_get' {s : Bytes} {sp : List Value} {k : Nat} (h : k < s.length) : (bytesV s ++ sp)[k]? = some (.int .u8 (s[k]?.getD 0).toNat) := by
  rw [List.getElem?_append_left (by simpa using h)]; exact bytesV_get h
theorem take_succ_get {l : List Int} {k : Nat} {i : Int} (h : l[k]? = some i) : l.take (k + 1) = l.take k ++ [i] := by
  rw [List.take_add_one, h]; rfl
theorem take_not {l : List Int} (hn : l.Nodup) {k : Nat} {i : Int} (h : l[k]? = some i) : i ∉ l.take k := by
  intro hm
  obtain ⟨h1, h2⟩ := List.getElem?_eq_some_iff.1 h
  obtain ⟨j, hj, e⟩ := List.getElem_of_mem hm
  rw [List.getElem_take] at e
  have hjk : j < k := by simp at hj; omega
  have := List.pairwise_iff_getElem.1 hn j k (by omega) h1 hjk
  exact this (e.trans h2.symm)
end Go.Sl
