/- A part of the proof: contracts and plain lemmas, each without conditions beyond those that it names. -/
import Derived.Test.YtebijajimmjknaaGreatGC
set_option linter.unusedVariables false
set_option linter.unusedSimpArgs false
set_option linter.constructorNameAsVariable false
namespace Go.Sl
structure ActM where
  kind : Int
  i : Int
  bv : Value
  bs : Bytes
  kv : Value
  ks : Keeps
def ActM.cells (a : ActM) : List Value := [.int .i64 a.kind, .int .i64 a.i, a.bv, a.kv]
structure ActM.ok [Env] (R : List Seg) (a : ActM) : Prop where
  bytes : RdB R a.bv a.bs
  keeps : RdV R a.kv a.ks.length (keepsV a.ks)
  int : a.i ≤ 9223372036854775807
theorem ActM.ok.mono [Env] {R R' : List Seg} {a : ActM} (h : a.ok R) (hg : Ge R' R) : a.ok R' := ⟨h.bytes.mono hg, h.keeps.mono hg, h.int⟩
end Go.Sl
namespace Go.Sl
set_option linter.unusedSimpArgs false
theorem barrier_l {D : Dev} : D.barrier.2.l.length = D.l.length := by
  unfold Dev.barrier
  split
  · rfl
  · split
    · rw [act_l]
    · simp
end Go.Sl
namespace Go.Sl
set_option linter.unusedSimpArgs false
theorem ehas_find {es : Es} {k : Int} (h : ¬ ehas es k = true) : es.find? (fun x => decide (x.1 = k)) = none := by
  rw [List.find?_eq_none]
  intro x hx hd
  exact h (List.any_eq_true.2 ⟨x, hx, hd⟩)
theorem eset_same {es : Es} {k : Int} (s : Bytes) (h : ehas es k = true) : eget (eset es k s) k = some s := by
  unfold eget eset
  induction es with
  | nil => simp [ehas] at h
  | cons x es ih =>
    by_cases e : x.1 = k
    · simp [e]
    · rw [List.map_cons, if_neg e, List.find?_cons_of_neg (by simpa using e)]
      refine ih ?_
      unfold ehas at h ⊢
      rw [List.any_cons] at h
      simpa [e] using h
theorem eset_other (es : Es) {k i : Int} (s : Bytes) (hk : k ≠ i) : eget (eset es k s) i = eget es i := by
  unfold eget eset
  induction es with
  | nil => rfl
  | cons x es ih =>
    by_cases e : x.1 = k
    · rw [List.map_cons, if_pos e, List.find?_cons_of_neg (by simpa using hk), List.find?_cons_of_neg (by simp; omega)]
      exact ih
    · rw [List.map_cons, if_neg e]
      by_cases e2 : x.1 = i
      · rw [List.find?_cons_of_pos (by simpa using e2), List.find?_cons_of_pos (by simpa using e2)]
      · rw [List.find?_cons_of_neg (by simpa using e2), List.find?_cons_of_neg (by simpa using e2)]
        exact ih
theorem eget_eput_same (es : Es) (c : Nat) (k : Int) (s : Bytes) : eget (eput es c k s) k = some s := by
  unfold eput
  by_cases h : ehas es k = true
  · rw [if_pos h]; exact eset_same s h
  · rw [if_neg h]
    unfold eget
    rw [List.find?_append, ehas_find h]
    simp
theorem eget_eput_other (es : Es) (c : Nat) {k i : Int} (hk : k ≠ i) (s : Bytes) : eget (eput es c k s) i = eget es i := by
  unfold eput
  by_cases h : ehas es k = true
  · rw [if_pos h]; exact eset_other es s hk
  · rw [if_neg h]
    unfold eget
    rw [List.find?_append]
    cases es.find? (fun x => decide (x.1 = i)) with
    | none => simp [hk]
    | some x => simp
/-- Settled: what was pending lies there. -/
theorem settleD_get : ∀ {es : Es} {ls : List Bytes} {i : Int}, (es.map (·.1)).Nodup → (∀ x ∈ es, 0 ≤ x.1) → 0 ≤ i → i < ls.length →
    (settleD es ls)[i.toNat]? = (eget es i).or (ls[i.toNat]?)
  | [], ls, i, _, _, _, _ => by simp [settleD, eget]
  | x :: es, ls, i, hn, hp, h0, h1 => by
    have hn' := List.nodup_cons.1 hn
    rw [settleD_cons, settleD_get hn'.2 (fun y hy => hp y (by simp [hy])) h0 (by simpa using h1)]
    have hx := hp x (by simp)
    unfold eget
    by_cases e : x.1 = i
    · subst e
      have : es.find? (fun y => decide (y.1 = x.1)) = none := by
        rw [List.find?_eq_none]
        intro y hy hd
        exact hn'.1 (List.mem_map.2 ⟨y, hy, by simpa using hd⟩)
      rw [this, List.find?_cons_of_pos (by simp)]
      simp [show x.1.toNat < ls.length by omega]
    · rw [List.find?_cons_of_neg (by simpa using e), List.getElem?_set_ne (by omega)]
/-- A device that is up and has no fuse. -/
structure Up (D : Dev) (n : Nat) : Prop where
  ok : D.ok
  len : D.l.length = n
  live : D.dead = false
  fuse : D.fuse = -1
theorem Up.act {D : Dev} {n : Nat} (h : Up D n) : D.act = (0, D) := by
  unfold Dev.act
  rw [if_neg (by rw [h.fuse]; decide), if_neg (by rw [h.fuse]; decide)]
theorem Up.has {D : Dev} {n : Nat} (h : Up D n) (i : Int) : D.has i = if i < 0 ∨ (n : Int) ≤ i then 2 else 0 := by
  unfold Dev.has
  rw [if_neg (by rw [h.live]; decide), h.len]
theorem Up.write {D : Dev} {n : Nat} (h : Up D n) (i : Int) (bs : Bytes) :
    D.write i bs = if i < 0 ∨ (n : Int) ≤ i then (2, D) else if (144 : Int) < bs.length then (3, D) else (0, { D with es := eput D.es D.clk i (pad bs), clk := eclk D.es D.clk i }) := by
  unfold Dev.write
  rw [h.has, h.act]
  by_cases h1 : i < 0 ∨ (n : Int) ≤ i
  · simp [h1]
  · by_cases h2 : (144 : Int) < bs.length
    · simp [h1, h2]
    · simp [h1, h2]
theorem Up.write_up {D : Dev} {n : Nat} (h : Up D n) (i : Int) (bs : Bytes) : Up (D.write i bs).2 n := by
  have hw := h.write i bs
  refine ⟨Dev.write_ok h.ok i bs, by rw [write_l]; exact h.len, ?_, ?_⟩
  · rw [hw]; split <;> (try split) <;> exact h.live
  · rw [hw]; split <;> (try split) <;> exact h.fuse
theorem Up.barrier {D : Dev} {n : Nat} (h : Up D n) : D.barrier = (0, { D with l := settleD D.es D.l, es := [] }) := by
  unfold Dev.barrier
  rw [if_neg (by rw [h.live]; decide), h.act]
  simp
theorem Up.barrier_up {D : Dev} {n : Nat} (h : Up D n) : Up D.barrier.2 n := by
  have hw := h.barrier
  refine ⟨Dev.barrier_ok h.ok, by rw [barrier_l]; exact h.len, ?_, ?_⟩
  · rw [hw]; exact h.live
  · rw [hw]; exact h.fuse
theorem crash_up {D : Dev} (h : D.ok) (ks : Keeps) : Up (D.crash ks) D.l.length :=
  ⟨Dev.crash_ok h ks, by simp [Dev.crash, crashL_length], rfl, rfl⟩
theorem Up.sec_write_other {D : Dev} {n : Nat} (h : Up D n) {i j : Int} (hij : j ≠ i) (bs : Bytes) : (D.write j bs).2.sec i = D.sec i := by
  rw [h.write]
  split
  · rfl
  · split
    · rfl
    · unfold Dev.sec
      simp only
      rw [eget_eput_other _ _ hij]
theorem Up.sec_write_same {D : Dev} {n : Nat} (h : Up D n) {i : Int} {bs : Bytes} (h0 : (D.write i bs).1 = 0) : (D.write i bs).2.sec i = pad bs ∧ 0 ≤ i ∧ i < n ∧ bs.length ≤ 144 := by
  rw [h.write] at h0 ⊢
  split at h0
  · simp at h0
  · rename_i h1
    split at h0
    · simp at h0
    · rename_i h2
      rw [if_neg h1, if_neg h2]
      unfold Dev.sec
      simp only
      rw [eget_eput_same]
      exact ⟨rfl, by omega, by omega, by omega⟩
theorem Up.sec_barrier {D : Dev} {n : Nat} (h : Up D n) {i : Int} (h0 : 0 ≤ i) (h1 : i < n) : D.barrier.2.sec i = D.sec i := by
  rw [h.barrier]
  unfold Dev.sec
  simp only
  rw [settleD_get h.ok.uniq (fun x hx => (h.ok.keys x hx).1) h0 (by rw [h.len]; exact h1)]
  cases eget D.es i with
  | none => rfl
  | some s => rfl
end Go.Sl
namespace Go.Sl
set_option linter.unusedSimpArgs false
theorem sec_crash_nil {D : Dev} (he : D.es = []) (ks : Keeps) (i : Int) : (D.crash ks).sec i = D.sec i := by
  have hp : D.pending = [] := by simp [Dev.pending, he]
  unfold Dev.sec Dev.crash
  simp only [hp, crashL_nil, he]
theorem crash_es (D : Dev) (ks : Keeps) : (D.crash ks).es = [] := rfl
end Go.Sl
namespace Go.Sl
set_option linter.unusedSimpArgs false
structure WantOk (D : Dev) (kv : Kv) : Prop where
  keys : kv.map (·.1) = D.es.map (·.1)
  all : ∀ x ∈ kv, x.2.1 = .bool true
theorem WantOk.len {D : Dev} {kv : Kv} (h : WantOk D kv) : kv.length = D.es.length := by
  have := congrArg List.length h.keys
  simpa using this
theorem WantOk.uniq {D : Dev} {kv : Kv} (h : WantOk D kv) (hD : D.ok) : uniq kv := by
  unfold Sl.uniq; rw [h.keys]; exact hD.uniq
theorem WantOk.nil {D : Dev} (h : D.es = []) : WantOk D [] := ⟨by rw [h]; rfl, by simp⟩
theorem any_keys {kv : Kv} {es : Es} (h : kv.map (·.1) = es.map (·.1)) (k : Int) : kv.any (fun x => decide (x.1 = k)) = ehas es k := by
  have h1 : kv.any (fun x => decide (x.1 = k)) = (kv.map (·.1)).any (fun x => decide (x = k)) := by rw [List.any_map]; rfl
  have h2 : ehas es k = (es.map (·.1)).any (fun x => decide (x = k)) := by rw [List.any_map]; rfl
  rw [h1, h2, h]
theorem WantOk.put {D : Dev} {n : Nat} {kv : Kv} {c : Nat} {i : Int} {bs : Bytes} (h : WantOk D kv) (hU : Up D n) (h0 : (D.write i bs).1 = 0) : WantOk (D.write i bs).2 (mput kv c i (.bool true)) := by
  rw [hU.write] at h0 ⊢
  split at h0
  · simp at h0
  · rename_i h1
    split at h0
    · simp at h0
    · rename_i h2
      rw [if_neg h1, if_neg h2]
      have ha := any_keys h.keys i
      unfold mput eput
      rw [ha]
      by_cases hh : ehas D.es i = true
      · rw [if_pos hh, if_pos hh]
        refine ⟨?_, ?_⟩
        · have e1 : (mset kv i (.bool true)).map (·.1) = kv.map (·.1) := by
            simp only [mset, List.map_map]
            apply List.map_congr_left
            intro x _
            simp only [Function.comp]
            split <;> simp_all
          have e2 : (eset D.es i (pad bs)).map (·.1) = D.es.map (·.1) := by
            simp only [eset, List.map_map]
            apply List.map_congr_left
            intro x _
            simp only [Function.comp]
            split <;> simp_all
          rw [e1, h.keys]; exact e2.symm
        · intro x hx
          obtain ⟨y, hy, rfl⟩ := List.mem_map.1 hx
          split
          · rfl
          · exact h.all y hy
      · rw [if_neg hh, if_neg hh]
        refine ⟨by simp [h.keys], ?_⟩
        intro x hx
        rcases List.mem_append.1 hx with hx | hx
        · exact h.all x hx
        · simp at hx; subst hx; rfl
theorem WantOk.get {D : Dev} {kv : Kv} {i : Int} (h : WantOk D kv) (hi : i ∈ D.es.map (·.1)) : mget kv i = some (.bool true) := by
  rw [← h.keys] at hi
  obtain ⟨x, hx, rfl⟩ := List.mem_map.1 hi
  unfold mget
  cases hf : kv.find? (fun y => decide (y.1 = x.1)) with
  | none =>
    have := List.find?_eq_none.1 hf x hx
    simp at this
  | some y =>
    have := h.all y (List.mem_of_find?_eq_some hf)
    simp [this]
theorem barrier_es {D : Dev} {n : Nat} (hU : Up D n) : D.barrier.2.es = [] := by rw [hU.barrier]
end Go.Sl
namespace Go.Sl
set_option linter.unusedSimpArgs false
theorem sec_of_l {D : Dev} (h : D.es = []) (i : Int) : D.sec i = (D.l[i.toNat]?).getD zsec := by
  unfold Dev.sec; rw [h]; rfl
/-- A crash leaves a sector that isn't pending; of one that is, each byte is the old one or the new one. -/
theorem crashL_other {D : Dev} {i : Int} : ∀ (is : List Int) (ks : Keeps) (ls : List Bytes), (∀ j ∈ is, j.toNat ≠ i.toNat) → (crashL D is ks ls)[i.toNat]? = ls[i.toNat]?
  | [], ks, ls, _ => by rw [crashL_nil]
  | j :: is, [], ls, _ => rfl
  | j :: is, x :: ks, ls, h => by
    simp only [crashL]
    rw [crashL_other is ks _ (fun y hy => h y (by simp [hy])), List.getElem?_set_ne (h j (by simp))]
theorem sec_crash_other {D : Dev} (hD : D.ok) {ks : Keeps} {i : Int} (hi0 : 0 ≤ i) (h : i ∉ D.pending) : (D.crash ks).sec i = (D.l[i.toNat]?).getD zsec := by
  rw [sec_of_l (crash_es D ks)]
  unfold Dev.crash
  simp only
  rw [crashL_other _ _ _ (fun j hj => by
    obtain ⟨y, hy, e⟩ := List.mem_map.1 ((List.mergeSort_perm _ _).mem_iff.1 hj)
    have := (hD.keys y hy).1
    have : j ≠ i := fun e => h (e ▸ hj)
    omega)]
/-- The map that says what is pending. -/
structure PendOk (l : List Int) (kv : Kv) : Prop where
  keys : kv.map (·.1) = l
  all : ∀ x ∈ kv, x.2.1 = .bool true
theorem PendOk.put {l : List Int} {kv : Kv} {c : Nat} {i : Int} (h : PendOk l kv) (hi : i ∉ l) : PendOk (l ++ [i]) (mput kv c i (.bool true)) := by
  have : kv.any (fun x => decide (x.1 = i)) = false := by
    rw [List.any_eq_false]
    intro x hx hd
    exact hi (h.keys ▸ List.mem_map.2 ⟨x, hx, by simpa using hd⟩)
  unfold mput
  rw [if_neg (by rw [this]; decide)]
  refine ⟨by simp [h.keys], fun x hx => ?_⟩
  rcases List.mem_append.1 hx with hx | hx
  · exact h.all x hx
  · simp at hx; subst hx; rfl
theorem PendOk.get {l : List Int} {kv : Kv} {i : Int} (h : PendOk l kv) (hi : i ∈ l) : mget kv i = some (.bool true) := by
  rw [← h.keys] at hi
  obtain ⟨x, hx, rfl⟩ := List.mem_map.1 hi
  unfold mget
  cases hf : kv.find? (fun y => decide (y.1 = x.1)) with
  | none => have := List.find?_eq_none.1 hf x hx; simp at this
  | some y => have := h.all y (List.mem_of_find?_eq_some hf); simp [this]
theorem PendOk.none {l : List Int} {kv : Kv} {i : Int} (h : PendOk l kv) (hi : i ∉ l) : mget kv i = none := by
  unfold mget
  have : kv.find? (fun y => decide (y.1 = i)) = Option.none := by
    rw [List.find?_eq_none]
    intro x hx hd
    exact hi (h.keys ▸ List.mem_map.2 ⟨x, hx, by simpa using hd⟩)
  rw [this]; rfl
theorem bytesV_get {s : Bytes} {k : Nat} (h : k < s.length) : (bytesV s)[k]? = some (.int .u8 (s[k]?.getD 0).toNat) := by
  simp [bytesV, h]
theorem RdV.weak [Env] {R R' : List Seg} {v : Value} {m : Nat} {vs : List Value} (h : RdV R v m vs) (hg : ∀ w, Has w R' → Has w R) : RdV R' v m vs := by
  rcases h with h | ⟨a, c, h1, h3, h2⟩
  · exact .inl h
  · exact .inr ⟨a, c, h1, h3, fun w hh => h2 w (hg w hh)⟩
/-- Slices, each of which reads as a sector (where 'p' holds). -/
def RowsOk [Env] (sg : Seg) (vs : List Value) (p : Prop) (f : Nat → Bytes) : Prop := ∀ j v, vs[j]? = some v → v.oneCell' = true ∧ (p → RdV [sg] v 144 (bytesV (f j)))
theorem RowsOk.nil [Env] {sg : Seg} {p : Prop} {f : Nat → Bytes} : RowsOk sg [] p f := fun j v h => by simp at h
theorem RowsOk.add [Env] {sg s : Seg} {vs : List Value} {u : Value} {p : Prop} {f : Nat → Bytes} {k : Nat} (h : RowsOk sg vs p f) (hk : vs.length = k) (h1 : u.oneCell' = true) (h2 : p → RdV [s] u 144 (bytesV (f k))) : RowsOk (s ++ sg) (vs ++ [u]) p f := by
  intro j v hv
  rcases Nat.lt_or_ge j vs.length with hj | hj
  · rw [List.getElem?_append_left hj] at hv
    obtain ⟨h3, h4⟩ := h j v hv
    exact ⟨h3, fun hp => (h4 hp).weak fun w hw => hw.sub ⟨s, by simpa using List.perm_append_comm⟩⟩
  · rw [List.getElem?_append_right hj] at hv
    have : j = vs.length := by
      rcases Nat.eq_or_lt_of_le hj with e | e
      · exact e.symm
      · rw [List.getElem?_eq_none (by simp; omega)] at hv; cases hv
    subst this
    simp at hv
    subst hv
    rw [hk]
    exact ⟨h1, fun hp => (h2 hp).weak fun w hw => hw.sub ⟨sg, by simp⟩⟩
section
variable {P : Program} {n : Nat} {l : List (Nat × Value)} {L : List Seg} {d : Option Tmp} {ty : TypeId} {pos : String} {af : Array Edge} {g : Option (Nat × Bool)}
end
end Go.Sl
namespace Go.Sl
set_option linter.unusedSimpArgs false
structure RS where
  b : Bytes
  p : Bytes
  is : Bool
def rsV (r : RS) : List Value := bytesV r.b ++ bytesV r.p ++ [.bool r.is]
def RS.ok (r : RS) : Prop := r.b.length = 144 ∧ r.p.length = 144
theorem rsV_length {r : RS} (h : r.ok) : (rsV r).length = 289 := by simp [rsV, h.1, h.2]
def zrs : RS := ⟨zsec, zsec, false⟩
theorem zrs_ok : zrs.ok := ⟨by simp [zrs], by simp [zrs]⟩
def rflat (l : List RS) : List Value := (l.map rsV).flatten
structure RDev where
  l : List RS
  dead : Bool
  fuse : Int
structure RDev.ok (D : RDev) : Prop where
  n : D.l.length ≤ 512
  sec : ∀ r ∈ D.l, r.ok
  fuse : -1 ≤ D.fuse ∧ D.fuse ≤ 9223372036854775807
theorem rflat_length : ∀ {l : List RS}, (∀ r ∈ l, r.ok) → (rflat l).length = l.length * 289
  | [], _ => by simp [rflat]
  | r :: l, h => by
    have ih := rflat_length (l := l) (fun t ht => h t (by simp [ht]))
    have hr := rsV_length (h r (by simp))
    simp only [rflat, List.map_cons, List.flatten_cons, List.length_append, List.length_cons] at ih ⊢
    omega
theorem rflat_get : ∀ {l : List RS}, (∀ r ∈ l, r.ok) → ∀ {i j : Nat} {r : RS}, l[i]? = some r → j < 289 → (rflat l)[i * 289 + j]? = (rsV r)[j]?
  | [], _, i, j, r, h, _ => by simp at h
  | t :: l, h, i, j, r, hi, hj => by
    have ht := rsV_length (h t (by simp))
    cases i with
    | zero =>
      simp at hi; subst hi
      simp only [rflat, List.map_cons, List.flatten_cons, Nat.zero_mul, Nat.zero_add]
      rw [List.getElem?_append_left (by omega)]
    | succ i =>
      have ih := rflat_get (l := l) (fun u hu => h u (by simp [hu])) (i := i) (j := j) (r := r) (by simpa using hi) hj
      simp only [rflat, List.map_cons, List.flatten_cons] at ih ⊢
      rw [List.getElem?_append_right (by omega), ht, show (i + 1) * 289 + j - 289 = i * 289 + j by omega]
      exact ih
/-- What is stored inside one sector. -/
theorem rflat_splice : ∀ {l : List RS}, (∀ r ∈ l, r.ok) → ∀ {i o : Nat} {us : List Value} {r r' : RS}, l[i]? = some r → o + us.length ≤ 289 → (rsV r).take o ++ us ++ (rsV r).drop (o + us.length) = rsV r' →
    (rflat l).take (i * 289 + o) ++ us ++ (rflat l).drop (i * 289 + o + us.length) = rflat (l.set i r')
  | [], _, i, o, us, r, r', h, _, _ => by simp at h
  | t :: l, h, i, o, us, r, r', hi, ho, he => by
    have ht := rsV_length (h t (by simp))
    cases i with
    | zero =>
      simp at hi; subst hi
      simp only [rflat, List.map_cons, List.flatten_cons, Nat.zero_mul, Nat.zero_add, List.set_cons_zero]
      rw [List.take_append_of_le_length (by omega), List.drop_append_of_le_length (by omega), ← he]
      simp only [List.append_assoc]
    | succ i =>
      have ih := rflat_splice (l := l) (fun u hu => h u (by simp [hu])) (i := i) (o := o) (us := us) (r := r) (r' := r') (by simpa using hi) ho he
      simp only [rflat, List.map_cons, List.flatten_cons, List.set_cons_succ] at ih ⊢
      rw [← ih, List.take_append, List.drop_append, List.drop_eq_nil_of_le (by omega), List.take_of_length_le (by omega), ht]
      simp only [List.nil_append, List.append_assoc]
      rw [show (i + 1) * 289 + o - 289 = i * 289 + o by omega, show (i + 1) * 289 + o + us.length - 289 = i * 289 + o + us.length by omega]
theorem rs_p {r : RS} (h : r.ok) {s : Bytes} (hs : s.length = 144) : (rsV r).take 144 ++ bytesV s ++ (rsV r).drop (144 + (bytesV s).length) = rsV { r with p := s } := by
  obtain ⟨h1, h2⟩ := h
  have e : rsV r = bytesV r.b ++ (bytesV r.p ++ [.bool r.is]) := by simp [rsV]
  have e1 : (rsV r).take 144 = bytesV r.b := by rw [e, List.take_append_of_le_length (by simp [h1]), List.take_of_length_le (by simp [h1])]
  have e2 : (rsV r).drop 288 = [.bool r.is] := by
    rw [e, show 288 = 144 + 144 by omega, ← List.drop_drop, List.drop_left' (by simp [h1]), List.drop_left' (by simp [h2])]
  rw [e1, bytesV_length, hs, e2]
  simp [rsV]
theorem rs_is {r : RS} (h : r.ok) (v : Bool) : (rsV r).take 288 ++ [.bool v] ++ (rsV r).drop (288 + [Value.bool v].length) = rsV { r with is := v } := by
  obtain ⟨h1, h2⟩ := h
  unfold rsV
  rw [List.take_append_of_le_length (by simp [h1, h2]), List.take_of_length_le (by simp [h1, h2]), List.drop_eq_nil_of_le (by simp [h1, h2])]
  simp
def RDev.act (D : RDev) : Int × RDev := if D.fuse = 0 then (30, { D with dead := true }) else (0, if 0 < D.fuse then { D with fuse := IntKind.i64.wrap (D.fuse - 1) } else D)
def RDev.upd (D : RDev) (i : Int) (f : RS → RS) : RDev := { D with l := D.l.modify i.toNat f }
def RDev.write (D : RDev) (i : Int) (bs : Bytes) : Int × RDev :=
  if D.dead = true then (30, D) else if i < 0 ∨ (D.l.length : Int) ≤ i then (2, D) else if (144 : Int) < bs.length then (3, D) else if D.act.1 ≠ 0 then D.act else
  (0, D.act.2.upd i fun r => { r with p := pad bs, is := true })
def RS.settle (r : RS) : RS := if r.is then ⟨r.p, zsec, false⟩ else r
def RDev.barrier (D : RDev) : Int × RDev := if D.dead = true then (30, D) else if D.act.1 ≠ 0 then D.act else (0, { D.act.2 with l := D.act.2.l.map RS.settle })
def RS.sec (r : RS) : Bytes := if r.is then r.p else r.b
def RDev.pendF : List RS → Nat → List Int
  | [], _ => []
  | r :: l, k => if r.is then (k : Int) :: pendF l (k + 1) else pendF l (k + 1)
def RDev.pending (D : RDev) : List Int := RDev.pendF D.l 0
def RDev.crashF : List RS → Keeps → List RS
  | [], _ => []
  | r :: l, ks => if r.is then (match ks with
    | [] => ⟨r.b, zsec, false⟩ :: crashF l []
    | x :: ks => ⟨keep1 r.p x r.b, zsec, false⟩ :: crashF l ks) else r :: crashF l ks
def RDev.crash (D : RDev) (ks : Keeps) : RDev := { l := RDev.crashF D.l ks, dead := false, fuse := -1 }
def RDev.lose (D : RDev) : RDev := { l := List.replicate D.l.length zrs, dead := false, fuse := -1 }
def RDev.setFuse (D : RDev) (n : Int) : RDev := { D with fuse := if n < 0 then -1 else n }
def RDev.new (n : Nat) : RDev := ⟨List.replicate n zrs, false, -1⟩
/-- So many bytes copied into a row of zeros. -/
def padk (bs : Bytes) (k : Nat) : Bytes := bs.take k ++ List.replicate (144 - k) 0
theorem padk_all (bs : Bytes) : padk bs bs.length = pad bs := by simp [padk, pad]
theorem padk_set {bs : Bytes} {k : Nat} (hk : k < bs.length) (hb : bs.length ≤ 144) : (bytesV (padk bs k)).set k (.int .u8 (bs[k]?.getD 0).toNat) = bytesV (padk bs (k + 1)) := by
  apply List.ext_getElem?
  intro j
  unfold padk bytesV
  rw [List.getElem?_set]
  by_cases e : k = j
  · subst e
    have h1 : k < bs.length := hk
    rw [if_pos rfl, if_pos (by simp; omega)]
    rw [List.getElem?_map, List.getElem?_append_left (by simp; omega), List.getElem?_take, if_pos (by omega)]
    simp [h1]
  · rw [if_neg e, List.getElem?_map, List.getElem?_map]
    congr 1
    rcases Nat.lt_or_ge j k with h | h
    · rw [List.getElem?_append_left (by simp; omega), List.getElem?_append_left (by simp; omega), List.getElem?_take, if_pos h, List.getElem?_take, if_pos (by omega)]
    · rw [List.getElem?_append_right (by simp; omega), List.getElem?_append_right (by simp; omega), List.getElem?_replicate, List.getElem?_replicate]
      simp only [List.length_take]
      have h1 : min k bs.length = k := by omega
      have h2 : min (k + 1) bs.length = k + 1 := by omega
      rw [h1, h2]
      by_cases h3 : j < 144
      · rw [if_pos (by omega), if_pos (by omega)]
      · rw [if_neg (by omega), if_neg (by omega)]
@[simp] theorem ract_l {D : RDev} : D.act.2.l = D.l := by unfold RDev.act; split <;> (try split) <;> rfl
theorem upd_flat {l : List RS} (h : ∀ r ∈ l, r.ok) {i : Nat} {r : RS} (hr : l[i]? = some r) (f : RS → RS) : l.modify i f = l.set i (f r) := by
  obtain ⟨h1, h2⟩ := List.getElem?_eq_some_iff.1 hr
  apply List.ext_getElem?
  intro j
  rw [List.getElem?_modify, List.getElem?_set]
  by_cases e : i = j
  · subst e; simp [h1, h2]
  · simp [e]
theorem rdV_of_rdB [Env] {R : List Seg} {v : Value} {bs : Bytes} {w : World} (h : RdB R v bs) (hh : Has w R) : RdV R v bs.length (bytesV bs) := by
  rcases h with ⟨rfl, rfl⟩ | ⟨a, c, rfl, h2⟩
  · exact .inl ⟨rfl, rfl, rfl⟩
  · have hs : bs.length ≠ 0 → a.spot = none := fun h0 => by
      have := h2 w hh 0 (by omega)
      cases hq : a.spot with
      | none => rfl
      | some s =>
        exfalso
        have e : a.add 0 = a := by simp [Addr.add]
        rw [e] at this
        unfold World.cell? at this
        split at this
        · rw [hq] at this; simp at this
        · cases this
    refine .inr ⟨a, c, rfl, hs, fun w' hw' j hj => ?_⟩
    have hj' : j < bs.length := by simpa using hj
    have := h2 w' hw' j hj'
    have hsp := hs (by omega)
    rw [show a.add j = ⟨a.block, a.off + j, none⟩ by cases a; simp at hsp; subst hsp; exact add_lit _ _ _] at this
    rw [this]
    simp [bytesV]
theorem set_ok {l : List RS} (h : ∀ r ∈ l, r.ok) {i : Nat} {r : RS} (hr : r.ok) : ∀ t ∈ l.set i r, t.ok := by
  intro t ht
  rcases List.mem_or_eq_of_mem_set ht with h1 | rfl
  · exact h t h1
  · exact hr
theorem list_set_eq {vs : List Value} {o : Nat} {v : Value} (h : o < vs.length) : vs.set o v = vs.take o ++ [v] ++ vs.drop (o + [v].length) := by
  rw [List.set_eq_take_append_cons_drop, if_pos h]; simp
theorem rs_store {l : List RS} (h : ∀ r ∈ l, r.ok) {i : Int} {r : RS} {s : Bytes} (hr : l[i.toNat]? = some r) (hro : r.ok) (hs : s.length = 144) {o : Nat} (ho : o = i.toNat * 289 + 288) :
    (rflat (l.set i.toNat { r with p := s })).set o (.bool true) = rflat (l.set i.toNat { r with p := s, is := true }) := by
  subst ho
  have hl := (List.getElem?_eq_some_iff.1 hr).1
  have hro' : RS.ok { r with p := s } := ⟨hro.1, hs⟩
  have h1 := rflat_splice (o := 288) (us := [.bool true]) (set_ok h hro') (r := { r with p := s }) (List.getElem?_set_self hl) (by simp) (rs_is hro' true)
  rw [List.set_set] at h1
  rw [list_set_eq (by rw [rflat_length (set_ok h hro')]; simp; omega)]
  exact h1
theorem rflat_slice {l : List RS} (h : ∀ r ∈ l, r.ok) {i : Nat} {r : RS} (hr : l[i]? = some r) {o m : Nat} (ho : o + m ≤ 289) : ((rflat l).drop (i * 289 + o)).take m = ((rsV r).drop o).take m := by
  apply List.ext_getElem?
  intro j
  rw [List.getElem?_take, List.getElem?_take]
  split
  · rw [List.getElem?_drop, List.getElem?_drop, Nat.add_assoc, rflat_get h hr (by omega)]
  · rfl
theorem rsV_b {r : RS} (h : r.ok) : ((rsV r).drop 0).take 144 = bytesV r.b := by
  unfold rsV
  rw [List.drop_zero, List.append_assoc, List.take_append_of_le_length (by simp [h.1]), List.take_of_length_le (by simp [h.1])]
theorem rsV_p {r : RS} (h : r.ok) : ((rsV r).drop 144).take 144 = bytesV r.p := by
  unfold rsV
  rw [List.append_assoc, List.drop_left' (by simp [h.1]), List.take_append_of_le_length (by simp [h.2]), List.take_of_length_le (by simp [h.2])]
theorem rsV_is {r : RS} (h : r.ok) : (rsV r)[288]? = some (.bool r.is) := by
  unfold rsV
  rw [List.getElem?_append_right (by simp [h.1, h.2])]
  simp [h.1, h.2]
theorem settle_ok {r : RS} (h : r.ok) : r.settle.ok := by
  unfold RS.settle
  split
  · exact ⟨h.2, by simp⟩
  · exact h
/-- So many sectors settled. -/
def stl (l : List RS) (k : Nat) : List RS := (l.take k).map RS.settle ++ l.drop k
theorem stl_all (l : List RS) : stl l l.length = l.map RS.settle := by simp [stl]
theorem stl_len (l : List RS) (k : Nat) : (stl l k).length = l.length := by simp [stl]; omega
theorem stl_ok {l : List RS} (h : ∀ r ∈ l, r.ok) (k : Nat) : ∀ r ∈ stl l k, r.ok := by
  intro r hr
  rcases List.mem_append.1 hr with hr | hr
  · obtain ⟨t, ht, rfl⟩ := List.mem_map.1 hr
    exact settle_ok (h t (List.mem_of_mem_take ht))
  · exact h r (List.mem_of_mem_drop hr)
theorem stl_get {l : List RS} {k : Nat} {r : RS} (h : l[k]? = some r) : (stl l k)[k]? = some r := by
  have hl := (List.getElem?_eq_some_iff.1 h).1
  unfold stl
  rw [List.getElem?_append_right (by simp; omega)]
  simp only [List.length_map, List.length_take, List.getElem?_drop]
  rw [show min k l.length = k by omega, show k + (k - k) = k by omega]
  exact h
theorem stl_succ {l : List RS} {k : Nat} {r : RS} (h : l[k]? = some r) : (stl l k).set k r.settle = stl l (k + 1) := by
  have hl := (List.getElem?_eq_some_iff.1 h).1
  apply List.ext_getElem?
  intro j
  rw [List.getElem?_set]
  unfold stl
  by_cases e : k = j
  · subst e
    rw [if_pos rfl, if_pos (by simp; omega), List.getElem?_append_left (by simp; omega), List.getElem?_map, List.getElem?_take, if_pos (by omega), h]
    rfl
  · rw [if_neg e]
    rcases Nat.lt_or_ge j k with hj | hj
    · rw [List.getElem?_append_left (by simp; omega), List.getElem?_append_left (by simp; omega), List.getElem?_map, List.getElem?_map, List.getElem?_take, List.getElem?_take, if_pos hj, if_pos (by omega)]
    · rw [List.getElem?_append_right (by simp; omega), List.getElem?_append_right (by simp; omega)]
      simp only [List.length_map, List.length_take, List.getElem?_drop]
      congr 1
      omega
theorem rs_store_all {l : List RS} (h : ∀ r ∈ l, r.ok) {i : Nat} {r r' : RS} (hr : l[i]? = some r) (hr' : r'.ok) :
    (rflat l).take (i * 289) ++ rsV r' ++ (rflat l).drop (i * 289 + 289) = rflat (l.set i r') := by
  have hro := h r (List.mem_of_getElem? hr)
  have := rflat_splice (o := 0) (us := rsV r') h hr (by rw [rsV_length hr']; omega) (r' := r') (by rw [rsV_length hr', Nat.zero_add, List.take_zero, List.nil_append, List.drop_eq_nil_of_le (by rw [rsV_length hro]; omega), List.append_nil])
  rw [rsV_length hr'] at this
  simpa using this
theorem rsV_one (r : RS) : ∀ u ∈ rsV r, u.oneCell' = true := by
  intro u hu
  unfold rsV at hu
  simp only [List.mem_append, List.mem_cons, List.not_mem_nil, or_false] at hu
  rcases hu with (hu | hu) | rfl
  · exact bytesV_one _ u hu
  · exact bytesV_one _ u hu
  · rfl
theorem build_b {s : Bytes} (hs : s.length = 144) : splice (rsV zrs) (bytesV s) 0 = rsV ⟨s, zsec, false⟩ := by
  unfold splice
  have e : rsV zrs = bytesV zsec ++ (bytesV zsec ++ [.bool false]) := by simp [rsV, zrs]
  rw [List.take_zero, List.nil_append, bytesV_length, hs, e, Nat.zero_add, List.drop_left' (by simp)]
  simp [rsV]
/-- What is pending of the first so many sectors. -/
def pendTo (l : List RS) (k : Nat) : List Int := RDev.pendF (l.take k) 0
theorem pendF_append : ∀ (a b : List RS) (k : Nat), RDev.pendF (a ++ b) k = RDev.pendF a k ++ RDev.pendF b (k + a.length)
  | [], b, k => by simp [RDev.pendF]
  | r :: a, b, k => by
    simp only [List.cons_append, RDev.pendF, List.length_cons, pendF_append a b (k + 1)]
    rw [show k + 1 + a.length = k + (a.length + 1) by omega]
    split <;> simp
theorem pendTo_succ {l : List RS} {k : Nat} {r : RS} (h : l[k]? = some r) : pendTo l (k + 1) = pendTo l k ++ (if r.is then [(k : Int)] else []) := by
  have hl := (List.getElem?_eq_some_iff.1 h).1
  unfold pendTo
  rw [List.take_add_one, h, Option.toList_some, pendF_append]
  congr 1
  simp only [RDev.pendF, List.length_take]
  rw [show 0 + min k l.length = k by omega]
theorem pendF_le : ∀ (l : List RS) (k : Nat), (RDev.pendF l k).length ≤ l.length
  | [], _ => by simp [RDev.pendF]
  | r :: l, k => by
    have := pendF_le l (k + 1)
    simp only [RDev.pendF]
    split <;> simp <;> omega
theorem pendTo_le (l : List RS) (k : Nat) : (pendTo l k).length ≤ l.length := Nat.le_trans (pendF_le _ _) (by simp; omega)
def RDev.has (D : RDev) (i : Int) : Int := if D.dead = true then 30 else if i < 0 ∨ (D.l.length : Int) ≤ i then 2 else 0
def RDev.sec (D : RDev) (i : Int) : Bytes := ((D.l[i.toNat]?).map RS.sec).getD zsec
theorem rsec_len {r : RS} (h : r.ok) : r.sec.length = 144 := by unfold RS.sec; split; exact h.2; exact h.1
theorem rs_byte_p {r : RS} (h : r.ok) (hi : r.is = true) {k : Nat} (hk : k < 144) : (rsV r)[144 + k]? = some (.int .u8 (r.sec[k]?.getD 0).toNat) := by
  unfold rsV RS.sec
  rw [if_pos hi, List.append_assoc, List.getElem?_append_right (by simp [h.1]), bytesV_length, h.1, show 144 + k - 144 = k by omega, List.getElem?_append_left (by simp [h.2, hk]), bytesV_get (by rw [h.2]; exact hk)]
theorem rs_byte_b {r : RS} (h : r.ok) (hi : r.is = false) {k : Nat} (hk : k < 144) : (rsV r)[k]? = some (.int .u8 (r.sec[k]?.getD 0).toNat) := by
  unfold rsV RS.sec
  rw [if_neg (by simp [hi]), List.append_assoc, List.getElem?_append_left (by simp [h.1, hk]), bytesV_get (by rw [h.1]; exact hk)]
theorem take_byte {s : Bytes} {k : Nat} (hk : k < s.length) : bytesV (s.take k) ++ [.int .u8 (s[k]?.getD 0).toNat] = bytesV (s.take (k + 1)) := by
  rw [List.take_add_one, bytesV_append, List.getElem?_eq_getElem hk]
  rfl
end Go.Sl
namespace Go.Sl
set_option linter.unusedSimpArgs false
def crash1 (r : RS) (x : Option (Int × Int)) : RS := if r.is then ⟨(match x with | none => r.b | some x => keep1 r.p x r.b), zsec, false⟩ else r
def cnt (l : List RS) : Nat := (RDev.pendF l 0).length
theorem pendF_len : ∀ (l : List RS) (k j : Nat), (RDev.pendF l k).length = (RDev.pendF l j).length
  | [], _, _ => rfl
  | r :: l, k, j => by
    have := pendF_len l (k + 1) (j + 1)
    simp only [RDev.pendF]
    split <;> simp [this]
theorem crashF_snoc : ∀ (a : List RS) (r : RS) (ks : Keeps), RDev.crashF (a ++ [r]) ks = RDev.crashF a ks ++ [crash1 r (ks[cnt a]?)]
  | [], r, ks => by
    cases ks with
    | nil => unfold RDev.crashF crash1; by_cases h : r.is <;> simp [h, RDev.crashF]
    | cons x ks => unfold RDev.crashF crash1 cnt; by_cases h : r.is <;> simp [h, RDev.crashF, RDev.pendF]
  | t :: a, r, ks => by
    have hc : cnt (t :: a) = if t.is then cnt a + 1 else cnt a := by
      unfold cnt
      have := pendF_len a 1 0
      simp only [RDev.pendF]
      by_cases h : t.is <;> simp [h, this]
    by_cases h : t.is
    · cases ks with
      | nil => simp only [List.cons_append, RDev.crashF, h, if_true, crashF_snoc a r []]; simp
      | cons x ks => simp only [List.cons_append, RDev.crashF, h, if_true, crashF_snoc a r ks, hc]; simp
    · simp only [List.cons_append, RDev.crashF, h, if_false, crashF_snoc a r ks, hc]; simp
theorem crashF_len : ∀ (l : List RS) (ks : Keeps), (RDev.crashF l ks).length = l.length
  | [], ks => by cases ks <;> rfl
  | r :: l, ks => by
    by_cases h : r.is
    · cases ks with
      | nil => simp [RDev.crashF, h, crashF_len l]
      | cons x ks => simp [RDev.crashF, h, crashF_len l]
    · simp [RDev.crashF, h, crashF_len l]
def crashTo (l : List RS) (ks : Keeps) (i : Nat) : List RS := RDev.crashF (l.take i) ks ++ l.drop i
theorem crashTo_all (l : List RS) (ks : Keeps) : crashTo l ks l.length = RDev.crashF l ks := by simp [crashTo]
theorem crashTo_len (l : List RS) (ks : Keeps) (i : Nat) : (crashTo l ks i).length = l.length := by simp [crashTo, crashF_len]; omega
theorem crashTo_get {l : List RS} {ks : Keeps} {i : Nat} {r : RS} (h : l[i]? = some r) : (crashTo l ks i)[i]? = some r := by
  have hl := (List.getElem?_eq_some_iff.1 h).1
  unfold crashTo
  rw [List.getElem?_append_right (by rw [crashF_len]; simp; omega), crashF_len]
  simp only [List.length_take, List.getElem?_drop]
  rw [show min i l.length = i by omega, show i + (i - i) = i by omega]
  exact h
theorem crashTo_succ {l : List RS} {ks : Keeps} {i : Nat} {r : RS} (h : l[i]? = some r) : (crashTo l ks i).set i (crash1 r (ks[cnt (l.take i)]?)) = crashTo l ks (i + 1) := by
  have hl := (List.getElem?_eq_some_iff.1 h).1
  have e : l.take (i + 1) = l.take i ++ [r] := by rw [List.take_add_one, h]; rfl
  have hlen : (RDev.crashF (l.take i) ks).length = i := by rw [crashF_len]; simp; omega
  unfold crashTo
  rw [e, crashF_snoc, List.set_append_right _ _ (by omega), hlen, Nat.sub_self, List.append_assoc]
  congr 1
  rw [List.drop_eq_getElem_cons hl, List.set_cons_zero]
  rfl
theorem cnt_succ {l : List RS} {i : Nat} {r : RS} (h : l[i]? = some r) : cnt (l.take (i + 1)) = cnt (l.take i) + if r.is then 1 else 0 := by
  have := congrArg List.length (pendTo_succ h)
  unfold pendTo at this
  unfold cnt
  rw [this]
  by_cases h : r.is <;> simp [h]
theorem crashF_ok : ∀ {l : List RS} (ks : Keeps), (∀ r ∈ l, r.ok) → ∀ r ∈ RDev.crashF l ks, r.ok
  | [], ks, _ => by cases ks <;> simp [RDev.crashF]
  | t :: l, ks, h => by
    have ht := h t (by simp)
    have hl := fun ks => crashF_ok (l := l) ks (fun r hr => h r (by simp [hr]))
    by_cases hi : t.is
    · cases ks with
      | nil =>
        simp only [RDev.crashF, hi, if_true, List.mem_cons]
        rintro r (rfl | hr)
        · exact ⟨ht.1, by simp⟩
        · exact hl [] r hr
      | cons x ks =>
        simp only [RDev.crashF, hi, if_true, List.mem_cons]
        rintro r (rfl | hr)
        · exact ⟨keep1_length ht.2 ht.1, by simp⟩
        · exact hl ks r hr
    · have e : RDev.crashF (t :: l) ks = t :: RDev.crashF l ks := by simp [RDev.crashF, hi]
      rw [e]
      intro r hr
      rcases List.mem_cons.1 hr with rfl | hr
      · exact ht
      · exact hl ks r hr
theorem crashTo_ok {l : List RS} (h : ∀ r ∈ l, r.ok) (ks : Keeps) (i : Nat) : ∀ r ∈ crashTo l ks i, r.ok := by
  intro r hr
  rcases List.mem_append.1 hr with hr | hr
  · exact crashF_ok ks (fun t ht => h t (List.mem_of_mem_take ht)) r hr
  · exact h r (List.mem_of_mem_drop hr)
theorem copy_byte {s old : Bytes} (hs : s.length = 144) (ho : old.length = 144) {k : Nat} (hk : k < 144) :
    (bytesV (s.take k ++ old.drop k)).set k (.int .u8 (s[k]?.getD 0).toNat) = bytesV (s.take (k + 1) ++ old.drop (k + 1)) := by
  have h1 : s[k]? = some s[k] := List.getElem?_eq_getElem (by omega)
  have e : bytesV (s.take (k + 1) ++ old.drop (k + 1)) = bytesV (s.take k) ++ (.int .u8 (s[k]?.getD 0).toNat :: bytesV (old.drop (k + 1))) := by
    rw [List.take_add_one, h1, bytesV_append, bytesV_append, List.append_assoc]; rfl
  rw [e, bytesV_append, List.set_append_right _ _ (by simp; omega)]
  have hl : (bytesV (s.take k)).length = k := by simp; omega
  rw [hl, Nat.sub_self, List.drop_eq_getElem_cons (show k < old.length by omega)]
  rfl
theorem crash_inv1 {r : RS} {o : Option (Int × Int)} {q : Int × Int} (hi : r.is = true) (hr : r.ok) (ho : o = some q) (h2 : q.1 = 2) :
    (r.p.take (torn q.2) ++ r.b.drop (torn q.2)).length = 144 ∧ (⟨r.p.take (torn q.2) ++ r.b.drop (torn q.2), zsec, false⟩ : RS) = crash1 r o := by
  have := torn_le q.2
  refine ⟨by simp [hr.1, hr.2]; omega, ?_⟩
  subst ho
  unfold crash1
  rw [if_pos hi]
  simp only [keep1_b h2]
theorem crash_inv8 {r : RS} {o : Option (Int × Int)} {x : Bytes} (hi : r.is = true) (hr : r.ok) (hx : x = (match o with | some q => if q.1 = 1 then r.p else r.b | none => r.b)) (h2 : ∀ q, o = some q → ¬ q.1 = 2) :
    x.length = 144 ∧ (⟨x, zsec, false⟩ : RS) = crash1 r o := by
  unfold crash1
  rw [if_pos hi]
  cases o with
  | none => subst hx; exact ⟨hr.1, rfl⟩
  | some q =>
    have := h2 q rfl
    simp only at hx ⊢
    by_cases h1 : q.1 = 1
    · rw [if_pos h1] at hx; subst hx; exact ⟨hr.2, by rw [keep1_a h1]⟩
    · rw [if_neg h1] at hx; subst hx; exact ⟨hr.1, by rw [keep1_c h1 this]⟩
end Go.Sl
namespace Go.Sl
set_option linter.unusedSimpArgs false
structure Rel (D : Dev) (E : RDev) : Prop where
  ok : D.ok
  rok : E.ok
  len : E.l.length = D.l.length
  row : ∀ (k : Nat) (r : RS), E.l[k]? = some r → D.l[k]? = some r.b ∧ eget D.es (k : Int) = if r.is then some r.p else none
  dead : E.dead = D.dead
  fuse : E.fuse = D.fuse
theorem RDev.new_ok {n : Nat} (hn : n ≤ 512) : (RDev.new n).ok :=
  ⟨by simpa [RDev.new] using hn, by intro r hr; simp only [RDev.new] at hr; rw [List.eq_of_mem_replicate hr]; exact zrs_ok, by simp [RDev.new]⟩
theorem Rel.new {n : Nat} (hn : n ≤ 512) : Rel (Dev.new n) (RDev.new n) := by
  refine ⟨Dev.new_ok hn, RDev.new_ok hn, by simp [Dev.new, RDev.new], ?_, rfl, rfl⟩
  intro k r h
  simp only [RDev.new, List.getElem?_replicate] at h
  split at h
  · cases h; rename_i hk; simp [Dev.new, zrs, eget, hk]
  · cases h
theorem Rel.setFuse {D : Dev} {E : RDev} (h : Rel D E) {i : Int} (hi : i ≤ 9223372036854775807) : Rel (D.setFuse i) (E.setFuse i) := by
  refine ⟨Dev.setFuse_ok h.ok hi, ⟨h.rok.n, h.rok.sec, ?_⟩, h.len, h.row, h.dead, ?_⟩
  · simp only [RDev.setFuse]; split <;> omega
  · simp only [RDev.setFuse, Dev.setFuse]; split <;> split <;> omega
theorem Rel.act {D : Dev} {E : RDev} (h : Rel D E) : D.act.1 = E.act.1 ∧ Rel D.act.2 E.act.2 := by
  have hf := h.fuse
  have hD := Dev.act_ok' h.ok
  have hF := h.ok.fuse
  unfold RDev.act
  unfold Dev.act at hD ⊢
  rw [hf]
  by_cases h0 : D.fuse = 0
  · rw [if_pos h0] at hD ⊢
    rw [if_pos h0]
    exact ⟨rfl, hD, ⟨h.rok.n, h.rok.sec, hF⟩, h.len, h.row, rfl, rfl⟩
  · rw [if_neg h0] at hD ⊢
    rw [if_neg h0]
    by_cases h1 : 0 < D.fuse
    · rw [if_pos h1] at hD ⊢
      rw [if_pos h1]
      refine ⟨rfl, hD, ⟨h.rok.n, h.rok.sec, ?_⟩, h.len, h.row, h.dead, rfl⟩
      have := hD.fuse
      exact this
    · rw [if_neg h1] at hD ⊢
      rw [if_neg h1]
      exact ⟨rfl, h⟩
theorem Rel.has {D : Dev} {E : RDev} (h : Rel D E) (i : Int) : D.has i = E.has i := by
  unfold Dev.has RDev.has; rw [h.dead, h.len]
theorem upd_ok {E : RDev} (h : E.ok) {i : Int} {f : RS → RS} (hf : ∀ r, r.ok → (f r).ok) : (E.upd i f).ok := by
  refine ⟨by simpa [RDev.upd] using h.n, ?_, h.fuse⟩
  intro r hr
  obtain ⟨k, hk⟩ := List.getElem?_of_mem hr
  simp only [RDev.upd, List.getElem?_modify] at hk
  cases he : E.l[k]? with
  | none => rw [he] at hk; simp at hk
  | some t =>
    rw [he] at hk
    have ht := h.sec t (List.mem_of_getElem? he)
    simp only [Option.map_eq_map, Option.map_some, Option.some.injEq] at hk
    split at hk <;> subst hk
    · exact hf t ht
    · exact ht
theorem Rel.write {D : Dev} {E : RDev} (h : Rel D E) (i : Int) (bs : Bytes) : (D.write i bs).1 = (E.write i bs).1 ∧ Rel (D.write i bs).2 (E.write i bs).2 := by
  have hw := Dev.write_ok h.ok i bs
  have ha := h.act
  by_cases h0 : D.has i = 0
  · obtain ⟨hd, hi0, hi1⟩ := has_zero h0
    by_cases h1 : (144 : Int) < bs.length
    · have e1 : D.write i bs = (3, D) := by unfold Dev.write; rw [if_neg (by simpa using h0), if_pos h1]
      have e2 : E.write i bs = (3, E) := by unfold RDev.write; rw [if_neg (by rw [h.dead, hd]; decide), if_neg (by rw [h.len]; omega), if_pos h1]
      rw [e1, e2]
      exact ⟨rfl, h⟩
    · by_cases h2 : D.act.1 = 0
      · have e1 : D.write i bs = (0, { D.act.2 with es := eput D.act.2.es D.act.2.clk i (pad bs), clk := eclk D.act.2.es D.act.2.clk i }) := by
          unfold Dev.write; rw [if_neg (by simpa using h0), if_neg h1, if_neg (by simpa using h2)]
        have e2 : E.write i bs = (0, E.act.2.upd i fun r => { r with p := pad bs, is := true }) := by
          unfold RDev.write; rw [if_neg (by rw [h.dead, hd]; decide), if_neg (by rw [h.len]; omega), if_neg h1, if_neg (by rw [← ha.1]; simpa using h2)]
        rw [e1] at hw ⊢
        rw [e2]
        have hr := ha.2
        generalize D.act.2 = D1 at hw hr ⊢
        generalize E.act.2 = E1 at hr ⊢
        have hp : (pad bs).length = 144 := pad_length (by omega)
        refine ⟨rfl, hw, upd_ok hr.rok (fun r hr => ⟨hr.1, hp⟩), by simpa [RDev.upd] using hr.len, ?_, hr.dead, hr.fuse⟩
        intro k r hk
        simp only [RDev.upd, List.getElem?_modify] at hk
        cases he : E1.l[k]? with
        | none => rw [he] at hk; simp at hk
        | some t =>
          rw [he] at hk
          obtain ⟨r1, r2⟩ := hr.row k t he
          simp only [Option.map_eq_map, Option.map_some, Option.some.injEq] at hk
          split at hk <;> subst hk
          · rename_i e
            have e' : i = (k : Int) := by omega
            subst e'
            exact ⟨r1, by dsimp only; rw [eget_eput_same]; rfl⟩
          · rename_i e
            exact ⟨r1, by dsimp only; rw [eget_eput_other _ _ (by omega)]; exact r2⟩
      · have e1 : D.write i bs = D.act := by unfold Dev.write; rw [if_neg (by simpa using h0), if_neg h1, if_pos (by simpa using h2)]
        have e2 : E.write i bs = E.act := by
          unfold RDev.write; rw [if_neg (by rw [h.dead, hd]; decide), if_neg (by rw [h.len]; omega), if_neg h1, if_pos (by rw [← ha.1]; simpa using h2)]
        rw [e1, e2]
        exact ha
  · have e1 : D.write i bs = (D.has i, D) := by unfold Dev.write; rw [if_pos (by simpa using h0)]
    have e2 : E.write i bs = (D.has i, E) := by
      unfold Dev.has at h0 ⊢
      unfold RDev.write
      rw [h.dead, h.len]
      by_cases hd : D.dead = true
      · rw [if_pos hd, if_pos hd]
      · rw [if_neg hd] at h0
        rw [if_neg hd, if_neg hd]
        by_cases hi : i < 0 ∨ (D.l.length : Int) ≤ i
        · rw [if_pos hi, if_pos hi]
        · rw [if_neg hi] at h0; exact absurd rfl h0
    rw [e1, e2]
    exact ⟨rfl, h⟩
theorem Rel.barrier {D : Dev} {E : RDev} (h : Rel D E) : D.barrier.1 = E.barrier.1 ∧ Rel D.barrier.2 E.barrier.2 := by
  have hw := Dev.barrier_ok h.ok
  have ha := h.act
  by_cases h0 : D.dead = true
  · have e1 : D.barrier = (30, D) := by unfold Dev.barrier; rw [if_pos h0]
    have e2 : E.barrier = (30, E) := by unfold RDev.barrier; rw [if_pos (by rw [h.dead]; exact h0)]
    rw [e1, e2]; exact ⟨rfl, h⟩
  · by_cases h2 : D.act.1 = 0
    · have e1 : D.barrier = (0, { D.act.2 with l := settleD D.act.2.es D.act.2.l, es := [] }) := by unfold Dev.barrier; rw [if_neg h0, if_neg (by simpa using h2)]
      have e2 : E.barrier = (0, { E.act.2 with l := E.act.2.l.map RS.settle }) := by unfold RDev.barrier; rw [if_neg (by rw [h.dead]; exact h0), if_neg (by rw [← ha.1]; simpa using h2)]
      rw [e1] at hw ⊢
      rw [e2]
      have hr := ha.2
      generalize D.act.2 = D1 at hw hr ⊢
      generalize E.act.2 = E1 at hr ⊢
      refine ⟨rfl, hw, ⟨by simpa using hr.rok.n, ?_, hr.rok.fuse⟩, by simpa using hr.len, ?_, hr.dead, hr.fuse⟩
      · intro r hm
        obtain ⟨t, ht, rfl⟩ := List.mem_map.1 hm
        exact settle_ok (hr.rok.sec t ht)
      · intro k r hk
        simp only [List.getElem?_map] at hk
        cases he : E1.l[k]? with
        | none => rw [he] at hk; simp at hk
        | some t =>
          rw [he] at hk
          obtain ⟨r1, r2⟩ := hr.row k t he
          have hkl := (List.getElem?_eq_some_iff.1 r1).1
          simp only [Option.map_some, Option.some.injEq] at hk
          subst hk
          have hs := settleD_get (ls := D1.l) (i := (k : Int)) hr.ok.uniq (fun x hx => (hr.ok.keys x hx).1) (by omega) (by omega)
          rw [Int.toNat_natCast, r2, r1] at hs
          unfold RS.settle
          by_cases hi : t.is
          · rw [if_pos hi] at hs
            simp only [hi, if_true]
            exact ⟨hs, by simp [eget]⟩
          · rw [if_neg hi] at hs
            simp only [hi]
            exact ⟨hs, by simp [eget, hi]⟩
    · have e1 : D.barrier = D.act := by unfold Dev.barrier; rw [if_neg h0, if_pos (by simpa using h2)]
      have e2 : E.barrier = E.act := by unfold RDev.barrier; rw [if_neg (by rw [h.dead]; exact h0), if_pos (by rw [← ha.1]; simpa using h2)]
      rw [e1, e2]
      exact ha
theorem Rel.lose {D : Dev} {E : RDev} (h : Rel D E) : Rel D.lose E.lose := by
  refine ⟨Dev.lose_ok h.ok, ⟨by simpa [RDev.lose] using h.rok.n, ?_, by simp [RDev.lose]⟩, by simp [RDev.lose, Dev.lose, h.len], ?_, rfl, rfl⟩
  · intro r hr; simp only [RDev.lose] at hr; rw [List.eq_of_mem_replicate hr]; exact zrs_ok
  · intro k r hk
    simp only [RDev.lose, List.getElem?_replicate] at hk
    split at hk
    · cases hk; rename_i hk; rw [h.len] at hk; simp [Dev.lose, zrs, eget, hk]
    · cases hk
theorem sorted_ext : ∀ {a b : List Int}, a.Pairwise (· < ·) → b.Pairwise (· < ·) → (∀ z, z ∈ a ↔ z ∈ b) → a = b
  | [], [], _, _, _ => rfl
  | [], z :: b, _, _, h => by have := (h z).2 (by simp); cases this
  | z :: a, [], _, _, h => by have := (h z).1 (by simp); cases this
  | x :: a, z :: b, h1, h2, h => by
    obtain ⟨a1, a2⟩ := List.pairwise_cons.1 h1
    obtain ⟨b1, b2⟩ := List.pairwise_cons.1 h2
    have e : x = z := by
      have p := (h x).1 (by simp)
      have q := (h z).2 (by simp)
      rcases List.mem_cons.1 p with p | p
      · exact p
      · rcases List.mem_cons.1 q with q | q
        · exact q.symm
        · have := a1 z q; have := b1 x p; omega
    subst e
    congr 1
    refine sorted_ext a2 b2 fun w => ⟨fun hw => ?_, fun hw => ?_⟩
    · rcases List.mem_cons.1 ((h w).1 (by simp [hw])) with e | e
      · have := a1 w hw; omega
      · exact e
    · rcases List.mem_cons.1 ((h w).2 (by simp [hw])) with e | e
      · have := b1 w hw; omega
      · exact e
theorem pendF_mem : ∀ (l : List RS) (k : Nat) (j : Int), j ∈ RDev.pendF l k ↔ ∃ (m : Nat) (r : RS), l[m]? = some r ∧ r.is = true ∧ j = ((k + m : Nat) : Int)
  | [], k, j => by simp [RDev.pendF]
  | t :: l, k, j => by
    have ih := pendF_mem l (k + 1) j
    have e : (∃ (m : Nat) (r : RS), (t :: l)[m]? = some r ∧ r.is = true ∧ j = ((k + m : Nat) : Int)) ↔ ((t.is = true ∧ j = (k : Int)) ∨ ∃ (m : Nat) (r : RS), l[m]? = some r ∧ r.is = true ∧ j = ((k + 1 + m : Nat) : Int)) := by
      constructor
      · rintro ⟨m, r, h1, h2, h3⟩
        cases m with
        | zero => simp at h1; subst h1; exact .inl ⟨h2, by simpa using h3⟩
        | succ m => exact .inr ⟨m, r, by simpa using h1, h2, by rw [h3]; omega⟩
      · rintro (⟨h1, h2⟩ | ⟨m, r, h1, h2, h3⟩)
        · exact ⟨0, t, rfl, h1, by simpa using h2⟩
        · exact ⟨m + 1, r, by simpa using h1, h2, by rw [h3]; omega⟩
    rw [e, ← ih]
    simp only [RDev.pendF]
    by_cases hi : t.is <;> simp [hi]
theorem pendF_sorted : ∀ (l : List RS) (k : Nat), (RDev.pendF l k).Pairwise (· < ·)
  | [], k => by simp [RDev.pendF]
  | t :: l, k => by
    have ih := pendF_sorted l (k + 1)
    simp only [RDev.pendF]
    split
    · refine List.pairwise_cons.2 ⟨fun j hj => ?_, ih⟩
      obtain ⟨m, r, -, -, rfl⟩ := (pendF_mem l (k + 1) j).1 hj
      omega
    · exact ih
theorem pend_sorted {D : Dev} (hD : D.ok) : D.pending.Pairwise (· < ·) := by
  have hs : D.pending.Pairwise (fun x y => decide (x ≤ y) = true) :=
    List.pairwise_mergeSort (fun x y z h1 h2 => by simp at *; omega) (fun x y => by simp; omega) _
  have hn : D.pending.Nodup := (List.mergeSort_perm _ _).nodup_iff.2 hD.uniq
  refine (hs.and hn).imp ?_
  rintro p q ⟨h1, h2⟩
  simp at h1
  omega
theorem Rel.pending {D : Dev} {E : RDev} (h : Rel D E) : D.pending = E.pending := by
  refine sorted_ext (pend_sorted h.ok) (pendF_sorted _ _) fun z => ?_
  have e : z ∈ D.pending ↔ z ∈ D.es.map (·.1) := (List.mergeSort_perm _ _).mem_iff
  rw [e, show z ∈ E.pending ↔ _ from pendF_mem E.l 0 z]
  constructor
  · intro hz
    obtain ⟨x, hx, rfl⟩ := List.mem_map.1 hz
    obtain ⟨k0, k1⟩ := h.ok.keys x hx
    obtain ⟨r, hr⟩ : ∃ r, E.l[x.1.toNat]? = some r := ⟨_, List.getElem?_eq_getElem (by have := h.len; omega)⟩
    obtain ⟨-, r2⟩ := h.row _ _ hr
    rw [show ((x.1.toNat : Nat) : Int) = x.1 by omega, eget_of_mem h.ok.uniq hx] at r2
    refine ⟨x.1.toNat, r, hr, ?_, by omega⟩
    by_cases hi : r.is
    · exact hi
    · rw [if_neg hi] at r2; cases r2
  · rintro ⟨m, r, h1, h2, rfl⟩
    obtain ⟨-, r2⟩ := h.row _ _ h1
    rw [if_pos h2] at r2
    obtain ⟨b, hb⟩ := eget_mem r2
    exact List.mem_map.2 ⟨_, hb, by simp⟩
theorem Rel.sec {D : Dev} {E : RDev} (h : Rel D E) {i : Int} (h0 : 0 ≤ i) (h1 : i < D.l.length) : D.sec i = E.sec i := by
  obtain ⟨r, hr⟩ : ∃ r, E.l[i.toNat]? = some r := ⟨_, List.getElem?_eq_getElem (by have := h.len; omega)⟩
  obtain ⟨r1, r2⟩ := h.row _ _ hr
  rw [show ((i.toNat : Nat) : Int) = i by omega] at r2
  unfold RDev.sec RS.sec
  rw [hr]
  by_cases hi : r.is
  · rw [if_pos hi] at r2
    rw [sec_some r2]; simp [hi]
  · rw [if_neg hi] at r2
    rw [sec_none r2 r1]; simp [hi]
theorem crash_row {D : Dev} : ∀ (a : List RS) (k : Nat) (ks : Keeps) (ls : List Bytes), (∀ (m : Nat) (r : RS), a[m]? = some r → ls[k + m]? = some r.b ∧ eget D.es ((k + m : Nat) : Int) = if r.is then some r.p else none) →
    ∀ (m : Nat) (r : RS), (RDev.crashF a ks)[m]? = some r → r.is = false ∧ (crashL D (RDev.pendF a k) ks ls)[k + m]? = some r.b
  | [], k, ks, ls, _, m, r, h => by cases ks <;> simp [RDev.crashF] at h
  | t :: a, k, ks, ls, hr, m, r, h => by
    obtain ⟨t1, t2⟩ := hr 0 t rfl
    rw [Nat.add_zero] at t1 t2
    have hr' : ∀ (ls' : List Bytes), (∀ j, k < j → ls'[j]? = ls[j]?) → ∀ (m : Nat) (r : RS), a[m]? = some r → ls'[k + 1 + m]? = some r.b ∧ eget D.es ((k + 1 + m : Nat) : Int) = if r.is then some r.p else none := by
      intro ls' hl m r hm
      have := hr (m + 1) r (by simpa using hm)
      rw [show k + 1 + m = k + (m + 1) by omega]
      exact ⟨(hl _ (by omega)).trans this.1, this.2⟩
    have hz : ∀ (is : List Int) (ks : Keeps) (ls : List Bytes), (∀ j ∈ is, (k : Int) < j) → (crashL D is ks ls)[k]? = ls[k]? := by
      intro is ks ls hj
      have := crashL_other (D := D) (i := (k : Int)) is ks ls (fun j hj' => by have := hj j hj'; omega)
      simpa using this
    have hgt : ∀ j ∈ RDev.pendF a (k + 1), (k : Int) < j := by
      intro j hj
      obtain ⟨m, r, -, -, rfl⟩ := (pendF_mem a (k + 1) j).1 hj
      omega
    by_cases hi : t.is
    · rw [if_pos hi] at t2
      cases ks with
      | nil =>
        simp only [RDev.crashF, hi, if_true] at h
        rw [crashL_nil']
        cases m with
        | zero => simp at h; subst h; exact ⟨rfl, by simpa using t1⟩
        | succ m =>
          have ih := crash_row a (k + 1) [] ls (hr' ls (fun _ _ => rfl)) m r (by simpa using h)
          rw [crashL_nil'] at ih
          rw [show k + (m + 1) = k + 1 + m by omega]
          exact ih
      | cons x ks =>
        simp only [RDev.crashF, hi, if_true] at h
        simp only [RDev.pendF, hi, if_true, crashL, Int.toNat_natCast]
        rw [sec_some t2, t1, Option.getD_some]
        cases m with
        | zero =>
          simp at h; subst h
          refine ⟨rfl, ?_⟩
          show (crashL D (RDev.pendF a (k + 1)) ks (ls.set k (keep1 t.p x t.b)))[k]? = _
          rw [hz _ _ _ hgt, List.getElem?_set_self (List.getElem?_eq_some_iff.1 t1).1]
        | succ m =>
          have ih := crash_row a (k + 1) ks (ls.set k (keep1 t.p x t.b)) (hr' _ (fun j hj => List.getElem?_set_ne (by omega))) m r (by simpa using h)
          rw [show k + (m + 1) = k + 1 + m by omega]
          exact ih
    · have e : RDev.crashF (t :: a) ks = t :: RDev.crashF a ks := by simp [RDev.crashF, hi]
      have e2 : RDev.pendF (t :: a) k = RDev.pendF a (k + 1) := by simp [RDev.pendF, hi]
      rw [e] at h
      rw [e2]
      cases m with
      | zero =>
        simp at h; subst h
        exact ⟨by simpa using hi, by show (crashL D (RDev.pendF a (k + 1)) ks ls)[k]? = _; rw [hz _ _ _ hgt]; exact t1⟩
      | succ m =>
        have ih := crash_row a (k + 1) ks ls (hr' ls (fun _ _ => rfl)) m r (by simpa using h)
        rw [show k + (m + 1) = k + 1 + m by omega]
        exact ih
theorem Rel.crash {D : Dev} {E : RDev} (h : Rel D E) (ks : Keeps) : Rel (D.crash ks) (E.crash ks) := by
  refine ⟨Dev.crash_ok h.ok ks, ⟨by simpa [RDev.crash, crashF_len] using h.rok.n, crashF_ok ks h.rok.sec, by simp [RDev.crash]⟩, by simp [RDev.crash, Dev.crash, crashF_len, crashL_length, h.len], ?_, rfl, rfl⟩
  intro k r hk
  have := crash_row (D := D) E.l 0 ks D.l (fun m r hm => by simpa using h.row m r hm) k r hk
  refine ⟨?_, ?_⟩
  · have h2 := this.2
    rw [Nat.zero_add] at h2
    show (crashL D D.pending ks D.l)[k]? = _
    rw [h.pending]
    exact h2
  · rw [this.1]
    rfl
theorem keepsV_succ {ks : Keeps} {k : Nat} {x : Int × Int} (h : ks[k]? = some x) : keepsV (ks.take (k + 1)) = keepsV (ks.take k) ++ [.int .i64 x.1, .int .i64 x.2] := by
  rw [List.take_add_one, h]
  simp [keepsV]
def Dev.rdB (D : Dev) (i : Int) : Bytes := if D.has i = 0 then D.sec i else []
def RDev.rdB (D : RDev) (i : Int) : Bytes := if D.has i = 0 then D.sec i else []
theorem Rel.rdB {D : Dev} {E : RDev} (h : Rel D E) (i : Int) : D.rdB i = E.rdB i := by
  unfold Dev.rdB RDev.rdB
  rw [← h.has]
  split
  · rename_i h0
    obtain ⟨-, h1, h2⟩ := has_zero h0
    exact h.sec h1 h2
  · rfl
end Go.Sl
