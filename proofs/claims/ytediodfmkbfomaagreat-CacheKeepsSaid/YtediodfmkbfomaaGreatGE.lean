/- A part of the proof: contracts and plain lemmas, each without conditions beyond those that it names. -/
import Derived.Test.YtediodfmkbfomaaGreatGC
set_option linter.unusedVariables false
set_option linter.unusedSimpArgs false
set_option linter.constructorNameAsVariable false
namespace Go.Sl
structure ActM where
  kind : Int
  i : Int
  bv : Value
  bs : Bytes
  kv : Value
  ks : Keeps
def ActM.cells (a : ActM) : List Value := [.int .i64 a.kind, .int .i64 a.i, a.bv, a.kv]
structure ActM.ok [Env] (R : List Seg) (a : ActM) : Prop where
  bytes : RdB R a.bv a.bs
  keeps : RdV R a.kv a.ks.length (keepsV a.ks)
  int : a.i ≤ 9223372036854775807
theorem ActM.ok.mono [Env] {R R' : List Seg} {a : ActM} (h : a.ok R) (hg : Ge R' R) : a.ok R' := ⟨h.bytes.mono hg, h.keeps.mono hg, h.int⟩
end Go.Sl
namespace Go.Sl
set_option linter.unusedSimpArgs false
theorem barrier_l {D : Dev} : D.barrier.2.l.length = D.l.length := by
  unfold Dev.barrier
  split
  · rfl
  · split
    · rw [act_l]
    · simp
end Go.Sl
namespace Go.Sl
set_option linter.unusedSimpArgs false
theorem ehas_find {es : Es} {k : Int} (h : ¬ ehas es k = true) : es.find? (fun x => decide (x.1 = k)) = none := by
  rw [List.find?_eq_none]
  intro x hx hd
  exact h (List.any_eq_true.2 ⟨x, hx, hd⟩)
theorem eset_same {es : Es} {k : Int} (s : Bytes) (h : ehas es k = true) : eget (eset es k s) k = some s := by
  unfold eget eset
  induction es with
  | nil => simp [ehas] at h
  | cons x es ih =>
    by_cases e : x.1 = k
    · simp [e]
    · rw [List.map_cons, if_neg e, List.find?_cons_of_neg (by simpa using e)]
      refine ih ?_
      unfold ehas at h ⊢
      rw [List.any_cons] at h
      simpa [e] using h
theorem eset_other (es : Es) {k i : Int} (s : Bytes) (hk : k ≠ i) : eget (eset es k s) i = eget es i := by
  unfold eget eset
  induction es with
  | nil => rfl
  | cons x es ih =>
    by_cases e : x.1 = k
    · rw [List.map_cons, if_pos e, List.find?_cons_of_neg (by simpa using hk), List.find?_cons_of_neg (by simp; omega)]
      exact ih
    · rw [List.map_cons, if_neg e]
      by_cases e2 : x.1 = i
      · rw [List.find?_cons_of_pos (by simpa using e2), List.find?_cons_of_pos (by simpa using e2)]
      · rw [List.find?_cons_of_neg (by simpa using e2), List.find?_cons_of_neg (by simpa using e2)]
        exact ih
theorem eget_eput_same (es : Es) (c : Nat) (k : Int) (s : Bytes) : eget (eput es c k s) k = some s := by
  unfold eput
  by_cases h : ehas es k = true
  · rw [if_pos h]; exact eset_same s h
  · rw [if_neg h]
    unfold eget
    rw [List.find?_append, ehas_find h]
    simp
theorem eget_eput_other (es : Es) (c : Nat) {k i : Int} (hk : k ≠ i) (s : Bytes) : eget (eput es c k s) i = eget es i := by
  unfold eput
  by_cases h : ehas es k = true
  · rw [if_pos h]; exact eset_other es s hk
  · rw [if_neg h]
    unfold eget
    rw [List.find?_append]
    cases es.find? (fun x => decide (x.1 = i)) with
    | none => simp [hk]
    | some x => simp
/-- Settled: what was pending lies there. -/
theorem settleD_get : ∀ {es : Es} {ls : List Bytes} {i : Int}, (es.map (·.1)).Nodup → (∀ x ∈ es, 0 ≤ x.1) → 0 ≤ i → i < ls.length →
    (settleD es ls)[i.toNat]? = (eget es i).or (ls[i.toNat]?)
  | [], ls, i, _, _, _, _ => by simp [settleD, eget]
  | x :: es, ls, i, hn, hp, h0, h1 => by
    have hn' := List.nodup_cons.1 hn
    rw [settleD_cons, settleD_get hn'.2 (fun y hy => hp y (by simp [hy])) h0 (by simpa using h1)]
    have hx := hp x (by simp)
    unfold eget
    by_cases e : x.1 = i
    · subst e
      have : es.find? (fun y => decide (y.1 = x.1)) = none := by
        rw [List.find?_eq_none]
        intro y hy hd
        exact hn'.1 (List.mem_map.2 ⟨y, hy, by simpa using hd⟩)
      rw [this, List.find?_cons_of_pos (by simp)]
      simp [show x.1.toNat < ls.length by omega]
    · rw [List.find?_cons_of_neg (by simpa using e), List.getElem?_set_ne (by omega)]
/-- A device that is up and has no fuse. -/
structure Up (D : Dev) (n : Nat) : Prop where
  ok : D.ok
  len : D.l.length = n
  live : D.dead = false
  fuse : D.fuse = -1
theorem Up.act {D : Dev} {n : Nat} (h : Up D n) : D.act = (0, D) := by
  unfold Dev.act
  rw [if_neg (by rw [h.fuse]; decide), if_neg (by rw [h.fuse]; decide)]
theorem Up.has {D : Dev} {n : Nat} (h : Up D n) (i : Int) : D.has i = if i < 0 ∨ (n : Int) ≤ i then 2 else 0 := by
  unfold Dev.has
  rw [if_neg (by rw [h.live]; decide), h.len]
theorem Up.write {D : Dev} {n : Nat} (h : Up D n) (i : Int) (bs : Bytes) :
    D.write i bs = if i < 0 ∨ (n : Int) ≤ i then (2, D) else if (144 : Int) < bs.length then (3, D) else (0, { D with es := eput D.es D.clk i (pad bs), clk := eclk D.es D.clk i }) := by
  unfold Dev.write
  rw [h.has, h.act]
  by_cases h1 : i < 0 ∨ (n : Int) ≤ i
  · simp [h1]
  · by_cases h2 : (144 : Int) < bs.length
    · simp [h1, h2]
    · simp [h1, h2]
theorem Up.write_up {D : Dev} {n : Nat} (h : Up D n) (i : Int) (bs : Bytes) : Up (D.write i bs).2 n := by
  have hw := h.write i bs
  refine ⟨Dev.write_ok h.ok i bs, by rw [write_l]; exact h.len, ?_, ?_⟩
  · rw [hw]; split <;> (try split) <;> exact h.live
  · rw [hw]; split <;> (try split) <;> exact h.fuse
theorem Up.barrier {D : Dev} {n : Nat} (h : Up D n) : D.barrier = (0, { D with l := settleD D.es D.l, es := [] }) := by
  unfold Dev.barrier
  rw [if_neg (by rw [h.live]; decide), h.act]
  simp
theorem Up.barrier_up {D : Dev} {n : Nat} (h : Up D n) : Up D.barrier.2 n := by
  have hw := h.barrier
  refine ⟨Dev.barrier_ok h.ok, by rw [barrier_l]; exact h.len, ?_, ?_⟩
  · rw [hw]; exact h.live
  · rw [hw]; exact h.fuse
theorem crash_up {D : Dev} (h : D.ok) (ks : Keeps) : Up (D.crash ks) D.l.length :=
  ⟨Dev.crash_ok h ks, by simp [Dev.crash, crashL_length], rfl, rfl⟩
theorem Up.sec_write_other {D : Dev} {n : Nat} (h : Up D n) {i j : Int} (hij : j ≠ i) (bs : Bytes) : (D.write j bs).2.sec i = D.sec i := by
  rw [h.write]
  split
  · rfl
  · split
    · rfl
    · unfold Dev.sec
      simp only
      rw [eget_eput_other _ _ hij]
theorem Up.sec_write_same {D : Dev} {n : Nat} (h : Up D n) {i : Int} {bs : Bytes} (h0 : (D.write i bs).1 = 0) : (D.write i bs).2.sec i = pad bs ∧ 0 ≤ i ∧ i < n ∧ bs.length ≤ 144 := by
  rw [h.write] at h0 ⊢
  split at h0
  · simp at h0
  · rename_i h1
    split at h0
    · simp at h0
    · rename_i h2
      rw [if_neg h1, if_neg h2]
      unfold Dev.sec
      simp only
      rw [eget_eput_same]
      exact ⟨rfl, by omega, by omega, by omega⟩
theorem Up.sec_barrier {D : Dev} {n : Nat} (h : Up D n) {i : Int} (h0 : 0 ≤ i) (h1 : i < n) : D.barrier.2.sec i = D.sec i := by
  rw [h.barrier]
  unfold Dev.sec
  simp only
  rw [settleD_get h.ok.uniq (fun x hx => (h.ok.keys x hx).1) h0 (by rw [h.len]; exact h1)]
  cases eget D.es i with
  | none => rfl
  | some s => rfl
end Go.Sl
namespace Go.Sl
set_option linter.unusedSimpArgs false
theorem sec_crash_nil {D : Dev} (he : D.es = []) (ks : Keeps) (i : Int) : (D.crash ks).sec i = D.sec i := by
  have hp : D.pending = [] := by simp [Dev.pending, he]
  unfold Dev.sec Dev.crash
  simp only [hp, crashL_nil, he]
theorem crash_es (D : Dev) (ks : Keeps) : (D.crash ks).es = [] := rfl
end Go.Sl
namespace Go.Sl
set_option linter.unusedSimpArgs false
structure WantOk (D : Dev) (kv : Kv) : Prop where
  keys : kv.map (·.1) = D.es.map (·.1)
  all : ∀ x ∈ kv, x.2.1 = .bool true
theorem WantOk.len {D : Dev} {kv : Kv} (h : WantOk D kv) : kv.length = D.es.length := by
  have := congrArg List.length h.keys
  simpa using this
theorem WantOk.uniq {D : Dev} {kv : Kv} (h : WantOk D kv) (hD : D.ok) : uniq kv := by
  unfold Sl.uniq; rw [h.keys]; exact hD.uniq
theorem WantOk.nil {D : Dev} (h : D.es = []) : WantOk D [] := ⟨by rw [h]; rfl, by simp⟩
theorem any_keys {kv : Kv} {es : Es} (h : kv.map (·.1) = es.map (·.1)) (k : Int) : kv.any (fun x => decide (x.1 = k)) = ehas es k := by
  have h1 : kv.any (fun x => decide (x.1 = k)) = (kv.map (·.1)).any (fun x => decide (x = k)) := by rw [List.any_map]; rfl
  have h2 : ehas es k = (es.map (·.1)).any (fun x => decide (x = k)) := by rw [List.any_map]; rfl
  rw [h1, h2, h]
theorem WantOk.put {D : Dev} {n : Nat} {kv : Kv} {c : Nat} {i : Int} {bs : Bytes} (h : WantOk D kv) (hU : Up D n) (h0 : (D.write i bs).1 = 0) : WantOk (D.write i bs).2 (mput kv c i (.bool true)) := by
  rw [hU.write] at h0 ⊢
  split at h0
  · simp at h0
  · rename_i h1
    split at h0
    · simp at h0
    · rename_i h2
      rw [if_neg h1, if_neg h2]
      have ha := any_keys h.keys i
      unfold mput eput
      rw [ha]
      by_cases hh : ehas D.es i = true
      · rw [if_pos hh, if_pos hh]
        refine ⟨?_, ?_⟩
        · have e1 : (mset kv i (.bool true)).map (·.1) = kv.map (·.1) := by
            simp only [mset, List.map_map]
            apply List.map_congr_left
            intro x _
            simp only [Function.comp]
            split <;> simp_all
          have e2 : (eset D.es i (pad bs)).map (·.1) = D.es.map (·.1) := by
            simp only [eset, List.map_map]
            apply List.map_congr_left
            intro x _
            simp only [Function.comp]
            split <;> simp_all
          rw [e1, h.keys]; exact e2.symm
        · intro x hx
          obtain ⟨y, hy, rfl⟩ := List.mem_map.1 hx
          split
          · rfl
          · exact h.all y hy
      · rw [if_neg hh, if_neg hh]
        refine ⟨by simp [h.keys], ?_⟩
        intro x hx
        rcases List.mem_append.1 hx with hx | hx
        · exact h.all x hx
        · simp at hx; subst hx; rfl
theorem Up.write_fail {D : Dev} {n : Nat} (hU : Up D n) {i : Int} {bs : Bytes} (h0 : ¬ (D.write i bs).1 = 0) : (D.write i bs).2 = D := by
  rw [hU.write] at h0 ⊢
  split
  · rfl
  · rename_i h1
    rw [if_neg h1] at h0
    split
    · rfl
    · rename_i h2
      rw [if_neg h2] at h0
      exact absurd rfl h0
theorem Up.fail {D : Dev} {n : Nat} (hU : Up D n) {i : Int} {bs : Bytes} (h0 : ¬ (D.write i bs).1 = 0) : Up (D.write i bs).2 n := by
  rw [hU.write_fail h0]; exact hU
theorem WantOk.fail {D : Dev} {n : Nat} {kv : Kv} (hw : WantOk D kv) (hU : Up D n) {i : Int} {bs : Bytes} (h0 : ¬ (D.write i bs).1 = 0) : WantOk (D.write i bs).2 kv := by
  rw [hU.write_fail h0]; exact hw
theorem WantOk.get {D : Dev} {kv : Kv} {i : Int} (h : WantOk D kv) (hi : i ∈ D.es.map (·.1)) : mget kv i = some (.bool true) := by
  rw [← h.keys] at hi
  obtain ⟨x, hx, rfl⟩ := List.mem_map.1 hi
  unfold mget
  cases hf : kv.find? (fun y => decide (y.1 = x.1)) with
  | none =>
    have := List.find?_eq_none.1 hf x hx
    simp at this
  | some y =>
    have := h.all y (List.mem_of_find?_eq_some hf)
    simp [this]
theorem barrier_es {D : Dev} {n : Nat} (hU : Up D n) : D.barrier.2.es = [] := by rw [hU.barrier]
end Go.Sl
namespace Go.Sl
set_option linter.unusedSimpArgs false
theorem barrier_live {D : Dev} (h : D.barrier.1 = 0) : D.barrier.2.dead = false ∧ D.barrier.2.es = [] := by
  unfold Dev.barrier at h ⊢
  split at h
  · simp at h
  · rename_i hd
    rw [if_neg hd]
    split at h
    · rename_i ha; exact absurd h ha
    · rename_i ha
      rw [if_neg ha]
      refine ⟨?_, rfl⟩
      have ha' : D.act.1 = 0 := by simpa using ha
      unfold Dev.act at ha' ⊢
      split at ha'
      · simp at ha'
      · rename_i hf
        rw [if_neg hf]
        split <;> simpa using hd
theorem sec_of_l {D : Dev} (h : D.es = []) (i : Int) : D.sec i = (D.l[i.toNat]?).getD zsec := by
  unfold Dev.sec; rw [h]; rfl
/-- A crash leaves a sector that isn't pending; of one that is, each byte is the old one or the new one. -/
theorem crashL_other {D : Dev} {i : Int} : ∀ (is : List Int) (ks : Keeps) (ls : List Bytes), (∀ j ∈ is, j.toNat ≠ i.toNat) → (crashL D is ks ls)[i.toNat]? = ls[i.toNat]?
  | [], ks, ls, _ => by rw [crashL_nil]
  | j :: is, [], ls, _ => rfl
  | j :: is, x :: ks, ls, h => by
    simp only [crashL]
    rw [crashL_other is ks _ (fun y hy => h y (by simp [hy])), List.getElem?_set_ne (h j (by simp))]
theorem sec_crash_other {D : Dev} (hD : D.ok) {ks : Keeps} {i : Int} (hi0 : 0 ≤ i) (h : i ∉ D.pending) : (D.crash ks).sec i = (D.l[i.toNat]?).getD zsec := by
  rw [sec_of_l (crash_es D ks)]
  unfold Dev.crash
  simp only
  rw [crashL_other _ _ _ (fun j hj => by
    obtain ⟨y, hy, e⟩ := List.mem_map.1 ((List.mergeSort_perm _ _).mem_iff.1 hj)
    have := (hD.keys y hy).1
    have : j ≠ i := fun e => h (e ▸ hj)
    omega)]
/-- The map that says what is pending. -/
structure PendOk (l : List Int) (kv : Kv) : Prop where
  keys : kv.map (·.1) = l
  all : ∀ x ∈ kv, x.2.1 = .bool true
theorem PendOk.put {l : List Int} {kv : Kv} {c : Nat} {i : Int} (h : PendOk l kv) (hi : i ∉ l) : PendOk (l ++ [i]) (mput kv c i (.bool true)) := by
  have : kv.any (fun x => decide (x.1 = i)) = false := by
    rw [List.any_eq_false]
    intro x hx hd
    exact hi (h.keys ▸ List.mem_map.2 ⟨x, hx, by simpa using hd⟩)
  unfold mput
  rw [if_neg (by rw [this]; decide)]
  refine ⟨by simp [h.keys], fun x hx => ?_⟩
  rcases List.mem_append.1 hx with hx | hx
  · exact h.all x hx
  · simp at hx; subst hx; rfl
theorem PendOk.get {l : List Int} {kv : Kv} {i : Int} (h : PendOk l kv) (hi : i ∈ l) : mget kv i = some (.bool true) := by
  rw [← h.keys] at hi
  obtain ⟨x, hx, rfl⟩ := List.mem_map.1 hi
  unfold mget
  cases hf : kv.find? (fun y => decide (y.1 = x.1)) with
  | none => have := List.find?_eq_none.1 hf x hx; simp at this
  | some y => have := h.all y (List.mem_of_find?_eq_some hf); simp [this]
theorem PendOk.none {l : List Int} {kv : Kv} {i : Int} (h : PendOk l kv) (hi : i ∉ l) : mget kv i = none := by
  unfold mget
  have : kv.find? (fun y => decide (y.1 = i)) = Option.none := by
    rw [List.find?_eq_none]
    intro x hx hd
    exact hi (h.keys ▸ List.mem_map.2 ⟨x, hx, by simpa using hd⟩)
  rw [this]; rfl
theorem bytesV_get {s : Bytes} {k : Nat} (h : k < s.length) : (bytesV s)[k]? = some (.int .u8 (s[k]?.getD 0).toNat) := by
  simp [bytesV, h]
theorem RdV.weak [Env] {R R' : List Seg} {v : Value} {m : Nat} {vs : List Value} (h : RdV R v m vs) (hg : ∀ w, Has w R' → Has w R) : RdV R' v m vs := by
  rcases h with h | ⟨a, c, h1, h3, h2⟩
  · exact .inl h
  · exact .inr ⟨a, c, h1, h3, fun w hh => h2 w (hg w hh)⟩
/-- Slices, each of which reads as a sector (where 'p' holds). -/
def RowsOk [Env] (sg : Seg) (vs : List Value) (p : Prop) (f : Nat → Bytes) : Prop := ∀ j v, vs[j]? = some v → v.oneCell' = true ∧ (p → RdV [sg] v 144 (bytesV (f j)))
theorem RowsOk.nil [Env] {sg : Seg} {p : Prop} {f : Nat → Bytes} : RowsOk sg [] p f := fun j v h => by simp at h
theorem RowsOk.add [Env] {sg s : Seg} {vs : List Value} {u : Value} {p : Prop} {f : Nat → Bytes} {k : Nat} (h : RowsOk sg vs p f) (hk : vs.length = k) (h1 : u.oneCell' = true) (h2 : p → RdV [s] u 144 (bytesV (f k))) : RowsOk (s ++ sg) (vs ++ [u]) p f := by
  intro j v hv
  rcases Nat.lt_or_ge j vs.length with hj | hj
  · rw [List.getElem?_append_left hj] at hv
    obtain ⟨h3, h4⟩ := h j v hv
    exact ⟨h3, fun hp => (h4 hp).weak fun w hw => hw.sub ⟨s, by simpa using List.perm_append_comm⟩⟩
  · rw [List.getElem?_append_right hj] at hv
    have : j = vs.length := by
      rcases Nat.eq_or_lt_of_le hj with e | e
      · exact e.symm
      · rw [List.getElem?_eq_none (by simp; omega)] at hv; cases hv
    subst this
    simp at hv
    subst hv
    rw [hk]
    exact ⟨h1, fun hp => (h2 hp).weak fun w hw => hw.sub ⟨sg, by simp⟩⟩
section
variable {P : Program} {n : Nat} {l : List (Nat × Value)} {L : List Seg} {d : Option Tmp} {ty : TypeId} {pos : String} {af : Array Edge} {g : Option (Nat × Bool)}
end
end Go.Sl
namespace Go.Sl
set_option linter.unusedSimpArgs false
structure RS where
  b : Bytes
  p : Bytes
  is : Bool
def RS.ok (r : RS) : Prop := r.b.length = 144 ∧ r.p.length = 144
def zrs : RS := ⟨zsec, zsec, false⟩
structure RDev where
  l : List RS
  dead : Bool
  fuse : Int
structure RDev.ok (D : RDev) : Prop where
  n : D.l.length ≤ 512
  sec : ∀ r ∈ D.l, r.ok
  fuse : -1 ≤ D.fuse ∧ D.fuse ≤ 9223372036854775807
def RDev.act (D : RDev) : Int × RDev := if D.fuse = 0 then (30, { D with dead := true }) else (0, if 0 < D.fuse then { D with fuse := IntKind.i64.wrap (D.fuse - 1) } else D)
def RDev.upd (D : RDev) (i : Int) (f : RS → RS) : RDev := { D with l := D.l.modify i.toNat f }
def RDev.write (D : RDev) (i : Int) (bs : Bytes) : Int × RDev :=
  if D.dead = true then (30, D) else if i < 0 ∨ (D.l.length : Int) ≤ i then (2, D) else if (144 : Int) < bs.length then (3, D) else if D.act.1 ≠ 0 then D.act else
  (0, D.act.2.upd i fun r => { r with p := pad bs, is := true })
def RS.settle (r : RS) : RS := if r.is then ⟨r.p, zsec, false⟩ else r
def RDev.barrier (D : RDev) : Int × RDev := if D.dead = true then (30, D) else if D.act.1 ≠ 0 then D.act else (0, { D.act.2 with l := D.act.2.l.map RS.settle })
def RS.sec (r : RS) : Bytes := if r.is then r.p else r.b
def RDev.pendF : List RS → Nat → List Int
  | [], _ => []
  | r :: l, k => if r.is then (k : Int) :: pendF l (k + 1) else pendF l (k + 1)
def RDev.pending (D : RDev) : List Int := RDev.pendF D.l 0
def RDev.crashF : List RS → Keeps → List RS
  | [], _ => []
  | r :: l, ks => if r.is then (match ks with
    | [] => ⟨r.b, zsec, false⟩ :: crashF l []
    | x :: ks => ⟨keep1 r.p x r.b, zsec, false⟩ :: crashF l ks) else r :: crashF l ks
def RDev.crash (D : RDev) (ks : Keeps) : RDev := { l := RDev.crashF D.l ks, dead := false, fuse := -1 }
def RDev.lose (D : RDev) : RDev := { l := List.replicate D.l.length zrs, dead := false, fuse := -1 }
def RDev.setFuse (D : RDev) (n : Int) : RDev := { D with fuse := if n < 0 then -1 else n }
def RDev.new (n : Nat) : RDev := ⟨List.replicate n zrs, false, -1⟩
@[simp] theorem ract_l {D : RDev} : D.act.2.l = D.l := by unfold RDev.act; split <;> (try split) <;> rfl
def RDev.has (D : RDev) (i : Int) : Int := if D.dead = true then 30 else if i < 0 ∨ (D.l.length : Int) ≤ i then 2 else 0
def RDev.sec (D : RDev) (i : Int) : Bytes := ((D.l[i.toNat]?).map RS.sec).getD zsec
end Go.Sl
