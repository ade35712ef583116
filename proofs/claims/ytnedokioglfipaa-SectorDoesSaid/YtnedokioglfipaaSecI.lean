/- A part of the proof: contracts and plain lemmas, each without conditions beyond those that it names. -/
import Derived.Test.YtnedokioglfipaaSecF
import Derived.Test.YtnedokioglfipaaSecH
set_option linter.unusedVariables false
set_option linter.unusedSimpArgs false
set_option linter.constructorNameAsVariable false
namespace Go.Sl
set_option linter.unusedSimpArgs false
/-! the device and the document's device -/
structure Rel (D : Dev) (E : RDev) : Prop where
  ok : D.ok
  rok : E.ok
  len : E.l.length = D.l.length
  row : ∀ (k : Nat) (r : RS), E.l[k]? = some r → D.l[k]? = some r.b ∧ eget D.es (k : Int) = if r.is then some r.p else none
  dead : E.dead = D.dead
  fuse : E.fuse = D.fuse
theorem RDev.new_ok {n : Nat} (hn : n ≤ 512) : (RDev.new n).ok :=
  ⟨by simpa [RDev.new] using hn, by intro r hr; simp only [RDev.new] at hr; rw [List.eq_of_mem_replicate hr]; exact zrs_ok, by simp [RDev.new]⟩
theorem Rel.new {n : Nat} (hn : n ≤ 512) : Rel (Dev.new n) (RDev.new n) := by
  refine ⟨Dev.new_ok hn, RDev.new_ok hn, by simp [Dev.new, RDev.new], ?_, rfl, rfl⟩
  intro k r h
  simp only [RDev.new, List.getElem?_replicate] at h
  split at h
  · cases h; rename_i hk; simp [Dev.new, zrs, eget, hk]
  · cases h
theorem Rel.setFuse {D : Dev} {E : RDev} (h : Rel D E) {i : Int} (hi : i ≤ 9223372036854775807) : Rel (D.setFuse i) (E.setFuse i) := by
  refine ⟨Dev.setFuse_ok h.ok hi, ⟨h.rok.n, h.rok.sec, ?_⟩, h.len, h.row, h.dead, ?_⟩
  · simp only [RDev.setFuse]; split <;> omega
  · simp only [RDev.setFuse, Dev.setFuse]; split <;> split <;> omega
theorem Rel.act {D : Dev} {E : RDev} (h : Rel D E) : D.act.1 = E.act.1 ∧ Rel D.act.2 E.act.2 := by
  have hf := h.fuse
  have hD := Dev.act_ok' h.ok
  have hF := h.ok.fuse
  unfold RDev.act
  unfold Dev.act at hD ⊢
  rw [hf]
  by_cases h0 : D.fuse = 0
  · rw [if_pos h0] at hD ⊢
    rw [if_pos h0]
    exact ⟨rfl, hD, ⟨h.rok.n, h.rok.sec, hF⟩, h.len, h.row, rfl, rfl⟩
  · rw [if_neg h0] at hD ⊢
    rw [if_neg h0]
    by_cases h1 : 0 < D.fuse
    · rw [if_pos h1] at hD ⊢
      rw [if_pos h1]
      refine ⟨rfl, hD, ⟨h.rok.n, h.rok.sec, ?_⟩, h.len, h.row, h.dead, rfl⟩
      have := hD.fuse
      exact this
    · rw [if_neg h1] at hD ⊢
      rw [if_neg h1]
      exact ⟨rfl, h⟩
theorem Rel.has {D : Dev} {E : RDev} (h : Rel D E) (i : Int) : D.has i = E.has i := by
  unfold Dev.has RDev.has; rw [h.dead, h.len]
theorem upd_ok {E : RDev} (h : E.ok) {i : Int} {f : RS → RS} (hf : ∀ r, r.ok → (f r).ok) : (E.upd i f).ok := by
  refine ⟨by simpa [RDev.upd] using h.n, ?_, h.fuse⟩
  intro r hr
  obtain ⟨k, hk⟩ := List.getElem?_of_mem hr
  simp only [RDev.upd, List.getElem?_modify] at hk
  cases he : E.l[k]? with
  | none => rw [he] at hk; simp at hk
  | some t =>
    rw [he] at hk
    have ht := h.sec t (List.mem_of_getElem? he)
    simp only [Option.map_eq_map, Option.map_some, Option.some.injEq] at hk
    split at hk <;> subst hk
    · exact hf t ht
    · exact ht
theorem Rel.write {D : Dev} {E : RDev} (h : Rel D E) (i : Int) (bs : Bytes) : (D.write i bs).1 = (E.write i bs).1 ∧ Rel (D.write i bs).2 (E.write i bs).2 := by
  have hw := Dev.write_ok h.ok i bs
  have ha := h.act
  by_cases h0 : D.has i = 0
  · obtain ⟨hd, hi0, hi1⟩ := has_zero h0
    by_cases h1 : (144 : Int) < bs.length
    · have e1 : D.write i bs = (3, D) := by unfold Dev.write; rw [if_neg (by simpa using h0), if_pos h1]
      have e2 : E.write i bs = (3, E) := by unfold RDev.write; rw [if_neg (by rw [h.dead, hd]; decide), if_neg (by rw [h.len]; omega), if_pos h1]
      rw [e1, e2]
      exact ⟨rfl, h⟩
    · by_cases h2 : D.act.1 = 0
      · have e1 : D.write i bs = (0, { D.act.2 with es := eput D.act.2.es D.act.2.clk i (pad bs), clk := eclk D.act.2.es D.act.2.clk i }) := by
          unfold Dev.write; rw [if_neg (by simpa using h0), if_neg h1, if_neg (by simpa using h2)]
        have e2 : E.write i bs = (0, E.act.2.upd i fun r => { r with p := pad bs, is := true }) := by
          unfold RDev.write; rw [if_neg (by rw [h.dead, hd]; decide), if_neg (by rw [h.len]; omega), if_neg h1, if_neg (by rw [← ha.1]; simpa using h2)]
        rw [e1] at hw ⊢
        rw [e2]
        have hr := ha.2
        generalize D.act.2 = D1 at hw hr ⊢
        generalize E.act.2 = E1 at hr ⊢
        have hp : (pad bs).length = 144 := pad_length (by omega)
        refine ⟨rfl, hw, upd_ok hr.rok (fun r hr => ⟨hr.1, hp⟩), by simpa [RDev.upd] using hr.len, ?_, hr.dead, hr.fuse⟩
        intro k r hk
        simp only [RDev.upd, List.getElem?_modify] at hk
        cases he : E1.l[k]? with
        | none => rw [he] at hk; simp at hk
        | some t =>
          rw [he] at hk
          obtain ⟨r1, r2⟩ := hr.row k t he
          simp only [Option.map_eq_map, Option.map_some, Option.some.injEq] at hk
          split at hk <;> subst hk
          · rename_i e
            have e' : i = (k : Int) := by omega
            subst e'
            exact ⟨r1, by dsimp only; rw [eget_eput_same]; rfl⟩
          · rename_i e
            exact ⟨r1, by dsimp only; rw [eget_eput_other _ _ (by omega)]; exact r2⟩
      · have e1 : D.write i bs = D.act := by unfold Dev.write; rw [if_neg (by simpa using h0), if_neg h1, if_pos (by simpa using h2)]
        have e2 : E.write i bs = E.act := by
          unfold RDev.write; rw [if_neg (by rw [h.dead, hd]; decide), if_neg (by rw [h.len]; omega), if_neg h1, if_pos (by rw [← ha.1]; simpa using h2)]
        rw [e1, e2]
        exact ha
  · have e1 : D.write i bs = (D.has i, D) := by unfold Dev.write; rw [if_pos (by simpa using h0)]
    have e2 : E.write i bs = (D.has i, E) := by
      unfold Dev.has at h0 ⊢
      unfold RDev.write
      rw [h.dead, h.len]
      by_cases hd : D.dead = true
      · rw [if_pos hd, if_pos hd]
      · rw [if_neg hd] at h0
        rw [if_neg hd, if_neg hd]
        by_cases hi : i < 0 ∨ (D.l.length : Int) ≤ i
        · rw [if_pos hi, if_pos hi]
        · rw [if_neg hi] at h0; exact absurd rfl h0
    rw [e1, e2]
    exact ⟨rfl, h⟩
theorem Rel.barrier {D : Dev} {E : RDev} (h : Rel D E) : D.barrier.1 = E.barrier.1 ∧ Rel D.barrier.2 E.barrier.2 := by
  have hw := Dev.barrier_ok h.ok
  have ha := h.act
  by_cases h0 : D.dead = true
  · have e1 : D.barrier = (30, D) := by unfold Dev.barrier; rw [if_pos h0]
    have e2 : E.barrier = (30, E) := by unfold RDev.barrier; rw [if_pos (by rw [h.dead]; exact h0)]
    rw [e1, e2]; exact ⟨rfl, h⟩
  · by_cases h2 : D.act.1 = 0
    · have e1 : D.barrier = (0, { D.act.2 with l := settleD D.act.2.es D.act.2.l, es := [] }) := by unfold Dev.barrier; rw [if_neg h0, if_neg (by simpa using h2)]
      have e2 : E.barrier = (0, { E.act.2 with l := E.act.2.l.map RS.settle }) := by unfold RDev.barrier; rw [if_neg (by rw [h.dead]; exact h0), if_neg (by rw [← ha.1]; simpa using h2)]
      rw [e1] at hw ⊢
      rw [e2]
      have hr := ha.2
      generalize D.act.2 = D1 at hw hr ⊢
      generalize E.act.2 = E1 at hr ⊢
      refine ⟨rfl, hw, ⟨by simpa using hr.rok.n, ?_, hr.rok.fuse⟩, by simpa using hr.len, ?_, hr.dead, hr.fuse⟩
      · intro r hm
        obtain ⟨t, ht, rfl⟩ := List.mem_map.1 hm
        exact settle_ok (hr.rok.sec t ht)
      · intro k r hk
        simp only [List.getElem?_map] at hk
        cases he : E1.l[k]? with
        | none => rw [he] at hk; simp at hk
        | some t =>
          rw [he] at hk
          obtain ⟨r1, r2⟩ := hr.row k t he
          have hkl := (List.getElem?_eq_some_iff.1 r1).1
          simp only [Option.map_some, Option.some.injEq] at hk
          subst hk
          have hs := settleD_get (ls := D1.l) (i := (k : Int)) hr.ok.uniq (fun x hx => (hr.ok.keys x hx).1) (by omega) (by omega)
          rw [Int.toNat_natCast, r2, r1] at hs
          unfold RS.settle
          by_cases hi : t.is
          · rw [if_pos hi] at hs
            simp only [hi, if_true]
            exact ⟨hs, by simp [eget]⟩
          · rw [if_neg hi] at hs
            simp only [hi]
            exact ⟨hs, by simp [eget, hi]⟩
    · have e1 : D.barrier = D.act := by unfold Dev.barrier; rw [if_neg h0, if_pos (by simpa using h2)]
      have e2 : E.barrier = E.act := by unfold RDev.barrier; rw [if_neg (by rw [h.dead]; exact h0), if_pos (by rw [← ha.1]; simpa using h2)]
      rw [e1, e2]
      exact ha
theorem Rel.lose {D : Dev} {E : RDev} (h : Rel D E) : Rel D.lose E.lose := by
  refine ⟨Dev.lose_ok h.ok, ⟨by simpa [RDev.lose] using h.rok.n, ?_, by simp [RDev.lose]⟩, by simp [RDev.lose, Dev.lose, h.len], ?_, rfl, rfl⟩
  · intro r hr; simp only [RDev.lose] at hr; rw [List.eq_of_mem_replicate hr]; exact zrs_ok
  · intro k r hk
    simp only [RDev.lose, List.getElem?_replicate] at hk
    split at hk
    · cases hk; rename_i hk; rw [h.len] at hk; simp [Dev.lose, zrs, eget, hk]
    · cases hk
/-! pending -/
theorem sorted_ext : ∀ {a b : List Int}, a.Pairwise (· < ·) → b.Pairwise (· < ·) → (∀ z, z ∈ a ↔ z ∈ b) → a = b
  | [], [], _, _, _ => rfl
  | [], z :: b, _, _, h => by have := (h z).2 (by simp); cases this
  | z :: a, [], _, _, h => by have := (h z).1 (by simp); cases this
  | x :: a, z :: b, h1, h2, h => by
    obtain ⟨a1, a2⟩ := List.pairwise_cons.1 h1
    obtain ⟨b1, b2⟩ := List.pairwise_cons.1 h2
    have e : x = z := by
      have p := (h x).1 (by simp)
      have q := (h z).2 (by simp)
      rcases List.mem_cons.1 p with p | p
      · exact p
      · rcases List.mem_cons.1 q with q | q
        · exact q.symm
        · have := a1 z q; have := b1 x p; omega
    subst e
    congr 1
    refine sorted_ext a2 b2 fun w => ⟨fun hw => ?_, fun hw => ?_⟩
    · rcases List.mem_cons.1 ((h w).1 (by simp [hw])) with e | e
      · have := a1 w hw; omega
      · exact e
    · rcases List.mem_cons.1 ((h w).2 (by simp [hw])) with e | e
      · have := b1 w hw; omega
      · exact e
theorem pendF_mem : ∀ (l : List RS) (k : Nat) (j : Int), j ∈ RDev.pendF l k ↔ ∃ (m : Nat) (r : RS), l[m]? = some r ∧ r.is = true ∧ j = ((k + m : Nat) : Int)
  | [], k, j => by simp [RDev.pendF]
  | t :: l, k, j => by
    have ih := pendF_mem l (k + 1) j
    have e : (∃ (m : Nat) (r : RS), (t :: l)[m]? = some r ∧ r.is = true ∧ j = ((k + m : Nat) : Int)) ↔ ((t.is = true ∧ j = (k : Int)) ∨ ∃ (m : Nat) (r : RS), l[m]? = some r ∧ r.is = true ∧ j = ((k + 1 + m : Nat) : Int)) := by
      constructor
      · rintro ⟨m, r, h1, h2, h3⟩
        cases m with
        | zero => simp at h1; subst h1; exact .inl ⟨h2, by simpa using h3⟩
        | succ m => exact .inr ⟨m, r, by simpa using h1, h2, by rw [h3]; omega⟩
      · rintro (⟨h1, h2⟩ | ⟨m, r, h1, h2, h3⟩)
        · exact ⟨0, t, rfl, h1, by simpa using h2⟩
        · exact ⟨m + 1, r, by simpa using h1, h2, by rw [h3]; omega⟩
    rw [e, ← ih]
    simp only [RDev.pendF]
    by_cases hi : t.is <;> simp [hi]
theorem pendF_sorted : ∀ (l : List RS) (k : Nat), (RDev.pendF l k).Pairwise (· < ·)
  | [], k => by simp [RDev.pendF]
  | t :: l, k => by
    have ih := pendF_sorted l (k + 1)
    simp only [RDev.pendF]
    split
    · refine List.pairwise_cons.2 ⟨fun j hj => ?_, ih⟩
      obtain ⟨m, r, -, -, rfl⟩ := (pendF_mem l (k + 1) j).1 hj
      omega
    · exact ih
theorem pend_sorted {D : Dev} (hD : D.ok) : D.pending.Pairwise (· < ·) := by
  have hs : D.pending.Pairwise (fun x y => decide (x ≤ y) = true) :=
    List.pairwise_mergeSort (fun x y z h1 h2 => by simp at *; omega) (fun x y => by simp; omega) _
  have hn : D.pending.Nodup := (List.mergeSort_perm _ _).nodup_iff.2 hD.uniq
  refine (hs.and hn).imp ?_
  rintro p q ⟨h1, h2⟩
  simp at h1
  omega
theorem Rel.pending {D : Dev} {E : RDev} (h : Rel D E) : D.pending = E.pending := by
  refine sorted_ext (pend_sorted h.ok) (pendF_sorted _ _) fun z => ?_
  have e : z ∈ D.pending ↔ z ∈ D.es.map (·.1) := (List.mergeSort_perm _ _).mem_iff
  rw [e, show z ∈ E.pending ↔ _ from pendF_mem E.l 0 z]
  constructor
  · intro hz
    obtain ⟨x, hx, rfl⟩ := List.mem_map.1 hz
    obtain ⟨k0, k1⟩ := h.ok.keys x hx
    obtain ⟨r, hr⟩ : ∃ r, E.l[x.1.toNat]? = some r := ⟨_, List.getElem?_eq_getElem (by have := h.len; omega)⟩
    obtain ⟨-, r2⟩ := h.row _ _ hr
    rw [show ((x.1.toNat : Nat) : Int) = x.1 by omega, eget_of_mem h.ok.uniq hx] at r2
    refine ⟨x.1.toNat, r, hr, ?_, by omega⟩
    by_cases hi : r.is
    · exact hi
    · rw [if_neg hi] at r2; cases r2
  · rintro ⟨m, r, h1, h2, rfl⟩
    obtain ⟨-, r2⟩ := h.row _ _ h1
    rw [if_pos h2] at r2
    obtain ⟨b, hb⟩ := eget_mem r2
    exact List.mem_map.2 ⟨_, hb, by simp⟩
theorem Rel.sec {D : Dev} {E : RDev} (h : Rel D E) {i : Int} (h0 : 0 ≤ i) (h1 : i < D.l.length) : D.sec i = E.sec i := by
  obtain ⟨r, hr⟩ : ∃ r, E.l[i.toNat]? = some r := ⟨_, List.getElem?_eq_getElem (by have := h.len; omega)⟩
  obtain ⟨r1, r2⟩ := h.row _ _ hr
  rw [show ((i.toNat : Nat) : Int) = i by omega] at r2
  unfold RDev.sec RS.sec
  rw [hr]
  by_cases hi : r.is
  · rw [if_pos hi] at r2
    rw [sec_some r2]; simp [hi]
  · rw [if_neg hi] at r2
    rw [sec_none r2 r1]; simp [hi]
/-! a crash -/
theorem crash_row {D : Dev} : ∀ (a : List RS) (k : Nat) (ks : Keeps) (ls : List Bytes), (∀ (m : Nat) (r : RS), a[m]? = some r → ls[k + m]? = some r.b ∧ eget D.es ((k + m : Nat) : Int) = if r.is then some r.p else none) →
    ∀ (m : Nat) (r : RS), (RDev.crashF a ks)[m]? = some r → r.is = false ∧ (crashL D (RDev.pendF a k) ks ls)[k + m]? = some r.b
  | [], k, ks, ls, _, m, r, h => by cases ks <;> simp [RDev.crashF] at h
  | t :: a, k, ks, ls, hr, m, r, h => by
    obtain ⟨t1, t2⟩ := hr 0 t rfl
    rw [Nat.add_zero] at t1 t2
    have hr' : ∀ (ls' : List Bytes), (∀ j, k < j → ls'[j]? = ls[j]?) → ∀ (m : Nat) (r : RS), a[m]? = some r → ls'[k + 1 + m]? = some r.b ∧ eget D.es ((k + 1 + m : Nat) : Int) = if r.is then some r.p else none := by
      intro ls' hl m r hm
      have := hr (m + 1) r (by simpa using hm)
      rw [show k + 1 + m = k + (m + 1) by omega]
      exact ⟨(hl _ (by omega)).trans this.1, this.2⟩
    have hz : ∀ (is : List Int) (ks : Keeps) (ls : List Bytes), (∀ j ∈ is, (k : Int) < j) → (crashL D is ks ls)[k]? = ls[k]? := by
      intro is ks ls hj
      have := crashL_other (D := D) (i := (k : Int)) is ks ls (fun j hj' => by have := hj j hj'; omega)
      simpa using this
    have hgt : ∀ j ∈ RDev.pendF a (k + 1), (k : Int) < j := by
      intro j hj
      obtain ⟨m, r, -, -, rfl⟩ := (pendF_mem a (k + 1) j).1 hj
      omega
    by_cases hi : t.is
    · rw [if_pos hi] at t2
      cases ks with
      | nil =>
        simp only [RDev.crashF, hi, if_true] at h
        rw [crashL_nil']
        cases m with
        | zero => simp at h; subst h; exact ⟨rfl, by simpa using t1⟩
        | succ m =>
          have ih := crash_row a (k + 1) [] ls (hr' ls (fun _ _ => rfl)) m r (by simpa using h)
          rw [crashL_nil'] at ih
          rw [show k + (m + 1) = k + 1 + m by omega]
          exact ih
      | cons x ks =>
        simp only [RDev.crashF, hi, if_true] at h
        simp only [RDev.pendF, hi, if_true, crashL, Int.toNat_natCast]
        rw [sec_some t2, t1, Option.getD_some]
        cases m with
        | zero =>
          simp at h; subst h
          refine ⟨rfl, ?_⟩
          show (crashL D (RDev.pendF a (k + 1)) ks (ls.set k (keep1 t.p x t.b)))[k]? = _
          rw [hz _ _ _ hgt, List.getElem?_set_self (List.getElem?_eq_some_iff.1 t1).1]
        | succ m =>
          have ih := crash_row a (k + 1) ks (ls.set k (keep1 t.p x t.b)) (hr' _ (fun j hj => List.getElem?_set_ne (by omega))) m r (by simpa using h)
          rw [show k + (m + 1) = k + 1 + m by omega]
          exact ih
    · have e : RDev.crashF (t :: a) ks = t :: RDev.crashF a ks := by simp [RDev.crashF, hi]
      have e2 : RDev.pendF (t :: a) k = RDev.pendF a (k + 1) := by simp [RDev.pendF, hi]
      rw [e] at h
      rw [e2]
      cases m with
      | zero =>
        simp at h; subst h
        exact ⟨by simpa using hi, by show (crashL D (RDev.pendF a (k + 1)) ks ls)[k]? = _; rw [hz _ _ _ hgt]; exact t1⟩
      | succ m =>
        have ih := crash_row a (k + 1) ks ls (hr' ls (fun _ _ => rfl)) m r (by simpa using h)
        rw [show k + (m + 1) = k + 1 + m by omega]
        exact ih
theorem Rel.crash {D : Dev} {E : RDev} (h : Rel D E) (ks : Keeps) : Rel (D.crash ks) (E.crash ks) := by
  refine ⟨Dev.crash_ok h.ok ks, ⟨by simpa [RDev.crash, crashF_len] using h.rok.n, crashF_ok ks h.rok.sec, by simp [RDev.crash]⟩, by simp [RDev.crash, Dev.crash, crashF_len, crashL_length, h.len], ?_, rfl, rfl⟩
  intro k r hk
  have := crash_row (D := D) E.l 0 ks D.l (fun m r hm => by simpa using h.row m r hm) k r hk
  refine ⟨?_, ?_⟩
  · have h2 := this.2
    rw [Nat.zero_add] at h2
    show (crashL D D.pending ks D.l)[k]? = _
    rw [h.pending]
    exact h2
  · rw [this.1]
    rfl
/-! an act of both -/
def RDev.play (E : RDev) (a : ActM) : RDev :=
  if a.kind = 0 then (E.write a.i a.bs).2 else if a.kind = 1 then E.barrier.2 else if a.kind = 2 then E.setFuse a.i else if a.kind = 3 then E.crash a.ks else if a.kind = 4 then E.lose else E
/-! two lists of numbers -/
def keepF (ks : Keeps) (k : Nat) : Keeps := ks.take k
theorem keepsV_succ {ks : Keeps} {k : Nat} {x : Int × Int} (h : ks[k]? = some x) : keepsV (ks.take (k + 1)) = keepsV (ks.take k) ++ [.int .i64 x.1, .int .i64 x.2] := by
  rw [List.take_add_one, h]
  simp [keepsV]
/-- The first so many cells are bytes. -/
def U8s (vs : List Value) (m : Nat) : Prop := ∀ k, k < m → ∃ i, vs[k]? = some (.int .u8 i)
theorem u8s_bytes (bs : Bytes) (sp : List Value) : U8s (bytesV bs ++ sp) bs.length := fun k hk => ⟨_, bytesV_get' hk⟩
theorem u8s_set {vs : List Value} {m : Nat} (h : U8s vs m) (k : Nat) (i : Int) : U8s (vs.set k (.int .u8 i)) m := by
  intro j hj
  obtain ⟨p, hp⟩ := h j hj
  rw [List.getElem?_set]
  split
  · rename_i e; subst e
    rw [if_pos (List.getElem?_eq_some_iff.1 hp).1]
    exact ⟨i, rfl⟩
  · exact ⟨p, hp⟩
/-- What lies there in a slice, if there is one, begins with bytes. -/
def FlipOk (s : Sv) (m : Nat) (T : TypeId) (g : Seg) : Prop := ∀ b cap sp, s = some (b, cap, sp) → ∃ vs, g = sc b vs T ∧ U8s vs m
theorem flipOk {s : Sv} {T : TypeId} {bs : Bytes} {m : Nat} (hm : m = bs.length) : FlipOk s m T (svSeg s T (bytesV bs)) := by
  subst hm
  rintro b cap sp rfl
  exact ⟨_, rfl, u8s_bytes bs sp⟩
def Dev.rdB (D : Dev) (i : Int) : Bytes := if D.has i = 0 then D.sec i else []
def RDev.rdB (D : RDev) (i : Int) : Bytes := if D.has i = 0 then D.sec i else []
theorem Rel.rdB {D : Dev} {E : RDev} (h : Rel D E) (i : Int) : D.rdB i = E.rdB i := by
  unfold Dev.rdB RDev.rdB
  rw [← h.has]
  split
  · rename_i h0
    obtain ⟨-, h1, h2⟩ := has_zero h0
    exact h.sec h1 h2
  · rfl
theorem rdB_le {D : Dev} (h : D.ok) (i : Int) : (D.rdB i).length ≤ 144 := by
  unfold Dev.rdB
  split
  · rw [sec_length h]; exact Nat.le_refl _
  · simp
end Go.Sl
