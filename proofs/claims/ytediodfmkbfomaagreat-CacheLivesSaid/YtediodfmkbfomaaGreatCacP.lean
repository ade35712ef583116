/- A part of the proof: contracts and plain lemmas, each without conditions beyond those that it names. -/
import Derived.Test.YtediodfmkbfomaaGreatGO
import Derived.Test.YtediodfmkbfomaaGreatGN
set_option linter.unusedVariables false
set_option linter.unusedSimpArgs false
set_option linter.constructorNameAsVariable false
namespace Go.Sl
set_option linter.unusedSimpArgs false
def leftA {α : Type} (m : Am α) (seen : List Nat) : Am α := m.filter fun y => !seen.contains y.2.2
theorem left_leftA {α : Type} (f : α → Value) (m : Am α) (seen : List Nat) : left (akv f m) seen = akv f (leftA m seen) := by
  unfold left akv leftA
  rw [List.filter_map]
  rfl
theorem leftA_nil {α : Type} {m : Am α} {seen : List Nat} {f : α → Value} (h : left (akv f m) seen = []) : leftA m seen = [] := by
  rw [left_leftA] at h
  unfold akv at h
  exact List.map_eq_nil_iff.1 h
theorem cnt_filter {α : Type} {m : Am α} {c : Nat} (h : aok m c) {p : Int × α × Nat → Bool} {x : Int × α × Nat} {seen : List Nat} (hx : x ∈ m) (hs : ¬ x.2.2 ∈ seen) :
    ((leftA m (seen ++ [x.2.2])).filter p).length + (if p x = true then 1 else 0) = ((leftA m seen).filter p).length := by
  have hn := h.once
  clear h
  induction m with
  | nil => cases hx
  | cons y m ih =>
    simp only [List.map_cons, List.nodup_cons] at hn
    have hstep : ∀ (s : List Nat) (z : Int × α × Nat), leftA (z :: m) s = if s.contains z.2.2 = true then leftA m s else z :: leftA m s := by
      intro s z
      unfold leftA
      rw [List.filter_cons]
      cases s.contains z.2.2 <;> simp
    rcases List.mem_cons.1 hx with rfl | hx
    · have e1 : (seen ++ [x.2.2]).contains x.2.2 = true := by simp
      have e2 : seen.contains x.2.2 = false := by simpa using hs
      have e3 : leftA m (seen ++ [x.2.2]) = leftA m seen := by
        unfold leftA
        apply List.filter_congr
        intro z hz
        have hne : z.2.2 ≠ x.2.2 := fun e => hn.1 (List.mem_map.2 ⟨z, hz, e⟩)
        simp [hne]
      have h1 : leftA (x :: m) (seen ++ [x.2.2]) = leftA m seen := by rw [hstep, if_pos e1, e3]
      have h2 : leftA (x :: m) seen = x :: leftA m seen := by rw [hstep, if_neg (by rw [e2]; simp)]
      rw [h1, h2, List.filter_cons]
      split <;> simp
    · have hne : y.2.2 ≠ x.2.2 := fun e => hn.1 (List.mem_map.2 ⟨x, hx, e.symm⟩)
      have e1 : (seen ++ [x.2.2]).contains y.2.2 = seen.contains y.2.2 := by simp [hne]
      have := ih hx hn.2
      cases hc : seen.contains y.2.2 with
      | true =>
        have h1 : leftA (y :: m) (seen ++ [x.2.2]) = leftA m (seen ++ [x.2.2]) := by rw [hstep, if_pos (by rw [e1]; exact hc)]
        have h2 : leftA (y :: m) seen = leftA m seen := by rw [hstep, if_pos hc]
        rw [h1, h2]; exact this
      | false =>
        have h1 : leftA (y :: m) (seen ++ [x.2.2]) = y :: leftA m (seen ++ [x.2.2]) := by rw [hstep, if_neg (by rw [e1, hc]; simp)]
        have h2 : leftA (y :: m) seen = y :: leftA m seen := by rw [hstep, if_neg (by rw [hc]; simp)]
        rw [h1, h2, List.filter_cons, List.filter_cons]
        cases p y
        · simpa using this
        · simp only [if_true, List.length_cons]; omega
def dirtyC (m : Am EntM) : Nat := (m.filter fun x => x.2.1.dirty).length
theorem dirtyC_le (m : Am EntM) : dirtyC m ≤ m.length := List.length_filter_le _ _
theorem leftA_all {α : Type} (m : Am α) : leftA m [] = m := by unfold leftA; exact List.filter_eq_self.2 (by simp)
/-- All are dirty where as many are as there are. -/
theorem dirtyC_all {m : Am EntM} : dirtyC m = m.length ↔ ∀ x ∈ m, x.2.1.dirty = true := by
  unfold dirtyC
  rw [List.length_filter_eq_length_iff]
/-- How a cache stands beside what is wanted. -/
structure LiS (n i k : Nat) (C : CaM) (D : Dev) (W : Am EntM) (cw d : Nat) : Prop where
  s : CaS 32 n k C D
  w : aok W cw
  eq : ∀ j, aget W j = aget C.en j
  d : d = dirtyC W
  low : C.k.e < 1 ∨ (C.k.e = 1 ∧ C.k.s ≤ i)
  ta : C.k.t.a ≤ i
  tb : C.k.t.b ≤ i
  tc : C.k.t.c ≤ i
  td : C.k.t.d ≤ i
theorem LiS.len {n i k : Nat} {C : CaM} {D : Dev} {W : Am EntM} {cw d : Nat} (h : LiS n i k C D W cw d) : W.length = C.en.length :=
  keys_len h.w h.s.g.ok.m.e fun j => by rw [ahas_get, ahas_get, h.eq]
theorem new_lis {n : Nat} {C : CaM} {D : Dev} (s : CaS 32 n 1 C D) (hv : C.view = zeroV) : LiS n 0 1 C D [] 0 0 := by
  have hen : aget C.en = fun _ => none := congrArg CaV.en hv
  have hkk : C.k = ⟨0, 0, ⟨0, 0, 0, 0⟩⟩ := congrArg CaV.k hv
  exact ⟨s, aok_nil, (fun j => (by rw [hen]; rfl)), rfl, .inl (by rw [hkk]; decide), by rw [hkk]; decide, by rw [hkk]; decide, by rw [hkk]; decide, by rw [hkk]; decide⟩
def liX (b : Int) (i : Nat) (data : Bytes) : EntM := ⟨b, 1, i + 1, data, true, (i : Int) % 4, i + 1⟩
theorem liX_ok {b : Int} {i : Nat} {data : Bytes} (hb : 0 ≤ b ∧ b < 32) (hi : i ≤ 300) (hd : data.length = 8) : (liX b i data).ok 32 :=
  ⟨hb, by show (1 : Int) ≤ 1 ∧ (1 : Int) ≤ _; omega, by show (1 : Int) ≤ (i : Int) + 1 ∧ (i : Int) + 1 ≤ _; omega, hd, by show (-1 : Int) ≤ (i : Int) % 4 ∧ (i : Int) % 4 ≤ 3; omega, by show (0 : Int) ≤ (i : Int) + 1 ∧ (i : Int) + 1 ≤ _; omega⟩
theorem LiS.above {n i k : Nat} {C : CaM} {D : Dev} {W : Am EntM} {cw d : Nat} (h : LiS n i k C D W cw d) (b : Int) (data : Bytes) : aboveV (liX b i data).ve (liX b i data).vs C.k.e C.k.s = true := by
  have h1 := h.low
  show aboveV 1 ((i : Int) + 1) C.k.e C.k.s = true
  unfold aboveV
  simp only [Bool.or_eq_true, Bool.and_eq_true, decide_eq_true_eq]
  omega
/-- What the number of the client that wrote is then, and the others. -/
structure NumsR (i : Nat) (k : KeptM) : Prop where
  e : k.e = 1
  s : k.s = (i : Int) + 1
  num : numC k ((i : Int) % 4) = (i : Int) + 1
  ta : k.t.a ≤ (i : Int) + 1
  tb : k.t.b ≤ (i : Int) + 1
  tc : k.t.c ≤ (i : Int) + 1
  td : k.t.d ≤ (i : Int) + 1
theorem LiS.nums {n i k : Nat} {C : CaM} {D : Dev} {W : Am EntM} {cw d : Nat} (h : LiS n i k C D W cw d) (b : Int) (data : Bytes) : NumsR i (putK C.k (liX b i data)) := by
  have ha := h.ta; have hb := h.tb; have hc := h.tc; have hd := h.td
  have e : putK C.k (liX b i data) = ⟨1, (i : Int) + 1, C.k.t.set ((i : Int) % 4) (max (C.k.t.get ((i : Int) % 4)) ((i : Int) + 1))⟩ := by
    unfold putK; rw [if_pos (show 0 ≤ (liX b i data).cl by show 0 ≤ (i : Int) % 4; omega)]; rfl
  rw [e]
  rcases (show (i : Int) % 4 = 0 ∨ (i : Int) % 4 = 1 ∨ (i : Int) % 4 = 2 ∨ (i : Int) % 4 = 3 by omega) with q | q | q | q <;> rw [q]
  · exact ⟨rfl, rfl, by rw [q]; show max C.k.t.a _ = _; omega, by show max C.k.t.a _ ≤ _; omega, by show C.k.t.b ≤ _; omega, by show C.k.t.c ≤ _; omega, by show C.k.t.d ≤ _; omega⟩
  · exact ⟨rfl, rfl, by rw [q]; show max C.k.t.b _ = _; omega, by show C.k.t.a ≤ _; omega, by show max C.k.t.b _ ≤ _; omega, by show C.k.t.c ≤ _; omega, by show C.k.t.d ≤ _; omega⟩
  · exact ⟨rfl, rfl, by rw [q]; show max C.k.t.c _ = _; omega, by show C.k.t.a ≤ _; omega, by show C.k.t.b ≤ _; omega, by show max C.k.t.c _ ≤ _; omega, by show C.k.t.d ≤ _; omega⟩
  · exact ⟨rfl, rfl, by rw [q]; show max C.k.t.d _ = _; omega, by show C.k.t.a ≤ _; omega, by show C.k.t.b ≤ _; omega, by show C.k.t.c ≤ _; omega, by show max C.k.t.d _ ≤ _; omega⟩
/-- What a write comes to. -/
inductive LiR (n k : Nat) (C : CaM) (W : Am EntM) (d : Nat) (x : EntM) (C' : CaM) (D' : Dev) : Int → Prop
  | full (h0 : (aget W x.blk).isSome = false) (h1 : W.length + 6 = n) (h2 : d = W.length) (hC : C' = C) (s : CaS 32 n (k + 200) C D') : LiR n k C W d x C' D' 12
  | had (h0 : (aget W x.blk).isSome = true) (s : CaS 32 n (k + 200) C' D') (en : aget C'.en = updE (aget C.en) x) (kk : C'.k = putK C.k x) : LiR n k C W d x C' D' 0
  | new (h0 : (aget W x.blk).isSome = false) (h1 : W.length + 6 < n) (s : CaS 32 n (k + 200) C' D') (en : aget C'.en = updE (aget C.en) x) (kk : C'.k = putK C.k x) : LiR n k C W d x C' D' 0
  | place (h0 : (aget W x.blk).isSome = false) (h1 : W.length + 6 = n) (h2 : ¬ d = W.length) (s : CaS 32 n (k + 200) C' D') (y : EntM) (hy : aget W y.blk = some y) (hd : y.dirty = false) (en : aget C'.en = updE (delE (aget C.en) y.blk) x) (kk : C'.k = putK C.k x) : LiR n k C W d x C' D' 0
theorem LiS.put {n i k : Nat} {C : CaM} {D : Dev} {W : Am EntM} {cw d : Nat} (h : LiS n i k C D W cw d) (hk : k < 4611686018427300000) (hn : n ≤ 40) (hi : i ≤ 300) {b : Int} {data : Bytes} (hb : 0 ≤ b ∧ b < 32) (hd : data.length = 8) :
    LiR n k C W d (liX b i data) (C.put D (liX b i data)).2.1 (C.put D (liX b i data)).2.2 (C.put D (liX b i data)).1 := by
  have ho := liX_ok (b := b) (i := i) (data := data) hb hi hd
  have hab := h.above b data
  have hl := h.len
  have hrm := h.s.room
  by_cases c1 : (aget C.en (liX b i data).blk).isSome = true ∨ C.en.length + 6 < n
  · obtain ⟨h1, h2, h3, h4⟩ := h.s.put_new (by omega) hn ho hab c1
    rw [h1]
    cases hq : (aget C.en (liX b i data).blk).isSome with
    | true => exact .had (by rw [h.eq]; exact hq) h2 h3 h4
    | false =>
      refine .new (by rw [h.eq]; exact hq) ?_ h2 h3 h4
      rcases c1 with c1 | c1
      · rw [hq] at c1; cases c1
      · omega
  · have c2 : (aget C.en (liX b i data).blk).isSome = false := by
      cases hq : (aget C.en (liX b i data).blk).isSome
      · rfl
      · exact absurd (.inl hq) c1
    have c3 : C.en.length + 6 = n := by
      have : ¬ C.en.length + 6 < n := fun hq => c1 (.inr hq)
      omega
    by_cases c4 : d = W.length
    · have hall : ∀ y, aget C.en y.blk = some y → y.dirty = true := fun y hy => by
        rw [← h.eq] at hy
        obtain ⟨q, hq⟩ := aget_some hy
        have hd0 := h.d
        exact dirtyC_all.1 (by omega) _ hq
      obtain ⟨h1, h2, h3⟩ := h.s.put_full (by omega) hn ho hab c2 c3 hall
      rw [h1, h2]
      exact .full (by rw [h.eq]; exact c2) (by omega) c4 rfl h3
    · have hex : ∃ y0, aget C.en y0.blk = some y0 ∧ y0.dirty = false := by
        have hd0 := h.d
        have hne : ¬ ∀ x ∈ W, x.2.1.dirty = true := fun hq => c4 (by rw [hd0]; exact dirtyC_all.2 hq)
        obtain ⟨z, hz⟩ := Classical.not_forall.1 hne
        obtain ⟨hz1, hz2⟩ := Classical.not_imp.1 hz
        have hg := aget_mem h.w hz1
        rw [h.eq] at hg
        have hb2 := (ok_get h.s.g.ok hg).2
        exact ⟨z.2.1, by rw [hb2]; exact hg, by simpa using hz2⟩
      obtain ⟨y0, hy0, hyd0⟩ := hex
      obtain ⟨h1, h2, ⟨y, hy, hyd, h3⟩, h4⟩ := h.s.put_place (by omega) hn ho hab c2 c3 hy0 hyd0
      rw [h1]
      exact .place (by rw [h.eq]; exact c2) (by omega) c4 h2 y (by rw [h.eq]; exact hy) hyd h3 h4
/-- The clean one that went is found. -/
structure GoI (W W1 : Am EntM) (cw : Nat) (yb : Int) (seen : List Nat) (g : Nat) : Prop where
  st : (g = 0 ∧ W1 = W) ∨ (g = 1 ∧ W1 = adel W yb)
  un : ∀ y ∈ W1, y.2.2 ∈ seen → ¬ y.1 = yb
theorem GoI.ok {W W1 : Am EntM} {cw : Nat} {yb : Int} {seen : List Nat} {g : Nat} (h : GoI W W1 cw yb seen g) (hw : aok W cw) : aok W1 cw := by
  rcases h.st with ⟨_, e⟩ | ⟨_, e⟩
  · rw [e]; exact hw
  · rw [e]; exact hw.del _
theorem GoI.over {W W1 : Am EntM} {cw : Nat} {yb : Int} {seen : List Nat} {g : Nat} {f : EntM → Value} (h : GoI W W1 cw yb seen g) (hy : (aget W yb).isSome = true) (hl : left (akv f W1) seen = []) : g = 1 ∧ W1 = adel W yb := by
  rcases h.st with ⟨e0, e⟩ | h1
  · exfalso
    obtain ⟨v, hv⟩ := Option.isSome_iff_exists.1 hy
    obtain ⟨b, hb⟩ := aget_some hv
    rw [← e] at hb
    exact h.un _ hb (left_none hl _ hb) rfl
  · exact h1
theorem GoI.hit {W W1 : Am EntM} {cw : Nat} {yb : Int} {seen : List Nat} {g : Nat} (h : GoI W W1 cw yb seen g) (hw : aok W cw) {v : EntM} {b : Nat} (hx : (yb, v, b) ∈ W1) : g = 0 ∧ GoI W (adel W1 yb) cw yb (seen ++ [b]) (g + 1) := by
  have h0 : g = 0 ∧ W1 = W := by
    rcases h.st with h1 | ⟨_, e⟩
    · exact h1
    · exfalso
      rw [e] at hx
      have := aget_mem (hw.del yb) hx
      rw [aget_adel hw, if_pos rfl] at this
      cases this
  refine ⟨h0.1, .inr ⟨by omega, by rw [h0.2]⟩, fun y hy _ e => ?_⟩
  have h1 := aget_mem ((h.ok hw).del yb) hy
  rw [aget_adel (h.ok hw), e, if_pos rfl] at h1
  cases h1
theorem GoI.miss {W W1 : Am EntM} {cw : Nat} {yb : Int} {seen : List Nat} {g : Nat} (h : GoI W W1 cw yb seen g) (hw : aok W cw) {k : Int} {v : EntM} {b : Nat} (hx : (k, v, b) ∈ W1) (hk : ¬ k = yb) : GoI W W1 cw yb (seen ++ [b]) g := by
  refine ⟨h.st, fun y hy hs e => ?_⟩
  rcases List.mem_append.1 hs with hs | hs
  · exact h.un y hy hs e
  · simp only [List.mem_singleton] at hs
    have := once_eq (h.ok hw) hy hx hs
    rw [this] at e
    exact hk e
theorem u8ex (z : Int) : ∃ b : UInt8, IntKind.u8.wrap z = ((b.toNat : Nat) : Int) := by
  refine ⟨UInt8.ofNat (z % 256).toNat, ?_⟩
  have h1 := Int.emod_nonneg z (show (256 : Int) ≠ 0 by decide)
  have h2 := Int.emod_lt_of_pos z (show (0 : Int) < 256 by decide)
  rw [wu8, UInt8.toNat_ofNat']
  omega
theorem LiR.ok {n k : Nat} {C : CaM} {W : Am EntM} {d : Nat} {x : EntM} {C' : CaM} {D' : Dev} (h : LiR n k C W d x C' D' 0) : CaS 32 n (k + 200) C' D' ∧ C'.k = putK C.k x ∧ aget C'.en x.blk = some x := by
  cases h with
  | had h0 s en kk => exact ⟨s, kk, by rw [en]; unfold updE; rw [if_pos rfl]⟩
  | new h0 h1 s en kk => exact ⟨s, kk, by rw [en]; unfold updE; rw [if_pos rfl]⟩
  | place h0 h1 h2 s y hy hd en kk => exact ⟨s, kk, by rw [en]; unfold updE; rw [if_pos rfl]⟩
/-- What is wanted but for the block that was written. -/
structure MidS (n i k : Nat) (C : CaM) (D : Dev) (W : Am EntM) (cw : Nat) (x : EntM) : Prop where
  s : CaS 32 n k C D
  w : aok W cw
  eq : ∀ j, updE (aget W) x j = aget C.en j
  nums : NumsR i C.k
theorem MidS.put {n i k : Nat} {C : CaM} {D : Dev} {W : Am EntM} {cw : Nat} {x : EntM} (h : MidS n i k C D W cw x) : LiS n (i + 1) k C D (aput W cw x.blk x) (aclk W cw x.blk) (dirtyC (aput W cw x.blk x)) := by
  have hn := h.nums
  refine ⟨h.s, h.w.put _ _, fun j => ?_, rfl, .inr ⟨hn.e, by rw [hn.s]; omega⟩, by have := hn.ta; omega, by have := hn.tb; omega, by have := hn.tc; omega, by have := hn.td; omega⟩
  rw [aget_aput]; exact h.eq j
theorem MidS.did {n i k : Nat} {C C' : CaM} {D D' : Dev} {W : Am EntM} {cw : Nat} {x : EntM} (h : MidS n i k C D W cw x) (hs : CaS 32 n (k + 200) C' D') (hen : aget C'.en = updE (aget C.en) { x with dirty := false }) (hk : C'.k = C.k) : MidS n i (k + 200) C' D' W cw { x with dirty := false } := by
  refine ⟨hs, h.w, fun j => ?_, by rw [hk]; exact h.nums⟩
  rw [hen]
  unfold updE
  by_cases e : j = x.blk
  · rw [if_pos e, if_pos e]
  · rw [if_neg e, if_neg e, ← h.eq]; unfold updE; rw [if_neg e]
theorem LiS.skip {n i k : Nat} {C : CaM} {D D' : Dev} {W : Am EntM} {cw d : Nat} (h : LiS n i k C D W cw d) {k' : Nat} (s : CaS 32 n k' C D') : LiS n (i + 1) k' C D' W cw d :=
  ⟨s, h.w, h.eq, h.d, by have := h.low; omega, by have := h.ta; omega, by have := h.tb; omega, by have := h.tc; omega, by have := h.td; omega⟩
theorem LiS.le {n i k k' : Nat} {C : CaM} {D : Dev} {W : Am EntM} {cw d : Nat} (h : LiS n i k C D W cw d) (hk : k ≤ k') : LiS n i k' C D W cw d := ⟨h.s.le hk, h.w, h.eq, h.d, h.low, h.ta, h.tb, h.tc, h.td⟩
theorem GoI.new (W : Am EntM) (cw : Nat) (yb : Int) : GoI W W cw yb [] 0 := ⟨.inl ⟨rfl, rfl⟩, fun _ _ h => by cases h⟩
theorem GoI.get {W W1 : Am EntM} {cw : Nat} {yb : Int} {seen : List Nat} {g : Nat} (h : GoI W W1 cw yb seen g) (hw : aok W cw) {k : Int} {v : EntM} {b : Nat} (hx : (k, v, b) ∈ W1) (hk : ¬ k = yb) : aget W k = some v := by
  have h1 := aget_mem (h.ok hw) hx
  rcases h.st with ⟨_, e⟩ | ⟨_, e⟩
  · rw [e] at h1; exact h1
  · rw [e, aget_adel hw, if_neg hk] at h1; exact h1
theorem MidS.le {n i k k' : Nat} {C : CaM} {D : Dev} {W : Am EntM} {cw : Nat} {x : EntM} (h : MidS n i k C D W cw x) (hk : k ≤ k') : MidS n i k' C D W cw x := ⟨h.s.le hk, h.w, h.eq, h.nums⟩
theorem mid_put {n i k : Nat} {C C' : CaM} {D : Dev} {W : Am EntM} {cw d : Nat} (h : LiS n i k C D W cw d) {x : EntM} (en : aget C'.en = updE (aget C.en) x) : ∀ j, updE (aget W) x j = aget C'.en j := fun j => by
  rw [en]; unfold updE; rw [h.eq]
theorem mid_place {n i k : Nat} {C C' : CaM} {D : Dev} {W : Am EntM} {cw d : Nat} (h : LiS n i k C D W cw d) {x y : EntM} (en : aget C'.en = updE (delE (aget C.en) y.blk) x) : ∀ j, updE (aget (adel W y.blk)) x j = aget C'.en j := fun j => by
  rw [en]; unfold updE delE; rw [aget_adel h.w, h.eq]
theorem place_none {C C' : CaM} {W : Am EntM} {x y : EntM} (en : aget C'.en = updE (delE (aget C.en) y.blk) x) (h0 : (aget W x.blk).isSome = false) (hy : aget W y.blk = some y) : aget C'.en y.blk = none := by
  rw [en]; unfold updE delE
  rw [if_neg (fun e => by rw [← e, hy] at h0; cases h0), if_pos rfl]
theorem place_there {n i k : Nat} {C C' : CaM} {D : Dev} {W : Am EntM} {cw d : Nat} (h : LiS n i k C D W cw d) {x y : EntM} (en : aget C'.en = updE (delE (aget C.en) y.blk) x) (h0 : (aget W x.blk).isSome = false) {j : Int} {v : EntM} (hj : aget W j = some v) (hne : ¬ j = y.blk) : aget C'.en j = some v := by
  rw [en]; unfold updE delE
  rw [if_neg (fun e => by rw [← e, hj] at h0; cases h0), if_neg hne, ← h.eq]; exact hj
theorem room_le {a n : Nat} (h : a + 6 = n) : (n : Int) - 6 ≤ (a : Int) := by omega
theorem room_lt {a n : Nat} (h : a + 6 < n) : ¬ (n : Int) - 6 ≤ (a : Int) := by omega
theorem cast_eq {a b : Nat} (h : a = b) : (a : Int) = (b : Int) := by rw [h]
theorem cast_ne {a b : Nat} (h : ¬ a = b) : ¬ (a : Int) = (b : Int) := by omega
theorem cast_n0 {a : Nat} (h : 1 ≤ a) : ¬ (a : Int) = 0 := by omega
theorem left_del_le {α : Type} (f : α → Value) (m : Am α) (k : Int) (s : List Nat) : (left (akv f (adel m k)) s).length ≤ (left (akv f m) s).length := by
  unfold left akv adel
  exact (((List.eraseP_sublist (l := m) (p := fun x => decide (x.1 = k))).map _).filter _).length_le
theorem LiS.allLen {n i k : Nat} {C : CaM} {D : Dev} {W : Am EntM} {cw d : Nat} (h : LiS n i k C D W cw d) : C.all.length = W.length := by
  rw [h.len, all_cnt, en_len h.s.g.ok]
theorem MidS.get {n i k : Nat} {C : CaM} {D : Dev} {W : Am EntM} {cw : Nat} {x : EntM} (h : MidS n i k C D W cw x) : aget C.en x.blk = some x := by
  rw [← h.eq]; unfold updE; rw [if_pos rfl]
end Go.Sl
