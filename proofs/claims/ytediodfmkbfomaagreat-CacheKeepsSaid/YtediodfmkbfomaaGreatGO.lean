/- A part of the proof: contracts and plain lemmas, each without conditions beyond those that it names. -/
import Derived.Test.YtediodfmkbfomaaGreatGN
import Derived.Test.YtediodfmkbfomaaGreatGL
import Derived.Test.YtediodfmkbfomaaGreatGI
set_option linter.unusedVariables false
set_option linter.unusedSimpArgs false
set_option linter.constructorNameAsVariable false
namespace Go.Sl
set_option linter.unusedSimpArgs false
theorem numB_small {u : Nat} (h : u < 128) : (numB u).length = 1 := by
  unfold numB
  rw [if_pos h]; rfl
theorem numB_z {m : Int} (h : -64 ≤ m ∧ m < 64) : (numB (zig m)).length = 1 := numB_small (by unfold zig; split <;> omega)
theorem numB_10 {m : Int} (h : N62 m) : (numB (zig m)).length ≤ 10 := by
  obtain ⟨h1, h2⟩ := h
  exact numB_len10 (zig_lt (by omega) (by omega))
theorem numsB_cons (m : Int) (l : List Int) : (numsB (m :: l)).length = (numB (zig m)).length + (numsB l).length := by simp [numsB]
theorem kept_len {k : KeptM} (h : k.ok) : (numsB k.nums).length ≤ 60 := by
  have a := numB_10 h.e; have b := numB_10 h.s; have c := numB_10 h.a; have d := numB_10 h.b; have e := numB_10 h.c; have f := numB_10 h.d
  simp only [KeptM.nums, numsB_cons]
  have : (numsB []).length = 0 := rfl
  omega
theorem rec_len {n : Nat} (hn : n ≤ 32) {r : CrecM} (h : r.ok n) : (recB r.rc).length ≤ 110 := by
  obtain ⟨w, k⟩ := r
  have hk : (numsB k.nums).length ≤ 60 := kept_len h.k
  have e1 : (recB (CrecM.rc ⟨w, k⟩)).length = 2 + (numsB (w.nums ++ k.nums)).length + (textsB w.texts).length := by simp [recB, CrecM.rc]; omega
  have e2 : (numsB (w.nums ++ k.nums)).length = (numsB w.nums).length + (numsB k.nums).length := by simp [numsB]
  rw [e1, e2]
  have hz : (numsB []).length = 0 := rfl
  cases w with
  | put x =>
    obtain ⟨h1, h2, h3, h4, h5, h6⟩ := h.w
    have a := numB_z (m := x.blk) (by omega)
    have b := numB_10 (m := x.ve) ⟨by omega, h2.2⟩
    have c := numB_10 (m := x.vs) ⟨by omega, h3.2⟩
    have d : (numB (zig (dirtyN x.dirty))).length = 1 := numB_z (by unfold dirtyN; split <;> omega)
    have e := numB_z (m := x.cl) (by omega)
    have f := numB_10 h6
    have g : (textsB (WhatM.put x).texts).length = 9 := by simp [WhatM.texts, textsB, h4]
    rw [g]
    simp only [WhatM.nums, numsB_cons]
    omega
  | clean b e s =>
    obtain ⟨h1, h2, h3⟩ := h.w
    have a := numB_z (m := b) (by omega)
    have b' := numB_10 (m := e) ⟨by omega, h2.2⟩
    have c := numB_10 (m := s) ⟨by omega, h3.2⟩
    have g : (textsB (WhatM.clean b e s).texts).length = 0 := rfl
    rw [g]
    simp only [WhatM.nums, numsB_cons]
    omega
  | drop b =>
    have h1 : 0 ≤ b ∧ b < n := h.w
    have a := numB_z (m := b) (by omega)
    have g : (textsB (WhatM.drop b).texts).length = 0 := rfl
    rw [g]
    simp only [WhatM.nums, numsB_cons]
    omega
  | note =>
    have g : (textsB WhatM.note.texts).length = 0 := rfl
    rw [g]
    simp only [WhatM.nums]
    omega
/-- What a cache says, whatever its maps' orders. -/
structure CaV where
  en : Int → Option EntM
  pu : Int → Option Int
  k : KeptM
def CaM.view (C : CaM) : CaV := ⟨aget C.en, aget C.pu, C.k⟩
def effE (f : Int → Option EntM) : WhatM → Int → Option EntM
  | .put x => fun i => if i = x.blk then some x else f i
  | .clean b e s => fun i => if i = b then (f b).map (fun y => if y.ve = e ∧ y.vs = s then { y with dirty := false } else y) else f i
  | .drop b => fun i => if i = b then none else f i
  | .note => f
def effP (f : Int → Option Int) (num : Int) : WhatM → Int → Option Int
  | .put x => fun i => if i = x.blk then some num else f i
  | .drop b => fun i => if i = b then none else f i
  | _ => f
def CaV.does (V : CaV) (r : CrecM) (num : Int) : CaV := ⟨effE V.en r.w, effP V.pu num r.w, r.k⟩
theorem view_does {C : CaM} (h : C.mok) (r : CrecM) (num : Int) : (C.does r num).view = C.view.does r num := by
  obtain ⟨w, k⟩ := r
  unfold CaM.view CaV.does CaM.does CaM.eff
  cases w with
  | put x =>
    simp only [effE, effP, CaV.mk.injEq, and_true]
    exact ⟨funext fun i => aget_aput _ _ _ _ _, funext fun i => aget_aput _ _ _ _ _⟩
  | clean b e s =>
    dsimp only [effE, effP]
    cases hg : aget C.en b with
    | none =>
      simp only [CaV.mk.injEq, and_true]
      funext i
      by_cases hi : i = b
      · subst hi; rw [if_pos rfl, hg]; rfl
      · rw [if_neg hi]
    | some y =>
      dsimp only
      by_cases hc : y.ve = e ∧ y.vs = s
      · rw [if_pos hc]
        simp only [CaV.mk.injEq, and_true]
        funext i
        rw [aget_aput]
        by_cases hi : i = b
        · rw [if_pos hi, if_pos hi]; simp only [Option.map_some]; rw [if_pos hc]
        · rw [if_neg hi, if_neg hi]
      · rw [if_neg hc]
        simp only [CaV.mk.injEq, and_true]
        funext i
        by_cases hi : i = b
        · subst hi; rw [if_pos rfl, hg]; simp only [Option.map_some]; rw [if_neg hc]
        · rw [if_neg hi]
  | drop b =>
    simp only [effE, effP, CaV.mk.injEq, and_true]
    exact ⟨funext fun i => aget_adel h.e _ _, funext fun i => aget_adel h.p _ _⟩
  | note => rfl
def zeroV : CaV := ⟨fun _ => none, fun _ => none, ⟨0, 0, ⟨0, 0, 0, 0⟩⟩⟩
/-- The records, one behind the other. -/
def replay (m : Nat) : List (Bytes × Int) → Int → CaV → Option CaV
  | [], _, V => some V
  | x :: l, num, V => match readC m x.1 with
    | none => none
    | some r => replay m l (num + 1) (V.does r num)
theorem load_replay {m : Nat} : ∀ (l : List (Bytes × Int)) (num : Int) (C : CaM), C.mok → (∀ V, replay m l num C.view = some V → ∃ C', caLoad m l num C = some C' ∧ C'.view = V)
  | [], num, C, h, V, hv => by
    simp only [replay, Option.some.injEq] at hv
    exact ⟨C, rfl, hv⟩
  | x :: l, num, C, h, V, hv => by
    unfold replay at hv
    unfold caLoad
    cases hr : readC m x.1 with
    | none => rw [hr] at hv; cases hv
    | some r =>
      rw [hr] at hv
      dsimp only at hv ⊢
      rw [← view_does h] at hv
      exact load_replay l (num + 1) (C.does r num) (h.does _ _) V hv
theorem replay_snoc {m : Nat} : ∀ (l : List (Bytes × Int)) (num : Int) (V V' : CaV) (x : Bytes × Int) (r : CrecM), replay m l num V = some V' → readC m x.1 = some r → replay m (l ++ [x]) num V = some (V'.does r (num + l.length))
  | [], num, V, V', x, r, h, hr => by
    simp only [replay, Option.some.injEq] at h
    subst h
    simp [replay, hr]
  | y :: l, num, V, V', x, r, h, hr => by
    unfold replay at h
    rw [List.cons_append]
    unfold replay
    cases hy : readC m y.1 with
    | none => rw [hy] at h; cases h
    | some q =>
      rw [hy] at h
      dsimp only at h ⊢
      rw [replay_snoc l (num + 1) _ V' x r h hr, List.length_cons]
      congr 2
      omega
/-- Two runs that differ by their first record alone. -/
structure Alike (num : Int) (b0 : Int) (V W : CaV) : Prop where
  other : ∀ i, i ≠ b0 → V.en i = W.en i ∧ V.pu i = W.pu i
  it : (V.en b0 = W.en b0 ∧ V.pu b0 = W.pu b0) ∨ (V.pu b0 = some num ∧ W.en b0 = none ∧ W.pu b0 = none)
theorem Alike.does {num b0 : Int} {V W : CaV} (h : Alike num b0 V W) (r : CrecM) (q : Int) : Alike num b0 (V.does r q) (W.does r q) := by
  obtain ⟨w, k⟩ := r
  cases w with
  | put x =>
    refine ⟨fun i hi => ?_, ?_⟩
    · show (if i = x.blk then some x else V.en i) = (if i = x.blk then some x else W.en i) ∧ (if i = x.blk then some q else V.pu i) = (if i = x.blk then some q else W.pu i)
      rw [(h.other i hi).1, (h.other i hi).2]; exact ⟨rfl, rfl⟩
    · show ((if b0 = x.blk then some x else V.en b0) = (if b0 = x.blk then some x else W.en b0) ∧ (if b0 = x.blk then some q else V.pu b0) = (if b0 = x.blk then some q else W.pu b0)) ∨ ((if b0 = x.blk then some q else V.pu b0) = some num ∧ (if b0 = x.blk then some x else W.en b0) = none ∧ (if b0 = x.blk then some q else W.pu b0) = none)
      by_cases e : b0 = x.blk
      · rw [if_pos e, if_pos e, if_pos e, if_pos e]; exact .inl ⟨rfl, rfl⟩
      · rw [if_neg e, if_neg e, if_neg e, if_neg e]; exact h.it
  | clean b e s =>
    refine ⟨fun i hi => ?_, ?_⟩
    · refine ⟨?_, (h.other i hi).2⟩
      show (if i = b then (V.en b).map _ else V.en i) = (if i = b then (W.en b).map _ else W.en i)
      by_cases eb : i = b
      · subst eb; rw [if_pos rfl, if_pos rfl, (h.other i hi).1]
      · rw [if_neg eb, if_neg eb]; exact (h.other i hi).1
    · show ((if b0 = b then (V.en b).map _ else V.en b0) = (if b0 = b then (W.en b).map _ else W.en b0) ∧ V.pu b0 = W.pu b0) ∨ (V.pu b0 = some num ∧ (if b0 = b then (W.en b).map _ else W.en b0) = none ∧ W.pu b0 = none)
      by_cases eb : b0 = b
      · subst eb
        rw [if_pos rfl, if_pos rfl]
        rcases h.it with h1 | h1
        · rw [h1.1]; exact .inl ⟨rfl, h1.2⟩
        · rw [h1.2.1]; exact .inr ⟨h1.1, rfl, h1.2.2⟩
      · rw [if_neg eb, if_neg eb]; exact h.it
  | drop b =>
    refine ⟨fun i hi => ?_, ?_⟩
    · show (if i = b then none else V.en i) = (if i = b then none else W.en i) ∧ (if i = b then none else V.pu i) = (if i = b then none else W.pu i)
      rw [(h.other i hi).1, (h.other i hi).2]; exact ⟨rfl, rfl⟩
    · show ((if b0 = b then none else V.en b0) = (if b0 = b then none else W.en b0) ∧ (if b0 = b then none else V.pu b0) = (if b0 = b then none else W.pu b0)) ∨ ((if b0 = b then none else V.pu b0) = some num ∧ (if b0 = b then none else W.en b0) = none ∧ (if b0 = b then none else W.pu b0) = none)
      by_cases e : b0 = b
      · rw [if_pos e, if_pos e, if_pos e, if_pos e]; exact .inl ⟨rfl, rfl⟩
      · rw [if_neg e, if_neg e, if_neg e, if_neg e]; exact h.it
  | note => exact ⟨h.other, h.it⟩
theorem alike_replay {m : Nat} {num b0 : Int} : ∀ (l : List (Bytes × Int)) (q : Int) (V W V' : CaV), Alike num b0 V W → (l ≠ [] ∨ V.k = W.k) → replay m l q V = some V' → ∃ W', replay m l q W = some W' ∧ Alike num b0 V' W' ∧ V'.k = W'.k
  | [], q, V, W, V', h, hk, hv => by
    simp only [replay, Option.some.injEq] at hv
    subst hv
    rcases hk with hk | hk
    · exact absurd rfl hk
    · exact ⟨W, rfl, h, hk⟩
  | x :: l, q, V, W, V', h, hk, hv => by
    unfold replay at hv ⊢
    cases hr : readC m x.1 with
    | none => rw [hr] at hv; cases hv
    | some r =>
      rw [hr] at hv
      dsimp only at hv ⊢
      exact alike_replay l (q + 1) (V.does r q) (W.does r q) V' (h.does r q) (.inr rfl) hv
/-- The first record, where it isn't needed, may go. -/
theorem replay_tail {m : Nat} {x : Bytes × Int} {l : List (Bytes × Int)} {num : Int} {V : CaV} (hl : l ≠ []) (h : replay m (x :: l) num zeroV = some V) (hn : ∀ i, V.pu i ≠ some num) : replay m l (num + 1) zeroV = some V := by
  unfold replay at h
  cases hr : readC m x.1 with
  | none => rw [hr] at h; cases h
  | some r =>
    rw [hr] at h
    dsimp only at h
    have hA : ∃ b0, Alike num b0 (zeroV.does r num) zeroV := by
      obtain ⟨w, k⟩ := r
      cases w with
      | put y =>
        refine ⟨y.blk, fun i hi => ?_, ?_⟩
        · show (if i = y.blk then some y else none) = none ∧ (if i = y.blk then some num else none) = none
          rw [if_neg hi, if_neg hi]; exact ⟨rfl, rfl⟩
        · refine .inr ⟨?_, rfl, rfl⟩
          show (if y.blk = y.blk then some num else none) = some num
          rw [if_pos rfl]
      | clean b e s =>
        refine ⟨0, fun i _ => ⟨?_, rfl⟩, .inl ⟨?_, rfl⟩⟩
        · show (if i = b then (none : Option EntM).map _ else none) = none
          split <;> rfl
        · show (if (0 : Int) = b then (none : Option EntM).map _ else none) = none
          split <;> rfl
      | drop b =>
        refine ⟨0, fun i _ => ⟨?_, ?_⟩, .inl ⟨?_, ?_⟩⟩
        · show (if i = b then none else none) = none; split <;> rfl
        · show (if i = b then none else none) = none; split <;> rfl
        · show (if (0 : Int) = b then none else none) = none; split <;> rfl
        · show (if (0 : Int) = b then none else none) = none; split <;> rfl
      | note => exact ⟨0, fun i _ => ⟨rfl, rfl⟩, .inl ⟨rfl, rfl⟩⟩
    obtain ⟨b0, hA⟩ := hA
    obtain ⟨W', h1, h2, h3⟩ := alike_replay l (num + 1) _ zeroV V hA (.inl hl) h
    rw [h1]
    have hit : V.en b0 = W'.en b0 ∧ V.pu b0 = W'.pu b0 := by
      rcases h2.it with h4 | h4
      · exact h4
      · exact absurd h4.1 (hn b0)
    have : V = W' := by
      cases V; cases W'
      simp only at h2 h3 hit
      simp only [CaV.mk.injEq]
      refine ⟨funext fun i => ?_, funext fun i => ?_, h3⟩
      · by_cases e : i = b0
        · rw [e]; exact hit.1
        · exact (h2.other i e).1
      · by_cases e : i = b0
        · rw [e]; exact hit.2
        · exact (h2.other i e).2
    rw [this]
end Go.Sl
namespace Go.Sl
set_option linter.unusedSimpArgs false
theorem nodup_sub : ∀ {a b : List Int}, a.Nodup → (∀ x ∈ a, x ∈ b) → a.length ≤ b.length
  | [], b, _, _ => Nat.zero_le _
  | x :: a, b, hn, hs => by
    simp only [List.nodup_cons] at hn
    have hx := hs x (by simp)
    have h1 : ∀ y ∈ a, y ∈ b.erase x := fun y hy => by
      have hne : y ≠ x := fun e => hn.1 (e ▸ hy)
      exact (List.mem_erase_of_ne hne).2 (hs y (by simp [hy]))
    have := nodup_sub hn.2 h1
    rw [List.length_erase_of_mem hx] at this
    have h0 : 0 < b.length := List.length_pos_of_mem hx
    simp only [List.length_cons]; omega
theorem keys_len {α β : Type} {m : Am α} {c : Nat} {p : Am β} {d : Nat} (hm : aok m c) (hp : aok p d) (h : ∀ i, ahas m i = ahas p i) : m.length = p.length := by
  have h1 : (m.map (·.1)).length ≤ (p.map (·.1)).length := nodup_sub hm.uniq fun x hx => by
    obtain ⟨y, hy, rfl⟩ := List.mem_map.1 hx
    have := h y.1
    rw [ahas_iff.2 ⟨y, hy, rfl⟩] at this
    obtain ⟨z, hz, e⟩ := ahas_iff.1 this.symm
    exact List.mem_map.2 ⟨z, hz, e⟩
  have h2 : (p.map (·.1)).length ≤ (m.map (·.1)).length := nodup_sub hp.uniq fun x hx => by
    obtain ⟨y, hy, rfl⟩ := List.mem_map.1 hx
    have := h y.1
    rw [ahas_iff.2 ⟨y, hy, rfl⟩] at this
    obtain ⟨z, hz, e⟩ := ahas_iff.1 this
    exact List.mem_map.2 ⟨z, hz, e⟩
  simp only [List.length_map] at h1 h2
  omega
structure CaG (m n k : Nat) (C : CaM) (D : Dev) : Prop where
  ok : C.ok D
  ld : LDev 2 n 0 1 D (n + 2) k C.l.head C.l.time C.l.least C.l.l
  lg : C.l = ⟨2, n, openC D 0 1, C.l.head, C.l.time, C.l.least, C.l.l⟩
  bl : C.bl = m
  nn : C.n = n
  rp : replay m C.l.l C.l.head zeroV = some C.view
theorem CaG.up1 {m n k : Nat} {C : CaM} {D : Dev} (g : CaG m n k C D) : CaG m n (k + 1) C D := ⟨g.ok, g.ld.up1, g.lg, g.bl, g.nn, g.rp⟩
theorem CaG.up {m n k : Nat} {C : CaM} {D : Dev} (g : CaG m n k C D) : ∀ j : Nat, CaG m n (k + j) C D
  | 0 => g
  | j + 1 => (g.up j).up1
theorem CaG.le {m n k k' : Nat} {C : CaM} {D : Dev} (g : CaG m n k C D) (h : k ≤ k') : CaG m n k' C D := by
  have := g.up (k' - k)
  rw [show k + (k' - k) = k' by omega] at this
  exact this
theorem CaG.add {m n k : Nat} {C : CaM} {D : Dev} (g : CaG m n k C D) (hk : k < 4611686018427387000) {r : CrecM} (hr : r.ok m) (hf : C.l.l.length < n) :
    ∃ C' D', C.add D r = (0, C', D') ∧ CaG m n (k + 1) C' D' ∧ C'.view = C.view.does r C.l.tail ∧ C'.l.l.length = C.l.l.length + 1 ∧ C'.l.head = C.l.head ∧ C' = CaM.does { C with l := C'.l } r C.l.tail := by
  obtain ⟨D', l', e1, e2, e3, -, -⟩ := g.ld.append hk (recB r.rc)
  have hm32 : m ≤ 32 := by have h1 := g.ok.bl; have h2 := g.bl; omega
  have hlen := rec_len hm32 hr
  rw [if_neg (by omega), if_neg (by omega), ← g.lg] at e1
  rw [if_pos ⟨hlen, hf⟩] at e3
  subst e3
  have hadd : C.add D r = (0, CaM.does { C with l := ⟨2, n, openC D' 0 1, C.l.head, C.l.time, C.l.least, C.l.l ++ [(recB r.rc, C.l.time)]⟩ } r C.l.tail, D') := by
    unfold CaM.add
    rw [e1]
    simp
  have hok := g.ok.add (r := r) (by rw [g.bl]; exact hr)
  rw [hadd] at hok
  generalize hL : (⟨2, n, openC D' 0 1, C.l.head, C.l.time, C.l.least, C.l.l ++ [(recB r.rc, C.l.time)]⟩ : LogM) = L at *
  obtain ⟨d1, d2, d3⟩ := CaM.does_l { C with l := L } r C.l.tail
  have hv := view_does (C := { C with l := L }) ⟨g.ok.m.e, g.ok.m.p⟩ r C.l.tail
  have hv0 : ({ C with l := L } : CaM).view = C.view := rfl
  rw [hv0] at hv
  refine ⟨_, D', hadd, ⟨hok, ?_, ?_, by rw [d2]; exact g.bl, by rw [d3]; exact g.nn, ?_⟩, hv, ?_, ?_, ?_⟩
  · rw [d1, ← hL]; exact e2
  · rw [d1, ← hL]
  · rw [d1, hv, ← hL]
    exact replay_snoc _ _ _ _ _ _ g.rp (readC_rec hm32 hr)
  · rw [d1, ← hL]; simp
  · rw [d1, ← hL]
  · rw [d1]
theorem CaG.cut {m n k : Nat} {C : CaM} {D : Dev} (g : CaG m n k C D) (hk : k < 4611686018427387000) (hl : 2 ≤ C.l.l.length) (hn : ∀ i, aget C.pu i ≠ some C.l.head) :
    ∃ L' D', C.cut D (C.l.head + 1) = (0, { C with l := L' }, D') ∧ CaG m n (k + 1) { C with l := L' } D' ∧ L'.head = C.l.head + 1 ∧ L'.l.length + 1 = C.l.l.length ∧ L'.tail = C.l.tail := by
  obtain ⟨D', le', e1, e2, -⟩ := g.ld.trim hk (m := C.l.head + 1) ⟨by omega, by omega⟩
  rw [← g.lg, show (C.l.head + 1 - C.l.head).toNat = 1 by omega] at e1
  rw [show (C.l.head + 1 - C.l.head).toNat = 1 by omega] at e2
  have hct : C.cut D (C.l.head + 1) = (0, { C with l := ⟨2, n, openC D' 0 1, C.l.head + 1, C.l.time, le', C.l.l.drop 1⟩ }, D') := by unfold CaM.cut; rw [e1]
  have hok := g.ok.cut (C.l.head + 1)
  rw [hct] at hok
  refine ⟨_, D', hct, ⟨hok, e2, rfl, g.bl, g.nn, ?_⟩, rfl, ?_, ?_⟩
  · show replay m (C.l.l.drop 1) (C.l.head + 1) zeroV = some C.view
    have h := g.rp
    cases hL : C.l.l with
    | nil => rw [hL] at hl; simp at hl
    | cons x l =>
      rw [hL] at h hl
      refine replay_tail (x := x) (l := l) (fun e => ?_) h hn
      subst e; simp at hl
  · simp only [List.length_drop]; omega
  · unfold LogM.tail; simp only [List.length_drop]; omega
theorem CaV.ext {V W : CaV} (h1 : V.en = W.en) (h2 : V.pu = W.pu) (h3 : V.k = W.k) : V = W := by cases V; cases W; simp_all
/-- Behind 'again'. -/
theorem CaG.again {m n k : Nat} {C : CaM} {D : Dev} (g : CaG m n k C D) (hk : k < 4611686018427387000) (hf : C.l.l.length < n) (h0 : 1 ≤ C.l.l.length) :
    ∃ C' D', C.again D = (0, C', D') ∧ CaG m n (k + 1) C' D' ∧ (∀ i, aget C'.en i = aget C.en i) ∧ C'.k = C.k ∧ C'.en.length = C.en.length ∧ C'.l.head = C.l.head ∧ C.l.l.length ≤ C'.l.l.length ∧ C'.l.l.length ≤ C.l.l.length + 1 ∧
      (∀ i, aget C'.pu i ≠ some C.l.head) ∧ (∀ num, C.l.head < num → (∃ i, aget C.pu i = some num) → ∃ i, aget C'.pu i = some num) ∧ (C'.l.tail = C.l.tail + 1 → ∃ i, aget C'.pu i = some C.l.tail) := by
  have hht : C.l.head < C.l.tail := by unfold LogM.tail; omega
  cases hnd : C.needed with
  | none =>
    refine ⟨C, D, by unfold CaM.again; rw [hnd], g.up1, fun _ => rfl, rfl, rfl, rfl, Nat.le_refl _, by omega, ?_, fun _ _ h => h, fun h => by omega⟩
    intro i hi
    obtain ⟨b, hb⟩ := aget_some hi
    rw [needed_some g.ok.pn hb rfl] at hnd
    cases hnd
  | some x =>
    obtain ⟨hxo, hxg⟩ := g.ok.need hnd
    rw [g.bl] at hxo
    obtain ⟨C', D', e1, e2, e3, e4, e5, e6⟩ := g.add hk (r := ⟨.put x, C.k⟩) ⟨hxo, g.ok.k⟩ hf
    have hen : ∀ i, aget C'.en i = aget C.en i := fun i => by
      have : C'.view.en i = (C.view.does ⟨.put x, C.k⟩ C.l.tail).en i := by rw [e3]
      refine this.trans ?_
      show (if i = x.blk then some x else aget C.en i) = aget C.en i
      by_cases hi : i = x.blk
      · rw [if_pos hi, hi, hxg]
      · rw [if_neg hi]
    have hpu : ∀ i, aget C'.pu i = if i = x.blk then some C.l.tail else aget C.pu i := fun i => by
      have : C'.view.pu i = (C.view.does ⟨.put x, C.k⟩ C.l.tail).pu i := by rw [e3]
      exact this
    have hkey : aget C.pu x.blk = some C.l.head := by
      unfold CaM.needed at hnd
      obtain ⟨y, hy, e⟩ := Option.map_eq_some_iff.1 hnd
      have hm := List.mem_of_find?_eq_some hy
      have hv := List.find?_some hy
      simp only [decide_eq_true_eq] at hv
      have hk2 := g.ok.keys y.1
      rw [ahas_iff.2 ⟨y, hm, rfl⟩, ahas_get] at hk2
      obtain ⟨z, hz⟩ := Option.isSome_iff_exists.1 hk2.symm
      rw [hz, Option.getD_some] at e
      have := (ok_get g.ok hz).2
      rw [← e, this, ← hv]
      exact aget_mem g.ok.m.p hm
    have huniq : ∀ i, aget C.pu i = some C.l.head → i = x.blk := fun i hi => by
      obtain ⟨b1, h1⟩ := aget_some hi
      obtain ⟨b2, h2⟩ := aget_some hkey
      have f1 := find_val g.ok.pn h1 rfl
      have f2 := find_val g.ok.pn h2 rfl
      rw [f1] at f2
      simp only [Option.some.injEq, Prod.mk.injEq] at f2
      exact f2.1
    refine ⟨C', D', by unfold CaM.again; rw [hnd]; exact e1, e2, hen, ?_, ?_, e5, by omega, by omega, ?_, ?_, fun _ => ⟨x.blk, by rw [hpu, if_pos rfl]⟩⟩
    · have : C'.view.k = (C.view.does ⟨.put x, C.k⟩ C.l.tail).k := by rw [e3]
      exact this
    · rw [e6]
      show (aput C.en C.ce x.blk x).length = C.en.length
      rw [aput_len, if_pos (by rw [ahas_get, hxg]; rfl)]
    · intro i hi
      rw [hpu] at hi
      by_cases hx : i = x.blk
      · rw [if_pos hx] at hi
        simp only [Option.some.injEq] at hi
        omega
      · rw [if_neg hx] at hi
        exact hx (huniq i hi)
    · rintro num hlt ⟨i, hi⟩
      refine ⟨i, ?_⟩
      rw [hpu]
      by_cases hx : i = x.blk
      · rw [hx, hkey] at hi
        simp only [Option.some.injEq] at hi
        omega
      · rw [if_neg hx]; exact hi
theorem pass_len {C : CaM} {D : Dev} (h : C.ok D) {T : Int} (hp : ∀ num, T ≤ num → num < C.l.tail → ∃ i, aget C.pu i = some num) : C.l.tail - T ≤ C.en.length := by
  have hkl : C.en.length = C.pu.length := keys_len h.m.e h.m.p fun i => (h.keys i).symm
  rw [hkl]
  have h1 : ((List.range (C.l.tail - T).toNat).map fun j : Nat => T + j).length ≤ (C.pu.map (·.2.1)).length := by
    refine nodup_sub ?_ fun x hx => ?_
    · refine List.Pairwise.map _ (fun a b (hab : a ≠ b) => ?_) List.nodup_range
      intro e; exact hab (by omega)
    · obtain ⟨j, hj, rfl⟩ := List.mem_map.1 hx
      have hj2 : j < (C.l.tail - T).toNat := by simpa using hj
      obtain ⟨i, hi⟩ := hp (T + j) (by omega) (by omega)
      obtain ⟨b, hb⟩ := aget_some hi
      exact List.mem_map.2 ⟨_, hb, rfl⟩
  simp only [List.length_map, List.length_range] at h1
  omega
theorem CaG.mkF {m n : Nat} {T : Int} : ∀ (f : Nat) {k : Nat} {C : CaM} {D : Dev}, CaG m n k C D → k + 2 * f < 4611686018427387000 → C.en.length + 6 ≤ n → C.l.l.length + 1 ≤ n → C.l.head ≤ T → T ≤ C.l.tail → T - C.l.head ≤ f →
    (∀ num, T ≤ num → num < C.l.tail → ∃ i, aget C.pu i = some num) →
    ∃ C' D', CaM.mkF f C D = (0, C', D') ∧ CaG m n (k + 2 * f) C' D' ∧ (∀ i, aget C'.en i = aget C.en i) ∧ C'.k = C.k ∧ C'.en.length = C.en.length ∧ C'.l.l.length + 4 ≤ n
  | 0, k, C, D, g, hk, hr, hs, h1, h2, h3, hp => by
    have hl := pass_len g.ok hp
    have ht : C.l.tail = C.l.head + C.l.l.length := rfl
    have hn := g.ok.n
    rw [g.nn] at hn
    refine ⟨C, D, ?_, g, fun _ => rfl, rfl, rfl, by omega⟩
    unfold CaM.mkF
    rw [if_neg (by unfold CaM.free; omega)]
  | f + 1, k, C, D, g, hk, hr, hs, h1, h2, h3, hp => by
    have hl := pass_len g.ok hp
    have ht : C.l.tail = C.l.head + C.l.l.length := rfl
    have hn := g.ok.n
    rw [g.nn] at hn
    have hn8 := g.ok.n8
    rw [g.nn] at hn8
    by_cases hfr : 4 ≤ C.free
    · refine ⟨C, D, ?_, g.le (by omega), fun _ => rfl, rfl, rfl, by unfold CaM.free at hfr; omega⟩
      unfold CaM.mkF
      rw [if_pos hfr]
    · have hfr2 : (n : Int) - C.l.l.length < 4 := by unfold CaM.free at hfr; omega
      obtain ⟨C1, D1, e1, g1, a1, a2, a3, a4, a5, a6, a7, a8, a9⟩ := g.again (by omega) (by omega) (by omega)
      obtain ⟨L2, D2, e2, g2, b1, b2, b3⟩ := g1.cut (by omega) (by omega) (by rw [a4]; exact a7)
      have ht1 : C1.l.tail = C1.l.head + C1.l.l.length := rfl
      have ih := CaG.mkF (m := m) (n := n) (T := T) f g2 (by omega) (by show C1.en.length + 6 ≤ n; omega) (by show L2.l.length + 1 ≤ n; omega) (by show L2.head ≤ T; omega) (by show T ≤ L2.tail; omega) (by show T - L2.head ≤ f; omega) (fun num q1 q2 => by
        have q3 : num < C1.l.tail := by rw [← b3]; exact q2
        show ∃ i, aget C1.pu i = some num
        by_cases hlt : num < C.l.tail
        · exact a8 num (by omega) (hp num q1 hlt)
        · have : num = C.l.tail ∧ C1.l.tail = C.l.tail + 1 := by omega
          rw [this.1]; exact a9 this.2)
      obtain ⟨C', D', c1, c2, c3, c4, c5, c6⟩ := ih
      refine ⟨C', D', ?_, by rw [show k + 2 * (f + 1) = k + 1 + 1 + 2 * f by omega]; exact c2, fun i => (c3 i).trans (a1 i), c4.trans a2, c5.trans a3, c6⟩
      unfold CaM.mkF
      rw [if_neg hfr, e1, if_neg (by simp)]
      dsimp only
      rw [a4] at e2
      rw [e2, if_neg (by simp)]
      exact c1
theorem CaG.make {m n k : Nat} {C : CaM} {D : Dev} (g : CaG m n k C D) (hk : k + 2 * n < 4611686018427387000) (hr : C.en.length + 6 ≤ n) (hs : C.l.l.length + 1 ≤ n) :
    ∃ C' D', C.make D = (0, C', D') ∧ CaG m n (k + 2 * n) C' D' ∧ (∀ i, aget C'.en i = aget C.en i) ∧ C'.k = C.k ∧ C'.en.length = C.en.length ∧ C'.l.l.length + 4 ≤ n := by
  have ht : C.l.tail = C.l.head + C.l.l.length := rfl
  have := CaG.mkF (T := C.l.tail) C.n g (by rw [g.nn]; exact hk) hr hs (by omega) (Int.le_refl _) (by rw [g.nn]; omega) (fun num q1 q2 => by omega)
  rw [g.nn] at this
  unfold CaM.make
  rw [g.nn]
  exact this
theorem CaG.come {m n k : Nat} {C : CaM} {D : Dev} (g : CaG m n k C D) (hk : k + 2 * n < 4611686018427387000) (hr : C.en.length + 6 ≤ n) (hs : C.l.l.length + 1 ≤ n) {r : CrecM} (ho : r.ok m) :
    ∃ C' D', C.come D r = (0, C', D') ∧ CaG m n (k + 2 * n + 1) C' D' ∧ (∀ i, aget C'.en i = effE (aget C.en) r.w i) ∧ C'.k = r.k ∧ C'.l.l.length + 3 ≤ n := by
  obtain ⟨C1, D1, e1, g1, a1, a2, a3, a4⟩ := g.make hk hr hs
  obtain ⟨C2, D2, e2, g2, b1, b2, b3, b4⟩ := g1.add (by omega) ho (by omega)
  refine ⟨C2, D2, ?_, g2, fun i => ?_, ?_, by omega⟩
  · unfold CaM.come
    rw [e1, if_neg (by simp)]; exact e2
  · have : C2.view.en i = (C1.view.does r C1.l.tail).en i := by rw [b1]
    refine this.trans ?_
    have e : C1.view.en = aget C.en := funext a1
    show effE C1.view.en r.w i = _
    rw [e]
  · have : C2.view.k = (C1.view.does r C1.l.tail).k := by rw [b1]
    exact this
end Go.Sl
namespace Go.Sl
set_option linter.unusedSimpArgs false
def cntF (f : Int → Option EntM) : Nat → Nat
  | 0 => 0
  | m + 1 => cntF f m + (if (f (m : Nat)).isSome = true then 1 else 0)
theorem cnt_congr {f g : Int → Option EntM} : ∀ (m : Nat), (∀ i : Nat, i < m → (f i).isSome = (g i).isSome) → cntF f m = cntF g m
  | 0, _ => rfl
  | m + 1, h => by
    unfold cntF
    rw [cnt_congr m (fun i hi => h i (by omega)), h m (by omega)]
theorem cnt_put {f g : Int → Option EntM} {b : Int} : ∀ (m : Nat), 0 ≤ b → (∀ i, i ≠ b → g i = f i) → (g b).isSome = true → (f b).isSome = false → cntF g m = if b < m then cntF f m + 1 else cntF f m
  | 0, h0, _, _, _ => by rw [if_neg (by omega)]; rfl
  | m + 1, h0, h1, h2, h3 => by
    have ih := cnt_put m h0 h1 h2 h3
    have e1 : cntF g (m + 1) = cntF g m + (if (g (m : Nat)).isSome = true then 1 else 0) := rfl
    have e2 : cntF f (m + 1) = cntF f m + (if (f (m : Nat)).isSome = true then 1 else 0) := rfl
    rw [e1, e2, ih]
    by_cases e : (m : Int) = b
    · have q1 : (g (m : Nat)).isSome = true := by rw [e]; exact h2
      have q2 : (f (m : Nat)).isSome = false := by rw [e]; exact h3
      have q3 : ¬ b < (m : Int) := by omega
      have q4 : b < ((m + 1 : Nat) : Int) := by omega
      rw [if_neg q3, if_pos q4, if_pos q1, if_neg (by rw [q2]; simp)]
    · rw [h1 m e]
      by_cases hlt : b < m
      · have q4 : b < ((m + 1 : Nat) : Int) := by omega
        rw [if_pos hlt, if_pos q4]; omega
      · have q4 : ¬ b < ((m + 1 : Nat) : Int) := by omega
        rw [if_neg hlt, if_neg q4]
theorem allTo_cnt (C : CaM) : ∀ k, (allTo C k).length = cntF (aget C.en) k
  | 0 => rfl
  | k + 1 => by
    rw [allTo_succ]
    unfold cntF
    cases h : aget C.en (k : Nat) with
    | none => simp [allTo_cnt C k]
    | some x => simp [allTo_cnt C k]
theorem all_cnt (C : CaM) : C.all.length = cntF (aget C.en) C.bl := allTo_cnt C C.bl
theorem allTo_congr {C C' : CaM} (h : ∀ i, aget C'.en i = aget C.en i) : ∀ k, allTo C' k = allTo C k
  | 0 => rfl
  | k + 1 => by rw [allTo_succ, allTo_succ, h, allTo_congr h k]
theorem all_congr {C C' : CaM} (hb : C'.bl = C.bl) (h : ∀ i, aget C'.en i = aget C.en i) : C'.all = C.all := by
  unfold CaM.all; rw [hb]; exact allTo_congr h _
theorem en_len {C : CaM} {D : Dev} (h : C.ok D) : C.en.length = cntF (aget C.en) C.bl := by
  rw [← all_cnt]
  have h1 : (C.en.map (·.1)).length ≤ (C.all.map (·.blk)).length := nodup_sub h.m.e.uniq fun x hx => by
    obtain ⟨y, hy, rfl⟩ := List.mem_map.1 hx
    have hg := aget_mem h.m.e hy
    exact List.mem_map.2 ⟨_, get_all h hg, (h.en y hy).2⟩
  have hnd : ∀ k, ((allTo C k).map (·.blk)).Nodup ∧ ∀ x ∈ allTo C k, x.blk < k := by
    intro k
    induction k with
    | zero => exact ⟨by simp [allTo], fun x hx => by simp [allTo] at hx⟩
    | succ k ih =>
      rw [allTo_succ]
      cases hg : aget C.en (k : Nat) with
      | none => exact ⟨ih.1, fun x hx => by have := ih.2 x hx; omega⟩
      | some y =>
        have hy := (ok_get h hg).2
        dsimp only
        refine ⟨?_, fun x hx => ?_⟩
        · rw [List.map_append, List.nodup_append]
          refine ⟨ih.1, by simp, ?_⟩
          intro a ha b hb
          simp only [List.map_cons, List.map_nil, List.mem_singleton] at hb
          obtain ⟨x, hx, rfl⟩ := List.mem_map.1 ha
          have := ih.2 x hx
          omega
        · rcases List.mem_append.1 hx with hx | hx
          · have := ih.2 x hx; omega
          · simp only [List.mem_singleton] at hx; subst hx; omega
  have h2 : (C.all.map (·.blk)).length ≤ (C.en.map (·.1)).length := nodup_sub (hnd C.bl).1 fun x hx => by
    obtain ⟨y, hy, rfl⟩ := List.mem_map.1 hx
    obtain ⟨i, hi, hg⟩ := all_mem hy
    obtain ⟨b, hb⟩ := aget_some hg
    exact List.mem_map.2 ⟨_, hb, (ok_get h hg).2.symm⟩
  simp only [List.length_map] at h1 h2
  omega
structure CaS (m n k : Nat) (C : CaM) (D : Dev) : Prop where
  g : CaG m n k C D
  room : C.en.length + 6 ≤ n
  sp : C.l.l.length + 2 ≤ n
theorem CaS.le {m n k k' : Nat} {C : CaM} {D : Dev} (s : CaS m n k C D) (h : k ≤ k') : CaS m n k' C D := ⟨s.g.le h, s.room, s.sp⟩
theorem CaS.cnt {m n k : Nat} {C : CaM} {D : Dev} (s : CaS m n k C D) : C.en.length = cntF (aget C.en) m := by rw [← s.g.bl]; exact en_len s.g.ok
/-- A step of a cache that is well: its number, and what it has then. -/
structure CaDid (m n k : Nat) (C : CaM) (r : Int × CaM × Dev) : Prop where
  s : CaS m n (k + 200) r.2.1 r.2.2
  no : r.1 ≠ 0 → r.2.1 = C
theorem CaS.did0 {m n k : Nat} {C : CaM} {D : Dev} (s : CaS m n k C D) (e : Int) : CaDid m n k C (e, C, D) := ⟨s.le (by omega), fun _ => rfl⟩
theorem CaS.come {m n k : Nat} {C : CaM} {D : Dev} (s : CaS m n k C D) (hk : k < 4611686018427380000) (hn : n ≤ 40) {r : CrecM} (ho : r.ok m) (hc : cntF (effE (aget C.en) r.w) m + 6 ≤ n) :
    (C.come D r).1 = 0 ∧ CaS m n (k + 90) (C.come D r).2.1 (C.come D r).2.2 ∧ (∀ i, aget (C.come D r).2.1.en i = effE (aget C.en) r.w i) ∧ (C.come D r).2.1.k = r.k ∧ (C.come D r).2.1.l.l.length + 3 ≤ n := by
  obtain ⟨C', D', e1, e2, e3, e4, e5⟩ := s.g.come (by omega) s.room (by have := s.sp; omega) ho
  rw [e1]
  refine ⟨rfl, ⟨e2.le (by omega), ?_, by show C'.l.l.length + 2 ≤ n; omega⟩, e3, e4, e5⟩
  show C'.en.length + 6 ≤ n
  rw [en_len e2.ok, e2.bl, show aget C'.en = effE (aget C.en) r.w from funext e3]
  exact hc
def updE (f : Int → Option EntM) (x : EntM) : Int → Option EntM := fun i => if i = x.blk then some x else f i
def delE (f : Int → Option EntM) (b : Int) : Int → Option EntM := fun i => if i = b then none else f i
theorem cnt_same {f : Int → Option EntM} {x : EntM} (h : (f x.blk).isSome = true) (m : Nat) : cntF (updE f x) m = cntF f m := cnt_congr m fun i _ => by
  unfold updE
  by_cases e : (i : Int) = x.blk
  · rw [if_pos e, e, h]; rfl
  · rw [if_neg e]
theorem cnt_more {f : Int → Option EntM} {x : EntM} (h : (f x.blk).isSome = false) (h0 : 0 ≤ x.blk) (m : Nat) (hm : x.blk < m) : cntF (updE f x) m = cntF f m + 1 := by
  rw [cnt_put (f := f) m h0 (fun i hi => by unfold updE; rw [if_neg hi]) (by unfold updE; rw [if_pos rfl]; rfl) h, if_pos hm]
theorem cnt_less {f : Int → Option EntM} {b : Int} (h : (f b).isSome = true) (h0 : 0 ≤ b) (m : Nat) (hm : b < m) : cntF (delE f b) m + 1 = cntF f m := by
  rw [cnt_put (f := delE f b) (g := f) m h0 (fun i hi => by unfold delE; rw [if_neg hi]) h (by unfold delE; rw [if_pos rfl]; rfl), if_pos hm]
theorem spare_none {C : CaM} (h : C.spare.2 = false) : ∀ x ∈ C.all, x.dirty = true := by
  have key : ∀ (l : List EntM) (s : Int × Bool), (l.foldl (spareS C) s).2 = false → s.2 = false ∧ ∀ x ∈ l, x.dirty = true := by
    intro l
    induction l with
    | nil => exact fun s hs => ⟨hs, fun x hx => by cases hx⟩
    | cons y l ih =>
      intro s hs
      rw [List.foldl_cons] at hs
      obtain ⟨h1, h2⟩ := ih _ hs
      have h3 : s.2 = false ∧ y.dirty = true := by
        unfold spareS at h1
        split at h1
        · cases h1
        · rename_i hc
          refine ⟨h1, ?_⟩
          rw [h1] at hc
          simpa using hc
      exact ⟨h3.1, fun x hx => by rcases List.mem_cons.1 hx with rfl | hx; exact h3.2; exact h2 x hx⟩
  exact (key C.all (0, false) h).2
theorem bad_of {C : CaM} {m : Nat} {x : EntM} (h : x.ok m) (ha : aboveV x.ve x.vs C.k.e C.k.s = true) : badPut C x = false := by
  unfold badPut mayV
  rw [ha, within3_t h.ve, within3_t h.vs, within3_t (show -1 ≤ x.cl ∧ x.cl ≤ 3 from h.cl), oddN_f h.n]
  rfl
/-- What comes of an entry that is put. -/
inductive PutR (m n : Nat) (C : CaM) (x : EntM) : Int → (Int → Option EntM) → KeptM → Prop
  | bad {e} (h : e = 1 ∨ e = 2 ∨ e = 3) (b : ¬ (x.ok m ∧ aboveV x.ve x.vs C.k.e C.k.s = true)) : PutR m n C x e (aget C.en) C.k
  | put (o : x.ok m) (a : aboveV x.ve x.vs C.k.e C.k.s = true) (h : (aget C.en x.blk).isSome = true ∨ C.en.length + 6 < n) : PutR m n C x 0 (updE (aget C.en) x) (putK C.k x)
  | full (h0 : (aget C.en x.blk).isSome = false) (h1 : C.en.length + 6 = n) (h : ∀ y ∈ C.all, y.dirty = true) : PutR m n C x 12 (aget C.en) C.k
  | place (o : x.ok m) (a : aboveV x.ve x.vs C.k.e C.k.s = true) (h0 : (aget C.en x.blk).isSome = false) (h1 : C.en.length + 6 = n) {y : EntM} (hy : aget C.en y.blk = some y) (hd : y.dirty = false) : PutR m n C x 0 (updE (delE (aget C.en) y.blk) x) (putK C.k x)
theorem CaS.put {m n k : Nat} {C : CaM} {D : Dev} (s : CaS m n k C D) (hk : k < 4611686018427380000) (hn : n ≤ 40) (x : EntM) :
    CaDid m n k C (C.put D x) ∧ PutR m n C x (C.put D x).1 (aget (C.put D x).2.1.en) (C.put D x).2.1.k := by
  have hbl := s.g.bl
  have hnn := s.g.nn
  have hrm := s.room
  unfold CaM.put
  by_cases c1 : inB C.bl x.blk = false
  · rw [if_pos c1]; exact ⟨s.did0 2, .bad (by simp) (fun hb => by have h1 := hb.1.blk; unfold inB at c1; rw [within3_t (by omega)] at c1; cases c1)⟩
  rw [if_neg c1]
  by_cases c2 : ¬ (x.data.length : Int) = 8
  · rw [if_pos c2]; exact ⟨s.did0 3, .bad (by simp) (fun hb => by have h1 := hb.1.data; omega)⟩
  rw [if_neg c2]
  by_cases c3 : badPut C x = true
  · rw [if_pos c3]; exact ⟨s.did0 1, .bad (by simp) (fun hb => by have h1 := bad_of hb.1 hb.2; rw [h1] at c3; cases c3)⟩
  rw [if_neg c3]
  obtain ⟨hxo, hab⟩ := bad_no (by simpa using c1) (Classical.not_not.1 c2) (by simpa using c3)
  have hxo2 : x.ok m := by rw [hbl] at hxo; exact hxo
  have hb := hxo2.blk
  have hKo := putK_ok s.g.ok.k hxo
  have hcn := s.cnt
  by_cases c4 : (aget C.en x.blk).isSome = true ∨ (C.en.length : Int) < (C.n : Int) - 6
  · rw [if_pos c4]
    have hcnt : cntF (effE (aget C.en) (.put x)) m + 6 ≤ n := by
      show cntF (updE (aget C.en) x) m + 6 ≤ n
      by_cases c5 : (aget C.en x.blk).isSome = true
      · rw [cnt_same c5, ← hcn]; exact s.room
      · rw [cnt_more (by simpa using c5) hb.1 m hb.2, ← hcn]
        rcases c4 with c4 | c4
        · exact absurd c4 c5
        · omega
    obtain ⟨e1, e2, e3, e4, -⟩ := s.come hk hn (r := ⟨.put x, putK C.k x⟩) ⟨hxo2, hKo⟩ hcnt
    refine ⟨⟨e2.le (by omega), fun h => absurd e1 h⟩, ?_⟩
    rw [e1, funext e3, e4]
    exact .put hxo2 hab (by rcases c4 with c4 | c4; exact .inl c4; exact .inr (by omega))
  · rw [if_neg c4]
    have c5 : (aget C.en x.blk).isSome = false := by cases h : (aget C.en x.blk).isSome; rfl; exact absurd (.inl h) c4
    have c6 : C.en.length + 6 = n := by
      have : ¬ (C.en.length : Int) < (C.n : Int) - 6 := fun h => c4 (.inr h)
      omega
    by_cases c7 : C.spare.2 = false
    · rw [if_pos c7]; exact ⟨s.did0 12, .full c5 c6 (spare_none c7)⟩
    · rw [if_neg c7]
      have c8 : C.spare.2 = true := by simpa using c7
      obtain ⟨y, hy, hyd, hye⟩ := spare_some c8
      obtain ⟨i, hi, hyg⟩ := all_mem hy
      have hyb := (ok_get s.g.ok hyg)
      rw [← hyb.2] at hyg
      have hyo := hyb.1.blk
      rw [hbl] at hyo
      have hs1 : C.spare.1 = y.blk := by rw [hye]
      rw [hs1]
      have hcnt : cntF (delE (aget C.en) y.blk) m + 1 = cntF (aget C.en) m := cnt_less (by rw [hyg]; rfl) hyo.1 m hyo.2
      obtain ⟨e1, e2, e3, e4, e5⟩ := s.come hk hn (r := ⟨.drop y.blk, C.k⟩) ⟨hyo, s.g.ok.k⟩ (by show cntF (delE (aget C.en) y.blk) m + 6 ≤ n; omega)
      rw [e1, if_neg (by simp)]
      generalize C.come D ⟨.drop y.blk, C.k⟩ = dr at *
      obtain ⟨C3, D3, f1, f2, f3, f4, f5, f6⟩ := e2.g.add (by omega) (r := ⟨.put x, putK C.k x⟩) ⟨hxo2, hKo⟩ (by omega)
      rw [f1]
      have hen : aget C3.en = updE (delE (aget C.en) y.blk) x := by
        have h1 : C3.view.en = (dr.2.1.view.does ⟨.put x, putK C.k x⟩ dr.2.1.l.tail).en := by rw [f3]
        refine h1.trans ?_
        show updE (aget dr.2.1.en) x = _
        rw [funext e3]; rfl
      have hkk : C3.k = putK C.k x := by
        have h1 : C3.view.k = (dr.2.1.view.does ⟨.put x, putK C.k x⟩ dr.2.1.l.tail).k := by rw [f3]
        exact h1
      have hne : ¬ x.blk = y.blk := fun e => by rw [e, hyg] at c5; cases c5
      refine ⟨⟨⟨f2.le (by omega), ?_, by show C3.l.l.length + 2 ≤ n; omega⟩, fun h => absurd rfl h⟩, ?_⟩
      · dsimp only
        rw [en_len f2.ok, f2.bl, hen, cnt_more (f := delE (aget C.en) y.blk) (by unfold delE; rw [if_neg hne]; exact c5) hb.1 m hb.2]
        omega
      · dsimp only
        rw [hen, hkk]
        exact .place hxo2 hab c5 c6 hyg hyd
end Go.Sl
namespace Go.Sl
set_option linter.unusedSimpArgs false
inductive CleanR (C : CaM) (b e s : Int) : Int → (Int → Option EntM) → Prop
  | none (h : ∀ y, aget C.en b = some y → ¬ (y.ve = e ∧ y.vs = s)) : CleanR C b e s 10 (aget C.en)
  | was {y} (hy : aget C.en b = some y) (hv : y.ve = e ∧ y.vs = s) (hd : y.dirty = false) : CleanR C b e s 0 (aget C.en)
  | did {y} (hy : aget C.en b = some y) (hv : y.ve = e ∧ y.vs = s) (hd : y.dirty = true) : CleanR C b e s 0 (updE (aget C.en) { y with dirty := false })
theorem CaS.clean {m n k : Nat} {C : CaM} {D : Dev} (s : CaS m n k C D) (hk : k < 4611686018427380000) (hn : n ≤ 40) (b e v : Int) :
    CaDid m n k C (C.clean D b e v) ∧ CleanR C b e v (C.clean D b e v).1 (aget (C.clean D b e v).2.1.en) ∧ (C.clean D b e v).2.1.k = C.k := by
  unfold CaM.clean
  cases hg : aget C.en b with
  | none => exact ⟨s.did0 10, .none (fun y hy => by rw [hg] at hy; cases hy), rfl⟩
  | some y =>
    dsimp only
    by_cases c1 : y.ve = e ∧ y.vs = v
    · rw [if_neg (fun h => h c1)]
      by_cases c2 : y.dirty = false
      · rw [if_pos c2]; exact ⟨s.did0 0, .was hg c1 c2, rfl⟩
      · rw [if_neg c2]
        obtain ⟨hyo, hyb⟩ := ok_get s.g.ok hg
        have hb := hyo.blk
        rw [s.g.bl] at hb
        have hef : effE (aget C.en) (.clean b e v) = updE (aget C.en) { y with dirty := false } := by
          funext i
          show (if i = b then (aget C.en b).map _ else aget C.en i) = if i = y.blk then _ else aget C.en i
          rw [hyb]
          by_cases hi : i = b
          · rw [if_pos hi, if_pos hi, hg]
            show some (if _ then _ else _) = _
            rw [if_pos c1, hyb]
          · rw [if_neg hi, if_neg hi]
        obtain ⟨e1, e2, e3, e4, -⟩ := s.come hk hn (r := ⟨.clean b e v, C.k⟩) ⟨⟨by omega, by have := hyo.ve; omega, by have := hyo.vs; omega⟩, s.g.ok.k⟩ (by
          show cntF (effE (aget C.en) (.clean b e v)) m + 6 ≤ n
          rw [hef, cnt_same (by show (aget C.en y.blk).isSome = true; rw [hyb, hg]; rfl), ← s.cnt]; exact s.room)
        refine ⟨⟨e2.le (by omega), fun h => absurd e1 h⟩, ?_, e4⟩
        rw [e1, funext e3]
        show CleanR C b e v 0 (effE (aget C.en) (.clean b e v))
        rw [hef]
        exact .did hg c1 (by simpa using c2)
    · rw [if_pos c1]
      exact ⟨s.did0 10, .none (fun z hz => by rw [hg] at hz; cases hz; exact c1), rfl⟩
theorem CaS.drop {m n k : Nat} {C : CaM} {D : Dev} (s : CaS m n k C D) (hk : k < 4611686018427380000) (hn : n ≤ 40) (b : Int) :
    CaDid m n k C (C.drop D b) ∧ (((C.drop D b).1 = 10 ∧ (aget C.en b).isSome = false ∧ C.drop D b = (10, C, D)) ∨ ((C.drop D b).1 = 0 ∧ (aget C.en b).isSome = true ∧ aget (C.drop D b).2.1.en = delE (aget C.en) b)) ∧ (C.drop D b).2.1.k = C.k := by
  unfold CaM.drop
  by_cases c1 : (aget C.en b).isSome = true
  · rw [if_pos c1]
    obtain ⟨y, hy⟩ := Option.isSome_iff_exists.1 c1
    obtain ⟨hyo, hyb⟩ := ok_get s.g.ok hy
    have hb := hyo.blk
    rw [s.g.bl] at hb
    have hl := cnt_less (f := aget C.en) (b := b) c1 (by omega) m (by omega)
    have hc := s.cnt
    have hrm := s.room
    obtain ⟨e1, e2, e3, e4, -⟩ := s.come hk hn (r := ⟨.drop b, C.k⟩) ⟨by show 0 ≤ b ∧ b < (m : Nat); omega, s.g.ok.k⟩ (by show cntF (delE (aget C.en) b) m + 6 ≤ n; omega)
    exact ⟨⟨e2.le (by omega), fun h => absurd e1 h⟩, .inr ⟨e1, c1, funext e3⟩, e4⟩
  · rw [if_neg c1]; exact ⟨s.did0 10, .inl ⟨rfl, by simpa using c1, rfl⟩, rfl⟩
theorem CaS.reset {m n k : Nat} {C : CaM} {D : Dev} (s : CaS m n k C D) (hk : k < 4611686018427380000) (hn : n ≤ 40) (e v : Int) (ns : List Int) :
    CaDid m n k C (C.reset D e v ns) ∧ ((wrongV e v ns = true ∧ C.reset D e v ns = (1, C, D)) ∨ (wrongV e v ns = false ∧ (C.reset D e v ns).1 = 0 ∧ aget (C.reset D e v ns).2.1.en = aget C.en ∧ (C.reset D e v ns).2.1.k = ⟨e, v, t4Of ns⟩)) := by
  unfold CaM.reset
  by_cases c1 : wrongV e v ns = true
  · rw [if_pos c1]; exact ⟨s.did0 1, .inl ⟨c1, rfl⟩⟩
  · rw [if_neg c1]
    obtain ⟨he, hs, a, b, c, d, rfl, h1, h2, h3, h4⟩ := wrong_no (by simpa using c1)
    have hc := s.cnt
    have hrm := s.room
    obtain ⟨e1, e2, e3, e4, -⟩ := s.come hk hn (r := ⟨.note, ⟨e, v, t4Of [a, b, c, d]⟩⟩) ⟨trivial, ⟨he, hs, h1, h2, h3, h4⟩⟩ (by show cntF (aget C.en) m + 6 ≤ n; omega)
    exact ⟨⟨e2.le (by omega), fun h => absurd e1 h⟩, .inr ⟨by simpa using c1, e1, funext e3, e4⟩⟩
theorem CaS.note {m n k : Nat} {C : CaM} {D : Dev} (s : CaS m n k C D) (hk : k < 4611686018427380000) (hn : n ≤ 40) (e v : Int) (ns : List Int) :
    CaDid m n k C (C.note D e v ns) ∧ ((wrongV e v ns = true ∧ C.note D e v ns = (1, C, D)) ∨ (wrongV e v ns = false ∧ (C.note D e v ns).1 = 0 ∧ aget (C.note D e v ns).2.1.en = aget C.en ∧ (C.note D e v ns).2.1.k = noteK C.k e v (t4Of ns))) := by
  unfold CaM.note
  by_cases c1 : wrongV e v ns = true
  · rw [if_pos c1]; exact ⟨s.did0 1, .inl ⟨c1, rfl⟩⟩
  · rw [if_neg c1]
    obtain ⟨he, hs, a, b, c, d, rfl, h1, h2, h3, h4⟩ := wrong_no (by simpa using c1)
    have hc := s.cnt
    have hrm := s.room
    obtain ⟨e1, e2, e3, e4, -⟩ := s.come hk hn (r := ⟨.note, noteK C.k e v (t4Of [a, b, c, d])⟩) ⟨trivial, noteK_ok s.g.ok.k he hs h1 h2 h3 h4⟩ (by show cntF (aget C.en) m + 6 ≤ n; omega)
    exact ⟨⟨e2.le (by omega), fun h => absurd e1 h⟩, .inr ⟨by simpa using c1, e1, funext e3, e4⟩⟩
theorem CaS.sync {m n k : Nat} {C : CaM} {D : Dev} (s : CaS m n k C D) : (C.sync D).1 = 0 ∧ (C.sync D).2.1 = C ∧ CaS m n k C (C.sync D).2.2 := by
  obtain ⟨h1, h2, h3⟩ := s.g.ld.sync
  have hl : C.l.ok D.barrier.2 := by
    have := s.g.ok.l
    exact ⟨this.n, by rw [barrier_l]; exact this.first, by rw [barrier_l]; exact this.c, this.head, this.time, this.least, this.l, this.its, this.tail, Dev.barrier_ok this.d⟩
  refine ⟨h1, rfl, ⟨⟨⟨hl, s.g.ok.bl, s.g.ok.n, s.g.ok.n8, s.g.ok.m, s.g.ok.k, s.g.ok.en, s.g.ok.keys, s.g.ok.pv, s.g.ok.pn⟩, h2, ?_, s.g.bl, s.g.nn, s.g.rp⟩, s.room, s.sp⟩⟩
  show C.l = ⟨2, n, openC D.barrier.2 0 1, _, _, _, _⟩
  rw [h3]; exact s.g.lg
/-- An act of a test's, plain. -/
def doM (C : CaM) (D : Dev) (kind : Int) (x : EntM) (ns : List Int) : Int × CaM × Dev :=
  if kind = 0 then C.put D x else if kind = 1 then C.clean D x.blk x.ve x.vs else if kind = 2 then C.drop D x.blk else if kind = 3 then C.note D x.ve x.vs ns else if kind = 8 then C.reset D x.ve x.vs ns else if kind = 4 then C.sync D else (0, C, D)
theorem doM_ok {C : CaM} {D : Dev} (h : C.ok D) (kind : Int) (x : EntM) (ns : List Int) : (doM C D kind x ns).2.1.ok (doM C D kind x ns).2.2 := by
  unfold doM
  split
  · unfold CaM.put
    split
    · exact h
    · rename_i c1
      split
      · exact h
      · rename_i c2
        split
        · exact h
        · rename_i c3
          obtain ⟨hxo, -⟩ := bad_no (by simpa using c1) (Classical.not_not.1 c2) (by simpa using c3)
          have hKo := putK_ok h.k hxo
          split
          · exact h.come ⟨hxo, hKo⟩
          · split
            · exact h
            · rename_i c7
              have hsp := spare_ok h (by simpa using c7)
              have h1 := h.come (r := ⟨.drop C.spare.1, C.k⟩) ⟨hsp, h.k⟩
              split
              · exact h1
              · refine h1.add ⟨?_, hKo⟩
                rw [CaM.come_bl.1]; exact hxo
  split
  · unfold CaM.clean
    split
    · exact h
    · rename_i y hy
      split
      · exact h
      · rename_i c1
        split
        · exact h
        · obtain ⟨hyo, hyb⟩ := ok_get h hy
          have hc := Classical.not_not.1 c1
          refine h.come ⟨⟨by have := hyo.blk; omega, by have := hyo.ve; omega, by have := hyo.vs; omega⟩, h.k⟩
  split
  · unfold CaM.drop
    split
    · rename_i c1
      obtain ⟨y, hy⟩ := Option.isSome_iff_exists.1 c1
      obtain ⟨hyo, hyb⟩ := ok_get h hy
      exact h.come ⟨by show 0 ≤ x.blk ∧ x.blk < C.bl; have := hyo.blk; omega, h.k⟩
    · exact h
  split
  · unfold CaM.note
    split
    · exact h
    · rename_i c1
      obtain ⟨he, hs, a, b, c, d, rfl, h1, h2, h3, h4⟩ := wrong_no (by simpa using c1)
      exact h.come ⟨trivial, noteK_ok h.k he hs h1 h2 h3 h4⟩
  split
  · unfold CaM.reset
    split
    · exact h
    · rename_i c1
      obtain ⟨he, hs, a, b, c, d, rfl, h1, h2, h3, h4⟩ := wrong_no (by simpa using c1)
      exact h.come ⟨trivial, ⟨he, hs, h1, h2, h3, h4⟩⟩
  split
  · unfold CaM.sync
    have := h.l
    exact ⟨⟨this.n, by rw [barrier_l]; exact this.first, by rw [barrier_l]; exact this.c, this.head, this.time, this.least, this.l, this.its, this.tail, Dev.barrier_ok this.d⟩, h.bl, h.n, h.n8, h.m, h.k, h.en, h.keys, h.pv, h.pn⟩
  · exact h
theorem PutR.code {m n : Nat} {C : CaM} {x : EntM} {e : Int} {f : Int → Option EntM} {k : KeptM} (h : PutR m n C x e f k) : e = 0 ∨ e = 1 ∨ e = 2 ∨ e = 3 ∨ e = 10 ∨ e = 12 := by
  cases h with
  | bad h _ => omega
  | put => simp
  | full => simp
  | place => simp
theorem CleanR.code {C : CaM} {b v w e : Int} {f : Int → Option EntM} (h : CleanR C b v w e f) : e = 0 ∨ e = 10 := by
  cases h <;> simp
theorem CaS.doM {m n k : Nat} {C : CaM} {D : Dev} (s : CaS m n k C D) (hk : k < 4611686018427380000) (hn : n ≤ 40) (kind : Int) (x : EntM) (ns : List Int) :
    CaDid m n k C (doM C D kind x ns) ∧ ((Go.Sl.doM C D kind x ns).1 = 0 ∨ (Go.Sl.doM C D kind x ns).1 = 1 ∨ (Go.Sl.doM C D kind x ns).1 = 2 ∨ (Go.Sl.doM C D kind x ns).1 = 3 ∨ (Go.Sl.doM C D kind x ns).1 = 10 ∨ (Go.Sl.doM C D kind x ns).1 = 12) := by
  unfold Go.Sl.doM
  split
  · obtain ⟨h1, h2⟩ := s.put hk hn x
    exact ⟨h1, h2.code⟩
  split
  · obtain ⟨h1, h2, -⟩ := s.clean hk hn x.blk x.ve x.vs
    exact ⟨h1, by rcases h2.code with h | h <;> omega⟩
  split
  · obtain ⟨h1, h2, -⟩ := s.drop hk hn x.blk
    refine ⟨h1, ?_⟩
    rcases h2 with h2 | h2 <;> (have := h2.1; omega)
  split
  · obtain ⟨h1, h2⟩ := s.note hk hn x.ve x.vs ns
    refine ⟨h1, ?_⟩
    rcases h2 with ⟨_, h2⟩ | ⟨_, h2, _⟩
    · rw [h2]; simp
    · omega
  split
  · obtain ⟨h1, h2⟩ := s.reset hk hn x.ve x.vs ns
    refine ⟨h1, ?_⟩
    rcases h2 with ⟨_, h2⟩ | ⟨_, h2, _⟩
    · rw [h2]; simp
    · omega
  split
  · obtain ⟨h1, h2, h3⟩ := s.sync
    exact ⟨⟨by rw [h2]; exact h3.le (by omega), fun h => absurd h1 h⟩, .inl h1⟩
  · exact ⟨s.did0 0, .inl rfl⟩
/-- Opened anew a cache is as it was. -/
theorem CaG.opened {m n k : Nat} {C : CaM} {D : Dev} (g : CaG m n k C D) (hk : k < 4611686018427387000) :
    ∃ C' D', caOpen D 2 n 0 1 m = (0, C', D') ∧ CaG m n (k + 1) C' D' ∧ C'.view = C.view ∧ C'.l.l = C.l.l ∧ C'.en.length = C.en.length := by
  obtain ⟨D', e1, e2, -⟩ := g.ld.opened hk
  have hn8 := g.ok.n8
  rw [g.nn] at hn8
  have hlo := logOpen_ok (first := 2) (n := n) (a := 0) (b := 1) g.ok.d (by rw [e1])
  rw [e1] at hlo
  obtain ⟨C', c1, c2⟩ := load_replay C.l.l C.l.head (caInit ⟨2, n, openC D' 0 1, C.l.head, C.l.time + 1, C.l.least, C.l.l⟩ m) ⟨aok_nil, aok_nil⟩ C.view (by
    have : (caInit ⟨2, n, openC D' 0 1, C.l.head, C.l.time + 1, C.l.least, C.l.l⟩ m).view = zeroV := rfl
    rw [this]; exact g.rp)
  have hI := CaL.init (bl := m) hlo.1 (by have h1 := g.ok.bl; have h2 := g.bl; omega) (show 8 ≤ n by omega)
  have hO := caLoad_all C.l.l hI (List.drop_zero ..) (by simpa using c1)
  have hop : caOpen D 2 n 0 1 m = (0, C', D') := by
    unfold caOpen
    rw [if_neg (by have h1 := g.ok.bl; have h2 := g.bl; omega), e1, if_neg (by simp)]
    dsimp only
    rw [Int.toNat_natCast, c1]
  have hl := hO.l
  have hg : CaG m n (k + 1) C' D' := by
    refine ⟨hO.ok, ?_, ?_, hO.b, ?_, ?_⟩
    · rw [hl]; exact e2
    · rw [hl]
    · rw [hO.ok.n, hl]
    · rw [hl, c2]; exact g.rp
  refine ⟨C', D', hop, hg, c2, by rw [hl], ?_⟩
  rw [en_len hg.ok, en_len g.ok, hg.bl, g.bl]
  have : C'.view.en = C.view.en := by rw [c2]
  rw [show aget C'.en = aget C.en from this]
theorem CaS.opened {m n k : Nat} {C : CaM} {D : Dev} (s : CaS m n k C D) (hk : k < 4611686018427387000) :
    ∃ C' D', caOpen D 2 n 0 1 m = (0, C', D') ∧ CaS m n (k + 1) C' D' ∧ C'.view = C.view := by
  obtain ⟨C', D', h1, h2, h3, h4, h5⟩ := s.g.opened hk
  exact ⟨C', D', h1, ⟨h2, by rw [h5]; exact s.room, by rw [h4]; exact s.sp⟩, h3⟩
theorem new_cas {m n : Nat} (hm : 1 ≤ m ∧ m ≤ 32) (hn : 8 ≤ n ∧ n ≤ 40) : ∃ C D, caOpen (Dev.new (n + 2)) 2 n 0 1 m = (0, C, D) ∧ CaS m n 1 C D ∧ C.view = zeroV := by
  have hd := new_ldev (N := n + 2) (n := n) (first := 2) (a := 0) (b := 1) (by omega) (by omega) (by omega) (by decide) (by omega) (by omega) (by unfold inRing; omega) (by unfold inRing; omega)
  obtain ⟨D', e1, e2, -⟩ := hd.opened (by decide)
  have hlo := logOpen_ok (first := 2) (n := n) (a := 0) (b := 1) hd.up.ok (by rw [e1])
  rw [e1] at hlo
  have hok := caInit_ok (bl := m) hlo.1 hm (show 8 ≤ n by omega)
  refine ⟨_, D', ?_, ⟨⟨hok, e2, rfl, rfl, rfl, rfl⟩, by show 0 + 6 ≤ n; omega, by show 0 + 2 ≤ n; omega⟩, rfl⟩
  unfold caOpen
  rw [if_neg (by omega), e1, if_neg (by simp)]
  rfl
end Go.Sl
namespace Go.Sl
set_option linter.unusedSimpArgs false
theorem CaS.put_new {m n k : Nat} {C : CaM} {D : Dev} (s : CaS m n k C D) (hk : k < 4611686018427380000) (hn : n ≤ 40) {x : EntM} (o : x.ok m) (a : aboveV x.ve x.vs C.k.e C.k.s = true) (h : (aget C.en x.blk).isSome = true ∨ C.en.length + 6 < n) :
    (C.put D x).1 = 0 ∧ CaS m n (k + 200) (C.put D x).2.1 (C.put D x).2.2 ∧ aget (C.put D x).2.1.en = updE (aget C.en) x ∧ (C.put D x).2.1.k = putK C.k x := by
  obtain ⟨h1, h2⟩ := s.put hk hn x
  have h3 := h1.s
  revert h2
  generalize (C.put D x).1 = e at *
  generalize hf : aget (C.put D x).2.1.en = f at *
  generalize hq : (C.put D x).2.1.k = q at *
  intro h2
  cases h2 with
  | bad h b => exact absurd ⟨o, a⟩ b
  | put => exact ⟨rfl, h3, rfl, rfl⟩
  | full h0 h1 => rcases h with h | h; (rw [h0] at h; cases h); omega
  | place _ _ h0 h1 => rcases h with h | h; (rw [h0] at h; cases h); omega
theorem CaS.put_full {m n k : Nat} {C : CaM} {D : Dev} (s : CaS m n k C D) (hk : k < 4611686018427380000) (hn : n ≤ 40) {x : EntM} (o : x.ok m) (a : aboveV x.ve x.vs C.k.e C.k.s = true) (h0 : (aget C.en x.blk).isSome = false) (h1 : C.en.length + 6 = n) (hd : ∀ y, aget C.en y.blk = some y → y.dirty = true) :
    (C.put D x).1 = 12 ∧ (C.put D x).2.1 = C ∧ CaS m n (k + 200) C (C.put D x).2.2 := by
  obtain ⟨h3, h2⟩ := s.put hk hn x
  have h4 : (C.put D x).1 = 12 := by
    revert h2
    generalize (C.put D x).1 = e at *
    generalize aget (C.put D x).2.1.en = f at *
    generalize (C.put D x).2.1.k = q at *
    intro h2
    cases h2 with
    | bad h b => exact absurd ⟨o, a⟩ b
    | put _ _ h => rcases h with h | h; (rw [h0] at h; cases h); omega
    | full => rfl
    | place _ _ _ _ hy hdy => rw [hd _ hy] at hdy; cases hdy
  have h5 := h3.no (by rw [h4]; decide)
  have h6 := h3.s
  rw [h5] at h6
  exact ⟨h4, h5, h6⟩
theorem CaS.put_place {m n k : Nat} {C : CaM} {D : Dev} (s : CaS m n k C D) (hk : k < 4611686018427380000) (hn : n ≤ 40) {x : EntM} (o : x.ok m) (a : aboveV x.ve x.vs C.k.e C.k.s = true) (h0 : (aget C.en x.blk).isSome = false) (h1 : C.en.length + 6 = n) {y0 : EntM} (hy0 : aget C.en y0.blk = some y0) (hd0 : y0.dirty = false) :
    (C.put D x).1 = 0 ∧ CaS m n (k + 200) (C.put D x).2.1 (C.put D x).2.2 ∧ (∃ y, aget C.en y.blk = some y ∧ y.dirty = false ∧ aget (C.put D x).2.1.en = updE (delE (aget C.en) y.blk) x) ∧ (C.put D x).2.1.k = putK C.k x := by
  obtain ⟨h1', h2⟩ := s.put hk hn x
  have h3 := h1'.s
  revert h2
  generalize (C.put D x).1 = e at *
  generalize hf : aget (C.put D x).2.1.en = f at *
  generalize hq : (C.put D x).2.1.k = q at *
  intro h2
  cases h2 with
  | bad h b => exact absurd ⟨o, a⟩ b
  | put _ _ h => rcases h with h | h; (rw [h0] at h; cases h); omega
  | full _ _ h => have := h _ (get_all s.g.ok hy0); rw [hd0] at this; cases this
  | place _ _ _ _ hy hdy => exact ⟨rfl, h3, ⟨_, hy, hdy, rfl⟩, rfl⟩
theorem CaS.put_bad {m n k : Nat} {C : CaM} {D : Dev} (s : CaS m n k C D) (hk : k < 4611686018427380000) (hn : n ≤ 40) {x : EntM} (o : x.ok m) (a : aboveV x.ve x.vs C.k.e C.k.s = false) :
    C.put D x = (1, C, D) := by
  have hb := o.blk
  rw [← s.g.bl] at hb
  have h8 := o.data
  unfold CaM.put
  rw [if_neg (by unfold inB; rw [within3_t (by omega)]; simp), if_neg (by omega), if_pos (by unfold badPut; rw [a]; rfl)]
theorem crash_same {D : Dev} {N : Nat} (h : Up D N) (he : D.es = []) (ks : Keeps) : D.crash ks = D := by
  have h1 : D.pending = [] := by unfold Dev.pending; rw [he]; simp
  have h2 := h.live
  have h3 := h.fuse
  unfold Dev.crash
  rw [h1, crashL_nil]
  cases D
  dsimp only at *
  subst he; subst h2; subst h3; rfl
def aw (b s : Int) (d : Bool) : EntM := ⟨b, 1, s, [97, 98, 99, 100, 101, 102, 103, 104], d, 1, s⟩
theorem aw_ok {b s : Int} {d : Bool} (hb : 0 ≤ b ∧ b < 4) (hs : 1 ≤ s ∧ s ≤ 9) : (aw b s d).ok 4 :=
  ⟨hb, by show (1 : Int) ≤ 1 ∧ (1 : Int) ≤ _; omega, by show 1 ≤ s ∧ s ≤ _; omega, rfl, by show (-1 : Int) ≤ 1 ∧ (1 : Int) ≤ 3; omega, by show 0 ≤ s ∧ s ≤ _; omega⟩
/-- How a cache stands in the first calls. -/
structure AwS (k : Nat) (f : Int → Option EntM) (q : KeptM) (C : CaM) (D : Dev) : Prop where
  s : CaS 4 8 k C D
  f : aget C.en = f
  q : C.k = q
def awf1 : Int → Option EntM := updE (fun _ => none) (aw 0 1 true)
def awf2 : Int → Option EntM := updE awf1 (aw 1 2 true)
def awf3 : Int → Option EntM := updE awf2 (aw 0 1 false)
def awf4 : Int → Option EntM := updE (delE awf3 0) (aw 2 3 true)
def awk (s : Int) : KeptM := ⟨1, s, ⟨0, s, 0, 0⟩⟩
theorem aw_a {C : CaM} {D : Dev} (s : CaS 4 8 1 C D) (hv : C.view = zeroV) : (C.put D (aw 0 1 true)).1 = 0 ∧ AwS 201 awf1 (awk 1) (C.put D (aw 0 1 true)).2.1 (C.put D (aw 0 1 true)).2.2 := by
  have hen : aget C.en = fun _ => none := congrArg CaV.en hv
  have hkk : C.k = ⟨0, 0, ⟨0, 0, 0, 0⟩⟩ := congrArg CaV.k hv
  have hl : C.en.length = 0 := by rw [s.cnt, hen]; rfl
  obtain ⟨h1, h2, h3, h4⟩ := s.put_new (by decide) (by decide) (x := aw 0 1 true) (aw_ok (by decide) (by decide)) (by rw [hkk]; rfl) (.inr (by omega))
  exact ⟨h1, h2, by rw [h3, hen]; rfl, by rw [h4, hkk]; rfl⟩
theorem aw_b {C : CaM} {D : Dev} (a : AwS 201 awf1 (awk 1) C D) : (C.put D (aw 1 2 true)).1 = 0 ∧ AwS 401 awf2 (awk 2) (C.put D (aw 1 2 true)).2.1 (C.put D (aw 1 2 true)).2.2 := by
  have hl : C.en.length = 1 := by rw [a.s.cnt, a.f]; rfl
  obtain ⟨h1, h2, h3, h4⟩ := a.s.put_new (by decide) (by decide) (x := aw 1 2 true) (aw_ok (by decide) (by decide)) (by rw [a.q]; rfl) (.inr (by omega))
  exact ⟨h1, h2, by rw [h3, a.f]; rfl, by rw [h4, a.q]; rfl⟩
theorem awf_some {f : Int → Option EntM} {i : Int} {x y : EntM} (h : updE f x i = some y) : (i = x.blk ∧ y = x) ∨ f i = some y := by
  unfold updE at h
  split at h
  · rename_i e; exact .inl ⟨e, (Option.some.inj h).symm⟩
  · exact .inr h
theorem aw_c {C : CaM} {D : Dev} (a : AwS 401 awf2 (awk 2) C D) : (C.put D (aw 2 3 true)).1 = 12 ∧ (C.put D (aw 2 3 true)).2.1 = C ∧ AwS 601 awf2 (awk 2) C (C.put D (aw 2 3 true)).2.2 := by
  have hl : C.en.length = 2 := by rw [a.s.cnt, a.f]; rfl
  obtain ⟨h1, h2, h3⟩ := a.s.put_full (by decide) (by decide) (x := aw 2 3 true) (aw_ok (by decide) (by decide)) (by rw [a.q]; rfl) (by rw [a.f]; rfl) (by omega) (fun y hy => by
    rw [a.f] at hy
    rcases awf_some hy with ⟨_, rfl⟩ | hy
    · rfl
    · rcases awf_some hy with ⟨_, rfl⟩ | hy
      · rfl
      · cases hy)
  exact ⟨h1, h2, h3, a.f, a.q⟩
theorem CaS.clean_did {m n k : Nat} {C : CaM} {D : Dev} (s : CaS m n k C D) (hk : k < 4611686018427380000) (hn : n ≤ 40) {y : EntM} (hy : aget C.en y.blk = some y) (hd : y.dirty = true) :
    (C.clean D y.blk y.ve y.vs).1 = 0 ∧ CaS m n (k + 200) (C.clean D y.blk y.ve y.vs).2.1 (C.clean D y.blk y.ve y.vs).2.2 ∧ aget (C.clean D y.blk y.ve y.vs).2.1.en = updE (aget C.en) { y with dirty := false } ∧ (C.clean D y.blk y.ve y.vs).2.1.k = C.k := by
  obtain ⟨h1, h2, h3⟩ := s.clean hk hn y.blk y.ve y.vs
  have h4 := h1.s
  revert h2
  generalize (C.clean D y.blk y.ve y.vs).1 = e at *
  generalize hf : aget (C.clean D y.blk y.ve y.vs).2.1.en = f at *
  intro h2
  cases h2 with
  | none h => exact absurd ⟨rfl, rfl⟩ (h y hy)
  | was hy2 _ hd2 => rw [hy] at hy2; cases hy2; rw [hd] at hd2; cases hd2
  | did hy2 => rw [hy] at hy2; cases hy2; exact ⟨rfl, h4, rfl, h3⟩
theorem aw_d {C : CaM} {D : Dev} (a : AwS 601 awf2 (awk 2) C D) : (C.clean D 0 1 1).1 = 0 ∧ AwS 801 awf3 (awk 2) (C.clean D 0 1 1).2.1 (C.clean D 0 1 1).2.2 := by
  obtain ⟨h1, h2, h3, h4⟩ := a.s.clean_did (by decide) (by decide) (y := aw 0 1 true) (by rw [a.f]; rfl) rfl
  exact ⟨h1, h2, by rw [show aget (C.clean D 0 1 1).2.1.en = _ from h3, a.f]; rfl, h4.trans a.q⟩
theorem aw_e {C : CaM} {D : Dev} (a : AwS 801 awf3 (awk 2) C D) : (C.put D (aw 2 3 true)).1 = 0 ∧ AwS 1001 awf4 (awk 3) (C.put D (aw 2 3 true)).2.1 (C.put D (aw 2 3 true)).2.2 := by
  have hl : C.en.length = 2 := by rw [a.s.cnt, a.f]; rfl
  obtain ⟨h1, h2, ⟨y, hy, hyd, h3⟩, h4⟩ := a.s.put_place (by decide) (by decide) (x := aw 2 3 true) (aw_ok (by decide) (by decide)) (by rw [a.q]; rfl) (by rw [a.f]; rfl) (by omega) (y0 := aw 0 1 false) (by rw [a.f]; rfl) rfl
  have hyb : y.blk = 0 := by
    rw [a.f] at hy
    rcases awf_some hy with ⟨h, _⟩ | hy
    · exact h
    · rcases awf_some hy with ⟨_, rfl⟩ | hy
      · cases hyd
      · rcases awf_some hy with ⟨h, _⟩ | hy
        · exact h
        · cases hy
  rw [hyb] at h3
  exact ⟨h1, h2, by rw [h3, a.f]; rfl, by rw [h4, a.q]; rfl⟩
theorem aw_f {C : CaM} {D : Dev} (a : AwS 1001 awf4 (awk 3) C D) : C.put D (aw 1 3 true) = (1, C, D) :=
  a.s.put_bad (by decide) (by decide) (aw_ok (by decide) (by decide)) (by rw [a.q]; rfl)
theorem aw_g {C : CaM} {D : Dev} (a : AwS 1001 awf4 (awk 3) C D) : D.barrier.1 = 0 ∧ ∃ C' D', caOpen (D.barrier.2.crash []) 2 8 0 1 4 = (0, C', D') ∧ AwS 1002 awf4 (awk 3) C' D' := by
  obtain ⟨h1, -, h3⟩ := a.s.sync
  have h4 : CaS 4 8 1001 C D.barrier.2 := h3
  have hc : D.barrier.2.crash [] = D.barrier.2 := crash_same h4.g.ld.up (barrier_live h1).2 []
  obtain ⟨C', D', e1, e2, e3⟩ := h4.opened (by decide)
  exact ⟨h1, C', D', by rw [hc]; exact e1, e2, (congrArg CaV.en e3).trans a.f, (congrArg CaV.k e3).trans a.q⟩
theorem aw_all {k : Nat} {C : CaM} {D : Dev} (a : AwS k awf4 (awk 3) C D) : C.all.length = 2 := by
  rw [all_cnt, a.f, a.s.g.bl]; rfl
end Go.Sl
namespace Go.Sl
open Go.ChangeShapes Go.WideShapes Go.ChangeAt Go.RowKit Go.Deep
set_option linter.unusedSimpArgs false
structure ActC where
  kind : Int
  n : Int
  x : EntM
  tv : Value
  ts : List Int
  s : Bytes
  kv : Value
  ks : Keeps
def ActC.cells (a : ActC) : List Value := [iV a.kind, iV a.n, iV a.x.blk, iV a.x.ve, iV a.x.vs, sV a.x.data, .bool a.x.dirty, iV a.x.cl, iV a.x.n, a.tv, sV a.s, a.kv]
structure ActC.ok [Env] (R : List Seg) (a : ActC) : Prop where
  nums : RdV R a.tv a.ts.length (intsV a.ts)
  keeps : RdV R a.kv a.ks.length (keepsV a.ks)
  n : -9223372036854775808 ≤ a.n ∧ a.n ≤ 9223372036854775807
theorem ActC.ok.mono [Env] {R R' : List Seg} {a : ActC} (h : a.ok R) (hg : Ge R' R) : a.ok R' := ⟨h.nums.mono hg, h.keeps.mono hg, h.n⟩
def actcsV (l : List ActC) : List Value := (l.map ActC.cells).flatten
theorem actcsV_get {l : List ActC} {i : Nat} {a : ActC} (h : l[i]? = some a) : ((actcsV l).drop (i * 12)).take 12 = a.cells := flat_at (f := ActC.cells) (k := 12) (fun _ => rfl) l i a h
theorem ActC.ok.one [Env] {R : List Seg} {a : ActC} (h : a.ok R) : ∀ u ∈ a.cells, u.oneCell' = true := by
  intro u hu
  obtain ⟨b1, c1, e1⟩ := h.keeps.lenVal
  obtain ⟨b2, c2, e2⟩ := h.nums.lenVal
  simp only [ActC.cells, List.mem_cons, List.not_mem_nil, or_false] at hu
  rcases hu with rfl | rfl | rfl | rfl | rfl | rfl | rfl | rfl | rfl | rfl | rfl | rfl
  all_goals first | rfl | (rw [e1]; rfl) | (rw [e2]; rfl)
theorem sV_inj {a b : Bytes} : (Value.string ⟨a.toArray⟩ = Value.string ⟨b.toArray⟩) = (a = b) := by
  apply propext
  constructor
  · intro h; simpa using h
  · rintro rfl; rfl
theorem ent_inj {x y : EntM} : (x.cells = y.cells) = (x = y) := by
  apply propext
  constructor
  · intro h
    cases x; cases y
    simp only [EntM.cells, iV, sV, List.cons.injEq, Value.int.injEq, true_and, sV_inj, Value.bool.injEq, and_true] at h
    obtain ⟨rfl, rfl, rfl, rfl, rfl, rfl, rfl⟩ := h
    rfl
  · rintro rfl; rfl
end Go.Sl
namespace Go.Sl
open Go.ChangeShapes Go.WideShapes Go.ChangeAt Go.RowKit Go.Deep
set_option linter.unusedSimpArgs false
section
variable {H : Type} {enc : TypeId × Value → H} {P : Program} {W : World} {base : Nat} {spare : Nat → Bool} {held : Bool}
theorem open_ints {t e fuel : Nat} {cs : List Value} {x : DataW H × List MemPlace} (ht : P.underlying t = some (.slice e)) (he : P.underlying e = some (.int .i64)) (hC : P.cellsOf e = 1) (h : DataW.trod enc P W base spare held fuel t cs = some x) :
    ∃ v ns, cs = [v] ∧ @RdV (envAt W) [baseSeg W] v ns.length (intsV ns) ∧ ns.length ≤ maxLen := by
  obtain ⟨v, l, h1, h2, _, h3⟩ := open_sl (f := fun b : Int => [Value.int .i64 b]) (ok := fun _ => True) ht hC (by omega) (fun _ => rfl) (fun n cs' y hy => by
    obtain ⟨i, hi, _⟩ := open_i64 he hy
    exact ⟨i, hi, trivial⟩) h
  refine ⟨v, l, h1, ?_, h3⟩
  rw [flat1] at h2
  exact h2
theorem open_bl {e n : Nat} {cs : List Value} {y : DataW H × List MemPlace} (he : P.underlying e = some .bool) (h : DataW.trod enc P W base spare held n e cs = some y) : ∃ b : Bool, cs = [.bool b] := by
  obtain ⟨s, hs, _⟩ := DataW.trod_bool he h
  exact ⟨s, hs⟩
theorem open_ver {e n : Nat} {cs : List Value} {y : DataW H × List MemPlace} {f0 f1 : Field} (he : P.underlying e = some (.struct #[f0, f1])) (hat : fieldsAt P #[f0, f1] [(0, 1), (1, 1)] = true) (hC : P.cellsOf e = 2)
    (h0 : P.underlying f0.type = some (.int .i64)) (h1 : P.underlying f1.type = some (.int .i64)) (h : DataW.trod enc P W base spare held n e cs = some y) : ∃ a b : Int, cs = [iV a, iV b] := by
  obtain ⟨xs, n', _, _, hl, hxl, hf⟩ := DataW.trod_struct he h
  rw [hC] at hl
  match cs, hl with
  | [c0, c1], _ =>
    have F := open_fld hat hf (by simpa using hxl)
    obtain ⟨_, q0⟩ := F 0 f0 0 1 rfl rfl
    obtain ⟨_, q1⟩ := F 1 f1 1 1 rfl rfl
    obtain ⟨n0, e0, -⟩ := open_i64 h0 q0
    obtain ⟨n1, e1, -⟩ := open_i64 h1 q1
    simp at e0 e1
    subst e0 e1
    exact ⟨n0, n1, rfl⟩
theorem open_ent {e n : Nat} {cs : List Value} {y : DataW H × List MemPlace} {f0 f1 f2 f3 f4 f5 : Field} (he : P.underlying e = some (.struct #[f0, f1, f2, f3, f4, f5])) (hat : fieldsAt P #[f0, f1, f2, f3, f4, f5] [(0, 1), (1, 2), (3, 1), (4, 1), (5, 1), (6, 1)] = true) (hC : P.cellsOf e = 7)
    (h0 : P.underlying f0.type = some (.int .i64)) (h1 : ∀ n cs y, DataW.trod enc P W base spare held n f1.type cs = some y → ∃ a b : Int, cs = [iV a, iV b]) (h2 : P.underlying f2.type = some .string) (h3 : P.underlying f3.type = some .bool)
    (h4 : P.underlying f4.type = some (.int .i64)) (h5 : P.underlying f5.type = some (.int .i64)) (h : DataW.trod enc P W base spare held n e cs = some y) : ∃ x : EntM, cs = x.cells := by
  obtain ⟨xs, n', _, _, hl, hxl, hf⟩ := DataW.trod_struct he h
  rw [hC] at hl
  match cs, hl with
  | [c0, c1, c2, c3, c4, c5, c6], _ =>
    have F := open_fld hat hf (by simpa using hxl)
    obtain ⟨_, q0⟩ := F 0 f0 0 1 rfl rfl
    obtain ⟨_, q1⟩ := F 1 f1 1 2 rfl rfl
    obtain ⟨_, q2⟩ := F 2 f2 3 1 rfl rfl
    obtain ⟨_, q3⟩ := F 3 f3 4 1 rfl rfl
    obtain ⟨_, q4⟩ := F 4 f4 5 1 rfl rfl
    obtain ⟨_, q5⟩ := F 5 f5 6 1 rfl rfl
    obtain ⟨n0, e0, -⟩ := open_i64 h0 q0
    obtain ⟨a, b, e1⟩ := h1 _ _ _ q1
    obtain ⟨s2, e2⟩ := open_str h2 q2
    obtain ⟨b3, e3⟩ := open_bl h3 q3
    obtain ⟨n4, e4, -⟩ := open_i64 h4 q4
    obtain ⟨n5, e5, -⟩ := open_i64 h5 q5
    simp at e0 e1 e2 e3 e4 e5
    obtain ⟨e1, e1'⟩ := e1
    subst e0 e1 e1' e2 e3 e4 e5
    exact ⟨⟨n0, a, b, s2, b3, n4, n5⟩, rfl⟩
theorem open_actc {e n : Nat} {cs : List Value} {y : DataW H × List MemPlace} {f0 f1 f2 f3 f4 f5 g0 g1 : Field} {k ts te : TypeId} (he : P.underlying e = some (.struct #[f0, f1, f2, f3, f4, f5])) (hat : fieldsAt P #[f0, f1, f2, f3, f4, f5] [(0, 1), (1, 1), (2, 7), (9, 1), (10, 1), (11, 1)] = true) (hC : P.cellsOf e = 12)
    (h0 : P.underlying f0.type = some (.int .i64)) (h1 : P.underlying f1.type = some (.int .i64))
    (h2 : ∀ n cs y, DataW.trod enc P W base spare held n f2.type cs = some y → ∃ x : EntM, cs = x.cells)
    (h3 : P.underlying f3.type = some (.slice te)) (hte : P.underlying te = some (.int .i64)) (hCt : P.cellsOf te = 1) (h4 : P.underlying f4.type = some .string)
    (h5 : P.underlying f5.type = some (.slice k)) (hk : P.underlying k = some (.struct #[g0, g1])) (honek : oneCellFields P #[g0, g1] = true) (hCk : P.cellsOf k = 2) (hg0 : P.underlying g0.type = some (.int .i64)) (hg1 : P.underlying g1.type = some (.int .i64))
    (h : DataW.trod enc P W base spare held n e cs = some y) : ∃ a : ActC, cs = a.cells ∧ @ActC.ok (envAt W) [baseSeg W] a := by
  obtain ⟨xs, n', _, _, hl, hxl, hf⟩ := DataW.trod_struct he h
  rw [hC] at hl
  have F := open_fld hat hf (by simpa using hxl)
  obtain ⟨_, q0⟩ := F 0 f0 0 1 rfl rfl
  obtain ⟨_, q1⟩ := F 1 f1 1 1 rfl rfl
  obtain ⟨_, q2⟩ := F 2 f2 2 7 rfl rfl
  obtain ⟨_, q3⟩ := F 3 f3 9 1 rfl rfl
  obtain ⟨_, q4⟩ := F 4 f4 10 1 rfl rfl
  obtain ⟨_, q5⟩ := F 5 f5 11 1 rfl rfl
  obtain ⟨n0, e0, -⟩ := open_i64 h0 q0
  obtain ⟨n1, e1, b1⟩ := open_i64 h1 q1
  obtain ⟨x, e2⟩ := h2 _ _ _ q2
  obtain ⟨tv, ns, e3, htt, _⟩ := open_ints h3 hte hCt q3
  obtain ⟨s4, e4⟩ := open_str h4 q4
  obtain ⟨kv, ks, e5, hkk, _⟩ := open_keeps h5 hk honek hCk hg0 hg1 q5
  refine ⟨⟨n0, n1, x, tv, ns, s4, kv, ks⟩, ?_, @ActC.ok.mk (envAt W) _ _ htt hkk b1⟩
  match cs, hl with
  | [c0, c1, c2, c3, c4, c5, c6, c7, c8, c9, c10, c11], _ =>
    simp [EntM.cells] at e0 e1 e2 e3 e4 e5
    obtain ⟨g0, g1, g2, g3, g4, g5, g6⟩ := e2
    subst e0 e1 e3 e4 e5 g0 g1 g2 g3 g4 g5 g6
    rfl
end
end Go.Sl
