/- A part of the proof: contracts and plain lemmas, each without conditions beyond those that it names. -/
import Derived.Test.YtnedokioglfipaaSlB
set_option linter.unusedVariables false
set_option linter.unusedSimpArgs false
set_option linter.constructorNameAsVariable false
namespace Go.Sl
set_option linter.unusedSimpArgs false

/-- The rest of a region, from what is known of the frame and of memory. -/
def Sy [Env] (P : Program) (ops : Array Oper) (n : Nat) (rest : List Oper) (Q : Exit → Act → World → Prop) (l : List (Nat × Value)) (L : List Seg) : Prop :=
  ∀ a w, Fr n l a → Has w L → wpList P ops Q rest a w
/-- Code, likewise. -/
def Sc [Env] (P : Program) (n : Nat) (c : Code) (Q : Exit → Act → World → Prop) (l : List (Nat × Value)) (L : List Seg) : Prop :=
  ∀ a w, Fr n l a → Has w L → c.wp P Q a w
/-- What comes behind, likewise. -/
def Sk [Env] (n : Nat) (K : Act → World → Prop) (l : List (Nat × Value)) (L : List Seg) : Prop :=
  ∀ a w, Fr n l a → Has w L → K a w

section
variable {P : Program} {ops : Array Oper} {n : Nat} {rest : List Oper} {Q : Exit → Act → World → Prop} {l : List (Nat × Value)} {L : List Seg}
variable {d : Tmp} {op : Op} {ty : TypeId} {pos : String} {af : Array Edge}

theorem wp_left {o : Oper} {a : Act} {w : World} (hg : o.guard = none) (h : o.wp P a w (wpList P ops Q rest) Q) : wpList P ops Q (o :: rest) a w := by
  unfold wpList; rw [if_pos (by simp [Region.wanted, hg])]; exact .inl h

/-- An operation that only looks. -/
theorem y [Env] {v : Value} (he : Ev P n ⟨some d, op, ty, pos, af, none⟩ l L v) (hd : Nat.blt d n = true)
    (k : Sy P ops n rest Q ((d, v) :: l) L) : Sy P ops n (⟨some d, op, ty, pos, af, none⟩ :: rest) Q l L := by
  intro a w hf hh
  refine wp_left rfl ?_
  unfold Oper.wp
  rw [he a w hf hh]
  exact k _ w (hf.put hd v) hh

theorem y0 [Env] {v : Value} (he : Ev P n ⟨none, op, ty, pos, af, none⟩ l L v)
    (k : Sy P ops n rest Q l L) : Sy P ops n (⟨none, op, ty, pos, af, none⟩ :: rest) Q l L := by
  intro a w hf hh
  refine wp_left rfl ?_
  unfold Oper.wp
  rw [he a w hf hh]
  exact k _ w hf hh

/-! guards -/
def guardTmp (ops : Array Oper) (j : Nat) : Option Tmp := (ops[j]?).bind (·.dst)
theorem yielded_of {a : Act} {j t : Nat} {b : Bool} (hj : guardTmp ops j = some t) (hf : Fr n l a) (hl : look l t = some (.bool b)) : yielded ops a.tmps j = some b := by
  unfold guardTmp at hj
  have h := hf.get t _ hl
  unfold yielded
  rw [hj]
  simp only [Option.bind_some]
  cases hc : a.tmps[t]? with
  | none =>
    have hle := Array.getElem?_eq_none_iff.1 hc
    simp [Nat.not_lt.2 hle, undef] at h
  | some u =>
    have : u = .bool b := by
      obtain ⟨h1, h2⟩ := Array.getElem?_eq_some_iff.1 hc
      simp [Array.getD, h1, h2] at h; exact h
    simp [this]
/-- The guard says yes. -/
theorem yg1 [Env] {dd : Option Tmp} {j t : Nat} {b : Bool} (hj : guardTmp ops j = some t) (hl : look l t = some (.bool b))
    (k : Sy P ops n (⟨dd, op, ty, pos, af, none⟩ :: rest) Q l L) : Sy P ops n (⟨dd, op, ty, pos, af, some (j, b)⟩ :: rest) Q l L := by
  intro a w hf hh
  have h := k a w hf hh
  unfold wpList at h ⊢
  rw [if_pos (by simp [Region.wanted])] at h
  rw [if_pos (by simp [Region.wanted, yielded_of hj hf hl])]
  rcases h with h | h
  · exact .inl h
  · exact .inr h
/-- The guard says no. -/
theorem yg0 [Env] {j t : Nat} {b c : Bool} (hj : guardTmp ops j = some t) (hl : look l t = some (.bool b)) (hb : (b == c) = false) (hd : Nat.blt d n = true)
    (k : Sy P ops n rest Q ((d, undef) :: l) L) : Sy P ops n (⟨some d, op, ty, pos, af, some (j, c)⟩ :: rest) Q l L := by
  intro a w hf hh
  unfold wpList
  rw [if_neg (by simp [Region.wanted, yielded_of hj hf hl]; intro e; subst e; simp at hb)]
  exact k _ w (hf.put hd undef) hh
theorem yg0n [Env] {j t : Nat} {b c : Bool} (hj : guardTmp ops j = some t) (hl : look l t = some (.bool b)) (hb : (b == c) = false)
    (k : Sy P ops n rest Q l L) : Sy P ops n (⟨none, op, ty, pos, af, some (j, c)⟩ :: rest) Q l L := by
  intro a w hf hh
  unfold wpList
  rw [if_neg (by simp [Region.wanted, yielded_of hj hf hl]; intro e; subst e; simp at hb)]
  exact k _ w hf hh
theorem yielded_undef {a : Act} {j t : Nat} (hj : guardTmp ops j = some t) (hf : Fr n l a) (hl : look l t = some undef) : yielded ops a.tmps j = none := by
  unfold guardTmp at hj
  have h := hf.get t _ hl
  unfold yielded
  rw [hj]
  simp only [Option.bind_some]
  cases hc : a.tmps[t]? with
  | none => rfl
  | some u =>
    have : u = undef := by
      obtain ⟨h1, h2⟩ := Array.getElem?_eq_some_iff.1 hc
      simp [Array.getD, h1, h2] at h; exact h
    subst this
    rfl
/-- The guard itself was passed by. -/
theorem yg0u [Env] {j t : Nat} {c : Bool} (hj : guardTmp ops j = some t) (hl : look l t = some undef) (hd : Nat.blt d n = true)
    (k : Sy P ops n rest Q ((d, undef) :: l) L) : Sy P ops n (⟨some d, op, ty, pos, af, some (j, c)⟩ :: rest) Q l L := by
  intro a w hf hh
  unfold wpList
  rw [if_neg (by simp [Region.wanted, yielded_undef hj hf hl])]
  exact k _ w (hf.put hd undef) hh
theorem yg0nu [Env] {j t : Nat} {c : Bool} (hj : guardTmp ops j = some t) (hl : look l t = some undef)
    (k : Sy P ops n rest Q l L) : Sy P ops n (⟨none, op, ty, pos, af, some (j, c)⟩ :: rest) Q l L := by
  intro a w hf hh
  unfold wpList
  rw [if_neg (by simp [Region.wanted, yielded_undef hj hf hl])]
  exact k _ w hf hh
/-- A slot's bool, both ways. -/
theorem ysplit [Env] {rest : List Oper} (t : Nat) {b : Bool} (hl : look l t = some (.bool b)) (h1 : b = true → Sy P ops n rest Q ((t, .bool true) :: l) L) (h0 : b = false → Sy P ops n rest Q ((t, .bool false) :: l) L) :
    Sy P ops n rest Q l L := by
  intro a w hf hh
  have same : ∀ c : Bool, b = c → Fr n ((t, .bool c) :: l) a := by
    rintro c rfl
    refine ⟨hf.size, hf.defers, fun u v hu => ?_⟩
    by_cases e : Nat.beq t u = true
    · have : t = u := by simpa using e
      subst this
      simp only [look, e, cond_true] at hu
      exact hf.get t v (hl.trans hu)
    · simp only [look, e, cond_false] at hu
      exact hf.get u v hu
  cases b
  · exact h0 rfl a w (same false rfl) hh
  · exact h1 rfl a w (same true rfl) hh

theorem ynil [Env] {K : Act → World → Prop} (k : Sk n K l L) : Sy P ops n [] (Exit.then K Q) l L := fun a w hf hh => k a w hf hh
theorem ynil' [Env] (k : Sk n (Q .normal) l L) : Sy P ops n [] Q l L := fun a w hf hh => k a w hf hh

/-! code -/
theorem cseq [Env] {x z : Code} (h : ∀ K : Act → World → Prop, (∀ l L, Sc P n z Q l L → Sk n K l L) → Sc P n x (Exit.then K Q) l L) : Sc P n (.seq x z) Q l L :=
  fun a w hf hh => wp_seq (h (z.wp P Q) (fun _ _ h => h) a w hf hh)
theorem creg [Env] {id : Nat} {os : List Oper} (h : Sy P os.toArray n os Q l L) : Sc P n (.region id os.toArray false) Q l L :=
  fun a w hf hh => wp_region_lit (h a w hf hh)
theorem ccond [Env] {c : Operand} {x z : Code} {b : Bool} (hc : ev l c = some (.bool b)) (h1 : b = true → Sc P n x Q l L) (h0 : b = false → Sc P n z Q l L) : Sc P n (.cond c x z) Q l L :=
  fun a w hf hh => wp_cond_split (hf.ev hc) (fun e => h1 e a w hf hh) (fun e => h0 e a w hf hh)
theorem cskip [Env] {K : Act → World → Prop} (k : Sk n K l L) : Sc P n .skip (Exit.then K Q) l L := fun a w hf hh => wp_skip (k a w hf hh)
theorem cskip' [Env] (k : Sk n (Q .normal) l L) : Sc P n .skip Q l L := fun a w hf hh => wp_skip (k a w hf hh)
theorem cblock [Env] {id : Nat} {c : Code} (h : Sc P n c (Exit.inBlock id Q) l L) : Sc P n (.block id c) Q l L := fun a w hf hh => wp_block (h a w hf hh)
theorem cexit [Env] {id : Nat} (k : Sk n (Q (.exit id)) l L) : Sc P n (.exit id) Q l L := fun a w hf hh => wp_exit (k a w hf hh)
theorem cret [Env] (k : Sk n (Q .ret) l L) : Sc P n .ret Q l L := fun a w hf hh => wp_ret (k a w hf hh)

theorem csub [Env] {c : Code} {l' : List (Nat × Value)} {L' : List Seg} (hl : sub l l') (hL : Ge L L') (h : Sc P n c Q l' L') : Sc P n c Q l L :=
  fun a w hf hh => h a w (hf.sub hl) (hL.has hh)
theorem ksub [Env] {K : Act → World → Prop} {l' : List (Nat × Value)} {L' : List Seg} (hl : sub l l') (hL : Ge L L') (h : Sk n K l' L') : Sk n K l L :=
  fun a w hf hh => h a w (hf.sub hl) (hL.has hh)
theorem cre [Env] {c : Code} {L' : List Seg} (hL : L.flatten = L'.flatten) (h : Sc P n c Q l L') : Sc P n c Q l L :=
  fun a w hf hh => h a w hf (hh.re hL)
theorem yre [Env] {L' : List Seg} (hL : L.flatten = L'.flatten) (h : Sy P ops n rest Q l L') : Sy P ops n rest Q l L :=
  fun a w hf hh => h a w hf (hh.re hL)
theorem kre [Env] {K : Act → World → Prop} {L' : List Seg} (hL : L.flatten = L'.flatten) (h : Sk n K l L') : Sk n K l L :=
  fun a w hf hh => h a w hf (hh.re hL)
theorem ypk [Env] {s : Seg} {L' : List Seg} (hL : Pk L s L') (h : Sy P ops n rest Q l (s :: L')) : Sy P ops n rest Q l L :=
  fun a w hf hh => h a w hf (hL.has hh)
theorem cpk [Env] {c : Code} {s : Seg} {L' : List Seg} (hL : Pk L s L') (h : Sc P n c Q l (s :: L')) : Sc P n c Q l L :=
  fun a w hf hh => h a w hf (hL.has hh)

/-- A loop: 'A' is what a round's head is told by; 'F', 'M' its frame and its memory. -/
theorem cloop [Env] {A : Type} {c : Code} (F : A → List (Nat × Value)) (M : A → List Seg) (I : A → Prop) (μ : A → Nat) (x0 : A) (h0 : I x0) (hl : sub l (F x0)) (hL : Ge L (M x0))
    (round : ∀ x, I x → ∀ K : Act → World → Prop, (∀ z, I z → μ z < μ x → ∀ l' L', sub l' (F z) → Ge L' (M z) → Sk n K l' L') → Sc P n c (Exit.then K Q) (F x) (M x)) :
    Sc P n (.loop c) Q l L := by
  intro a w hf hh b k cs
  have key : ∀ m, ∀ x, μ x = m → I x → ∀ a w, Fr n (F x) a → Has w (M x) →
      ∃ e a' w', Q e a' w' ∧ Arrives P (lone (b.at a (.code c :: .inLoop c :: k)) cs w) b k cs e a' w' := by
    intro m
    induction m using Nat.strongRecOn with
    | _ m ih =>
      intro x hx hI a w hf hh
      obtain ⟨e, a₁, w₁, hq, harr⟩ := round x hI (fun a w => ∃ z, I z ∧ μ z < μ x ∧ Fr n (F z) a ∧ Has w (M z))
        (fun z hz hlt l' L' h1 h2 a w hf hh => ⟨z, hz, hlt, hf.sub h1, h2.has hh⟩) a w hf hh b (.inLoop c :: k) cs
      cases e with
      | normal =>
        obtain ⟨z, hz, hlt, hfz, hhz⟩ := hq
        obtain ⟨e₂, a₂, w₂, hq₂, harr₂⟩ := ih (μ z) (hx ▸ hlt) z rfl hz a₁ w₁ hfz hhz
        exact ⟨e₂, a₂, w₂, hq₂, .of_steps (Steps.trans harr (.one step_inLoop)) harr₂⟩
      | exit id => exact ⟨_, a₁, w₁, hq, .pass (x := .inLoop c) rfl (fun _ _ => .inl (by simp)) harr⟩
      | goto id => exact ⟨_, a₁, w₁, hq, .pass (x := .inLoop c) rfl (fun _ _ => .inl (by simp)) harr⟩
      | ret => exact ⟨_, a₁, w₁, hq, .pass (x := .inLoop c) rfl (fun _ _ => .inl (by simp)) harr⟩
      | panic ch => exact ⟨_, a₁, w₁, hq, .pass (x := .inLoop c) rfl (fun _ _ => .inl (by simp)) harr⟩
      | outgrown => exact ⟨_, a₁, w₁, hq, .pass (x := .inLoop c) rfl (fun _ _ => .inl (by simp)) harr⟩
  obtain ⟨e, a', w', hq, harr⟩ := key _ x0 rfl h0 a w (hf.sub hl) (hL.has hh)
  exact ⟨e, a', w', hq, .of_steps (.one step_loop) harr⟩
end
end Go.Sl
