/- A part of the proof: contracts and plain lemmas, each without conditions beyond those that it names. -/
import Derived.Test.YtnedokioglfipaaSlF
import Derived.StillTail
set_option linter.unusedVariables false
set_option linter.unusedSimpArgs false
set_option linter.constructorNameAsVariable false
namespace Go.Sl
set_option linter.unusedSimpArgs false

/-! ### regions that draw their order: readers may be taken first as long as 'S' is held; actors come up alone; a chain ends it -/
section
variable {P : Program} {ops : Array Oper} {md : Region.Mode} {Q : Exit → Act → World → Prop} {S : World → Prop}

def wpAnyM (P : Program) (md : Region.Mode) (ops : Array Oper) (Q : Exit → Act → World → Prop) (S : World → Prop) (n : Nat) (Lq : Array Bool → Act → World → Prop) : Nat → Array Bool → Act → World → Prop
  | 0, listed, a, w => Lq listed a w
  | f + 1, listed, a, w => Region.ready md ops listed ≠ [] ∧
      ∀ i ∈ Region.ready md ops listed, i < n ∧ wpOp P ops Q i (fun a' w' => S w' ∧ wpAnyM P md ops Q S n Lq f (listed.setIfInBounds i true) a' w') a w

theorem wpAny_of_M {n g : Nat} {Lq : Array Bool → Act → World → Prop} (hL : ∀ listed a w, Lq listed a w → wpAny P md ops Q g listed a w) :
    ∀ (f : Nat) (listed : Array Bool) (a : Act) (w : World), wpAnyM P md ops Q S n Lq f listed a w → wpAny P md ops Q (f + g) listed a w
  | 0, listed, a, w, h => by rw [Nat.zero_add]; exact hL _ _ _ h
  | f + 1, listed, a, w, h => by
    rw [show f + 1 + g = (f + g) + 1 by omega]
    exact ⟨fun h0 => absurd h0 h.1, fun i hi => wpOp_mono (fun a' w' h' => wpAny_of_M hL f _ a' w' h'.2) (h.2 i hi).2⟩

theorem wpAnyM_first {n i : Nat} {oi : Oper} {v : Value} {Lq : Array Bool → Act → World → Prop} (hi : ops[i]? = some oi) (hsel : ∀ (j : Nat) (o : Oper) cs b, ops[j]? = some o → o.op ≠ .select cs b)
    (hs : Region.sinkB md ops n = true) (hc : Region.chainB md ops n = true) (hn : n ≤ ops.size) (hin : i < n) (hQ : ∀ c a w, Q (.panic c) (a.put oi.dst v) w → Q (.panic c) a w)
    (hdone : ∀ listed a w, Lq listed a w → ∀ j ∈ Region.ready md ops listed, n ≤ j) :
    ∀ (f : Nat) (listed : Array Bool) (a : Act) (w : World), HeadInv md ops n listed →
      (∀ j oj, ops[j]? = some oj → j ≠ i → listed.getD j true = false → (∀ e ∈ oj.after, Region.binds md e = true → e.on ≠ i) → oi.apart ops oj = true) →
      i ∈ Region.ready md ops listed → YieldsIf P ops S oi v a → S w →
      wpAnyM P md ops Q S n Lq f (listed.setIfInBounds i true) (a.put oi.dst v) w → wpAnyM P md ops Q S n Lq (f + 1) listed a w := by
  have tw : ∀ (listed : Array Bool), HeadInv md ops n listed → i ∈ Region.ready md ops listed → ∀ j ∈ Region.ready md ops listed, j < n := by
    intro listed inv hr j hj
    have hun := (mem_ready.1 hr).1
    have hjs : j < ops.size := by obtain ⟨_, oj, hoj, _⟩ := mem_ready.1 hj; exact (Array.getElem?_eq_some_iff.1 hoj).1
    rcases Nat.lt_or_ge j n with h | h
    · exact h
    · exact absurd hj (tail_waits hs hc (by omega) inv _ i rfl hin hun j h)
  intro f
  induction f with
  | zero =>
    intro listed a w inv _ hr hy hS H
    refine ⟨fun h => (by rw [h] at hr; cases hr), fun j hj => ?_⟩
    have hjn := tw listed inv hr j hj
    refine ⟨hjn, ?_⟩
    by_cases hji : j = i
    · subst hji; exact hy.wpOp hi hS ⟨hS, H⟩
    · have := hdone _ _ _ H j (ready_mono hj hji)
      omega
  | succ f ih =>
    intro listed a w inv hfree hr hy hS H
    have hun := (mem_ready.1 hr).1
    refine ⟨fun h => (by rw [h] at hr; cases hr), fun j hj => ?_⟩
    have hjn := tw listed inv hr j hj
    refine ⟨hjn, ?_⟩
    by_cases hji : j = i
    · subst hji; exact hy.wpOp hi hS ⟨hS, H⟩
    · have h1 := (H.2 j (ready_mono hj hji)).2
      obtain ⟨hjun, oj, hoj, hall⟩ := mem_ready.1 hj
      have hnot : ∀ e ∈ oj.after, Region.binds md e = true → e.on ≠ i := fun e he hb heq => by
        have h1 := hall e he hb
        rw [heq, getD_both hun] at h1
        cases h1
      have h2 := wpOp_putIf hoj (hfree j oj hoj hji hjun hnot) (fun cs b => hsel i oi cs b hi) (fun cs b => hsel j oj cs b hoj) hQ hy h1
      have hfree' : ∀ k ok, ops[k]? = some ok → k ≠ i → (listed.setIfInBounds j true).getD k true = false →
          (∀ e ∈ ok.after, Region.binds md e = true → e.on ≠ i) → oi.apart ops ok = true := fun k ok hk hki hun hno => by
        refine hfree k ok hk hki ?_ hno
        by_cases hjk : j = k
        · subst hjk; exact hjun
        · rw [getD_set_ne true hjk] at hun; exact hun
      refine wpOp_mono (fun a' w' h3 => ⟨h3.2.1, ih (listed.setIfInBounds j true) a' w' (inv.set hj hjn) hfree' (ready_mono hr (Ne.symm hji)) h3.1 h3.2.1 ?_⟩) h2
      rw [Array.setIfInBounds_comm _ _ hji]
      exact h3.2.2

/-- The walk in the order that is told: readers (true), actors (false). -/
def wpHd (P : Program) (ops : Array Oper) (Q : Exit → Act → World → Prop) (S : World → Prop) (K : Act → World → Prop) : List (Nat × Bool) → Act → World → Prop
  | [], a, w => K a w
  | (i, true) :: π, a, w => ∃ oi v, ops[i]? = some oi ∧ YieldsIf P ops S oi v a ∧ wpHd P ops Q S K π (a.put oi.dst v) w
  | (i, false) :: π, a, w => wpOp P ops Q i (fun a' w' => S w' ∧ wpHd P ops Q S K π a' w') a w

def hdB (md : Region.Mode) (ops : Array Oper) (n : Nat) : List (Nat × Bool) → Array Bool → Bool
  | [], listed => Region.seqB md ops (ops.size - n) n listed
  | (i, true) :: π, listed => (Region.ready md ops listed).contains i && Region.free md ops listed i && decide (i < n) && hdB md ops n π (listed.setIfInBounds i true)
  | (i, false) :: π, listed => decide (Region.ready md ops listed = [i]) && decide (i < n) && hdB md ops n π (listed.setIfInBounds i true)

def hdOk (ops : Array Oper) (n : Nat) (π : List (Nat × Bool)) : Bool :=
  Region.noSelect ops && decide (n ≤ ops.size) && decide (π.length = n) && Region.sinkB .any ops n && Region.chainB .any ops n && hdB .any ops n π (Array.replicate ops.size false)

theorem wpAnyM_hd {n : Nat} {K : Act → World → Prop} (hsel : Region.noSelect ops = true) (hs : Region.sinkB md ops n = true) (hc : Region.chainB md ops n = true) (hn : n ≤ ops.size)
    (hQ : ∀ c a w, ¬ Q (.panic c) a w) :
    ∀ (π : List (Nat × Bool)) (listed : Array Bool) (a : Act) (w : World), HeadInv md ops n listed → hdB md ops n π listed = true → S w → wpHd P ops Q S K π a w →
    wpAnyM P md ops Q S n (fun listed' a' w' => Region.seqB md ops (ops.size - n) n listed' = true ∧ K a' w') π.length listed a w
  | [], listed, a, w, _, hB, _, h => ⟨hB, h⟩
  | (i, true) :: π, listed, a, w, inv, hB, hS, h => by
    simp only [hdB, Bool.and_eq_true, decide_eq_true_eq] at hB
    obtain ⟨⟨⟨hr, hf⟩, hin⟩, hB'⟩ := hB
    obtain ⟨oi, v, hoi, hy, hK⟩ := h
    have hr' : i ∈ Region.ready md ops listed := by simpa using hr
    exact wpAnyM_first hoi (Region.noSelect_spec hsel) hs hc hn hin (fun c a w h => absurd h (hQ c _ w)) (fun listed' a' w' hL => seqB_ready hL.1) π.length listed a w inv (Region.free_spec hoi hf) hr' hy hS
      (wpAnyM_hd hsel hs hc hn hQ π _ _ w (inv.set hr' hin) hB' hS hK)
  | (i, false) :: π, listed, a, w, inv, hB, hS, h => by
    simp only [hdB, Bool.and_eq_true, decide_eq_true_eq] at hB
    obtain ⟨⟨hr, hin⟩, hB'⟩ := hB
    have hr' : i ∈ Region.ready md ops listed := by rw [hr]; simp
    refine ⟨by rw [hr]; simp, fun j hj => ?_⟩
    rw [hr] at hj
    have : j = i := by simpa using hj
    subst this
    exact ⟨hin, wpOp_mono (fun a' w' h' => ⟨h'.1, wpAnyM_hd hsel hs hc hn hQ π _ _ w' (inv.set hr' hin) hB' h'.1 h'.2⟩) h⟩

/-- No panic comes out. -/
def NoP (Q : Exit → Act → World → Prop) : Exit → Act → World → Prop
  | .panic _, _, _ => False
  | e, a, w => Q e a w

theorem wp_noP {c : Code} {a : Act} {w : World} (h : c.wp P (NoP Q) a w) : c.wp P Q a w :=
  wp_mono h fun e a w h => by cases e <;> first | exact h | exact h.elim

theorem wp_hd {id : Nat} {a : Act} {w : World} {os : List Oper} {n : Nat} {π : List (Nat × Bool)} (hm : P.follows .mixedOrders = true) (hB : hdOk os.toArray n π = true) (hS : S { w with drawn := w.drawn + 1 })
    (h : wpHd P os.toArray (NoP Q) S (fun a w => wpList P os.toArray (NoP Q) (os.drop n) a w) π a { w with drawn := w.drawn + 1 }) : (Code.region id os.toArray true).wp P Q a w := by
  refine wp_noP (Q := Q) ?_
  simp only [hdOk, Bool.and_eq_true, decide_eq_true_eq] at hB
  obtain ⟨⟨⟨⟨⟨hsel, hn⟩, hl⟩, hs⟩, hc⟩, hB⟩ := hB
  have inv0 : HeadInv .any os.toArray n (Array.replicate os.toArray.size false) := by
    refine ⟨by simp, fun j oj _ h => ?_, fun t _ ht' => ?_⟩
    · rw [getD_replicate_false] at h; cases h
    · have : t < os.length := by simpa using ht'
      simp [this]
  have h1 := wpAnyM_hd (S := S) (md := .any) hsel hs hc hn (Q := NoP Q) (fun c a w h => h) π _ a _ inv0 hB hS h
  refine wp_region_any hm ?_
  have hsz : os.toArray.size = π.length + (os.toArray.size - n) := by omega
  rw [hsz]
  rw [← hsz]
  have h2 := wpAny_of_M (g := os.toArray.size - n) (Q := NoP Q) (P := P) (ops := os.toArray) (md := .any) (fun listed a w hh => ?_) π.length _ a _ h1
  · rw [← hsz] at h2; exact h2
  · obtain ⟨h3, h4⟩ := hh
    have hdl : (os.drop n).length = os.toArray.size - n := by simp
    have := wpAny_of_seq (P := P) (ops := os.toArray) (Q' := NoP Q) (os.drop n) n listed a w (fun j => by simp) (by rw [hdl]; exact h3) h4
    rwa [hdl] at this
end

section
variable {P : Program} {ops : Array Oper} {n : Nat} {Q : Exit → Act → World → Prop} {l : List (Nat × Value)} {L Lh : List Seg} {π : List (Nat × Bool)} {tail : List Oper}

def Sh [Env] (P : Program) (ops : Array Oper) (n : Nat) (tail : List Oper) (Q : Exit → Act → World → Prop) (Lh : List Seg) (π : List (Nat × Bool)) (l : List (Nat × Value)) (L : List Seg) : Prop :=
  ∀ a w, Fr n l a → Has w L → wpHd P ops Q (fun w => Has w Lh) (fun a w => wpList P ops Q tail a w) π a w

theorem cdraw [Env] {id : Nat} {os : List Oper} (m : Nat) (π : List (Nat × Bool)) (Lh : List Seg) (hm : P.follows .mixedOrders = true) (hB : hdOk os.toArray m π = true) (hg : Ge L Lh)
    (h : Sh P os.toArray n (os.drop m) (NoP Q) Lh π l L) : Sc P n (.region id os.toArray true) Q l L :=
  fun a w hf hh => wp_hd hm hB (hg.has (hh.drawn _)) (h a _ hf (hh.drawn _))

theorem hnil [Env] (h : Sy P ops n tail Q l L) : Sh P ops n tail Q Lh [] l L := h
theorem hnoP' [Env] (h : Sk n (Q .normal) l L) : Sy P ops n [] (NoP Q) l L := fun a w hf hh => h a w hf hh
theorem knoP [Env] (h : Sk n (Q .normal) l L) : Sk n (NoP Q .normal) l L := h

/-- A reader. -/
theorem hr [Env] {i : Nat} {d : Tmp} {op : Op} {ty : TypeId} {pos : String} {af : Array Edge} {v : Value} (ho : ops[i]? = some ⟨some d, op, ty, pos, af, none⟩) (he : Ev P n ⟨some d, op, ty, pos, af, none⟩ l Lh v) (hd : Nat.blt d n = true)
    (k : Sh P ops n tail Q Lh π ((d, v) :: l) L) : Sh P ops n tail Q Lh ((i, true) :: π) l L :=
  fun a w hf hh => ⟨_, v, ho, .inl ⟨by simp [Region.wanted], fun w' hw' => he a w' hf hw'⟩, k _ w (hf.put hd v) hh⟩
theorem hr1 [Env] {i j t : Nat} {b : Bool} {d : Tmp} {op : Op} {ty : TypeId} {pos : String} {af : Array Edge} {v : Value} (ho : ops[i]? = some ⟨some d, op, ty, pos, af, some (j, b)⟩) (hj : guardTmp ops j = some t) (hl : look l t = some (.bool b))
    (he : Ev P n ⟨some d, op, ty, pos, af, some (j, b)⟩ l Lh v) (hd : Nat.blt d n = true)
    (k : Sh P ops n tail Q Lh π ((d, v) :: l) L) : Sh P ops n tail Q Lh ((i, true) :: π) l L :=
  fun a w hf hh => ⟨_, v, ho, .inl ⟨by simp [Region.wanted, yielded_of hj hf hl], fun w' hw' => he a w' hf hw'⟩, k _ w (hf.put hd v) hh⟩
theorem hr0 [Env] {i j t : Nat} {b c : Bool} {d : Tmp} {op : Op} {ty : TypeId} {pos : String} {af : Array Edge} (ho : ops[i]? = some ⟨some d, op, ty, pos, af, some (j, c)⟩) (hj : guardTmp ops j = some t) (hl : look l t = some (.bool b)) (hb : (b == c) = false) (hd : Nat.blt d n = true)
    (k : Sh P ops n tail Q Lh π ((d, undef) :: l) L) : Sh P ops n tail Q Lh ((i, true) :: π) l L :=
  fun a w hf hh => ⟨_, undef, ho, .inr ⟨by simp [Region.wanted, yielded_of hj hf hl]; intro e; subst e; simp at hb, rfl⟩, k _ w (hf.put hd undef) hh⟩
theorem hsplit [Env] (t : Nat) {b : Bool} (hl : look l t = some (.bool b)) (h1 : b = true → Sh P ops n tail Q Lh π ((t, .bool true) :: l) L) (h0 : b = false → Sh P ops n tail Q Lh π ((t, .bool false) :: l) L) :
    Sh P ops n tail Q Lh π l L := by
  intro a w hf hh
  have same : ∀ c : Bool, b = c → Fr n ((t, .bool c) :: l) a := by
    rintro c rfl
    refine ⟨hf.size, hf.defers, fun u v hu => ?_⟩
    by_cases e : Nat.beq t u = true
    · have : t = u := by simpa using e
      subst this
      simp only [look, e, cond_true] at hu
      exact hf.get t v (hl.trans hu)
    · simp only [look, e, cond_false] at hu
      exact hf.get u v hu
  cases b
  · exact h0 rfl a w (same false rfl) hh
  · exact h1 rfl a w (same true rfl) hh
/-- An actor: what comes of it must still hold what is held. -/
theorem ha [Env] {i : Nat} {d : Tmp} {op : Op} {ty : TypeId} {pos : String} {af : Array Edge} {K : Value → List Seg → Prop} (ho : ops[i]? = some ⟨some d, op, ty, pos, af, none⟩) (he : Ac P n ⟨some d, op, ty, pos, af, none⟩ l L K) (hd : Nat.blt d n = true)
    (k : ∀ v L', K v L' → Ge L' Lh ∧ Sh P ops n tail Q Lh π ((d, v) :: l) L') : Sh P ops n tail Q Lh ((i, false) :: π) l L := by
  intro a w hf hh
  unfold wpHd wpOp
  simp only [ho]
  rw [if_pos (by simp [Region.wanted])]
  refine .inl ?_
  unfold Oper.wp
  obtain ⟨v, w', L', hr | ⟨hr, rfl⟩, hk, hh'⟩ := he a w hf hh
  · rw [hr]; exact ⟨(k v L' hk).1.has hh', (k v L' hk).2 _ w' (hf.put hd v) hh'⟩
  · rw [hr]; exact ⟨(k _ L' hk).1.has hh', (k _ L' hk).2 _ w' (hf.put hd _) hh'⟩
theorem ha1 [Env] {i j t : Nat} {b : Bool} {d : Tmp} {op : Op} {ty : TypeId} {pos : String} {af : Array Edge} {K : Value → List Seg → Prop} (ho : ops[i]? = some ⟨some d, op, ty, pos, af, some (j, b)⟩) (hj : guardTmp ops j = some t) (hl : look l t = some (.bool b))
    (he : Ac P n ⟨some d, op, ty, pos, af, some (j, b)⟩ l L K) (hd : Nat.blt d n = true)
    (k : ∀ v L', K v L' → Ge L' Lh ∧ Sh P ops n tail Q Lh π ((d, v) :: l) L') : Sh P ops n tail Q Lh ((i, false) :: π) l L := by
  intro a w hf hh
  unfold wpHd wpOp
  simp only [ho]
  rw [if_pos (by simp [Region.wanted, yielded_of hj hf hl])]
  refine .inl ?_
  unfold Oper.wp
  obtain ⟨v, w', L', hr | ⟨hr, rfl⟩, hk, hh'⟩ := he a w hf hh
  · rw [hr]; exact ⟨(k v L' hk).1.has hh', (k v L' hk).2 _ w' (hf.put hd v) hh'⟩
  · rw [hr]; exact ⟨(k _ L' hk).1.has hh', (k _ L' hk).2 _ w' (hf.put hd _) hh'⟩
theorem hcall [Env] {i : Nat} {d : Tmp} {ty : TypeId} {pos : String} {af : Array Edge} {f : FuncId} {xs : List Operand} {ts : Array TypeId} {args : List Value} {pre R : List Seg} {post : Value → List Seg → Prop}
    (ho : ops[i]? = some ⟨some d, .call { callee := .value (.func f), args := xs.toArray, argTypes := ts }, ty, pos, af, none⟩) (hc : Con P f args pre R post) (hx : evs l xs = some args)
    (hcall : ∀ (args : Array Value) (w : World), (callFunc f args).run P w = .ok (.enter f args) w) (ht : Tk L pre R) (hd : Nat.blt d n = true)
    (k : ∀ v L', post v L' → Ge (L' ++ R) Lh ∧ Sh P ops n tail Q Lh π ((d, v) :: l) (L' ++ R)) : Sh P ops n tail Q Lh ((i, false) :: π) l L := by
  intro a w hf hh
  unfold wpHd wpOp
  simp only [ho]
  rw [if_pos (by simp [Region.wanted])]
  refine .inl ?_
  unfold Oper.wp
  have hr : (execOp a.eval (⟨some d, .call { callee := .value (.func f), args := xs.toArray, argTypes := ts }, ty, pos, af, none⟩ : Oper)).run P w = .ok (.enter f args.toArray) w := by
    have := evs_eq hf hx
    simp [execOp, resolve, Act.eval, Deferred.ofValue, invoke, hcall, this]
  rw [hr, Oper.upon_enter]
  refine (hc w (ht.has hh)).mono ?_
  rintro e w' ⟨v, L', rfl, hp, hh'⟩
  exact ⟨(k v L' hp).1.has hh', (k v L' hp).2 _ w' (hf.put hd v) hh'⟩
theorem hcall1 [Env] {i j t : Nat} {b : Bool} {d : Tmp} {ty : TypeId} {pos : String} {af : Array Edge} {f : FuncId} {xs : List Operand} {ts : Array TypeId} {args : List Value} {pre R : List Seg} {post : Value → List Seg → Prop}
    (ho : ops[i]? = some ⟨some d, .call { callee := .value (.func f), args := xs.toArray, argTypes := ts }, ty, pos, af, some (j, b)⟩) (hj : guardTmp ops j = some t) (hl : look l t = some (.bool b)) (hc : Con P f args pre R post) (hx : evs l xs = some args)
    (hcall : ∀ (args : Array Value) (w : World), (callFunc f args).run P w = .ok (.enter f args) w) (ht : Tk L pre R) (hd : Nat.blt d n = true)
    (k : ∀ v L', post v L' → Ge (L' ++ R) Lh ∧ Sh P ops n tail Q Lh π ((d, v) :: l) (L' ++ R)) : Sh P ops n tail Q Lh ((i, false) :: π) l L := by
  intro a w hf hh
  unfold wpHd wpOp
  simp only [ho]
  rw [if_pos (by simp [Region.wanted, yielded_of hj hf hl])]
  refine .inl ?_
  unfold Oper.wp
  have hr : (execOp a.eval (⟨some d, .call { callee := .value (.func f), args := xs.toArray, argTypes := ts }, ty, pos, af, some (j, b)⟩ : Oper)).run P w = .ok (.enter f args.toArray) w := by
    have := evs_eq hf hx
    simp [execOp, resolve, Act.eval, Deferred.ofValue, invoke, hcall, this]
  rw [hr, Oper.upon_enter]
  refine (hc w (ht.has hh)).mono ?_
  rintro e w' ⟨v, L', rfl, hp, hh'⟩
  exact ⟨(k v L' hp).1.has hh', (k v L' hp).2 _ w' (hf.put hd v) hh'⟩
/-- An actor that its guard passes by is as good as a reader. -/
theorem ha0 [Env] {i j t : Nat} {b c : Bool} {d : Tmp} {op : Op} {ty : TypeId} {pos : String} {af : Array Edge} (ho : ops[i]? = some ⟨some d, op, ty, pos, af, some (j, c)⟩) (hj : guardTmp ops j = some t) (hl : look l t = some (.bool b)) (hb : (b == c) = false) (hd : Nat.blt d n = true) (hg : Ge L Lh)
    (k : Sh P ops n tail Q Lh π ((d, undef) :: l) L) : Sh P ops n tail Q Lh ((i, false) :: π) l L := by
  intro a w hf hh
  unfold wpHd wpOp
  simp only [ho]
  rw [if_neg (by simp [Region.wanted, yielded_of hj hf hl]; intro e; subst e; simp at hb)]
  exact ⟨hg.has hh, k _ w (hf.put hd undef) hh⟩
theorem hr0u [Env] {i j t : Nat} {c : Bool} {d : Tmp} {op : Op} {ty : TypeId} {pos : String} {af : Array Edge} (ho : ops[i]? = some ⟨some d, op, ty, pos, af, some (j, c)⟩) (hj : guardTmp ops j = some t) (hl : look l t = some undef) (hd : Nat.blt d n = true)
    (k : Sh P ops n tail Q Lh π ((d, undef) :: l) L) : Sh P ops n tail Q Lh ((i, true) :: π) l L :=
  fun a w hf hh => ⟨_, undef, ho, .inr ⟨by simp [Region.wanted, yielded_undef hj hf hl], rfl⟩, k _ w (hf.put hd undef) hh⟩
theorem ha0u [Env] {i j t : Nat} {c : Bool} {d : Tmp} {op : Op} {ty : TypeId} {pos : String} {af : Array Edge} (ho : ops[i]? = some ⟨some d, op, ty, pos, af, some (j, c)⟩) (hj : guardTmp ops j = some t) (hl : look l t = some undef) (hd : Nat.blt d n = true) (hg : Ge L Lh)
    (k : Sh P ops n tail Q Lh π ((d, undef) :: l) L) : Sh P ops n tail Q Lh ((i, false) :: π) l L := by
  intro a w hf hh
  unfold wpHd wpOp
  simp only [ho]
  rw [if_neg (by simp [Region.wanted, yielded_undef hj hf hl])]
  exact ⟨hg.has hh, k _ w (hf.put hd undef) hh⟩
end
end Go.Sl
