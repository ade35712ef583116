/- A part of the proof: contracts and plain lemmas, each without conditions beyond those that it names. -/
import Derived.Test.YtnedokioglfipaaSlG
import Derived.Recover
set_option linter.unusedVariables false
set_option linter.unusedSimpArgs false
set_option linter.constructorNameAsVariable false
namespace Go.Sl
set_option linter.unusedSimpArgs false
/-! ### contracts of functions that may panic -/
def pchain (pv : Value) : List PanicEntry := [{ v := pv, recovered := false }]
def CPP [Env] (post : Value → List Seg → Prop) (R : List Seg) (pv : Value) (bad : List Seg → Prop) (e : Ending) (w' : World) : Prop :=
  (∃ v L', e = .returned v ∧ post v L' ∧ Has w' (L' ++ R)) ∨ (∃ L', e = .panicked (pchain pv) ∧ bad L' ∧ Has w' (L' ++ R))
/-- The callee answers, or panics with 'pv'. -/
def ConP [Env] (P : Program) (f : FuncId) (args : List Value) (pre R : List Seg) (post : Value → List Seg → Prop) (pv : Value) (bad : List Seg → Prop) : Prop :=
  ∀ w, Has w (pre ++ R) → Calls P f args.toArray w (CPP post R pv bad)
section
variable {P : Program} {ops : Array Oper} {n : Nat} {rest : List Oper} {Q : Exit → Act → World → Prop} {l : List (Nat × Value)} {L : List Seg}
variable {d : Tmp} {dd : Option Tmp} {op : Op} {ty : TypeId} {pos : String} {af : Array Edge} {g : Option (Nat × Bool)}
theorem ycallP [Env] {f : FuncId} {xs : List Operand} {ts : Array TypeId} {args : List Value} {pre R : List Seg} {post : Value → List Seg → Prop} {pv : Value} {bad : List Seg → Prop} (hc : ConP P f args pre R post pv bad) (hx : evs l xs = some args)
    (hcall : ∀ (args : Array Value) (w : World), (callFunc f args).run P w = .ok (.enter f args) w) (ht : Tk L pre R) (hd : Nat.blt d n = true)
    (kp : ∀ L', bad L' → Sk n (Q (.panic (pchain pv))) l (L' ++ R))
    (k : ∀ v L', post v L' → Sy P ops n rest Q ((d, v) :: l) (L' ++ R)) :
    Sy P ops n (⟨some d, .call { callee := .value (.func f), args := xs.toArray, argTypes := ts }, ty, pos, af, none⟩ :: rest) Q l L := by
  intro a w hf hh
  refine wp_left rfl ?_
  unfold Oper.wp
  have hr : (execOp a.eval (⟨some d, .call { callee := .value (.func f), args := xs.toArray, argTypes := ts }, ty, pos, af, none⟩ : Oper)).run P w = .ok (.enter f args.toArray) w := by
    have := evs_eq hf hx
    simp [execOp, resolve, Act.eval, Deferred.ofValue, invoke, hcall, this]
  rw [hr, Oper.upon_enter]
  refine (hc w (ht.has hh)).mono ?_
  rintro e w' (⟨v, L', rfl, hp, hh'⟩ | ⟨L', rfl, hp, hh'⟩)
  · exact k v L' hp _ w' (hf.put hd v) hh'
  · exact kp L' hp _ w' hf hh'
/-- A call of a function value. -/
theorem ycallF [Env] {f : FuncId} {x : Operand} {xs : List Operand} {ts : Array TypeId} {args caps : List Value} {pre R : List Seg} {post : Value → List Seg → Prop} (hv : ev l x = some (.func (.func f) #[] caps.toArray)) (hc : Con P f (args ++ caps) pre R post) (hx : evs l xs = some args)
    (hcall : ∀ (args : Array Value) (w : World), (callFunc f args).run P w = .ok (.enter f args) w) (ht : Tk L pre R) (hd : Nat.blt d n = true)
    (k : ∀ v L', post v L' → Sy P ops n rest Q ((d, v) :: l) (L' ++ R)) :
    Sy P ops n (⟨some d, .call { callee := .value x, args := xs.toArray, argTypes := ts }, ty, pos, af, none⟩ :: rest) Q l L := by
  intro a w hf hh
  refine wp_left rfl ?_
  unfold Oper.wp
  have hr : (execOp a.eval (⟨some d, .call { callee := .value x, args := xs.toArray, argTypes := ts }, ty, pos, af, none⟩ : Oper)).run P w = .ok (.enter f (args ++ caps).toArray) w := by
    have := evs_eq hf hx
    have e : a.eval x = .func (.func f) #[] caps.toArray := hf.ev hv
    simp [execOp, resolve, e, Deferred.ofValue, invoke, hcall, this]
  rw [hr, Oper.upon_enter]
  refine (hc w (ht.has hh)).mono ?_
  rintro e w' ⟨v, L', rfl, hp, hh'⟩
  exact k v L' hp _ w' (hf.put hd v) hh'
theorem ypanic [Env] {x : Operand} {T : TypeId} {v : Value} (hx : ev l x = some (.iface T v)) (k : Sk n (Q (.panic (pchain (.iface T v)))) l L) :
    Sy P ops n (⟨dd, .panic x, ty, pos, af, none⟩ :: rest) Q l L := by
  intro a w hf hh
  refine wp_left rfl ?_
  unfold Oper.wp
  have hr : (execOp a.eval (⟨dd, .panic x, ty, pos, af, none⟩ : Oper)).run P w = .halt (.panic (.iface T v)) w := by
    simp [execOp, hf.ev hx, Instr.panic, goPanic]
  rw [hr, Oper.upon_panic]
  exact k _ w hf hh
theorem conP_enter [Env] {f : FuncId} {fn : Func} {c : Code} {args : List Value} {pre R : List Seg} {post : Value → List Seg → Prop} {pv : Value} {bad : List Seg → Prop} (hf : P.funcs[f]? = some fn) (hn : fn.ntmps = n) (hb : fn.body = some c) (hl : Nat.ble args.length n = true)
    (h : Sc P n c (bodyPost P fn (CPP post R pv bad)) (argL 0 args) (pre ++ R)) : ConP P f args pre R post pv bad := by
  intro w hh
  have hle := Nat.le_of_ble_eq_true hl
  refine calls_of_wp hf hb (h _ w ?_ hh)
  have := frame_enter args.toArray fn.ntmps (by simpa [hn] using hle) (argL 0 args) (fun t v ht => by have := (argL_look args 0 t v ht).2; simpa using this)
  rw [hn] at this ⊢
  exact this
theorem ConP.mono [Env] {f : FuncId} {args : List Value} {pre R : List Seg} {post post' : Value → List Seg → Prop} {pv : Value} {bad bad' : List Seg → Prop} (h : ConP P f args pre R post pv bad) (hp : ∀ v L, post v L → post' v L) (hb : ∀ L, bad L → bad' L) : ConP P f args pre R post' pv bad' :=
  fun w hh => (h w hh).mono fun _ _ h => h.elim (fun ⟨v, L', h1, h2, h3⟩ => .inl ⟨v, L', h1, hp _ _ h2, h3⟩) (fun ⟨L', h1, h2, h3⟩ => .inr ⟨L', h1, hb _ h2, h3⟩)
/-- A callee that never panics is a callee that may. -/
theorem Con.toP [Env] {f : FuncId} {args : List Value} {pre R : List Seg} {post : Value → List Seg → Prop} {pv : Value} {bad : List Seg → Prop} (h : Con P f args pre R post) : ConP P f args pre R post pv bad :=
  fun w hh => (h w hh).mono fun _ _ ⟨v, L', h1, h2, h3⟩ => .inl ⟨v, L', h1, h2, h3⟩

/-! the ends -/
theorem kpan [Env] {fn : Func} {R L1 : List Seg} {post : Value → List Seg → Prop} {pv : Value} {bad : List Seg → Prop} (hg : Ge L L1) (hp : ∃ L', bad L' ∧ L1 = L' ++ R) :
    Sk n (bodyPost P fn (CPP post R pv bad) (.panic (pchain pv))) l L := by
  obtain ⟨L', h1, rfl⟩ := hp
  exact fun a _ hf hh => ⟨hf.defers, .inr ⟨L', rfl, h1, hg.has hh⟩⟩
theorem kretvP [Env] {fn : Func} {R L1 : List Seg} {post : Value → List Seg → Prop} {pv : Value} {bad : List Seg → Prop} {t : Tmp} {v : Value} (hr : fn.results = #[.tmp t]) (hl : look l t = some v) (hg : Ge L L1) (hp : ∃ L', post v L' ∧ L1 = L' ++ R) :
    Sk n (bodyPost P fn (CPP post R pv bad) .ret) l L := by
  obtain ⟨L', h1, rfl⟩ := hp
  exact fun a _ hf hh => ⟨hf.defers, v, by rw [results_tmp hr, hf.get t v hl], .inl ⟨v, L', rfl, h1, hg.has hh⟩⟩
theorem kretv2P [Env] {fn : Func} {R L1 : List Seg} {post : Value → List Seg → Prop} {pv : Value} {bad : List Seg → Prop} {t u : Tmp} {v v' : Value} (hr : fn.results = #[.tmp t, .tmp u]) (hl : look l t = some v) (hl' : look l u = some v') (hg : Ge L L1) (hp : ∃ L', post (.tuple #[v, v']) L' ∧ L1 = L' ++ R) :
    Sk n (bodyPost P fn (CPP post R pv bad) .ret) l L := by
  obtain ⟨L', h1, rfl⟩ := hp
  exact fun a _ hf hh => ⟨hf.defers, .tuple #[v, v'], by rw [results_tmp2 hr, hf.get t v hl, hf.get u v' hl'], .inl ⟨_, L', rfl, h1, hg.has hh⟩⟩
end
end Go.Sl
