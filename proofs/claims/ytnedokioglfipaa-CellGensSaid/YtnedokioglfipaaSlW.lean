/- A part of the proof: contracts and plain lemmas, each without conditions beyond those that it names. -/
import Derived.Test.YtnedokioglfipaaSlV
import Derived.WideLaws
set_option linter.unusedVariables false
set_option linter.unusedSimpArgs false
set_option linter.constructorNameAsVariable false
namespace Go.Sl
set_option linter.unusedSimpArgs false
/-! ### frames that have deferred a call -/
structure FD (n : Nat) (l : List (Nat × Value)) (D : List Deferred) (a : Act) : Prop where
  fr : Fr n l { a with defers := [] }
  ds : a.defers = D
def SyD [Env] (D : List Deferred) (P : Program) (ops : Array Oper) (n : Nat) (rest : List Oper) (Q : Exit → Act → World → Prop) (l : List (Nat × Value)) (L : List Seg) : Prop :=
  ∀ a w, FD n l D a → Has w L → wpList P ops Q rest a w
def ScD [Env] (D : List Deferred) (P : Program) (n : Nat) (c : Code) (Q : Exit → Act → World → Prop) (l : List (Nat × Value)) (L : List Seg) : Prop :=
  ∀ a w, FD n l D a → Has w L → c.wp P Q a w
def SkD [Env] (D : List Deferred) (n : Nat) (K : Act → World → Prop) (l : List (Nat × Value)) (L : List Seg) : Prop :=
  ∀ a w, FD n l D a → Has w L → K a w
section
variable {D : List Deferred} {P : Program} {ops : Array Oper} {n : Nat} {rest : List Oper} {Q : Exit → Act → World → Prop} {l : List (Nat × Value)} {L : List Seg}
variable {d : Tmp} {op : Op} {ty : TypeId} {pos : String} {af : Array Edge} {g : Option (Nat × Bool)}
theorem yD [Env] {v : Value} (he : Ev P n ⟨some d, op, ty, pos, af, none⟩ l L v) (hd : Nat.blt d n = true)
    (k : SyD D P ops n rest Q ((d, v) :: l) L) : SyD D P ops n (⟨some d, op, ty, pos, af, none⟩ :: rest) Q l L := by
  intro a w hf hh
  refine wp_left rfl ?_
  unfold Oper.wp
  have h : (execOp a.eval (⟨some d, op, ty, pos, af, none⟩ : Oper)).run P w = _ := he { a with defers := [] } w hf.fr hh
  rw [h]
  exact k _ w ⟨hf.fr.put hd v, hf.ds⟩ hh
theorem yaD [Env] {K : Value → List Seg → Prop} (he : Ac P n ⟨some d, op, ty, pos, af, none⟩ l L K) (hd : Nat.blt d n = true)
    (k : ∀ v L', K v L' → SyD D P ops n rest Q ((d, v) :: l) L') : SyD D P ops n (⟨some d, op, ty, pos, af, none⟩ :: rest) Q l L := by
  intro a w hf hh
  refine wp_left rfl ?_
  unfold Oper.wp
  obtain ⟨v, w', L', h, hk, hh'⟩ := he { a with defers := [] } w hf.fr hh
  have h' : (execOp a.eval (⟨some d, op, ty, pos, af, none⟩ : Oper)).run P w = .ok (.value v) w' ∨ ((execOp a.eval (⟨some d, op, ty, pos, af, none⟩ : Oper)).run P w = .ok .skip w' ∧ v = undef) := h
  rcases h' with hx | ⟨hx, rfl⟩
  · rw [hx]; exact k v L' hk _ w' ⟨hf.fr.put hd v, hf.ds⟩ hh'
  · rw [hx]; exact k _ L' hk _ w' ⟨hf.fr.put hd _, hf.ds⟩ hh'
theorem ya0D [Env] {K : Value → List Seg → Prop} (he : Ac P n ⟨none, op, ty, pos, af, none⟩ l L K)
    (k : ∀ v L', K v L' → SyD D P ops n rest Q l L') : SyD D P ops n (⟨none, op, ty, pos, af, none⟩ :: rest) Q l L := by
  intro a w hf hh
  refine wp_left rfl ?_
  unfold Oper.wp
  obtain ⟨v, w', L', h, hk, hh'⟩ := he { a with defers := [] } w hf.fr hh
  have h' : (execOp a.eval (⟨none, op, ty, pos, af, none⟩ : Oper)).run P w = .ok (.value v) w' ∨ ((execOp a.eval (⟨none, op, ty, pos, af, none⟩ : Oper)).run P w = .ok .skip w' ∧ v = undef) := h
  rcases h' with hx | ⟨hx, rfl⟩
  · rw [hx]; exact k v L' hk _ w' ⟨hf.fr, hf.ds⟩ hh'
  · rw [hx]; exact k _ L' hk _ w' ⟨hf.fr, hf.ds⟩ hh'
/-- A closure of no parameters is deferred. -/
theorem ydefer [Env] {x : Operand} {f : FuncId} {caps : Array Value} (hx : ev l x = some (.func (.func f) #[] caps))
    (k : SyD [{ target := .fn (.func f) caps, args := #[] }] P ops n rest Q l L) : Sy P ops n (⟨none, .defer { callee := .value x, args := #[], argTypes := #[] }, ty, pos, af, none⟩ :: rest) Q l L := by
  intro a w hf hh
  refine wp_left rfl ?_
  unfold Oper.wp
  have hr : (execOp a.eval (⟨none, .defer { callee := .value x, args := #[], argTypes := #[] }, ty, pos, af, none⟩ : Oper)).run P w = .ok (.defer { target := .fn (.func f) caps, args := #[] }) w := by
    simp [execOp, resolve, hf.ev hx, Deferred.ofValue]
  rw [hr, Oper.upon_defer]
  refine k _ w ⟨?_, ?_⟩ hh
  · exact ⟨hf.size, rfl, hf.get⟩
  · simp [Act.put, hf.defers]
theorem ycallPD [Env] {f : FuncId} {xs : List Operand} {ts : Array TypeId} {args : List Value} {pre R : List Seg} {post : Value → List Seg → Prop} {pv : Value} {bad : List Seg → Prop} (hc : ConP P f args pre R post pv bad) (hx : evs l xs = some args)
    (hcall : ∀ (args : Array Value) (w : World), (callFunc f args).run P w = .ok (.enter f args) w) (ht : Tk L pre R) (hd : Nat.blt d n = true)
    (kp : ∀ L', bad L' → SkD D n (Q (.panic (pchain pv))) l (L' ++ R))
    (k : ∀ v L', post v L' → SyD D P ops n rest Q ((d, v) :: l) (L' ++ R)) :
    SyD D P ops n (⟨some d, .call { callee := .value (.func f), args := xs.toArray, argTypes := ts }, ty, pos, af, none⟩ :: rest) Q l L := by
  intro a w hf hh
  refine wp_left rfl ?_
  unfold Oper.wp
  have hr : (execOp a.eval (⟨some d, .call { callee := .value (.func f), args := xs.toArray, argTypes := ts }, ty, pos, af, none⟩ : Oper)).run P w = .ok (.enter f args.toArray) w := by
    have : xs.map a.eval = args := evs_eq hf.fr hx
    simp [execOp, resolve, Act.eval, Deferred.ofValue, invoke, hcall, this]
  rw [hr, Oper.upon_enter]
  refine (hc w (ht.has hh)).mono ?_
  rintro e w' (⟨v, L', rfl, hp, hh'⟩ | ⟨L', rfl, hp, hh'⟩)
  · exact k v L' hp _ w' ⟨hf.fr.put hd v, hf.ds⟩ hh'
  · exact kp L' hp _ w' hf hh'
theorem ynilD [Env] (k : SkD D n (Q .normal) l L) : SyD D P ops n [] Q l L := fun a w hf hh => k a w hf hh
theorem cseqD [Env] {x z : Code} (h : ScD D P n x (Exit.then (z.wp P Q) Q) l L) : ScD D P n (.seq x z) Q l L := fun a w hf hh => wp_seq (h a w hf hh)
theorem cseqW [Env] {x z : Code} (h : Sc P n x (Exit.then (z.wp P Q) Q) l L) : Sc P n (.seq x z) Q l L := fun a w hf hh => wp_seq (h a w hf hh)
theorem ynilD' [Env] {z : Code} (h : ScD D P n z Q l L) : SyD D P ops n [] (Exit.then (z.wp P Q) Q) l L := fun a w hf hh => h a w hf hh
theorem cregD [Env] {id : Nat} {os : List Oper} (h : SyD D P os.toArray n os Q l L) : ScD D P n (.region id os.toArray false) Q l L :=
  fun a w hf hh => wp_region_lit (h a w hf hh)
theorem cretD [Env] (k : SkD D n (Q .ret) l L) : ScD D P n .ret Q l L := fun a w hf hh => wp_ret (k a w hf hh)
theorem skD_of [Env] {z : Code} (h : ScD D P n z Q l L) : SkD D n (z.wp P Q) l L := h
end
/-! the end: the deferred closure is called -/
section
variable {P : Program} {n : Nat} {l : List (Nat × Value)} {L : List Seg}
theorem run_results2 [Env] {fn : Func} {a : Act} {t u : Tmp} {T T1 U U1 : TypeId} {b b' k : Nat} {vs : List Value} {v : Value} (hr : fn.results = #[.cell t T, .cell u U]) (hf : Fr n l a) (hl : look l t = some (.pointer (some ⟨b, 0, none⟩))) (hl' : look l u = some (.pointer (some ⟨b', 0, none⟩)))
    (ha : ∀ w, (isAgg T).run P w = .ok true w) (hs : ∀ w, (sizeOf T).run P w = .ok k w) (hk : vs.length = k) (ha' : ∀ w, (isAgg U).run P w = .ok false w) {w : World} (hi : In L (sc b vs T1)) (hi' : In L (sc b' [v] U1)) (hh : Has w L) :
    (results fn a.tmps).run P w = .ok (.tuple #[.agg vs.toArray, v]) w := by
  have h2 := run_loadAll hi ha hs hk hh
  have h3 := run_load1 hi' ha' hh
  have h4 := hf.get t _ hl
  have h5 := hf.get u _ hl'
  simp only [Array.getD_eq_getD_getElem?] at h4 h5
  simp [results, hr, h4, h5, asAddr, h2, h3]
/-- The closure that recovers, twice: where nothing was panicked with, and where 'pv' was. -/
def Recovers [Env] (P : Program) (f : FuncId) (caps : Array Value) (pv : Value) (pre post : List Seg) : Prop :=
  (∀ w, Has w [] → CallsD P f caps .returning w fun e u' w' => (∃ v, e = .returned v) ∧ u' = .returning ∧ w' = w) ∧
  ∀ R w, Has w (pre ++ R) → CallsD P f caps (.panicking (pchain pv)) w fun e u' w' => (∃ v, e = .returned v) ∧ u' = .panicking [{ v := pv, recovered := true }] ∧ Has w' (post ++ R)
theorem CallsD.mono {P : Program} {f : FuncId} {args : Array Value} {u : FrameMode} {w : World} {R R' : Ending → FrameMode → World → Prop} (h : CallsD P f args u w R) (hr : ∀ e u w, R e u w → R' e u w) : CallsD P f args u w R' :=
  fun c cs hu => let ⟨e, u', w', fr, h1, h2⟩ := h c cs hu; ⟨e, u', w', fr, hr _ _ _ h1, h2⟩
theorem kretD [Env] {fn : Func} {f : FuncId} {caps : Array Value} {pv : Value} {pre post' R L1 : List Seg} {post : Value → List Seg → Prop} {t u : Tmp} {T T1 U U1 : TypeId} {b b' k : Nat} {vs : List Value} {v : Value} (hrec : Recovers P f caps pv pre post')
    (hcall : ∀ (args : Array Value) (w : World), (callFunc f args).run P w = .ok (.enter f args) w) (hr : fn.results = #[.cell t T, .cell u U]) (hl : look l t = some (.pointer (some ⟨b, 0, none⟩))) (hl' : look l u = some (.pointer (some ⟨b', 0, none⟩)))
    (ha : ∀ w, (isAgg T).run P w = .ok true w) (hs : ∀ w, (sizeOf T).run P w = .ok k w) (hk : vs.length = k) (ha' : ∀ w, (isAgg U).run P w = .ok false w) (hi : In L (sc b vs T1)) (hi' : In L (sc b' [v] U1)) (hg : Ge L L1) (hp : ∃ L', post (.tuple #[.agg vs.toArray, v]) L' ∧ L1 = L' ++ R) :
    SkD [{ target := .fn (.func f) caps, args := #[] }] n (bodyPostD P fn (CP post R) .ret) l L := by
  intro a w hf hh
  obtain ⟨L', h1, rfl⟩ := hp
  show Leaves P fn a.tmps (CP post R) a.defers .returning w
  rw [hf.ds]
  refine ⟨by simp, _, _, f, caps, rfl, by simp [invoke, hcall], (hrec.1 w (Ge.nil.has hh)).mono ?_⟩
  rintro e u' w' ⟨⟨v', rfl⟩, rfl, rfl⟩
  exact ⟨_, run_results2 hr hf.fr hl hl' ha hs hk ha' hi hi' hh, _, L', rfl, h1, hg.has hh⟩
theorem kpanD [Env] {fn : Func} {f : FuncId} {caps : Array Value} {pv : Value} {pre post' R R' L1 : List Seg} {post : Value → List Seg → Prop} {t u : Tmp} {T T1 U U1 : TypeId} {b b' k : Nat} {vs : List Value} {v : Value} (hrec : Recovers P f caps pv pre post')
    (hcall : ∀ (args : Array Value) (w : World), (callFunc f args).run P w = .ok (.enter f args) w) (hr : fn.results = #[.cell t T, .cell u U]) (hl : look l t = some (.pointer (some ⟨b, 0, none⟩))) (hl' : look l u = some (.pointer (some ⟨b', 0, none⟩)))
    (ha : ∀ w, (isAgg T).run P w = .ok true w) (hs : ∀ w, (sizeOf T).run P w = .ok k w) (hk : vs.length = k) (ha' : ∀ w, (isAgg U).run P w = .ok false w) (ht : Tk L pre R') (hi : In (post' ++ R') (sc b vs T1)) (hi' : In (post' ++ R') (sc b' [v] U1)) (hg : Ge (post' ++ R') L1) (hp : ∃ L', post (.tuple #[.agg vs.toArray, v]) L' ∧ L1 = L' ++ R) :
    SkD [{ target := .fn (.func f) caps, args := #[] }] n (bodyPostD P fn (CP post R) (.panic (pchain pv))) l L := by
  intro a w hf hh
  obtain ⟨L', h1, rfl⟩ := hp
  show Leaves P fn a.tmps (CP post R) a.defers (.panicking (pchain pv)) w
  rw [hf.ds]
  refine ⟨by simp, _, _, f, caps, rfl, by simp [invoke, hcall], (hrec.2 R' w (ht.has hh)).mono ?_⟩
  rintro e u' w' ⟨⟨v', rfl⟩, rfl, hh'⟩
  exact ⟨_, run_results2 hr hf.fr hl hl' ha hs hk ha' hi hi' hh', _, L', rfl, h1, hg.has hh'⟩
theorem conD_enter [Env] {f : FuncId} {fn : Func} {c : Code} {args : List Value} {pre R : List Seg} {post : Value → List Seg → Prop} (hf : P.funcs[f]? = some fn) (hn : fn.ntmps = n) (hb : fn.body = some c) (hl : Nat.ble args.length n = true)
    (h : Sc P n c (bodyPostD P fn (CP post R)) (argL 0 args) (pre ++ R)) : Con P f args pre R post := by
  intro w hh
  have hle := Nat.le_of_ble_eq_true hl
  refine calls_of_wp_defers hf hb (h _ w ?_ hh)
  have := frame_enter args.toArray fn.ntmps (by simpa [hn] using hle) (argL 0 args) (fun t v ht => by have := (argL_look args 0 t v ht).2; simpa using this)
  rw [hn] at this ⊢
  exact this
theorem wy [Env] {ops : Array Oper} {rest : List Oper} {Q : Exit → Act → World → Prop} {d : Tmp} {op : Op} {ty : TypeId} {pos : String} {af : Array Edge} {v : Value} {a : Act} {w : World} (he : Ev P n ⟨some d, op, ty, pos, af, none⟩ l L v) (hd : Nat.blt d n = true)
    (hf : Fr n l a) (hh : Has w L) (k : Fr n ((d, v) :: l) (a.put (some d) v) → wpList P ops Q rest (a.put (some d) v) w) : wpList P ops Q (⟨some d, op, ty, pos, af, none⟩ :: rest) a w := by
  refine wp_left rfl ?_
  unfold Oper.wp
  rw [he a w hf hh]
  exact k (hf.put hd v)
theorem ev_assert [Env] {x : Operand} {T xT : TypeId} {v : Value} {ds : TypeDesc} {d : Option Tmp} {ty : TypeId} {pos : String} {af : Array Edge} {g : Option (Nat × Bool)} (hx : ev l x = some (.iface T v)) (hu : P.underlying T = some ds) (hni : ∀ q, ds ≠ .interface q) :
    Ev P n ⟨d, .typeAssert x xT T false, ty, pos, af, g⟩ l L v := by
  intro a w hf _
  cases ds <;> simp_all [execOp, Instr.typeAssert, hf.ev hx, run_underlying hu]
theorem ev_eqlIn [Env] {x : Operand} {t t' : TypeId} {v : Value} {d : Option Tmp} {ty : TypeId} {pos : String} {af : Array Edge} {g : Option (Nat × Bool)} {ms : Array (String × TypeId)} (hx : ev l x = some v) (hu : P.underlying t = some (.interface ms)) (hv : v = .nilIface ∨ ∃ T u, v = .iface T u) :
    Ev P n ⟨d, .binOp .eql t x (.const .nilIface) t', ty, pos, af, g⟩ l L (.bool (match v with | .nilIface => true | _ => false)) := by
  intro a w hf _
  have hm : P.underlying t = some (.interface (P.methodsAt t)) := by rw [hu]; simp [Program.methodsAt, hu]
  rcases hv with rfl | ⟨T, u, rfl⟩
  · have h := run_eql_nil_nil (P := P) (w := w) t hm
    have e : a.eval x = .nilIface := hf.ev hx
    simp only [execOp, Sem.run_bind, e]
    simp [Act.eval, eqGuard_nil_constR, h]
  · have h := run_eql_held_nil (P := P) (w := w) t T u hm
    have e : a.eval x = .iface T u := hf.ev hx
    simp only [execOp, Sem.run_bind, e]
    simp [Act.eval, eqGuard, h]
/-! the closure itself -/
theorem recovers_enter [Env] {f : FuncId} {fn : Func} {id : Nat} {c : Code} {caps : List Value} {pv : Value} {pre post : List Seg} {o1 o2 : Oper} {t u : Tmp} (hf : P.funcs[f]? = some fn) (hn : fn.ntmps = n) (hres : fn.results = #[])
    (hb : fn.body = some (.seq (.region id #[o1, o2] false) c)) (hl : Nat.ble caps.length n = true)
    (h1 : o1.op = .call { callee := .builtin .recover, args := #[], argTypes := #[] } ∧ o1.dst = some t ∧ o1.guard = none) (h2 : o2.op = .assign (.tmp t) ∧ o2.dst = some u ∧ o2.guard = none) (ht : Nat.blt t n = true) (hu : Nat.blt u n = true)
    (hQ0 : ∀ (Q : Exit → Act → World → Prop) w, Has w [] → (∀ a', a'.defers = [] → Q .normal a' w) → ∀ a, Fr n ((u, .nilIface) :: (t, .nilIface) :: argL 0 caps) a → c.wp P Q a w)
    (hQ1 : ∀ (Q : Exit → Act → World → Prop) R, (∀ a' w', a'.defers = [] → Has w' (post ++ R) → Q .normal a' w') → Sc P n c Q ((u, pv) :: (t, pv) :: argL 0 caps) (pre ++ R)) :
    Recovers P f caps.toArray pv pre post := by
  have hle := Nat.le_of_ble_eq_true hl
  obtain ⟨p1, d1, g1⟩ := h1
  obtain ⟨p2, d2, g2⟩ := h2
  have hfr := frame_enter caps.toArray fn.ntmps (by simpa [hn] using hle) (argL 0 caps) (fun t v ht => by have := (argL_look caps 0 t v ht).2; simpa using this)
  rw [hn] at hfr
  have hex1 : ∀ (a : Act) (w : World), (execOp a.eval o1).run P w = .ok .recover w := by
    intro a w; simp [execOp, p1, resolve, invoke, builtin]
  have hex2 : ∀ (a : Act) (w : World) (v : Value), Fr n ((t, v) :: argL 0 caps) a → (execOp a.eval o2).run P w = .ok (.value v) w := by
    intro a w v hfa
    have : a.eval (.tmp t) = v := hfa.ev (show ev ((t, v) :: argL 0 caps) (.tmp t) = some v by simp [ev, look])
    simp [execOp, p2, this]
  constructor
  · intro w hh0
    refine callsD_of_wpS hf hb fun c₀ cs hm => ?_
    rw [hn]
    apply wpS_seq
    apply wpS_region
    have hrec : recoverD (c₀ :: cs) = none := by simp [recoverD, hm]
    have hr : List.range (#[o1, o2] : Array Oper).size = [0, 1] := rfl
    rw [hr]
    have f1 := hfr.put ht .nilIface
    have f2 := f1.put hu .nilIface
    simp only [wpOpsS, List.getElem?_toArray, List.getElem?_cons_zero, List.getElem?_cons_succ, Region.wanted, g1, g2, hex1, hrec, d1, d2, hex2 _ _ _ f1, Oper.upon, if_true, Exit.thenS]
    refine wpS_of_wp (hQ0 _ w hh0 ?_ _ f2)
    intro a' ha'
    exact ⟨ha', _, rfl, .tuple #[], results_none hres _ _ _, ⟨_, rfl⟩, hm, rfl⟩
  · intro R w hh
    refine callsD_of_wpS hf hb fun c₀ cs hm => ?_
    rw [hn]
    apply wpS_seq
    apply wpS_region
    have hrec : recoverD (c₀ :: cs) = some (pv, { c₀ with mode := .panicking [{ v := pv, recovered := true }] } :: cs) := by simp [recoverD, hm, pchain]
    have hr : List.range (#[o1, o2] : Array Oper).size = [0, 1] := rfl
    rw [hr]
    have f1 := hfr.put ht pv
    have f2 := f1.put hu pv
    simp only [wpOpsS, List.getElem?_toArray, List.getElem?_cons_zero, List.getElem?_cons_succ, Region.wanted, g1, g2, hex1, hrec, d1, d2, hex2 _ _ _ f1, Oper.upon, if_true, Exit.thenS]
    refine wpS_of_wp (hQ1 _ R ?_ _ w f2 hh)
    intro a' w' ha' hh'
    exact ⟨ha', _, rfl, .tuple #[], results_none hres _ _ _, ⟨_, rfl⟩, rfl, hh'⟩
end
end Go.Sl
