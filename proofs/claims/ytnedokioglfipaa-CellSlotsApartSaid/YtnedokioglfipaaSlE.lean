/- A part of the proof: contracts and plain lemmas, each without conditions beyond those that it names. -/
import Derived.Test.YtnedokioglfipaaSlD
set_option linter.unusedVariables false
set_option linter.unusedSimpArgs false
set_option linter.constructorNameAsVariable false
namespace Go.Sl
set_option linter.unusedSimpArgs false

/-- What an operation that acts hands back and leaves: in every world that fits, some outcome of which K speaks. -/
def Ac [Env] (P : Program) (n : Nat) (o : Oper) (l : List (Nat × Value)) (L : List Seg) (K : Value → List Seg → Prop) : Prop :=
  ∀ a w, Fr n l a → Has w L → ∃ v w' L', ((execOp a.eval o).run P w = .ok (.value v) w' ∨ ((execOp a.eval o).run P w = .ok .skip w' ∧ v = undef)) ∧ K v L' ∧ Has w' L'

section
variable {P : Program} {ops : Array Oper} {n : Nat} {rest : List Oper} {Q : Exit → Act → World → Prop} {l : List (Nat × Value)} {L : List Seg}
variable {d : Tmp} {dd : Option Tmp} {op : Op} {ty : TypeId} {pos : String} {af : Array Edge} {g : Option (Nat × Bool)}

theorem ya [Env] {K : Value → List Seg → Prop} (he : Ac P n ⟨some d, op, ty, pos, af, none⟩ l L K) (hd : Nat.blt d n = true)
    (k : ∀ v L', K v L' → Sy P ops n rest Q ((d, v) :: l) L') : Sy P ops n (⟨some d, op, ty, pos, af, none⟩ :: rest) Q l L := by
  intro a w hf hh
  refine wp_left rfl ?_
  unfold Oper.wp
  obtain ⟨v, w', L', hr | ⟨hr, rfl⟩, hk, hh'⟩ := he a w hf hh
  · rw [hr]; exact k v L' hk _ w' (hf.put hd v) hh'
  · rw [hr]; exact k _ L' hk _ w' (hf.put hd _) hh'
theorem ya0 [Env] {K : Value → List Seg → Prop} (he : Ac P n ⟨none, op, ty, pos, af, none⟩ l L K)
    (k : ∀ v L', K v L' → Sy P ops n rest Q l L') : Sy P ops n (⟨none, op, ty, pos, af, none⟩ :: rest) Q l L := by
  intro a w hf hh
  refine wp_left rfl ?_
  unfold Oper.wp
  obtain ⟨v, w', L', hr | ⟨hr, rfl⟩, hk, hh'⟩ := he a w hf hh
  · rw [hr]; exact k v L' hk _ w' hf hh'
  · rw [hr]; exact k _ L' hk _ w' hf hh'

/-- A new block. -/
def KNew (vs : List Value) (T : TypeId) (L : List Seg) (v : Value) (L' : List Seg) : Prop := ∃ b, v = .pointer (some ⟨b, 0, none⟩) ∧ L' = sc b vs T :: L
theorem ac_alloc [Env] {T : TypeId} {z : Value} {vs : List Value} (hz : ∀ w, (zeroValue T).run P w = .ok z w) (hv : z.cells = vs.toArray) :
    Ac P n ⟨dd, .alloc T, ty, pos, af, g⟩ l L (KNew vs T L) := by
  intro a w hf hh
  refine ⟨_, _, _, .inl (by simp [execOp, Instr.alloc, hz, newVar, newRow, hv]; exact ⟨rfl, rfl⟩), ⟨_, rfl, rfl⟩, ?_⟩
  exact hh.alloc (.cells vs.toArray T)
theorem ac_box [Env] {T : TypeId} {x : Operand} {v : Value} {vs : List Value} (hx : ev l x = some v) (hv : v.cells = vs.toArray) :
    Ac P n ⟨dd, .box T x, ty, pos, af, g⟩ l L (KNew vs T L) := by
  intro a w hf hh
  refine ⟨_, _, _, .inl (by simp [execOp, Instr.box, hf.ev hx, newVar, newRow, hv]; exact ⟨rfl, rfl⟩), ⟨_, rfl, rfl⟩, ?_⟩
  exact hh.alloc (.cells vs.toArray T)

/-- A store of one cell. -/
def KTo (L0 : List Seg) (v : Value) (L' : List Seg) : Prop := v = undef ∧ L' = L0
theorem ac_store [Env] {t : TypeId} {x z : Operand} {b o : Nat} {vs vs' : List Value} {T : TypeId} {v : Value} {L' : List Seg} (hx : ev l x = some (.pointer (some ⟨b, o, none⟩))) (hz : ev l z = some v)
    (h1 : v.oneCell' = true) (hs : ∀ w, (sizeOf t).run P w = .ok 1 w) (r : Rp L (sc b vs T) (sc b vs' T) L') (ho : Nat.blt o vs.length = true) (hv : vs.set o v = vs') :
    Ac P n ⟨dd, .store t x z, ty, pos, af, g⟩ l L (KTo L') := by
  intro a w hf hh
  have hin : In L (sc b vs T) := r.pk.choose_spec.1.in
  have hb := hh.cells hin
  have hc : v.cells = #[v] := by cases v <;> first | rfl | cases h1
  have ho' : o < vs.length := by simpa using ho
  have hst := run_storeCells_at P b o T [v] 0 vs.toArray w hb (by simp; omega) (by simpa using h1)
  refine ⟨_, _, _, .inr ⟨?_, rfl⟩, ⟨rfl, rfl⟩, hh.setRow r⟩
  have e : List.take (o + 0) vs.toArray.toList ++ [v] ++ List.drop (o + 0 + [v].length) vs.toArray.toList = vs' := by
    rw [← hv, List.set_eq_take_append_cons_drop, if_pos ho']
    simp
  rw [e] at hst
  simp [execOp, Instr.storeAt, storeVar, hf.ev hx, hf.ev hz, Instr.sureAddr, hs, hc, hst]
theorem ac_storeN [Env] {t : TypeId} {x z : Operand} {b o k : Nat} {vs vs' us : List Value} {T : TypeId} {L' : List Seg} (hx : ev l x = some (.pointer (some ⟨b, o, none⟩))) (hz : ev l z = some (.agg us.toArray))
    (h1 : ∀ u ∈ us, u.oneCell' = true) (hs : ∀ w, (sizeOf t).run P w = .ok k w) (r : Rp L (sc b vs T) (sc b vs' T) L') (hk : us.length = k) (ho : o + k ≤ vs.length) (hv : vs.take o ++ us ++ vs.drop (o + k) = vs') :
    Ac P n ⟨dd, .store t x z, ty, pos, af, g⟩ l L (KTo L') := by
  intro a w hf hh
  have hin : In L (sc b vs T) := r.pk.choose_spec.1.in
  have hb := hh.cells hin
  have hst := run_storeCells_at P b o T us 0 vs.toArray w hb (by simpa [hk] using ho) h1
  refine ⟨_, _, _, .inr ⟨?_, rfl⟩, ⟨rfl, rfl⟩, hh.setRow r⟩
  have e : List.take (o + 0) vs.toArray.toList ++ us ++ List.drop (o + 0 + us.length) vs.toArray.toList = vs' := by rw [← hv, hk]; simp
  rw [e] at hst
  simp [execOp, Instr.storeAt, storeVar, hf.ev hx, hf.ev hz, Instr.sureAddr, hs, Value.cells, hk, hst]

/-! slices -/
def KSv (e : TypeId) (m size : Nat) (xs : List Value) (L : List Seg) (v : Value) (L' : List Seg) : Prop := ∃ s, v = svVal s m ∧ svOk s m size xs ∧ L' = svSeg s e xs :: L
theorem info_of {e : TypeId} {i : TypeInfo} (h : ∀ w, (typeInfo e).run P w = .ok i w) : P.info? e = some i := by
  have := h default
  cases hq : P.info? e with
  | none => simp [typeInfo, hq] at this
  | some j => simp [typeInfo, hq] at this; rw [this]
theorem ac_append [Env] {x z : Operand} {s : Sv} {v : Value} {e t xT : TypeId} {i : TypeInfo} {zv : Value} {m k size : Nat} {xs us : List Value} {M : List Seg} {dx : TypeDesc}
    (hx : ev l x = some (svVal s m)) (hz : ev l z = some v) (hp : Pk L (svSeg s e xs) M) (ht : P.underlying t = some (.slice e)) (hxt : P.underlying xT = some dx) (hni : ∀ q, dx ≠ .int q)
    (hti : ∀ w, (typeInfo e).run P w = .ok i w) (hzv : i.zero = some zv) (hsize : i.size = size) (hzs : zv.cells.size = size) (hok : svOk s m size xs) (hsrc : Src P L size v k us)
    (h1 : ∀ u ∈ us, u.oneCell' = true) (hbig : (m + k) * (i.bytes + 1) ≤ 140737488355328) :
    Ac P n ⟨dd, .call { callee := .builtin .append, args := #[x, z], argTypes := #[t, xT] }, ty, pos, af, g⟩ l L (KSv e (m + k) size (xs ++ us) M) := by
  intro a w hf hh
  obtain ⟨s', w', hr, hok', hh'⟩ := run_append_sv (ty := ty) hh hp ht hxt hni (info_of hti) hzv hsize hzs hok hsrc h1 hbig
  refine ⟨_, w', _, .inl ?_, ⟨s', rfl, hok', rfl⟩, hh'⟩
  simp [execOp, resolve, invoke, builtin, hf.ev hx, hf.ev hz, hr]

/-- A slice written out. -/
def KSl (e : TypeId) (m : Nat) (vs : List Value) (L : List Seg) (v : Value) (L' : List Seg) : Prop := ∃ b, v = .slice (some ⟨b, 0, none⟩) m m ∧ L' = sc b vs e :: L
theorem ac_buildSlice [Env] {t e : TypeId} {m size : Nat} {parts : Array (Nat × Operand)} {ps : List (Nat × Value)} {zv : Value} {vs : List Value} (hp : ∀ a : Act, Fr n l a → (parts.map fun (i, x) => (i, a.eval x)) = ps.toArray)
    (hu : P.underlying t = some (.slice e)) (hs : ∀ w, (sizeOf e).run P w = .ok size w) (hz : ∀ w, (zeroValue e).run P w = .ok zv w) (hbig : Nat.ble (m * size) 16777216 = true) (hpos : Nat.blt 0 (m * size) = true)
    (hfill : Instr.fill (fun i => some (i * size, size)) ((Array.range (m * size)).map (zv.cells[· % zv.cells.size]!)) ps = some vs.toArray) :
    Ac P n ⟨dd, .buildSlice t m parts, ty, pos, af, g⟩ l L (KSl e m vs L) := by
  intro a w hf hh
  have h0 : ¬ (m * size > 2 ^ 24) := by have := Nat.le_of_ble_eq_true hbig; omega
  have h1 : ¬ (m * size = 0) := by have : 0 < m * size := by simpa using hpos
                                   omega
  refine ⟨_, _, _, .inl ?_, ⟨w.heap.size, rfl, rfl⟩, hh.alloc (.cells vs.toArray e)⟩
  simp only [execOp, Sem.run_bind, hp a hf, Instr.buildSlice, run_underlying hu, Result.andThen_ok, hs, h0, h1, if_false, hz, Sem.run_pure, hfill, newRow, run_newObj, World.alloc_eq]

theorem ac_copy [Env] {x z : Operand} {dT sT e : TypeId} {b o dl dc m k : Nat} {vs vs' us : List Value} {T : TypeId} {v : Value} {L' : List Seg}
    (hx : ev l x = some (.slice (some ⟨b, o, none⟩) dl dc)) (hz : ev l z = some v) (hu : P.underlying dT = some (.slice e)) (hs : ∀ w, (sizeOf e).run P w = .ok 1 w)
    (hsrc : Src P L 1 v m us) (h1 : ∀ u ∈ us, u.oneCell' = true) (hk : k = min m dl) (r : Rp L (sc b vs T) (sc b vs' T) L') (ho : o + k ≤ vs.length) (hv : vs.take o ++ us.take k ++ vs.drop (o + k) = vs')
    (hpart : ∀ w, Has w L → (Builtin.firstCells 1 k v).run P w = .ok (us.take k).toArray w) :
    Ac P n ⟨dd, .call { callee := .builtin .copy, args := #[x, z], argTypes := #[dT, sT] }, ty, pos, af, g⟩ l L (fun v L'' => v = .int .i64 k ∧ L'' = L') := by
  intro a w hf hh
  have hin : In L (sc b vs T) := r.pk.choose_spec.1.in
  have hb := hh.cells hin
  have hl : (us.take k).length = k := by rw [List.length_take, hsrc.1]; omega
  have hst := run_storeCells_at P b o T (us.take k) 0 vs.toArray w hb (by simpa [hl] using ho) (fun u hu => h1 u (List.mem_of_mem_take hu))
  have e : List.take (o + 0) vs.toArray.toList ++ us.take k ++ List.drop (o + 0 + (us.take k).length) vs.toArray.toList = vs' := by rw [← hv, hl]; simp
  rw [e] at hst
  refine ⟨_, _, _, .inl ?_, ⟨rfl, rfl⟩, hh.setRow r⟩
  have h2 := (hsrc.2 w hh).1
  have h3 := hpart w hh
  have h4 : Nat.min m dl = k := hk.symm
  simp [execOp, resolve, invoke, builtin, hf.ev hx, hf.ev hz, Builtin.copy_, run_underlying hu, hs, h2, h3, h4, hst, goInt]

theorem firstCells_at [Env] {b o m c k : Nat} {vs us : List Value} {T : TypeId} {fr : Nat × Nat} (hi : In L (so b (.cells vs.toArray T fr))) (hu : (vs.drop o).take k = us) (hl : us.length = k) :
    ∀ w, Has w L → (Builtin.firstCells 1 k (.slice (some ⟨b, o, none⟩) m c)).run P w = .ok us.toArray w := by
  intro w hh
  have := (src_at (P := P) (L := L) (size := 1) (b := b) (o := o) (m := k) (c := c) (us := us) hi (by simpa using hu) (by simpa using hl)).2 w hh
  simpa [Builtin.firstCells] using this.2

/-! ### contracts -/
/-- WHOEVER CALLS f WITH THESE ARGUMENTS, the segments 'pre' lying there (and others, 'R', beside them), IS ANSWERED A VALUE, and finds segments, of which 'post' speaks; 'R' is as it was. -/
def Con [Env] (P : Program) (f : FuncId) (args : List Value) (pre R : List Seg) (post : Value → List Seg → Prop) : Prop :=
  ∀ w, Has w (pre ++ R) → Calls P f args.toArray w fun e w' => ∃ v L', e = .returned v ∧ post v L' ∧ Has w' (L' ++ R)
def CP [Env] (post : Value → List Seg → Prop) (R : List Seg) (e : Ending) (w' : World) : Prop := ∃ v L', e = .returned v ∧ post v L' ∧ Has w' (L' ++ R)
/-- The common case: one value, these segments. -/
def Is (v : Value) (L : List Seg) (u : Value) (L' : List Seg) : Prop := u = v ∧ L' = L

theorem Con.mono [Env] {f : FuncId} {args : List Value} {pre R : List Seg} {post post' : Value → List Seg → Prop} (h : Con P f args pre R post) (hp : ∀ v L, post v L → post' v L) : Con P f args pre R post' :=
  fun w hh => (h w hh).mono fun _ _ ⟨v, L', h1, h2, h3⟩ => ⟨v, L', h1, hp _ _ h2, h3⟩

def evs (l : List (Nat × Value)) : List Operand → Option (List Value)
  | [] => some []
  | x :: xs => match ev l x with
    | some v => match evs l xs with
      | some vs => some (v :: vs)
      | none => none
    | none => none
theorem evs_eq {a : Act} (hf : Fr n l a) : ∀ {xs : List Operand} {vs : List Value}, evs l xs = some vs → xs.map a.eval = vs
  | [], vs, h => by simpa [evs] using h
  | x :: xs, vs, h => by
    unfold evs at h
    split at h
    · rename_i v hv
      split at h
      · rename_i us hus
        cases h
        simp [hf.ev hv, evs_eq hf hus]
      · cases h
    · cases h

theorem ycall [Env] {f : FuncId} {xs : List Operand} {ts : Array TypeId} {args : List Value} {pre R : List Seg} {post : Value → List Seg → Prop} (hc : Con P f args pre R post) (hx : evs l xs = some args)
    (hcall : ∀ (args : Array Value) (w : World), (callFunc f args).run P w = .ok (.enter f args) w) (ht : Tk L pre R) (hd : Nat.blt d n = true)
    (k : ∀ v L', post v L' → Sy P ops n rest Q ((d, v) :: l) (L' ++ R)) :
    Sy P ops n (⟨some d, .call { callee := .value (.func f), args := xs.toArray, argTypes := ts }, ty, pos, af, none⟩ :: rest) Q l L := by
  intro a w hf hh
  refine wp_left rfl ?_
  unfold Oper.wp
  have hr : (execOp a.eval (⟨some d, .call { callee := .value (.func f), args := xs.toArray, argTypes := ts }, ty, pos, af, none⟩ : Oper)).run P w = .ok (.enter f args.toArray) w := by
    have := evs_eq hf hx
    simp [execOp, resolve, Act.eval, Deferred.ofValue, invoke, hcall, this]
  rw [hr, Oper.upon_enter]
  refine (hc w (ht.has hh)).mono ?_
  rintro e w' ⟨v, L', rfl, hp, hh'⟩
  exact k v L' hp _ w' (hf.put hd v) hh'
theorem ycall0 [Env] {f : FuncId} {xs : List Operand} {ts : Array TypeId} {args : List Value} {pre R : List Seg} {post : Value → List Seg → Prop} (hc : Con P f args pre R post) (hx : evs l xs = some args)
    (hcall : ∀ (args : Array Value) (w : World), (callFunc f args).run P w = .ok (.enter f args) w) (ht : Tk L pre R)
    (k : ∀ v L', post v L' → Sy P ops n rest Q l (L' ++ R)) :
    Sy P ops n (⟨none, .call { callee := .value (.func f), args := xs.toArray, argTypes := ts }, ty, pos, af, none⟩ :: rest) Q l L := by
  intro a w hf hh
  refine wp_left rfl ?_
  unfold Oper.wp
  have hr : (execOp a.eval (⟨none, .call { callee := .value (.func f), args := xs.toArray, argTypes := ts }, ty, pos, af, none⟩ : Oper)).run P w = .ok (.enter f args.toArray) w := by
    have := evs_eq hf hx
    simp [execOp, resolve, Act.eval, Deferred.ofValue, invoke, hcall, this]
  rw [hr, Oper.upon_enter]
  refine (hc w (ht.has hh)).mono ?_
  rintro e w' ⟨v, L', rfl, hp, hh'⟩
  exact k v L' hp _ w' hf hh'

def argL : Nat → List Value → List (Nat × Value)
  | _, [] => []
  | k, v :: vs => (k, v) :: argL (k + 1) vs
theorem argL_look : ∀ (vs : List Value) (k t : Nat) (v : Value), look (argL k vs) t = some v → k ≤ t ∧ vs[t - k]? = some v
  | [], _, _, _, h => by cases h
  | u :: vs, k, t, v, h => by
    by_cases e : Nat.beq k t = true
    · simp only [argL, look, e, cond_true] at h
      have : k = t := by simpa using e
      subst this
      exact ⟨Nat.le_refl _, by simpa using h⟩
    · simp only [argL, look, e, cond_false] at h
      obtain ⟨h1, h2⟩ := argL_look vs (k + 1) t v h
      refine ⟨by omega, ?_⟩
      rw [show t - k = (t - (k + 1)) + 1 by omega]
      simpa using h2

theorem con_enter [Env] {f : FuncId} {fn : Func} {c : Code} {args : List Value} {pre R : List Seg} {post : Value → List Seg → Prop} (hf : P.funcs[f]? = some fn) (hn : fn.ntmps = n) (hb : fn.body = some c) (hl : Nat.ble args.length n = true)
    (h : Sc P n c (bodyPost P fn (CP post R)) (argL 0 args) (pre ++ R)) : Con P f args pre R post := by
  intro w hh
  have hle := Nat.le_of_ble_eq_true hl
  refine calls_of_wp hf hb (h _ w ?_ hh)
  have := frame_enter args.toArray fn.ntmps (by simpa [hn] using hle) (argL 0 args) (fun t v ht => by have := (argL_look args 0 t v ht).2; simpa using this)
  rw [hn] at this ⊢
  exact this

theorem kret [Env] {fn : Func} {R : List Seg} {post : Value → List Seg → Prop} {t : Tmp} {v : Value} (hr : fn.results = #[.tmp t]) (hl : look l t = some v) (L' : List Seg) (hp : post v L') (hg : Ge L (L' ++ R)) :
    Sk n (bodyPost P fn (CP post R) .ret) l L :=
  fun a _ hf hh => ⟨hf.defers, v, by rw [results_tmp hr, hf.get t v hl], v, L', rfl, hp, hg.has hh⟩
theorem kret2 [Env] {fn : Func} {R : List Seg} {post : Value → List Seg → Prop} {t u : Tmp} {v v' : Value} (hr : fn.results = #[.tmp t, .tmp u]) (hl : look l t = some v) (hl' : look l u = some v') (L' : List Seg) (hp : post (.tuple #[v, v']) L') (hg : Ge L (L' ++ R)) :
    Sk n (bodyPost P fn (CP post R) .ret) l L :=
  fun a _ hf hh => ⟨hf.defers, .tuple #[v, v'], by rw [results_tmp2 hr, hf.get t v hl, hf.get u v' hl'], _, L', rfl, hp, hg.has hh⟩
theorem kret3 [Env] {fn : Func} {R : List Seg} {post : Value → List Seg → Prop} {t u s : Tmp} {v v' v'' : Value} (hr : fn.results = #[.tmp t, .tmp u, .tmp s]) (hl : look l t = some v) (hl' : look l u = some v') (hl'' : look l s = some v'') (L' : List Seg) (hp : post (.tuple #[v, v', v'']) L') (hg : Ge L (L' ++ R)) :
    Sk n (bodyPost P fn (CP post R) .ret) l L :=
  fun a _ hf hh => ⟨hf.defers, .tuple #[v, v', v''], by simp [results, hr, ← hf.get t v hl, ← hf.get u v' hl', ← hf.get s v'' hl''], _, L', rfl, hp, hg.has hh⟩
theorem kret0 [Env] {fn : Func} {R : List Seg} {post : Value → List Seg → Prop} (hr : fn.results = #[]) (L' : List Seg) (hp : post (.tuple #[]) L') (hg : Ge L (L' ++ R)) :
    Sk n (bodyPost P fn (CP post R) .ret) l L :=
  fun _ _ hf hh => ⟨hf.defers, .tuple #[], results_none hr _ _ _, _, L', rfl, hp, hg.has hh⟩
theorem kend0 [Env] {fn : Func} {R : List Seg} {post : Value → List Seg → Prop} (hr : fn.results = #[]) (L' : List Seg) (hp : post (.tuple #[]) L') (hg : Ge L (L' ++ R)) :
    Sk n (bodyPost P fn (CP post R) .normal) l L :=
  fun _ _ hf hh => ⟨hf.defers, .tuple #[], results_none hr _ _ _, _, L', rfl, hp, hg.has hh⟩
end
end Go.Sl
