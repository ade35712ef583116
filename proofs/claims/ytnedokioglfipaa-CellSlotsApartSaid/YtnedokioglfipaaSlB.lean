/- A part of the proof: contracts and plain lemmas, each without conditions beyond those that it names. -/
import Derived.Test.YtnedokioglfipaaSlA
set_option linter.unusedVariables false
set_option linter.unusedSimpArgs false
set_option linter.constructorNameAsVariable false
namespace Go.Sl
set_option linter.unusedSimpArgs false

/-- What an operation that only looks hands back. -/
def Ev [Env] (P : Program) (n : Nat) (o : Oper) (l : List (Nat × Value)) (L : List Seg) (v : Value) : Prop :=
  ∀ a w, Fr n l a → Has w L → (execOp a.eval o).run P w = .ok (.value v) w

section
variable {P : Program} {n : Nat} {l : List (Nat × Value)} {L : List Seg} {d : Option Tmp} {ty : TypeId} {pos : String} {af : Array Edge} {g : Option (Nat × Bool)}

theorem ev_move [Env] {x : Operand} {v : Value} (hx : ev l x = some v) : Ev P n ⟨d, .move x, ty, pos, af, g⟩ l L v :=
  fun a w hf _ => by simp only [execOp, Sem.run_pure, hf.ev hx]
theorem ev_assign [Env] {x : Operand} {v : Value} (hx : ev l x = some v) : Ev P n ⟨d, .assign x, ty, pos, af, g⟩ l L v :=
  fun a w hf _ => by simp only [execOp, Sem.run_pure, hf.ev hx]
theorem ev_pick [Env] {c x y : Operand} {b : Bool} {u v : Value} (hc : ev l c = some (.bool b)) (hx : ev l x = some u) (hy : ev l y = some v) :
    Ev P n ⟨d, .pick c x y, ty, pos, af, g⟩ l L (if b then u else v) :=
  fun a w hf _ => by simp [execOp, hf.ev hx, hf.ev hy, hf.ev hc, asBool]
theorem ev_pick1 [Env] {c x y : Operand} {u : Value} (hc : ev l c = some (.bool true)) (hx : ev l x = some u) :
    Ev P n ⟨d, .pick c x y, ty, pos, af, g⟩ l L u :=
  fun a w hf _ => by simp [execOp, hf.ev hx, hf.ev hc, asBool]
theorem ev_pick0 [Env] {c x y : Operand} {v : Value} (hc : ev l c = some (.bool false)) (hy : ev l y = some v) :
    Ev P n ⟨d, .pick c x y, ty, pos, af, g⟩ l L v :=
  fun a w hf _ => by simp [execOp, hf.ev hy, hf.ev hc, asBool]
theorem ev_nil [Env] {x : Operand} {a0 : Addr} (hx : ev l x = some (.pointer (some a0))) : Ev P n ⟨d, .nilCheck x, ty, pos, af, g⟩ l L (.pointer (some a0)) :=
  fun a w hf _ => by simp [execOp, hf.ev hx]
theorem ev_nilf [Env] {x : Operand} {f : FuncId} {c c' : Array Value} (hx : ev l x = some (.func (.func f) c c')) : Ev P n ⟨d, .nilCheck x, ty, pos, af, g⟩ l L (.func (.func f) c c') :=
  fun a w hf _ => by simp [execOp, hf.ev hx]

theorem add_lit (b o k : Nat) : (⟨b, o, none⟩ : Addr).add k = ⟨b, o + k, none⟩ := by
  unfold Addr.add; split
  · rename_i h; subst h; rfl
  · rfl

theorem ev_fieldAddr [Env] {s : TypeId} {x : Operand} {f b o k t : Nat} {fs : Array Field} (off : Nat) (hx : ev l x = some (.pointer (some ⟨b, o, none⟩)))
    (hu : P.underlying s = some (.struct fs)) (hf : (fs[f]?).map (fun fd => (fd.offset, fd.type)) = some (off, t)) (hs : ∀ w, (sizeOf t).run P w = .ok (k + 1) w) :
    Ev P n ⟨d, .fieldAddr s x f, ty, pos, af, g⟩ l L (.pointer (some ⟨b, o + off, none⟩)) :=
  fun a w hfr _ => by
    obtain ⟨fd, h1, h2⟩ := Option.map_eq_some_iff.1 hf
    cases h2
    simp [execOp, Instr.fieldAt, run_underlying hu, h1, hfr.ev hx, Instr.sureAddr, fieldPlace, hs, add_lit]

theorem cell_at [Env] {w : World} {L : List Seg} {b o : Nat} {vs : List Value} {T : TypeId} {fr : Nat × Nat} {v : Value} (h : Has w L) (hi : In L (so b (.cells vs.toArray T fr))) (hv : vs[o]? = some v) :
    w.cell? ⟨b, o, none⟩ = some v := by
  simp [World.cell?, h.obj hi, hv]

theorem ev_load [Env] {t : TypeId} {x : Operand} {b o : Nat} {vs : List Value} {T : TypeId} {fr : Nat × Nat} {v : Value} (hx : ev l x = some (.pointer (some ⟨b, o, none⟩)))
    (ha : ∀ w, (isAgg t).run P w = .ok false w) (hi : In L (so b (.cells vs.toArray T fr))) (hv : vs[o]? = some v) :
    Ev P n ⟨d, .load t x, ty, pos, af, g⟩ l L v :=
  fun a w hf hh => by simp [execOp, Instr.loadAt, hf.ev hx, Instr.sureAddr, loadVar, ha, cell_at hh hi hv]

theorem ev_loadN [Env] {t : TypeId} {x : Operand} {b o k : Nat} {vs : List Value} {T : TypeId} {fr : Nat × Nat} {u : List Value} (hx : ev l x = some (.pointer (some ⟨b, o, none⟩)))
    (ha : ∀ w, (isAgg t).run P w = .ok true w) (hs : ∀ w, (sizeOf t).run P w = .ok k w) (hi : In L (so b (.cells vs.toArray T fr))) (hv : (vs.drop o).take k = u) (hk : u.length = k) :
    Ev P n ⟨d, .load t x, ty, pos, af, g⟩ l L (.agg u.toArray) := by
  intro a w hf hh
  have hl : (loadCells ⟨b, o, none⟩ u.length).run P w = .ok u.toArray w := by
    refine run_loadCells_list w _ u (fun j v hj => ?_)
    rw [add_lit]
    refine cell_at hh hi ?_
    rw [← hv, List.getElem?_take] at hj
    split at hj
    · rwa [List.getElem?_drop] at hj
    · cases hj
  rw [hk] at hl
  simp [execOp, Instr.loadAt, hf.ev hx, Instr.sureAddr, loadVar, ha, hs, hl]

theorem ev_field1 [Env] {s : TypeId} {x : Operand} {f t : Nat} {fs : Array Field} {cs : List Value} {v : Value} (off : Nat) (hx : ev l x = some (.agg cs.toArray))
    (hu : P.underlying s = some (.struct fs)) (hf : (fs[f]?).map (fun fd => (fd.offset, fd.type)) = some (off, t)) (ha : ∀ w, (isAgg t).run P w = .ok false w) (hv : cs[off]? = some v) :
    Ev P n ⟨d, .field s x f, ty, pos, af, g⟩ l L v :=
  fun a w hfr _ => by
    obtain ⟨fd, h1, h2⟩ := Option.map_eq_some_iff.1 hf
    cases h2
    simp [execOp, Instr.field, run_underlying hu, h1, hfr.ev hx, asAgg, part, ha, hv]
theorem ev_fieldN [Env] {s : TypeId} {x : Operand} {f k t : Nat} {fs : Array Field} {cs u : List Value} (off : Nat) (hx : ev l x = some (.agg cs.toArray))
    (hu : P.underlying s = some (.struct fs)) (hf : (fs[f]?).map (fun fd => (fd.offset, fd.type)) = some (off, t)) (ha : ∀ w, (isAgg t).run P w = .ok true w) (hs : ∀ w, (sizeOf t).run P w = .ok k w)
    (hv : (cs.drop off).take k = u) :
    Ev P n ⟨d, .field s x f, ty, pos, af, g⟩ l L (.agg u.toArray) :=
  fun a w hfr _ => by
    obtain ⟨fd, h1, h2⟩ := Option.map_eq_some_iff.1 hf
    cases h2
    subst hv
    simp [execOp, Instr.field, run_underlying hu, h1, hfr.ev hx, asAgg, part, ha, hs]

/-! arithmetic -/
theorem ev_add [Env] {t t' : TypeId} {x y : Operand} {k : IntKind} {p q : Int} (hx : ev l x = some (.int k p)) (hy : ev l y = some (.int k q)) :
    Ev P n ⟨d, .binOp .add t x y t', ty, pos, af, g⟩ l L (.int k (k.wrap (p + q))) :=
  fun a w hf _ => by simp [execOp, hf.ev hx, hf.ev hy, eqGuard, binOp, Op.intArith]
theorem ev_sub [Env] {t t' : TypeId} {x y : Operand} {k : IntKind} {p q : Int} (hx : ev l x = some (.int k p)) (hy : ev l y = some (.int k q)) :
    Ev P n ⟨d, .binOp .sub t x y t', ty, pos, af, g⟩ l L (.int k (k.wrap (p - q))) :=
  fun a w hf _ => by simp [execOp, hf.ev hx, hf.ev hy, eqGuard, binOp, Op.intArith]
theorem ev_mul [Env] {t t' : TypeId} {x y : Operand} {k : IntKind} {p q : Int} (hx : ev l x = some (.int k p)) (hy : ev l y = some (.int k q)) :
    Ev P n ⟨d, .binOp .mul t x y t', ty, pos, af, g⟩ l L (.int k (k.wrap (p * q))) :=
  fun a w hf _ => by simp [execOp, hf.ev hx, hf.ev hy, eqGuard, binOp, Op.intArith]
theorem ev_quo [Env] {t t' : TypeId} {x y : Operand} {k : IntKind} {p q : Int} (hx : ev l x = some (.int k p)) (hy : ev l y = some (.int k q)) (hq : q ≠ 0) :
    Ev P n ⟨d, .binOp .quo t x y t', ty, pos, af, g⟩ l L (.int k (k.wrap (p.tdiv q))) :=
  fun a w hf _ => by simp [execOp, hf.ev hx, hf.ev hy, eqGuard, binOp, Op.intDiv, hq]
theorem ev_rem [Env] {t t' : TypeId} {x y : Operand} {k : IntKind} {p q : Int} (hx : ev l x = some (.int k p)) (hy : ev l y = some (.int k q)) (hq : q ≠ 0) :
    Ev P n ⟨d, .binOp .rem t x y t', ty, pos, af, g⟩ l L (.int k (p.tmod q)) :=
  fun a w hf _ => by simp [execOp, hf.ev hx, hf.ev hy, eqGuard, binOp, Op.intDiv, hq]
/-- Bits, as the model reckons them. -/
def bAnd (k : IntKind) (p q : Int) : Int := k.wrap (BitVec.ofInt k.bits p &&& BitVec.ofInt k.bits q).toNat
def bOr (k : IntKind) (p q : Int) : Int := k.wrap (BitVec.ofInt k.bits p ||| BitVec.ofInt k.bits q).toNat
def bXor (k : IntKind) (p q : Int) : Int := k.wrap (BitVec.ofInt k.bits p ^^^ BitVec.ofInt k.bits q).toNat
def bNot (k : IntKind) (p q : Int) : Int := k.wrap (BitVec.ofInt k.bits p &&& ~~~ BitVec.ofInt k.bits q).toNat
theorem ev_and [Env] {t t' : TypeId} {x y : Operand} {k : IntKind} {p q : Int} (hx : ev l x = some (.int k p)) (hy : ev l y = some (.int k q)) :
    Ev P n ⟨d, .binOp .and t x y t', ty, pos, af, g⟩ l L (.int k (bAnd k p q)) :=
  fun a w hf _ => by simp [execOp, hf.ev hx, hf.ev hy, eqGuard, binOp, Op.intBits, bAnd]
theorem ev_or [Env] {t t' : TypeId} {x y : Operand} {k : IntKind} {p q : Int} (hx : ev l x = some (.int k p)) (hy : ev l y = some (.int k q)) :
    Ev P n ⟨d, .binOp .or t x y t', ty, pos, af, g⟩ l L (.int k (bOr k p q)) :=
  fun a w hf _ => by simp [execOp, hf.ev hx, hf.ev hy, eqGuard, binOp, Op.intBits, bOr]
theorem ev_xor [Env] {t t' : TypeId} {x y : Operand} {k : IntKind} {p q : Int} (hx : ev l x = some (.int k p)) (hy : ev l y = some (.int k q)) :
    Ev P n ⟨d, .binOp .xor t x y t', ty, pos, af, g⟩ l L (.int k (bXor k p q)) :=
  fun a w hf _ => by simp [execOp, hf.ev hx, hf.ev hy, eqGuard, binOp, Op.intBits, bXor]
theorem ev_andNot [Env] {t t' : TypeId} {x y : Operand} {k : IntKind} {p q : Int} (hx : ev l x = some (.int k p)) (hy : ev l y = some (.int k q)) :
    Ev P n ⟨d, .binOp .andNot t x y t', ty, pos, af, g⟩ l L (.int k (bNot k p q)) :=
  fun a w hf _ => by simp [execOp, hf.ev hx, hf.ev hy, eqGuard, binOp, Op.intBits, bNot]
theorem ev_shl [Env] {t t' : TypeId} {x y : Operand} {k k' : IntKind} {p q : Int} (hx : ev l x = some (.int k p)) (hy : ev l y = some (.int k' q)) (hq : 0 ≤ q) :
    Ev P n ⟨d, .binOp .shl t x y t', ty, pos, af, g⟩ l L (.int k (k.wrap (p * 2 ^ (min q.toNat k.bits)))) :=
  fun a w hf _ => by simp [execOp, hf.ev hx, hf.ev hy, eqGuard, binOp, Op.shift, Int.not_lt.2 hq]
theorem ev_shr [Env] {t t' : TypeId} {x y : Operand} {k k' : IntKind} {p q : Int} (hx : ev l x = some (.int k p)) (hy : ev l y = some (.int k' q)) (hq : 0 ≤ q) :
    Ev P n ⟨d, .binOp .shr t x y t', ty, pos, af, g⟩ l L (.int k (p.fdiv (2 ^ (min q.toNat k.bits)))) :=
  fun a w hf _ => by simp [execOp, hf.ev hx, hf.ev hy, eqGuard, binOp, Op.shift, Int.not_lt.2 hq]
theorem ev_eql [Env] {t t' : TypeId} {x y : Operand} {k : IntKind} {p q : Int} (hx : ev l x = some (.int k p)) (hy : ev l y = some (.int k q)) :
    Ev P n ⟨d, .binOp .eql t x y t', ty, pos, af, g⟩ l L (.bool (decide (p = q))) :=
  fun a w hf _ => by simp [execOp, hf.ev hx, hf.ev hy, eqGuard, binOp, Op.intCmp]; rfl
theorem ev_neq [Env] {t t' : TypeId} {x y : Operand} {k : IntKind} {p q : Int} (hx : ev l x = some (.int k p)) (hy : ev l y = some (.int k q)) :
    Ev P n ⟨d, .binOp .neq t x y t', ty, pos, af, g⟩ l L (.bool (!decide (p = q))) :=
  fun a w hf _ => by simp [execOp, hf.ev hx, hf.ev hy, eqGuard, binOp, Op.intCmp]; rfl
theorem ev_lss [Env] {t t' : TypeId} {x y : Operand} {k : IntKind} {p q : Int} (hx : ev l x = some (.int k p)) (hy : ev l y = some (.int k q)) :
    Ev P n ⟨d, .binOp .lss t x y t', ty, pos, af, g⟩ l L (.bool (decide (p < q))) :=
  fun a w hf _ => by simp [execOp, hf.ev hx, hf.ev hy, eqGuard, binOp, Op.intCmp]
theorem ev_leq [Env] {t t' : TypeId} {x y : Operand} {k : IntKind} {p q : Int} (hx : ev l x = some (.int k p)) (hy : ev l y = some (.int k q)) :
    Ev P n ⟨d, .binOp .leq t x y t', ty, pos, af, g⟩ l L (.bool (decide (p ≤ q))) :=
  fun a w hf _ => by simp [execOp, hf.ev hx, hf.ev hy, eqGuard, binOp, Op.intCmp]
theorem ev_gtr [Env] {t t' : TypeId} {x y : Operand} {k : IntKind} {p q : Int} (hx : ev l x = some (.int k p)) (hy : ev l y = some (.int k q)) :
    Ev P n ⟨d, .binOp .gtr t x y t', ty, pos, af, g⟩ l L (.bool (decide (q < p))) :=
  fun a w hf _ => by simp [execOp, hf.ev hx, hf.ev hy, eqGuard, binOp, Op.intCmp]
theorem ev_geq [Env] {t t' : TypeId} {x y : Operand} {k : IntKind} {p q : Int} (hx : ev l x = some (.int k p)) (hy : ev l y = some (.int k q)) :
    Ev P n ⟨d, .binOp .geq t x y t', ty, pos, af, g⟩ l L (.bool (decide (q ≤ p))) :=
  fun a w hf _ => by simp [execOp, hf.ev hx, hf.ev hy, eqGuard, binOp, Op.intCmp]
theorem ev_eqlB [Env] {t t' : TypeId} {x y : Operand} {p q : Bool} (hx : ev l x = some (.bool p)) (hy : ev l y = some (.bool q)) (hu : P.underlying t = some .bool) :
    Ev P n ⟨d, .binOp .eql t x y t', ty, pos, af, g⟩ l L (.bool (p == q)) :=
  fun a w hf _ => by simp [execOp, hf.ev hx, hf.ev hy, eqGuard, run_eql_bool w t p q hu]
theorem ev_neqB [Env] {t t' : TypeId} {x y : Operand} {p q : Bool} (hx : ev l x = some (.bool p)) (hy : ev l y = some (.bool q)) (hu : P.underlying t = some .bool) :
    Ev P n ⟨d, .binOp .neq t x y t', ty, pos, af, g⟩ l L (.bool (!(p == q))) :=
  fun a w hf _ => by simp [execOp, hf.ev hx, hf.ev hy, eqGuard, run_neq_bool w t p q hu]
theorem ev_eqlS [Env] {t t' : TypeId} {x y : Operand} {p q : ByteArray} (hx : ev l x = some (.string p)) (hy : ev l y = some (.string q)) :
    Ev P n ⟨d, .binOp .eql t x y t', ty, pos, af, g⟩ l L (.bool (p.toList == q.toList)) :=
  fun a w hf _ => by simp [execOp, hf.ev hx, hf.ev hy, eqGuard, binOp, Op.stringOp]
theorem ev_neqS [Env] {t t' : TypeId} {x y : Operand} {p q : ByteArray} (hx : ev l x = some (.string p)) (hy : ev l y = some (.string q)) :
    Ev P n ⟨d, .binOp .neq t x y t', ty, pos, af, g⟩ l L (.bool (!(p.toList == q.toList))) :=
  fun a w hf _ => by simp [execOp, hf.ev hx, hf.ev hy, eqGuard, binOp, Op.stringOp]
theorem run_eqPnil {t e : TypeId} (p : Option Addr) (hu : P.underlying t = some (.pointer e)) (w : World) : (Op.equal t (.pointer p) (.pointer none)).run P w = .ok p.isNone w :=
  run_equal_pointer_nil w t p (by simp [Program.pointee, hu])
theorem ev_eqlPnil [Env] {t t' e : TypeId} {x y : Operand} {p : Option Addr} (hx : ev l x = some (.pointer p)) (hy : ev l y = some (.pointer none)) (hu : P.underlying t = some (.pointer e)) :
    Ev P n ⟨d, .binOp .eql t x y t', ty, pos, af, g⟩ l L (.bool p.isNone) :=
  fun a w hf _ => by cases p <;> simp [execOp, hf.ev hx, hf.ev hy, eqGuard, binOp, run_eqPnil _ hu]
theorem ev_neqPnil [Env] {t t' e : TypeId} {x y : Operand} {p : Option Addr} (hx : ev l x = some (.pointer p)) (hy : ev l y = some (.pointer none)) (hu : P.underlying t = some (.pointer e)) :
    Ev P n ⟨d, .binOp .neq t x y t', ty, pos, af, g⟩ l L (.bool p.isSome) :=
  fun a w hf _ => by cases p <;> simp [execOp, hf.ev hx, hf.ev hy, eqGuard, binOp, run_eqPnil _ hu]
theorem ev_not [Env] {t : TypeId} {x : Operand} {p : Bool} (hx : ev l x = some (.bool p)) : Ev P n ⟨d, .unOp .not t x, ty, pos, af, g⟩ l L (.bool (!p)) :=
  fun a w hf _ => by simp [execOp, hf.ev hx, Op.unary]
theorem ev_neg [Env] {t : TypeId} {x : Operand} {k : IntKind} {p : Int} (hx : ev l x = some (.int k p)) : Ev P n ⟨d, .unOp .neg t x, ty, pos, af, g⟩ l L (.int k (k.wrap (-p))) :=
  fun a w hf _ => by simp [execOp, hf.ev hx, Op.unary, Op.intArith]
theorem ev_cpl [Env] {t : TypeId} {x : Operand} {k : IntKind} {p : Int} (hx : ev l x = some (.int k p)) : Ev P n ⟨d, .unOp .xor t x, ty, pos, af, g⟩ l L (.int k (bXor k (if k.signed then -1 else k.max) p)) :=
  fun a w hf _ => by simp [execOp, hf.ev hx, Op.unary, Op.intBits, bXor]
theorem ev_conv [Env] {s t : TypeId} {x : Operand} {k k' : IntKind} {p : Int} {ds : TypeDesc} (hx : ev l x = some (.int k p)) (hs : P.underlying s = some ds) (ht : P.underlying t = some (.int k')) :
    Ev P n ⟨d, .convert s t x, ty, pos, af, g⟩ l L (.int k' (k'.wrap p)) :=
  fun a w hf _ => by simp [execOp, hf.ev hx, convert, run_underlying hs, run_underlying ht, Conv.intToInt]

/-! lengths, places -/
theorem ev_len [Env] {x : Operand} {t : TypeId} {T e : TypeId} {b : Option Addr} {m c : Nat} (hx : ev l x = some (.slice b m c)) (hu : P.underlying T = some (.slice e)) :
    Ev P n ⟨d, .call { callee := .builtin .len, args := #[x], argTypes := #[T] }, t, pos, af, g⟩ l L (.int .i64 m) :=
  fun a w hf _ => by simp [execOp, resolve, invoke, builtin, hf.ev hx, Builtin.len_, run_underlying hu, goInt]
theorem ev_lenS [Env] {x : Operand} {t : TypeId} {T : TypeId} {s : ByteArray} (hx : ev l x = some (.string s)) (hu : P.underlying T = some .string) :
    Ev P n ⟨d, .call { callee := .builtin .len, args := #[x], argTypes := #[T] }, t, pos, af, g⟩ l L (.int .i64 s.size) :=
  fun a w hf _ => by simp [execOp, resolve, invoke, builtin, hf.ev hx, Builtin.len_, run_underlying hu, goInt]
theorem ev_lenA [Env] {x : Operand} {t : TypeId} {T e : TypeId} {m : Nat} {v : Value} (hx : ev l x = some v) (hu : P.underlying T = some (.array m e)) :
    Ev P n ⟨d, .call { callee := .builtin .len, args := #[x], argTypes := #[T] }, t, pos, af, g⟩ l L (.int .i64 m) :=
  fun a w hf _ => by cases v <;> simp [execOp, resolve, invoke, builtin, hf.ev hx, Builtin.len_, run_underlying hu, goInt]
theorem ev_lenM [Env] {x : Operand} {t : TypeId} {T k e : TypeId} {b c : Nat} {es : Array MapEntry} (hx : ev l x = some (.map (some b))) (hu : P.underlying T = some (.map k e)) (hi : In L (so b (.map es c))) :
    Ev P n ⟨d, .call { callee := .builtin .len, args := #[x], argTypes := #[T] }, t, pos, af, g⟩ l L (.int .i64 es.size) :=
  fun a w hf hh => by simp [execOp, resolve, invoke, builtin, hf.ev hx, Builtin.len_, run_underlying hu, goInt, getObj, Sem.run, hh.obj hi]

theorem ev_max [Env] {x y : Operand} {t : TypeId} {ts : Array TypeId} {k : IntKind} {p q : Int} (hx : ev l x = some (.int k p)) (hy : ev l y = some (.int k q)) :
    Ev P n ⟨d, .call { callee := .builtin .max, args := #[x, y], argTypes := ts }, t, pos, af, g⟩ l L (.int k (if q > p then q else p)) :=
  fun a w hf _ => by simp [execOp, resolve, invoke, builtin, hf.ev hx, hf.ev hy, Builtin.max_, Builtin.max2]
theorem ev_min [Env] {x y : Operand} {t : TypeId} {ts : Array TypeId} {k : IntKind} {p q : Int} (hx : ev l x = some (.int k p)) (hy : ev l y = some (.int k q)) :
    Ev P n ⟨d, .call { callee := .builtin .min, args := #[x, y], argTypes := ts }, t, pos, af, g⟩ l L (.int k (if q < p then q else p)) :=
  fun a w hf _ => by simp [execOp, resolve, invoke, builtin, hf.ev hx, hf.ev hy, Builtin.min_, Builtin.min2]

theorem ev_ixAddr [Env] {t e : TypeId} {x y : Operand} {k : IntKind} {b o m c s : Nat} {i : Int} (hx : ev l x = some (.slice (some ⟨b, o, none⟩) m c)) (hy : ev l y = some (.int k i))
    (hu : P.underlying t = some (.slice e)) (hs : ∀ w, (sizeOf e).run P w = .ok s w) (h0 : 0 ≤ i) (h1 : i < m) :
    Ev P n ⟨d, .indexAddr t x y, ty, pos, af, g⟩ l L (.pointer (some ⟨b, o + i.toNat * s, none⟩)) :=
  fun a w hf _ => by simp [execOp, Instr.indexAt, asIntOf, hf.ev hx, hf.ev hy, run_underlying hu, hs, h0, h1, add_lit]
theorem ev_ixAddrA [Env] {t e : TypeId} {x y : Operand} {k : IntKind} {b o m s : Nat} {i : Int} (hx : ev l x = some (.pointer (some ⟨b, o, none⟩))) (hy : ev l y = some (.int k i))
    (hu : P.underlying t = some (.array m e)) (hs : ∀ w, (sizeOf e).run P w = .ok s w) (h0 : 0 ≤ i) (h1 : i < m) :
    Ev P n ⟨d, .indexAddr t x y, ty, pos, af, g⟩ l L (.pointer (some ⟨b, o + i.toNat * s, none⟩)) :=
  fun a w hf _ => by simp [execOp, Instr.indexAt, Instr.sureAddr, asIntOf, hf.ev hx, hf.ev hy, run_underlying hu, hs, h0, h1, add_lit]
theorem ev_ixS [Env] {t : TypeId} {x y : Operand} {k : IntKind} {i : Int} {s : ByteArray} {u : UInt8} (hx : ev l x = some (.string s)) (hy : ev l y = some (.int k i))
    (hu : P.underlying t = some .string) (h0 : 0 ≤ i) (h1 : s[i.toNat]? = some u) :
    Ev P n ⟨d, .index t x y, ty, pos, af, g⟩ l L (.int .u8 u.toNat) :=
  fun a w hf _ => by simp [execOp, Instr.index, asIntOf, hf.ev hx, hf.ev hy, run_underlying hu, h0, h1]
theorem ev_ixA1 [Env] {t e : TypeId} {x y : Operand} {k : IntKind} {m : Nat} {i : Int} {cs : List Value} {v : Value} (hx : ev l x = some (.agg cs.toArray)) (hy : ev l y = some (.int k i))
    (hu : P.underlying t = some (.array m e)) (ha : ∀ w, (isAgg e).run P w = .ok false w) (hs : ∀ w, (sizeOf e).run P w = .ok 1 w) (h0 : 0 ≤ i) (h1 : i < m) (hv : cs[i.toNat]? = some v) :
    Ev P n ⟨d, .index t x y, ty, pos, af, g⟩ l L v :=
  fun a w hf _ => by simp [execOp, Instr.index, asIntOf, hf.ev hx, hf.ev hy, run_underlying hu, h0, h1, part, ha, hs, hv]

/-! slicing -/
theorem ev_slA [Env] {t e : TypeId} {x : Operand} {b o m s : Nat} (hx : ev l x = some (.pointer (some ⟨b, o, none⟩))) (hu : P.underlying t = some (.array m e)) (hs : ∀ w, (sizeOf e).run P w = .ok s w) :
    Ev P n ⟨d, .slice t x none none none, ty, pos, af, g⟩ l L (.slice (some ⟨b, o, none⟩) m m) :=
  fun a w hf _ => by simp [execOp, Instr.sliceAt, Instr.sureAddr, hf.ev hx, run_underlying hu, hs, Instr.sliceBounds, Addr.add]
theorem ev_slAh [Env] {t e : TypeId} {x y : Operand} {b o m s : Nat} {k : IntKind} {h : Int} (hx : ev l x = some (.pointer (some ⟨b, o, none⟩))) (hy : ev l y = some (.int k h)) (hu : P.underlying t = some (.array m e)) (hs : ∀ w, (sizeOf e).run P w = .ok s w)
    (h0 : 0 ≤ h) (h1 : h ≤ m) :
    Ev P n ⟨d, .slice t x none (some y) none, ty, pos, af, g⟩ l L (.slice (some ⟨b, o, none⟩) h.toNat m) :=
  fun a w hf _ => by simp [execOp, Instr.sliceAt, Instr.sureAddr, hf.ev hx, hf.ev hy, run_underlying hu, hs, Instr.sliceBounds, run_sliceBound, h0, h1, Addr.add]
/-- s[lo:hi] of a slice, where something is left behind it. -/
theorem ev_slLH [Env] {t e : TypeId} {x y z : Operand} {b o m c s : Nat} {k k' : IntKind} {lo hi : Int} (hx : ev l x = some (.slice (some ⟨b, o, none⟩) m c)) (hy : ev l y = some (.int k lo)) (hz : ev l z = some (.int k' hi))
    (hu : P.underlying t = some (.slice e)) (hs : ∀ w, (sizeOf e).run P w = .ok s w) (h0 : 0 ≤ lo) (h1 : lo ≤ hi) (h2 : hi ≤ c) :
    Ev P n ⟨d, .slice t x (some y) (some z) none, ty, pos, af, g⟩ l L (.slice (some (if c = lo.toNat then ⟨b, o, none⟩ else ⟨b, o + lo.toNat * s, none⟩)) (hi.toNat - lo.toNat) (c - lo.toNat)) :=
  fun a w hf _ => by
    have he : P.elem t = e := by simp [Program.elem, hu]
    have hu' : P.underlying t = some (.slice (P.elem t)) := by rw [he]; exact hu
    simp only [execOp, Option.map_some, Option.map_none, hf.ev hx, hf.ev hy, hf.ev hz, Sem.run_bind, run_sliceAt_slice w t _ _ _ _ hu', run_slice_lh w t (some ⟨b, o, none⟩) m c hu' k k' lo hi h0 h1 h2, he, hs, Result.andThen_ok, Sem.run_pure, sliced, Option.map_some, add_lit]
    split <;> rfl
theorem ev_slH [Env] {t e : TypeId} {x z : Operand} {b o m c s : Nat} {k' : IntKind} {hi : Int} (hx : ev l x = some (.slice (some ⟨b, o, none⟩) m c)) (hz : ev l z = some (.int k' hi))
    (hu : P.underlying t = some (.slice e)) (hs : ∀ w, (sizeOf e).run P w = .ok s w) (h1 : 0 ≤ hi) (h2 : hi ≤ c) :
    Ev P n ⟨d, .slice t x none (some z) none, ty, pos, af, g⟩ l L (.slice (some ⟨b, o, none⟩) hi.toNat c) :=
  fun a w hf _ => by
    have he : P.elem t = e := by simp [Program.elem, hu]
    have hu' : P.underlying t = some (.slice (P.elem t)) := by rw [he]; exact hu
    simp only [execOp, Option.map_some, Option.map_none, hf.ev hx, hf.ev hz, Sem.run_bind, run_sliceAt_slice w t _ _ _ _ hu', run_slice_h w t (some ⟨b, o, none⟩) m c hu' k' hi h1 h2, he, hs, Result.andThen_ok, Sem.run_pure, sliced, Option.map_some, add_lit, Nat.zero_mul, Nat.add_zero, ite_self, Nat.sub_zero]
theorem ev_slL [Env] {t e : TypeId} {x y : Operand} {b o m c s : Nat} {k : IntKind} {lo : Int} (hx : ev l x = some (.slice (some ⟨b, o, none⟩) m c)) (hy : ev l y = some (.int k lo))
    (hu : P.underlying t = some (.slice e)) (hs : ∀ w, (sizeOf e).run P w = .ok s w) (h0 : 0 ≤ lo) (h1 : lo ≤ m) :
    Ev P n ⟨d, .slice t x (some y) none none, ty, pos, af, g⟩ l L (.slice (some (if c = lo.toNat then ⟨b, o, none⟩ else ⟨b, o + lo.toNat * s, none⟩)) (m - lo.toNat) (c - lo.toNat)) :=
  fun a w hf _ => by
    have he : P.elem t = e := by simp [Program.elem, hu]
    have hu' : P.underlying t = some (.slice (P.elem t)) := by rw [he]; exact hu
    simp only [execOp, Option.map_some, Option.map_none, hf.ev hx, hf.ev hy, Sem.run_bind, run_sliceAt_slice w t _ _ _ _ hu', run_slice_l w t (some ⟨b, o, none⟩) m c hu' k lo h0 h1, he, hs, Result.andThen_ok, Sem.run_pure, sliced, Option.map_some, add_lit]
    split <;> rfl

theorem ev_extract [Env] {x : Operand} {vs : List Value} {i : Nat} {v : Value} (hx : ev l x = some (.tuple vs.toArray)) (hv : vs[i]? = some v) :
    Ev P n ⟨d, .extract x i, ty, pos, af, g⟩ l L v :=
  fun a w hf _ => by simp [execOp, hf.ev hx, Instr.extract, hv]
theorem ev_mkFunc [Env] {f : Fn} {c : Array Operand} {vs : Array Value} (hx : ∀ a : Act, Fr n l a → c.map a.eval = vs) :
    Ev P n ⟨d, .makeFunc f #[] c, ty, pos, af, g⟩ l L (.func f #[] vs) :=
  fun a w hf _ => by simp [execOp, Instr.makeFunc, hx a hf]
theorem ev_iface [Env] {t : TypeId} {x : Operand} {v : Value} (hx : ev l x = some v) (hu : P.concrete t = true) :
    Ev P n ⟨d, .makeInterface t x, ty, pos, af, g⟩ l L (.iface t v) :=
  fun a w hf _ => by simp [execOp, hf.ev hx, run_makeInterface _ t v hu]
end
end Go.Sl
