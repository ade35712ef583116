/- A part of the proof: contracts and plain lemmas, each without conditions beyond those that it names. -/
import Derived.Test.YtebijajimmjknaaGreatZ1
import Derived.Test.YtebijajimmjknaaGreatWitK
import Derived.Test.YtebijajimmjknaaGreatGH
import Derived.DeepKeys
import Derived.Test.YtebijajimmjknaaGreatGE
set_option linter.unusedVariables false
set_option linter.unusedSimpArgs false
set_option linter.constructorNameAsVariable false
namespace Go.Proofs
open Go Go.Sl
namespace W
set_option linter.unusedVariables false
end W
end Go.Proofs
namespace Go.Proofs
open Go Go.Sl
namespace W
set_option linter.unusedVariables false
end W
end Go.Proofs
namespace Go.Proofs
open Go Go.Sl
namespace W
set_option linter.unusedVariables false
end W
end Go.Proofs
namespace Go.Proofs
open Go Go.Sl
namespace W
set_option linter.unusedVariables false
end W
end Go.Proofs
namespace Go.Sl
open Go
set_option linter.unusedSimpArgs false
inductive Kd where
  | b
  | i (k : IntKind)
  | s
def Kd.ok : Kd → Value → Bool
  | .b, .bool _ => true
  | .i k, .int k' _ => decide (k = k')
  | .s, .string _ => true
  | _, _ => false
def okL : List Kd → List Value → Bool
  | [], [] => true
  | k :: ks, v :: vs => k.ok v && okL ks vs
  | _, _ => false
theorem okL.len : ∀ {ks : List Kd} {vs : List Value}, okL ks vs = true → ks.length = vs.length
  | [], [], _ => rfl
  | [], _ :: _, h => by cases h
  | _ :: _, [], h => by cases h
  | k :: ks, v :: vs, h => by
    unfold okL at h
    rw [Bool.and_eq_true] at h
    rw [List.length_cons, List.length_cons, okL.len h.2]
theorem okL.split : ∀ {ps qs : List Kd} {vs : List Value}, okL (ps ++ qs) vs = true → okL ps (vs.take ps.length) = true ∧ okL qs (vs.drop ps.length) = true
  | [], qs, vs, h => by
    refine ⟨?_, by simpa using h⟩
    rfl
  | k :: ps, qs, [], h => by cases h
  | k :: ps, qs, v :: vs, h => by
    rw [List.cons_append] at h
    unfold okL at h
    rw [Bool.and_eq_true] at h
    obtain ⟨h1, h2⟩ := okL.split h.2
    refine ⟨?_, by simpa using h2⟩
    rw [List.length_cons, List.take_succ_cons]
    unfold okL
    rw [h.1, h1]; rfl
def flatFs (P : Program) (F : TypeId → Option (List Kd)) : List Field → Nat → Option (List Kd)
  | [], _ => some []
  | f :: fs, o => if f.name ≠ "_" ∧ f.offset = o then
      match F f.type with
      | some l => (match flatFs P F fs (o + l.length) with | some r => some (l ++ r) | none => none)
      | none => none
    else none
def flatAt (P : Program) : Nat → TypeId → Option (List Kd)
  | 0, _ => none
  | m + 1, t => match P.underlying t with
    | some .bool => some [.b]
    | some (.int q) => some [.i q]
    | some .string => some [.s]
    | some (.array n e) => (match flatAt P m e with
      | some l => if P.cellsOf t = n * l.length ∧ P.cellsOf e = l.length then some ((List.replicate n l).flatten) else none
      | none => none)
    | some (.struct fs) => if P.stoodInHeld t = false then (match flatFs P (flatAt P m) fs.toList 0 with
      | some l => if P.cellsOf t = l.length then some l else none
      | none => none) else none
    | _ => none
structure Fits (P : Program) (t : TypeId) (ks : List Kd) (a : Value) : Prop where
  formed : a.formed P t = true
  ok : okL ks a.cells.toList = true
variable {P : Program}
theorem plain_cases {t : TypeId} {m : Nat} {ks : List Kd} (h : flatAt P (m + 1) t = some ks) :
    (P.plainKey t = true ∧ ∃ k, ks = [k] ∧ ((P.underlying t = some .bool ∧ k = .b) ∨ (∃ q, P.underlying t = some (.int q) ∧ k = .i q) ∨ (P.underlying t = some .string ∧ k = .s))) ∨
    (∃ n e l, P.underlying t = some (.array n e) ∧ flatAt P m e = some l ∧ P.cellsOf t = n * l.length ∧ P.cellsOf e = l.length ∧ ks = (List.replicate n l).flatten) ∨
    (∃ fs, P.underlying t = some (.struct fs) ∧ P.stoodInHeld t = false ∧ flatFs P (flatAt P m) fs.toList 0 = some ks ∧ P.cellsOf t = ks.length) := by
  unfold flatAt at h
  cases hu : P.underlying t with
  | none => simp [hu] at h
  | some d =>
    cases d
    case bool => simp [hu] at h; exact .inl ⟨by simp [Program.plainKey, hu], _, h.symm, .inl ⟨rfl, rfl⟩⟩
    case int q => simp [hu] at h; exact .inl ⟨by simp [Program.plainKey, hu], _, h.symm, .inr (.inl ⟨q, rfl, rfl⟩)⟩
    case string => simp [hu] at h; exact .inl ⟨by simp [Program.plainKey, hu], _, h.symm, .inr (.inr ⟨rfl, rfl⟩)⟩
    case array n e =>
      simp only [hu] at h
      cases hl : flatAt P m e with
      | none => simp [hl] at h
      | some l =>
        simp only [hl] at h
        split at h
        · rename_i hc; exact .inr (.inl ⟨n, e, l, rfl, hl, hc.1, hc.2, (Option.some.inj h).symm⟩)
        · cases h
    case struct fs =>
      simp only [hu] at h
      split at h
      · rename_i hs
        cases hl : flatFs P (flatAt P m) fs.toList 0 with
        | none => simp [hl] at h
        | some l =>
          simp only [hl] at h
          split at h
          · rename_i hc
            have := Option.some.inj h
            subst this
            exact .inr (.inr ⟨fs, rfl, hs, hl, hc⟩)
          · cases h
      · cases h
    all_goals (simp [hu] at h; done)
theorem ok_one {k : Kd} {vs : List Value} (h : okL [k] vs = true) : ∃ v, vs = [v] ∧ k.ok v = true := by
  match vs, h with
  | [v], h => unfold okL at h; rw [Bool.and_eq_true] at h; exact ⟨v, rfl, h.1⟩
  | [], h => cases h
  | v :: u :: vs, h => unfold okL at h; rw [Bool.and_eq_true] at h; cases h.2
theorem cellsOne {a : Value} {v : Value} {t : TypeId} (hf : a.formed P t = true) (hp : P.plainKey t = true) (h : a.cells.toList = [v]) : a = v := by
  unfold Program.plainKey at hp
  cases hu : P.underlying t with
  | none => simp [hu] at hp
  | some d =>
    cases a
    case agg cs => cases d <;> simp [hu] at hp <;> simp [Value.formed, hu] at hf
    case tuple cs => simp [Value.formed] at hf
    all_goals (simp [Value.cells] at h; exact h)
theorem part_flat (w : World) {m : Nat} {e : TypeId} {l : List Kd} (h : flatAt P m e = some l) {xs : Array Value} {off : Nat} (hx : okL l ((xs.toList.drop off).take l.length) = true) :
    ∃ a, (part e xs off).run P w = .ok a w ∧ Fits P e l a ∧ a.cells.toList = (xs.toList.drop off).take l.length := by
  cases m with
  | zero => cases h
  | succ m =>
    have agg : P.cellsOf e = l.length → (∃ n e', P.underlying e = some (.array n e')) ∨ (∃ fs, P.underlying e = some (.struct fs)) → ∃ a, (part e xs off).run P w = .ok a w ∧ Fits P e l a ∧ a.cells.toList = (xs.toList.drop off).take l.length := by
      intro hc hk
      have hinfo : ∃ i, P.info? e = some i := by rcases hk with ⟨n, e', hu⟩ | ⟨fs, hu⟩ <;> exact info_of_underlying hu
      obtain ⟨i, hi⟩ := hinfo
      have hl : (xs.extract off (off + P.cellsOf e)).toList = (xs.toList.drop off).take l.length := by
        rw [Array.toList_extract, hc]; simp [List.extract]
      have hs : (xs.extract off (off + P.cellsOf e)).size = P.cellsOf e := by rw [← Array.length_toList, hl, ← okL.len hx, hc]
      refine ⟨.agg (xs.extract off (off + P.cellsOf e)), ?_, ⟨?_, by show okL l (xs.extract off (off + P.cellsOf e)).toList = true; rw [hl]; exact hx⟩, hl⟩
      · rcases hk with ⟨n, e', hu⟩ | ⟨fs, hu⟩ <;> simp [part, isAgg, run_underlying hu, run_sizeOf w hi]
      · rcases hk with ⟨n, e', hu⟩ | ⟨fs, hu⟩ <;> simp [Value.formed, hu, hs]
    rcases plain_cases h with ⟨hp, k, rfl, hk⟩ | ⟨n, e', l', hu, hl, hc, hc2, rfl⟩ | ⟨fs, hu, _, hl, hc⟩
    · obtain ⟨v, hv, hkv⟩ := ok_one hx
      have hxo : xs[off]? = some v := by
        have h0 := congrArg (·[0]?) hv
        simp only [List.getElem?_cons_zero, List.length_singleton, List.getElem?_take, Nat.zero_lt_one, if_true, List.getElem?_drop, Nat.add_zero] at h0
        simpa using h0
      have hvc : v.cells.toList = [v] := by
        rcases hk with ⟨_, rfl⟩ | ⟨q, _, rfl⟩ | ⟨_, rfl⟩ <;> cases v <;> simp_all [Kd.ok, Value.cells]
      refine ⟨v, run_part_plain w hp hxo, ⟨?_, by rw [hvc]; unfold okL; rw [hkv]; rfl⟩, by rw [hvc, hv]⟩
      rcases hk with ⟨hu, rfl⟩ | ⟨q, hu, rfl⟩ | ⟨hu, rfl⟩ <;> cases v <;> simp_all [Kd.ok, Value.formed]
    · exact agg (by rw [hc]; simp) (.inl ⟨n, e', hu⟩)
    · exact agg hc (.inr ⟨fs, hu⟩)
def EqOk (P : Program) (dd : Nat) (F : TypeId → Option (List Kd)) : Prop :=
  ∀ (t : TypeId) (ks : List Kd), F t = some ks → ∀ (w : World) (a b : Value), Fits P t ks a → Fits P t ks b → ∃ r : Bool, (Op.equalIn dd t a b).run P w = .ok r w ∧ (r = true ↔ a.cells.toList = b.cells.toList)
theorem append_and {a1 b1 c1 d1 : List Value} (h : a1.length = b1.length) : a1 ++ c1 = b1 ++ d1 ↔ (a1 = b1 ∧ c1 = d1) :=
  ⟨fun e => List.append_inj e h, fun ⟨e1, e2⟩ => by rw [e1, e2]⟩
theorem fields_flat {m dd : Nat} (hE : EqOk P dd (flatAt P m)) (xs ys : Array Value) (w : World) : ∀ (fs : List Field) (o : Nat) (ks : List Kd), flatFs P (flatAt P m) fs o = some ks →
    okL ks ((xs.toList.drop o).take ks.length) = true → okL ks ((ys.toList.drop o).take ks.length) = true →
    ∃ r : Bool, (Op.eqFields dd xs ys fs).run P w = .ok r w ∧ (r = true ↔ (xs.toList.drop o).take ks.length = (ys.toList.drop o).take ks.length)
  | [], o, ks, h, _, _ => by
    unfold flatFs at h
    cases h
    exact ⟨true, by simp [Op.eqFields], by simp⟩
  | f :: fs, o, ks, h, hx, hy => by
    unfold flatFs at h
    split at h
    · rename_i hn
      cases hl : flatAt P m f.type with
      | none => simp [hl] at h
      | some l =>
        cases hr : flatFs P (flatAt P m) fs (o + l.length) with
        | none => simp [hl, hr] at h
        | some r =>
          simp only [hl, hr] at h
          have := Option.some.inj h
          subst this
          have tk : ∀ zs : Array Value, (zs.toList.drop o).take (l ++ r).length = (zs.toList.drop o).take l.length ++ (zs.toList.drop (o + l.length)).take r.length := by
            intro zs
            rw [List.length_append, List.take_add, List.drop_drop]
          have lx := okL.len hx
          have ly := okL.len hy
          obtain ⟨x1, x2⟩ := okL.split hx
          obtain ⟨y1, y2⟩ := okL.split hy
          have t1 : ∀ zs : Array Value, ((zs.toList.drop o).take (l ++ r).length).take l.length = (zs.toList.drop o).take l.length := by
            intro zs; rw [List.take_take]; congr 1; simp
          have t2 : ∀ zs : Array Value, ((zs.toList.drop o).take (l ++ r).length).drop l.length = (zs.toList.drop (o + l.length)).take r.length := by
            intro zs
            rw [List.drop_take, List.drop_drop]
            congr 1; simp
          rw [t1] at x1 y1
          rw [t2] at x2 y2
          obtain ⟨a, p1, f1, c1⟩ := part_flat w hl x1
          obtain ⟨b, p2, f2, c2⟩ := part_flat w hl y1
          obtain ⟨r1, h3, i3⟩ := hE f.type l hl w a b f1 f2
          obtain ⟨r2, h4, i4⟩ := fields_flat hE xs ys w fs (o + l.length) r hr x2 y2
          rw [← hn.2] at p1 p2
          rw [c1, c2] at i3
          rw [tk, tk, append_and (by rw [← okL.len x1, ← okL.len y1]), ← i3, ← i4]
          simp only [Op.eqFields, hn.1, ne_eq, not_false_eq_true, if_true, Sem.run_bind, p1, p2, h3, Result.andThen_ok]
          cases r1
          · exact ⟨false, by simp, by simp⟩
          · exact ⟨r2, by simpa using h4, by simp⟩
    · cases h
theorem items_flat {m dd : Nat} {e : TypeId} {l : List Kd} (hl : flatAt P m e = some l) (hc : P.cellsOf e = l.length) (hE : EqOk P dd (flatAt P m)) (xs ys : Array Value) (w : World) : ∀ (n o : Nat),
    okL (List.replicate n l).flatten ((xs.toList.drop (o * l.length)).take (n * l.length)) = true → okL (List.replicate n l).flatten ((ys.toList.drop (o * l.length)).take (n * l.length)) = true →
    ∃ r : Bool, (Op.eqItems dd e (P.cellsOf e) xs ys (List.range' o n)).run P w = .ok r w ∧ (r = true ↔ (xs.toList.drop (o * l.length)).take (n * l.length) = (ys.toList.drop (o * l.length)).take (n * l.length))
  | 0, o, _, _ => ⟨true, by simp [Op.eqItems], by simp⟩
  | n + 1, o, hx, hy => by
    have hfl : (List.replicate (n + 1) l).flatten = l ++ (List.replicate n l).flatten := by simp [List.replicate_succ]
    rw [hfl] at hx hy
    have tk : ∀ zs : Array Value, (zs.toList.drop (o * l.length)).take ((n + 1) * l.length) = (zs.toList.drop (o * l.length)).take l.length ++ (zs.toList.drop ((o + 1) * l.length)).take (n * l.length) := by
      intro zs
      rw [show (n + 1) * l.length = l.length + n * l.length by rw [Nat.add_mul]; omega, List.take_add, List.drop_drop, show (o + 1) * l.length = o * l.length + l.length by rw [Nat.add_mul]; omega]
    obtain ⟨x1, x2⟩ := okL.split hx
    obtain ⟨y1, y2⟩ := okL.split hy
    have hlen : ∀ zs : Array Value, okL (l ++ (List.replicate n l).flatten) ((zs.toList.drop (o * l.length)).take ((n + 1) * l.length)) = true → ((zs.toList.drop (o * l.length)).take l.length).length = l.length := by
      intro zs hz
      have := okL.len hz
      simp at this
      rw [List.length_take, List.length_drop]
      have h2 : l.length ≤ (n + 1) * l.length := by rw [Nat.add_mul]; omega
      have h3 : (n + 1) * l.length = l.length + n * l.length := by rw [Nat.add_mul]; omega
      simp
      omega
    have t1 : ∀ zs : Array Value, ((zs.toList.drop (o * l.length)).take ((n + 1) * l.length)).take l.length = (zs.toList.drop (o * l.length)).take l.length := by
      intro zs; rw [List.take_take]; congr 1; rw [Nat.add_mul]; omega
    have t2 : ∀ zs : Array Value, ((zs.toList.drop (o * l.length)).take ((n + 1) * l.length)).drop l.length = (zs.toList.drop ((o + 1) * l.length)).take (n * l.length) := by
      intro zs
      rw [List.drop_take, List.drop_drop, show (o + 1) * l.length = o * l.length + l.length by rw [Nat.add_mul]; omega]
      congr 1; rw [Nat.add_mul]; omega
    have hxl := hlen xs hx
    have hyl := hlen ys hy
    rw [t1] at x1 y1
    rw [t2] at x2 y2
    obtain ⟨a, p1, f1, c1⟩ := part_flat w hl x1
    obtain ⟨b, p2, f2, c2⟩ := part_flat w hl y1
    obtain ⟨r1, h3, i3⟩ := hE e l hl w a b f1 f2
    obtain ⟨r2, h4, i4⟩ := items_flat hl hc hE xs ys w n (o + 1) x2 y2
    rw [c1, c2] at i3
    rw [tk, tk, append_and (by rw [hxl, hyl]), ← i3, ← i4]
    rw [← hc] at p1 p2
    rw [List.range'_succ]
    simp only [Op.eqItems, Sem.run_bind, p1, p2, h3, Result.andThen_ok]
    cases r1
    · exact ⟨false, by simp, by simp⟩
    · exact ⟨r2, by simpa using h4, by simp⟩
theorem eq_flat (d : Nat) : ∀ m : Nat, EqOk P (d + m) (flatAt P m)
  | 0 => fun t ks h => by cases h
  | m + 1 => by
    intro t ks h w a b ha hb
    have IH := eq_flat d m
    have hla := okL.len ha.ok
    have hlb := okL.len hb.ok
    rcases plain_cases h with ⟨hp, k, rfl, hk⟩ | ⟨n, e', l', hu, hl, hc, hc2, rfl⟩ | ⟨fs, hu, hs, hl, hc⟩
    · obtain ⟨x, hx, kx⟩ := ok_one ha.ok
      obtain ⟨y, hy, ky⟩ := ok_one hb.ok
      have := cellsOne ha.formed hp hx
      subst this
      have := cellsOne hb.formed hp hy
      subst this
      rw [hx, hy, show d + (m + 1) = (d + m) + 1 from rfl]
      rcases hk with ⟨hu, rfl⟩ | ⟨q, hu, rfl⟩ | ⟨hu, rfl⟩
      · cases a <;> cases b <;> simp [Kd.ok] at kx ky
        rename_i p q
        exact ⟨_, run_equalIn_bool w _ t p q hu, by simp⟩
      · cases a <;> cases b <;> simp [Kd.ok] at kx ky
        rename_i k1 p k2 q'
        subst kx; subst ky
        exact ⟨_, run_equalIn_int w _ t _ _ p q' hu, by simp⟩
      · cases a <;> cases b <;> simp [Kd.ok] at kx ky
        rename_i p q
        exact ⟨_, run_equalIn_string w _ t p q hu, by
          simp only [beq_iff_eq, List.cons.injEq, Value.string.injEq, and_true, ByteArray.toList_eq, Array.toList_inj]
          exact ⟨fun e => ByteArray.ext e, fun e => by rw [e]⟩⟩
    · obtain ⟨i, hi⟩ := info_of_underlying hu
      have hfa := ha.formed
      have hfb := hb.formed
      cases a <;> simp [Value.formed, hu] at hfa
      cases b <;> simp [Value.formed, hu] at hfb
      rename_i xs ys
      obtain ⟨j, hj⟩ : ∃ j, P.info? e' = some j := by
        cases m with
        | zero => cases hl
        | succ m =>
          rcases plain_cases hl with ⟨hp, _⟩ | ⟨_, _, _, hu2, _⟩ | ⟨_, hu2, _⟩
          · unfold Program.plainKey at hp
            cases hu2 : P.underlying e' with
            | none => simp [hu2] at hp
            | some d => exact info_of_underlying hu2
          · exact info_of_underlying hu2
          · exact info_of_underlying hu2
      have hox : okL (List.replicate n l').flatten ((xs.toList.drop (0 * l'.length)).take (n * l'.length)) = true := by
        rw [Nat.zero_mul, List.drop_zero, List.take_of_length_le (by rw [← show (Value.agg xs).cells.toList = xs.toList from rfl, ← hla]; simp)]; exact ha.ok
      have hoy : okL (List.replicate n l').flatten ((ys.toList.drop (0 * l'.length)).take (n * l'.length)) = true := by
        rw [Nat.zero_mul, List.drop_zero, List.take_of_length_le (by rw [← show (Value.agg ys).cells.toList = ys.toList from rfl, ← hlb]; simp)]; exact hb.ok
      obtain ⟨r, h1, h2⟩ := items_flat hl hc2 IH xs ys w n 0 hox hoy
      rw [Nat.zero_mul, List.drop_zero, List.drop_zero, List.take_of_length_le (by rw [← show (Value.agg xs).cells.toList = xs.toList from rfl, ← hla]; simp), List.take_of_length_le (by rw [← show (Value.agg ys).cells.toList = ys.toList from rfl, ← hlb]; simp)] at h2
      refine ⟨r, ?_, h2⟩
      rw [show d + (m + 1) = (d + m) + 1 from rfl, run_equalIn_array w (d + m) xs ys hu hj, List.range_eq_range', h1]
    · have hfa := ha.formed
      have hfb := hb.formed
      cases a <;> simp [Value.formed, hu] at hfa
      cases b <;> simp [Value.formed, hu] at hfb
      rename_i xs ys
      have hfs : P.fieldsOf t = fs := by simp [Program.fieldsOf, hu]
      have ex : (xs.toList.drop 0).take ks.length = xs.toList := by rw [List.drop_zero, List.take_of_length_le (by rw [hla]; exact Nat.le_refl _)]
      have ey : (ys.toList.drop 0).take ks.length = ys.toList := by rw [List.drop_zero, List.take_of_length_le (by rw [hlb]; exact Nat.le_refl _)]
      obtain ⟨r, h1, h2⟩ := fields_flat IH xs ys w fs.toList 0 ks hl (by rw [ex]; exact ha.ok) (by rw [ey]; exact hb.ok)
      rw [ex, ey] at h2
      refine ⟨r, ?_, h2⟩
      rw [show d + (m + 1) = (d + m) + 1 from rfl, run_equalIn_struct w (d + m) t xs ys (by rw [hfs]; exact hu) hs, hfs, h1]
theorem run_eq_flat {t : TypeId} {ks : List Kd} {xs ys : List Value} (h : flatAt P 8 t = some ks) (hs : (match P.underlying t with | some (.struct _) | some (.array _ _) => true | _ => false) = true) (hx : okL ks xs = true) (hy : okL ks ys = true) (w : World) :
    ∃ r : Bool, (Op.equal t (.agg xs.toArray) (.agg ys.toArray)).run P w = .ok r w ∧ (r = true ↔ xs = ys) := by
  have hc : P.cellsOf t = ks.length := by
    rcases plain_cases (m := 7) h with ⟨hp, k, rfl, hk⟩ | ⟨n, e', l', hu, hl, hc, hc2, rfl⟩ | ⟨fs, hu, _, hl, hc⟩
    · rcases hk with ⟨hu, rfl⟩ | ⟨q, hu, rfl⟩ | ⟨hu, rfl⟩ <;> simp [hu] at hs
    · rw [hc]; simp
    · exact hc
  have fit : ∀ zs : List Value, okL ks zs = true → Fits P t ks (.agg zs.toArray) := by
    intro zs hz
    refine ⟨?_, by simpa [Value.cells] using hz⟩
    have := okL.len hz
    cases hu : P.underlying t with
    | none => simp [hu] at hs
    | some d => cases d <;> simp [hu] at hs <;> simp [Value.formed, hu, hc, this]
  obtain ⟨r, h1, h2⟩ := eq_flat (P := P) 9992 8 t ks h w _ _ (fit xs hx) (fit ys hy)
  exact ⟨r, h1, by simpa [Value.cells] using h2⟩
variable {n : Nat} {l : List (Nat × Value)} {L : List Seg} {d : Option Tmp} {ty : TypeId} {pos : String} {af : Array Edge} {g : Option (Nat × Bool)}
theorem ev_neqSt [Env] {t t' : TypeId} {x y : Operand} {ks : List Kd} {xs ys : List Value} (p : Prop) [Decidable p] (hx : ev l x = some (.agg xs.toArray)) (hy : ev l y = some (.agg ys.toArray)) (h : flatAt P 8 t = some ks) (hm : P.eqGuardType P.depth t = false)
    (hs : (match P.underlying t with | some (.struct _) | some (.array _ _) => true | _ => false) = true) (h1 : okL ks xs = true) (h2 : okL ks ys = true) (hp : xs = ys ↔ p) : Ev P n ⟨d, .binOp .neq t x y t', ty, pos, af, g⟩ l L (.bool (!decide p)) :=
  fun a w hf _ => by
    obtain ⟨r, e, e2⟩ := run_eq_flat h hs h1 h2 w
    have e3 : r = decide p := by rw [Bool.eq_iff_iff, e2, hp]; simp
    simp [execOp, binOp, hf.ev hx, hf.ev hy, run_eqGuard_agg w _ _ _ _ _ _ hm, e, e3]
/-- All that a comparison asks of its type and its operands' cells. -/
def flatB (P : Program) (t : TypeId) (xs ys : List Value) : Bool := match flatAt P 8 t with
  | some ks => okL ks xs && okL ks ys && !P.eqGuardType P.depth t && (match P.underlying t with | some (.struct _) | some (.array _ _) => true | _ => false)
  | none => false
theorem flatB_of {t : TypeId} {xs ys : List Value} (h : flatB P t xs ys = true) : ∃ ks, flatAt P 8 t = some ks ∧ okL ks xs = true ∧ okL ks ys = true ∧ P.eqGuardType P.depth t = false ∧ (match P.underlying t with | some (.struct _) | some (.array _ _) => true | _ => false) = true := by
  unfold flatB at h
  cases hf : flatAt P 8 t with
  | none => simp [hf] at h
  | some ks =>
    simp only [hf, Bool.and_eq_true, Bool.not_eq_true'] at h
    exact ⟨ks, rfl, h.1.1.1, h.1.1.2, h.1.2, h.2⟩
theorem ev_neqF [Env] {t t' : TypeId} {x y : Operand} {xs ys : List Value} {p : Prop} [Decidable p] (hx : ev l x = some (.agg xs.toArray)) (hy : ev l y = some (.agg ys.toArray)) (h : flatB P t xs ys = true) (hp : xs = ys ↔ p) :
    Ev P n ⟨d, .binOp .neq t x y t', ty, pos, af, g⟩ l L (.bool (!decide p)) := by
  obtain ⟨ks, h1, h2, h3, h4, h5⟩ := flatB_of h
  exact ev_neqSt p hx hy h1 h4 h5 h2 h3 hp
end Go.Sl
namespace Go.Sl
open Go.ChangeShapes Go.WideShapes Go.ChangeAt Go.RowKit Go.Deep
set_option linter.unusedSimpArgs false
structure ActL where
  kind : Int
  n : Int
  s : Bytes
  kv : Value
  ks : Keeps
def ActL.cells (a : ActL) : List Value := [.int .i64 a.kind, .int .i64 a.n, .string ⟨a.s.toArray⟩, a.kv]
structure ActL.ok [Env] (R : List Seg) (a : ActL) : Prop where
  keeps : RdV R a.kv a.ks.length (keepsV a.ks)
  n : -9223372036854775808 ≤ a.n ∧ a.n ≤ 9223372036854775807
theorem ActL.ok.mono [Env] {R R' : List Seg} {a : ActL} (h : a.ok R) (hg : Ge R' R) : a.ok R' := ⟨h.keeps.mono hg, h.n⟩
theorem ActL.ok.one [Env] {R : List Seg} {a : ActL} (h : a.ok R) : ∀ u ∈ a.cells, u.oneCell' = true := by
  intro u hu
  obtain ⟨b', c', e'⟩ := h.keeps.lenVal
  simp only [ActL.cells, List.mem_cons, List.not_mem_nil, or_false] at hu
  rcases hu with rfl | rfl | rfl | rfl
  · rfl
  · rfl
  · rfl
  · rw [e']; rfl
section
variable {H : Type} {enc : TypeId × Value → H} {P : Program} {W : World} {base : Nat} {spare : Nat → Bool} {held : Bool}
end
end Go.Sl
