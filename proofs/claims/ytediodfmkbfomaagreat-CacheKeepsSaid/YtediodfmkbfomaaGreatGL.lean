/- A part of the proof: contracts and plain lemmas, each without conditions beyond those that it names. -/
import Derived.Test.YtediodfmkbfomaaGreatGH
import Derived.DeepKeys
import Derived.Test.YtediodfmkbfomaaGreatGE
import Derived.Scope
set_option linter.unusedVariables false
set_option linter.unusedSimpArgs false
set_option linter.constructorNameAsVariable false
namespace Go.Sl
open Go
set_option linter.unusedSimpArgs false
inductive Kd where
  | b
  | i (k : IntKind)
  | s
def Kd.ok : Kd → Value → Bool
  | .b, .bool _ => true
  | .i k, .int k' _ => decide (k = k')
  | .s, .string _ => true
  | _, _ => false
def okL : List Kd → List Value → Bool
  | [], [] => true
  | k :: ks, v :: vs => k.ok v && okL ks vs
  | _, _ => false
theorem okL.len : ∀ {ks : List Kd} {vs : List Value}, okL ks vs = true → ks.length = vs.length
  | [], [], _ => rfl
  | [], _ :: _, h => by cases h
  | _ :: _, [], h => by cases h
  | k :: ks, v :: vs, h => by
    unfold okL at h
    rw [Bool.and_eq_true] at h
    rw [List.length_cons, List.length_cons, okL.len h.2]
theorem okL.split : ∀ {ps qs : List Kd} {vs : List Value}, okL (ps ++ qs) vs = true → okL ps (vs.take ps.length) = true ∧ okL qs (vs.drop ps.length) = true
  | [], qs, vs, h => by
    refine ⟨?_, by simpa using h⟩
    rfl
  | k :: ps, qs, [], h => by cases h
  | k :: ps, qs, v :: vs, h => by
    rw [List.cons_append] at h
    unfold okL at h
    rw [Bool.and_eq_true] at h
    obtain ⟨h1, h2⟩ := okL.split h.2
    refine ⟨?_, by simpa using h2⟩
    rw [List.length_cons, List.take_succ_cons]
    unfold okL
    rw [h.1, h1]; rfl
def flatFs (P : Program) (F : TypeId → Option (List Kd)) : List Field → Nat → Option (List Kd)
  | [], _ => some []
  | f :: fs, o => if f.name ≠ "_" ∧ f.offset = o then
      match F f.type with
      | some l => (match flatFs P F fs (o + l.length) with | some r => some (l ++ r) | none => none)
      | none => none
    else none
def flatAt (P : Program) : Nat → TypeId → Option (List Kd)
  | 0, _ => none
  | m + 1, t => match P.underlying t with
    | some .bool => some [.b]
    | some (.int q) => some [.i q]
    | some .string => some [.s]
    | some (.array n e) => (match flatAt P m e with
      | some l => if P.cellsOf t = n * l.length ∧ P.cellsOf e = l.length then some ((List.replicate n l).flatten) else none
      | none => none)
    | some (.struct fs) => if P.stoodInHeld t = false then (match flatFs P (flatAt P m) fs.toList 0 with
      | some l => if P.cellsOf t = l.length then some l else none
      | none => none) else none
    | _ => none
structure Fits (P : Program) (t : TypeId) (ks : List Kd) (a : Value) : Prop where
  formed : a.formed P t = true
  ok : okL ks a.cells.toList = true
variable {P : Program}
theorem plain_cases {t : TypeId} {m : Nat} {ks : List Kd} (h : flatAt P (m + 1) t = some ks) :
    (P.plainKey t = true ∧ ∃ k, ks = [k] ∧ ((P.underlying t = some .bool ∧ k = .b) ∨ (∃ q, P.underlying t = some (.int q) ∧ k = .i q) ∨ (P.underlying t = some .string ∧ k = .s))) ∨
    (∃ n e l, P.underlying t = some (.array n e) ∧ flatAt P m e = some l ∧ P.cellsOf t = n * l.length ∧ P.cellsOf e = l.length ∧ ks = (List.replicate n l).flatten) ∨
    (∃ fs, P.underlying t = some (.struct fs) ∧ P.stoodInHeld t = false ∧ flatFs P (flatAt P m) fs.toList 0 = some ks ∧ P.cellsOf t = ks.length) := by
  unfold flatAt at h
  cases hu : P.underlying t with
  | none => simp [hu] at h
  | some d =>
    cases d
    case bool => simp [hu] at h; exact .inl ⟨by simp [Program.plainKey, hu], _, h.symm, .inl ⟨rfl, rfl⟩⟩
    case int q => simp [hu] at h; exact .inl ⟨by simp [Program.plainKey, hu], _, h.symm, .inr (.inl ⟨q, rfl, rfl⟩)⟩
    case string => simp [hu] at h; exact .inl ⟨by simp [Program.plainKey, hu], _, h.symm, .inr (.inr ⟨rfl, rfl⟩)⟩
    case array n e =>
      simp only [hu] at h
      cases hl : flatAt P m e with
      | none => simp [hl] at h
      | some l =>
        simp only [hl] at h
        split at h
        · rename_i hc; exact .inr (.inl ⟨n, e, l, rfl, hl, hc.1, hc.2, (Option.some.inj h).symm⟩)
        · cases h
    case struct fs =>
      simp only [hu] at h
      split at h
      · rename_i hs
        cases hl : flatFs P (flatAt P m) fs.toList 0 with
        | none => simp [hl] at h
        | some l =>
          simp only [hl] at h
          split at h
          · rename_i hc
            have := Option.some.inj h
            subst this
            exact .inr (.inr ⟨fs, rfl, hs, hl, hc⟩)
          · cases h
      · cases h
    all_goals (simp [hu] at h; done)
theorem ok_one {k : Kd} {vs : List Value} (h : okL [k] vs = true) : ∃ v, vs = [v] ∧ k.ok v = true := by
  match vs, h with
  | [v], h => unfold okL at h; rw [Bool.and_eq_true] at h; exact ⟨v, rfl, h.1⟩
  | [], h => cases h
  | v :: u :: vs, h => unfold okL at h; rw [Bool.and_eq_true] at h; cases h.2
theorem cellsOne {a : Value} {v : Value} {t : TypeId} (hf : a.formed P t = true) (hp : P.plainKey t = true) (h : a.cells.toList = [v]) : a = v := by
  unfold Program.plainKey at hp
  cases hu : P.underlying t with
  | none => simp [hu] at hp
  | some d =>
    cases a
    case agg cs => cases d <;> simp [hu] at hp <;> simp [Value.formed, hu] at hf
    case tuple cs => simp [Value.formed] at hf
    all_goals (simp [Value.cells] at h; exact h)
theorem part_flat (w : World) {m : Nat} {e : TypeId} {l : List Kd} (h : flatAt P m e = some l) {xs : Array Value} {off : Nat} (hx : okL l ((xs.toList.drop off).take l.length) = true) :
    ∃ a, (part e xs off).run P w = .ok a w ∧ Fits P e l a ∧ a.cells.toList = (xs.toList.drop off).take l.length := by
  cases m with
  | zero => cases h
  | succ m =>
    have agg : P.cellsOf e = l.length → (∃ n e', P.underlying e = some (.array n e')) ∨ (∃ fs, P.underlying e = some (.struct fs)) → ∃ a, (part e xs off).run P w = .ok a w ∧ Fits P e l a ∧ a.cells.toList = (xs.toList.drop off).take l.length := by
      intro hc hk
      have hinfo : ∃ i, P.info? e = some i := by rcases hk with ⟨n, e', hu⟩ | ⟨fs, hu⟩ <;> exact info_of_underlying hu
      obtain ⟨i, hi⟩ := hinfo
      have hl : (xs.extract off (off + P.cellsOf e)).toList = (xs.toList.drop off).take l.length := by
        rw [Array.toList_extract, hc]; simp [List.extract]
      have hs : (xs.extract off (off + P.cellsOf e)).size = P.cellsOf e := by rw [← Array.length_toList, hl, ← okL.len hx, hc]
      refine ⟨.agg (xs.extract off (off + P.cellsOf e)), ?_, ⟨?_, by show okL l (xs.extract off (off + P.cellsOf e)).toList = true; rw [hl]; exact hx⟩, hl⟩
      · rcases hk with ⟨n, e', hu⟩ | ⟨fs, hu⟩ <;> simp [part, isAgg, run_underlying hu, run_sizeOf w hi]
      · rcases hk with ⟨n, e', hu⟩ | ⟨fs, hu⟩ <;> simp [Value.formed, hu, hs]
    rcases plain_cases h with ⟨hp, k, rfl, hk⟩ | ⟨n, e', l', hu, hl, hc, hc2, rfl⟩ | ⟨fs, hu, _, hl, hc⟩
    · obtain ⟨v, hv, hkv⟩ := ok_one hx
      have hxo : xs[off]? = some v := by
        have h0 := congrArg (·[0]?) hv
        simp only [List.getElem?_cons_zero, List.length_singleton, List.getElem?_take, Nat.zero_lt_one, if_true, List.getElem?_drop, Nat.add_zero] at h0
        simpa using h0
      have hvc : v.cells.toList = [v] := by
        rcases hk with ⟨_, rfl⟩ | ⟨q, _, rfl⟩ | ⟨_, rfl⟩ <;> cases v <;> simp_all [Kd.ok, Value.cells]
      refine ⟨v, run_part_plain w hp hxo, ⟨?_, by rw [hvc]; unfold okL; rw [hkv]; rfl⟩, by rw [hvc, hv]⟩
      rcases hk with ⟨hu, rfl⟩ | ⟨q, hu, rfl⟩ | ⟨hu, rfl⟩ <;> cases v <;> simp_all [Kd.ok, Value.formed]
    · exact agg (by rw [hc]; simp) (.inl ⟨n, e', hu⟩)
    · exact agg hc (.inr ⟨fs, hu⟩)
def EqOk (P : Program) (dd : Nat) (F : TypeId → Option (List Kd)) : Prop :=
  ∀ (t : TypeId) (ks : List Kd), F t = some ks → ∀ (w : World) (a b : Value), Fits P t ks a → Fits P t ks b → ∃ r : Bool, (Op.equalIn dd t a b).run P w = .ok r w ∧ (r = true ↔ a.cells.toList = b.cells.toList)
theorem append_and {a1 b1 c1 d1 : List Value} (h : a1.length = b1.length) : a1 ++ c1 = b1 ++ d1 ↔ (a1 = b1 ∧ c1 = d1) :=
  ⟨fun e => List.append_inj e h, fun ⟨e1, e2⟩ => by rw [e1, e2]⟩
theorem fields_flat {m dd : Nat} (hE : EqOk P dd (flatAt P m)) (xs ys : Array Value) (w : World) : ∀ (fs : List Field) (o : Nat) (ks : List Kd), flatFs P (flatAt P m) fs o = some ks →
    okL ks ((xs.toList.drop o).take ks.length) = true → okL ks ((ys.toList.drop o).take ks.length) = true →
    ∃ r : Bool, (Op.eqFields dd xs ys fs).run P w = .ok r w ∧ (r = true ↔ (xs.toList.drop o).take ks.length = (ys.toList.drop o).take ks.length)
  | [], o, ks, h, _, _ => by
    unfold flatFs at h
    cases h
    exact ⟨true, by simp [Op.eqFields], by simp⟩
  | f :: fs, o, ks, h, hx, hy => by
    unfold flatFs at h
    split at h
    · rename_i hn
      cases hl : flatAt P m f.type with
      | none => simp [hl] at h
      | some l =>
        cases hr : flatFs P (flatAt P m) fs (o + l.length) with
        | none => simp [hl, hr] at h
        | some r =>
          simp only [hl, hr] at h
          have := Option.some.inj h
          subst this
          have tk : ∀ zs : Array Value, (zs.toList.drop o).take (l ++ r).length = (zs.toList.drop o).take l.length ++ (zs.toList.drop (o + l.length)).take r.length := by
            intro zs
            rw [List.length_append, List.take_add, List.drop_drop]
          have lx := okL.len hx
          have ly := okL.len hy
          obtain ⟨x1, x2⟩ := okL.split hx
          obtain ⟨y1, y2⟩ := okL.split hy
          have t1 : ∀ zs : Array Value, ((zs.toList.drop o).take (l ++ r).length).take l.length = (zs.toList.drop o).take l.length := by
            intro zs; rw [List.take_take]; congr 1; simp
          have t2 : ∀ zs : Array Value, ((zs.toList.drop o).take (l ++ r).length).drop l.length = (zs.toList.drop (o + l.length)).take r.length := by
            intro zs
            rw [List.drop_take, List.drop_drop]
            congr 1; simp
          rw [t1] at x1 y1
          rw [t2] at x2 y2
          obtain ⟨a, p1, f1, c1⟩ := part_flat w hl x1
          obtain ⟨b, p2, f2, c2⟩ := part_flat w hl y1
          obtain ⟨r1, h3, i3⟩ := hE f.type l hl w a b f1 f2
          obtain ⟨r2, h4, i4⟩ := fields_flat hE xs ys w fs (o + l.length) r hr x2 y2
          rw [← hn.2] at p1 p2
          rw [c1, c2] at i3
          rw [tk, tk, append_and (by rw [← okL.len x1, ← okL.len y1]), ← i3, ← i4]
          simp only [Op.eqFields, hn.1, ne_eq, not_false_eq_true, if_true, Sem.run_bind, p1, p2, h3, Result.andThen_ok]
          cases r1
          · exact ⟨false, by simp, by simp⟩
          · exact ⟨r2, by simpa using h4, by simp⟩
    · cases h
theorem items_flat {m dd : Nat} {e : TypeId} {l : List Kd} (hl : flatAt P m e = some l) (hc : P.cellsOf e = l.length) (hE : EqOk P dd (flatAt P m)) (xs ys : Array Value) (w : World) : ∀ (n o : Nat),
    okL (List.replicate n l).flatten ((xs.toList.drop (o * l.length)).take (n * l.length)) = true → okL (List.replicate n l).flatten ((ys.toList.drop (o * l.length)).take (n * l.length)) = true →
    ∃ r : Bool, (Op.eqItems dd e (P.cellsOf e) xs ys (List.range' o n)).run P w = .ok r w ∧ (r = true ↔ (xs.toList.drop (o * l.length)).take (n * l.length) = (ys.toList.drop (o * l.length)).take (n * l.length))
  | 0, o, _, _ => ⟨true, by simp [Op.eqItems], by simp⟩
  | n + 1, o, hx, hy => by
    have hfl : (List.replicate (n + 1) l).flatten = l ++ (List.replicate n l).flatten := by simp [List.replicate_succ]
    rw [hfl] at hx hy
    have tk : ∀ zs : Array Value, (zs.toList.drop (o * l.length)).take ((n + 1) * l.length) = (zs.toList.drop (o * l.length)).take l.length ++ (zs.toList.drop ((o + 1) * l.length)).take (n * l.length) := by
      intro zs
      rw [show (n + 1) * l.length = l.length + n * l.length by rw [Nat.add_mul]; omega, List.take_add, List.drop_drop, show (o + 1) * l.length = o * l.length + l.length by rw [Nat.add_mul]; omega]
    obtain ⟨x1, x2⟩ := okL.split hx
    obtain ⟨y1, y2⟩ := okL.split hy
    have hlen : ∀ zs : Array Value, okL (l ++ (List.replicate n l).flatten) ((zs.toList.drop (o * l.length)).take ((n + 1) * l.length)) = true → ((zs.toList.drop (o * l.length)).take l.length).length = l.length := by
      intro zs hz
      have := okL.len hz
      simp at this
      rw [List.length_take, List.length_drop]
      have h2 : l.length ≤ (n + 1) * l.length := by rw [Nat.add_mul]; omega
      have h3 : (n + 1) * l.length = l.length + n * l.length := by rw [Nat.add_mul]; omega
      simp
      omega
    have t1 : ∀ zs : Array Value, ((zs.toList.drop (o * l.length)).take ((n + 1) * l.length)).take l.length = (zs.toList.drop (o * l.length)).take l.length := by
      intro zs; rw [List.take_take]; congr 1; rw [Nat.add_mul]; omega
    have t2 : ∀ zs : Array Value, ((zs.toList.drop (o * l.length)).take ((n + 1) * l.length)).drop l.length = (zs.toList.drop ((o + 1) * l.length)).take (n * l.length) := by
      intro zs
      rw [List.drop_take, List.drop_drop, show (o + 1) * l.length = o * l.length + l.length by rw [Nat.add_mul]; omega]
      congr 1; rw [Nat.add_mul]; omega
    have hxl := hlen xs hx
    have hyl := hlen ys hy
    rw [t1] at x1 y1
    rw [t2] at x2 y2
    obtain ⟨a, p1, f1, c1⟩ := part_flat w hl x1
    obtain ⟨b, p2, f2, c2⟩ := part_flat w hl y1
    obtain ⟨r1, h3, i3⟩ := hE e l hl w a b f1 f2
    obtain ⟨r2, h4, i4⟩ := items_flat hl hc hE xs ys w n (o + 1) x2 y2
    rw [c1, c2] at i3
    rw [tk, tk, append_and (by rw [hxl, hyl]), ← i3, ← i4]
    rw [← hc] at p1 p2
    rw [List.range'_succ]
    simp only [Op.eqItems, Sem.run_bind, p1, p2, h3, Result.andThen_ok]
    cases r1
    · exact ⟨false, by simp, by simp⟩
    · exact ⟨r2, by simpa using h4, by simp⟩
theorem eq_flat (d : Nat) : ∀ m : Nat, EqOk P (d + m) (flatAt P m)
  | 0 => fun t ks h => by cases h
  | m + 1 => by
    intro t ks h w a b ha hb
    have IH := eq_flat d m
    have hla := okL.len ha.ok
    have hlb := okL.len hb.ok
    rcases plain_cases h with ⟨hp, k, rfl, hk⟩ | ⟨n, e', l', hu, hl, hc, hc2, rfl⟩ | ⟨fs, hu, hs, hl, hc⟩
    · obtain ⟨x, hx, kx⟩ := ok_one ha.ok
      obtain ⟨y, hy, ky⟩ := ok_one hb.ok
      have := cellsOne ha.formed hp hx
      subst this
      have := cellsOne hb.formed hp hy
      subst this
      rw [hx, hy, show d + (m + 1) = (d + m) + 1 from rfl]
      rcases hk with ⟨hu, rfl⟩ | ⟨q, hu, rfl⟩ | ⟨hu, rfl⟩
      · cases a <;> cases b <;> simp [Kd.ok] at kx ky
        rename_i p q
        exact ⟨_, run_equalIn_bool w _ t p q hu, by simp⟩
      · cases a <;> cases b <;> simp [Kd.ok] at kx ky
        rename_i k1 p k2 q'
        subst kx; subst ky
        exact ⟨_, run_equalIn_int w _ t _ _ p q' hu, by simp⟩
      · cases a <;> cases b <;> simp [Kd.ok] at kx ky
        rename_i p q
        exact ⟨_, run_equalIn_string w _ t p q hu, by
          simp only [beq_iff_eq, List.cons.injEq, Value.string.injEq, and_true, ByteArray.toList_eq, Array.toList_inj]
          exact ⟨fun e => ByteArray.ext e, fun e => by rw [e]⟩⟩
    · obtain ⟨i, hi⟩ := info_of_underlying hu
      have hfa := ha.formed
      have hfb := hb.formed
      cases a <;> simp [Value.formed, hu] at hfa
      cases b <;> simp [Value.formed, hu] at hfb
      rename_i xs ys
      obtain ⟨j, hj⟩ : ∃ j, P.info? e' = some j := by
        cases m with
        | zero => cases hl
        | succ m =>
          rcases plain_cases hl with ⟨hp, _⟩ | ⟨_, _, _, hu2, _⟩ | ⟨_, hu2, _⟩
          · unfold Program.plainKey at hp
            cases hu2 : P.underlying e' with
            | none => simp [hu2] at hp
            | some d => exact info_of_underlying hu2
          · exact info_of_underlying hu2
          · exact info_of_underlying hu2
      have hox : okL (List.replicate n l').flatten ((xs.toList.drop (0 * l'.length)).take (n * l'.length)) = true := by
        rw [Nat.zero_mul, List.drop_zero, List.take_of_length_le (by rw [← show (Value.agg xs).cells.toList = xs.toList from rfl, ← hla]; simp)]; exact ha.ok
      have hoy : okL (List.replicate n l').flatten ((ys.toList.drop (0 * l'.length)).take (n * l'.length)) = true := by
        rw [Nat.zero_mul, List.drop_zero, List.take_of_length_le (by rw [← show (Value.agg ys).cells.toList = ys.toList from rfl, ← hlb]; simp)]; exact hb.ok
      obtain ⟨r, h1, h2⟩ := items_flat hl hc2 IH xs ys w n 0 hox hoy
      rw [Nat.zero_mul, List.drop_zero, List.drop_zero, List.take_of_length_le (by rw [← show (Value.agg xs).cells.toList = xs.toList from rfl, ← hla]; simp), List.take_of_length_le (by rw [← show (Value.agg ys).cells.toList = ys.toList from rfl, ← hlb]; simp)] at h2
      refine ⟨r, ?_, h2⟩
      rw [show d + (m + 1) = (d + m) + 1 from rfl, run_equalIn_array w (d + m) xs ys hu hj, List.range_eq_range', h1]
    · have hfa := ha.formed
      have hfb := hb.formed
      cases a <;> simp [Value.formed, hu] at hfa
      cases b <;> simp [Value.formed, hu] at hfb
      rename_i xs ys
      have hfs : P.fieldsOf t = fs := by simp [Program.fieldsOf, hu]
      have ex : (xs.toList.drop 0).take ks.length = xs.toList := by rw [List.drop_zero, List.take_of_length_le (by rw [hla]; exact Nat.le_refl _)]
      have ey : (ys.toList.drop 0).take ks.length = ys.toList := by rw [List.drop_zero, List.take_of_length_le (by rw [hlb]; exact Nat.le_refl _)]
      obtain ⟨r, h1, h2⟩ := fields_flat IH xs ys w fs.toList 0 ks hl (by rw [ex]; exact ha.ok) (by rw [ey]; exact hb.ok)
      rw [ex, ey] at h2
      refine ⟨r, ?_, h2⟩
      rw [show d + (m + 1) = (d + m) + 1 from rfl, run_equalIn_struct w (d + m) t xs ys (by rw [hfs]; exact hu) hs, hfs, h1]
theorem run_eq_flat {t : TypeId} {ks : List Kd} {xs ys : List Value} (h : flatAt P 8 t = some ks) (hs : (match P.underlying t with | some (.struct _) | some (.array _ _) => true | _ => false) = true) (hx : okL ks xs = true) (hy : okL ks ys = true) (w : World) :
    ∃ r : Bool, (Op.equal t (.agg xs.toArray) (.agg ys.toArray)).run P w = .ok r w ∧ (r = true ↔ xs = ys) := by
  have hc : P.cellsOf t = ks.length := by
    rcases plain_cases (m := 7) h with ⟨hp, k, rfl, hk⟩ | ⟨n, e', l', hu, hl, hc, hc2, rfl⟩ | ⟨fs, hu, _, hl, hc⟩
    · rcases hk with ⟨hu, rfl⟩ | ⟨q, hu, rfl⟩ | ⟨hu, rfl⟩ <;> simp [hu] at hs
    · rw [hc]; simp
    · exact hc
  have fit : ∀ zs : List Value, okL ks zs = true → Fits P t ks (.agg zs.toArray) := by
    intro zs hz
    refine ⟨?_, by simpa [Value.cells] using hz⟩
    have := okL.len hz
    cases hu : P.underlying t with
    | none => simp [hu] at hs
    | some d => cases d <;> simp [hu] at hs <;> simp [Value.formed, hu, hc, this]
  obtain ⟨r, h1, h2⟩ := eq_flat (P := P) 9992 8 t ks h w _ _ (fit xs hx) (fit ys hy)
  exact ⟨r, h1, by simpa [Value.cells] using h2⟩
variable {n : Nat} {l : List (Nat × Value)} {L : List Seg} {d : Option Tmp} {ty : TypeId} {pos : String} {af : Array Edge} {g : Option (Nat × Bool)}
theorem ev_eqlSt [Env] {t t' : TypeId} {x y : Operand} {ks : List Kd} {xs ys : List Value} (p : Prop) [Decidable p] (hx : ev l x = some (.agg xs.toArray)) (hy : ev l y = some (.agg ys.toArray)) (h : flatAt P 8 t = some ks) (hm : P.eqGuardType P.depth t = false)
    (hs : (match P.underlying t with | some (.struct _) | some (.array _ _) => true | _ => false) = true) (h1 : okL ks xs = true) (h2 : okL ks ys = true) (hp : xs = ys ↔ p) : Ev P n ⟨d, .binOp .eql t x y t', ty, pos, af, g⟩ l L (.bool (decide p)) :=
  fun a w hf _ => by
    obtain ⟨r, e, e2⟩ := run_eq_flat h hs h1 h2 w
    have e3 : r = decide p := by rw [Bool.eq_iff_iff, e2, hp]; simp
    simp [execOp, binOp, hf.ev hx, hf.ev hy, run_eqGuard_agg w _ _ _ _ _ _ hm, e, e3]
theorem ev_neqSt [Env] {t t' : TypeId} {x y : Operand} {ks : List Kd} {xs ys : List Value} (p : Prop) [Decidable p] (hx : ev l x = some (.agg xs.toArray)) (hy : ev l y = some (.agg ys.toArray)) (h : flatAt P 8 t = some ks) (hm : P.eqGuardType P.depth t = false)
    (hs : (match P.underlying t with | some (.struct _) | some (.array _ _) => true | _ => false) = true) (h1 : okL ks xs = true) (h2 : okL ks ys = true) (hp : xs = ys ↔ p) : Ev P n ⟨d, .binOp .neq t x y t', ty, pos, af, g⟩ l L (.bool (!decide p)) :=
  fun a w hf _ => by
    obtain ⟨r, e, e2⟩ := run_eq_flat h hs h1 h2 w
    have e3 : r = decide p := by rw [Bool.eq_iff_iff, e2, hp]; simp
    simp [execOp, binOp, hf.ev hx, hf.ev hy, run_eqGuard_agg w _ _ _ _ _ _ hm, e, e3]
/-- All that a comparison asks of its type and its operands' cells. -/
def flatB (P : Program) (t : TypeId) (xs ys : List Value) : Bool := match flatAt P 8 t with
  | some ks => okL ks xs && okL ks ys && !P.eqGuardType P.depth t && (match P.underlying t with | some (.struct _) | some (.array _ _) => true | _ => false)
  | none => false
theorem flatB_of {t : TypeId} {xs ys : List Value} (h : flatB P t xs ys = true) : ∃ ks, flatAt P 8 t = some ks ∧ okL ks xs = true ∧ okL ks ys = true ∧ P.eqGuardType P.depth t = false ∧ (match P.underlying t with | some (.struct _) | some (.array _ _) => true | _ => false) = true := by
  unfold flatB at h
  cases hf : flatAt P 8 t with
  | none => simp [hf] at h
  | some ks =>
    simp only [hf, Bool.and_eq_true, Bool.not_eq_true'] at h
    exact ⟨ks, rfl, h.1.1.1, h.1.1.2, h.1.2, h.2⟩
theorem ev_eqlF [Env] {t t' : TypeId} {x y : Operand} {xs ys : List Value} {p : Prop} [Decidable p] (hx : ev l x = some (.agg xs.toArray)) (hy : ev l y = some (.agg ys.toArray)) (h : flatB P t xs ys = true) (hp : xs = ys ↔ p) :
    Ev P n ⟨d, .binOp .eql t x y t', ty, pos, af, g⟩ l L (.bool (decide p)) := by
  obtain ⟨ks, h1, h2, h3, h4, h5⟩ := flatB_of h
  exact ev_eqlSt p hx hy h1 h4 h5 h2 h3 hp
theorem ev_neqF [Env] {t t' : TypeId} {x y : Operand} {xs ys : List Value} {p : Prop} [Decidable p] (hx : ev l x = some (.agg xs.toArray)) (hy : ev l y = some (.agg ys.toArray)) (h : flatB P t xs ys = true) (hp : xs = ys ↔ p) :
    Ev P n ⟨d, .binOp .neq t x y t', ty, pos, af, g⟩ l L (.bool (!decide p)) := by
  obtain ⟨ks, h1, h2, h3, h4, h5⟩ := flatB_of h
  exact ev_neqSt p hx hy h1 h4 h5 h2 h3 hp
theorem str_inj {p q : Bytes} : (⟨p.toArray⟩ : ByteArray) = ⟨q.toArray⟩ ↔ p = q :=
  ⟨fun e => by have := congrArg ByteArray.data e; simpa using this, fun e => by rw [e]⟩
theorem intsV_inj {a b : List Int} : intsV a = intsV b ↔ a = b := by
  unfold intsV
  constructor
  · intro h
    have hh : Function.Injective (Value.int IntKind.i64) := fun x y e => by injection e
    exact List.map_inj_right (fun x y e => hh e) |>.1 h
  · intro h; rw [h]
theorem MsgM.cells_inj {a b : MsgM} : a.cells = b.cells ↔ a = b := by
  constructor
  · intro h
    cases a; cases b
    simp only [MsgM.cells, List.cons.injEq, Value.int.injEq, Value.string.injEq, true_and, and_true, str_inj] at h
    obtain ⟨h1, h2, h3, h4, h5, h6, h7, h8, h9, h10, h11, h12, h13⟩ := h
    subst h1; subst h2; subst h3; subst h4; subst h5; subst h6; subst h7; subst h8; subst h9; subst h10; subst h11; subst h12; subst h13
    rfl
  · intro h; rw [h]
end Go.Sl
namespace Go.Sl
open Go.ChangeShapes Go.WideShapes Go.ChangeAt Go.RowKit Go.Deep
set_option linter.unusedSimpArgs false
structure ActL where
  kind : Int
  n : Int
  s : Bytes
  kv : Value
  ks : Keeps
def ActL.cells (a : ActL) : List Value := [.int .i64 a.kind, .int .i64 a.n, .string ⟨a.s.toArray⟩, a.kv]
structure ActL.ok [Env] (R : List Seg) (a : ActL) : Prop where
  keeps : RdV R a.kv a.ks.length (keepsV a.ks)
  n : -9223372036854775808 ≤ a.n ∧ a.n ≤ 9223372036854775807
theorem ActL.ok.mono [Env] {R R' : List Seg} {a : ActL} (h : a.ok R) (hg : Ge R' R) : a.ok R' := ⟨h.keeps.mono hg, h.n⟩
theorem ActL.ok.one [Env] {R : List Seg} {a : ActL} (h : a.ok R) : ∀ u ∈ a.cells, u.oneCell' = true := by
  intro u hu
  obtain ⟨b', c', e'⟩ := h.keeps.lenVal
  simp only [ActL.cells, List.mem_cons, List.not_mem_nil, or_false] at hu
  rcases hu with rfl | rfl | rfl | rfl
  · rfl
  · rfl
  · rfl
  · rw [e']; rfl
section
variable {H : Type} {enc : TypeId × Value → H} {P : Program} {W : World} {base : Nat} {spare : Nat → Bool} {held : Bool}
end
end Go.Sl
namespace Go.Sl
variable {P : Program} {n : Nat} {Q : Exit → Act → World → Prop} {l : List (Nat × Value)} {L : List Seg}
theorem cscope [Env] {c : Code} (h : Sc P n c (Exit.noGoto Q) l L) : Sc P n (.scope c) Q l L := fun a w hf hh => wp_scope_straight (h a w hf hh)
theorem clabel [Env] {i : Nat} (k : Sk n (Q .normal) l L) : Sc P n (.label i) Q l L := fun a w hf hh => wp_label (k a w hf hh)
theorem kg [Env] {e : Exit} (he : Exit.noGoto Q e = Q e) (h : Sk n (Q e) l L) : Sk n (Exit.noGoto Q e) l L := by rw [he]; exact h
end Go.Sl
namespace Go.Sl
set_option linter.unusedSimpArgs false
abbrev Ov := Option (Nat × Nat × List Value × List Value)
def ovVal : Ov → Nat → Value
  | none, _ => .slice none 0 0
  | some (b, cap, pre, _), m => .slice (some ⟨b, pre.length, none⟩) m cap
def ovSeg : Ov → TypeId → List Value → Seg
  | none, _, _ => []
  | some (b, _, pre, sp), e, xs => sc b (pre ++ xs ++ sp) e
def ovOk : Ov → Nat → Nat → List Value → Prop
  | none, m, _, xs => m = 0 ∧ xs = []
  | some (_, cap, _, sp), m, s, xs => m ≤ cap ∧ cap ≤ maxLen ∧ xs.length = m * s ∧ cap * s ≤ (xs ++ sp).length
theorem ovOk.len {s : Ov} {m k : Nat} {xs : List Value} (h : ovOk s m k xs) : xs.length = m * k := by
  cases s with
  | none => obtain ⟨rfl, rfl⟩ := h; simp
  | some p => exact h.2.2.1
theorem rdV_ov [Env] {L : List Seg} {s : Ov} {e : TypeId} {m k : Nat} {xs : List Value} (hi : In L (ovSeg s e xs)) (hok : ovOk s m k xs) : RdV L (ovVal s m) m xs := by
  cases s with
  | none =>
    obtain ⟨h1, h2⟩ := hok
    subst h1; subst h2
    exact rdV_nil
  | some p =>
    obtain ⟨b, cap, pre, sp⟩ := p
    refine rdV_in (k := m * k) hi hok.2.2.1 ?_
    rw [List.append_assoc, List.drop_left, ← hok.2.2.1, List.take_left]
theorem run_append_ov [Env] {P : Program} {w : World} {L M : List Seg} {s : Ov} {e t xT ty : TypeId} {i : TypeInfo} {z x : Value} {size m k : Nat} {xs us : List Value}
    (hh : Has w L) (hp : Pk L (ovSeg s e xs) M)
    (ht : P.underlying t = some (.slice e)) {dx : TypeDesc} (hx : P.underlying xT = some dx) (hni : ∀ q, dx ≠ .int q) (hi : P.info? e = some i) (hz : i.zero = some z)
    (hsize : i.size = size) (hzs : z.cells.size = size) (hok : ovOk s m size xs)
    (hsrc : Src P L size x k us) (h1 : ∀ u ∈ us, u.oneCell' = true) (hbig : (m + k) * (i.bytes + 1) ≤ 140737488355328) :
    ∃ s' w', (Builtin.append_ #[t, xT] ty #[ovVal s m, x]).run P w = .ok (ovVal s' (m + k)) w' ∧ ovOk s' (m + k) size (xs ++ us) ∧ Has w' (ovSeg s' e (xs ++ us) :: M) := by
  obtain ⟨hul, hsr⟩ := hsrc
  have hm1 : (m + k) ≤ 140737488355328 := Nat.le_trans (Nat.le_mul_of_pos_right _ (by omega)) hbig
  have hmat : (dx matches .int _) = false := by cases dx <;> first | rfl | exact absurd rfl (hni _)
  have hlx : (xs ++ us).length = (m + k) * size := by rw [List.length_append, hok.len, hul, Nat.add_mul]
  have grow : ∀ (old : Nat) (base : Option Addr), old < m + k → ovVal s m = .slice base m old → (Builtin.firstCells size m (ovVal s m)).run P w.drew = .ok xs.toArray w.drew →
      ∃ s' w', (Builtin.append_ #[t, xT] ty #[ovVal s m, x]).run P w = .ok (ovVal s' (m + k)) w' ∧ ovOk s' (m + k) size (xs ++ us) ∧ Has w' (ovSeg s' e (xs ++ us) :: M) := by
    intro old base ho hv hfirst
    have h63 : ¬ (9223372036854775807 < (m : Int) + (k : Int)) := by omega
    have h48 : ¬ (281474976710656 < Builtin.nextslicecap (m + k) old * i.bytes) := by
      have h2 := growslice_fits (need := m + k) (old := old) (bytes := i.bytes) ho (Nat.le_trans (Nat.mul_le_mul_left _ (by omega)) hbig)
      omega
    have hs2 := (hsr w.drew (hh.drew)).2
    have hs1 := (hsr w hh).1
    refine ⟨some (w.heap.size, grownCap w (m + k) old e, [], (Builtin.zeroCells z.cells (grownCap w (m + k) old e - (m + k))).toList),
      w.drew.alloc (.cells (xs.toArray ++ us.toArray ++ Builtin.zeroCells z.cells (grownCap w (m + k) old e - (m + k))) e), ?_, ?_, ?_⟩
    · rw [hv] at hfirst ⊢
      simp [Builtin.append_, run_underlying ht, run_underlying hx, sizeOf, typeInfo, zeroValue, hi, hz, hsize, hmat, hs1, Nat.not_le.2 ho, h48, h63, Question.forced, hs2, hfirst, newRow, grownCap, ovVal]
      rw [← Array.append_assoc]; simp
    · refine ⟨grownCap_ge _ _ _ _, grownCap_le_maxLen _ _ _ _ (by unfold maxLen; omega), hlx, ?_⟩
      rw [List.length_append, hlx, Array.length_toList, size_zeroCells, hzs, ← Nat.add_mul]
      have := grownCap_ge w (m + k) old e
      exact Nat.mul_le_mul_right _ (by omega)
    · have h3 := ((hp.has hh).drew).alloc (.cells (xs.toArray ++ us.toArray ++ Builtin.zeroCells z.cells (grownCap w (m + k) old e - (m + k))) e)
      have h4 := (Ge.pick .z (Ge.drop .refl)).has h3
      refine h4.re ?_
      simp [so, ovSeg, sc]
  cases s with
  | none =>
    obtain ⟨rfl, rfl⟩ := hok
    by_cases hk : k = 0
    · subst hk
      have hu0 : us = [] := List.eq_nil_of_length_eq_zero (by simpa using hul)
      subst hu0
      have hs1 := (hsr w hh).1
      have hs2 := (hsr w hh).2
      refine ⟨none, w, ?_, ⟨rfl, rfl⟩, (hp.has hh).re (by simp [ovSeg])⟩
      simp [Builtin.append_, run_underlying ht, run_underlying hx, sizeOf, typeInfo, hi, hsize, hmat, hs1, hs2, ovVal]
    · exact grow 0 none (by omega) rfl (by simp [ovVal, Builtin.firstCells])
  | some p =>
    obtain ⟨b, cap, pre, sp⟩ := p
    obtain ⟨hmc, hcm, hxl, hal⟩ := hok
    have hin : In L (sc b (pre ++ xs ++ sp) e) := hp.in
    by_cases hroom : m + k ≤ cap
    · have hs1 := (hsr w hh).1
      have hs2 := (hsr w hh).2
      have hg := hh.cells hin
      have h5 : (m + k) * size ≤ cap * size := Nat.mul_le_mul_right _ hroom
      have hfit : pre.length + m * size + us.length ≤ (pre ++ xs ++ sp).length := by
        simp only [List.length_append] at hal ⊢
        rw [Nat.add_mul] at h5
        omega
      have hst := run_storeCells_at P b (pre.length + m * size) e us 0 (pre ++ xs ++ sp).toArray w hg (by simpa using hfit) h1
      simp only [Nat.add_zero] at hst
      have e1 : (pre ++ xs ++ sp).take (pre.length + m * size) = pre ++ xs := by rw [← hxl, ← List.length_append, List.take_left]
      have e2 : (pre ++ xs ++ sp).drop (pre.length + m * size + us.length) = sp.drop us.length := by
        rw [← hxl, ← List.length_append]
        generalize pre ++ xs = A
        rw [List.drop_append, List.drop_eq_nil_of_le (by omega), List.nil_append]; congr 1; omega
      refine ⟨some (b, cap, pre, sp.drop us.length), w.setRow b (pre ++ (xs ++ us) ++ sp.drop us.length).toArray, ?_, ⟨hroom, hcm, hlx, ?_⟩, ?_⟩
      · have e1' : List.take (pre.length + m * size) (pre ++ xs ++ sp).toArray.toList = pre ++ xs := e1
        have e2' : List.drop (pre.length + m * size + us.length) (pre ++ xs ++ sp).toArray.toList = sp.drop us.length := e2
        rw [e1', e2', List.append_assoc pre xs us] at hst
        simp [Builtin.append_, run_underlying ht, run_underlying hx, sizeOf, typeInfo, hi, hsize, hmat, hs1, hs2, ovVal, hroom, add_lit, hst]
      · simp only [List.length_append, List.length_drop] at hal ⊢
        rw [Nat.add_mul] at h5
        omega
      · exact (hp.has hh).setRow .z
    · have hrd := (src_at (P := P) (size := size) (b := b) (o := pre.length) (m := m) (c := cap) (us := xs) hin (by rw [List.append_assoc, List.drop_left, ← hxl, List.take_left]) hxl).2 w.drew hh.drew
      exact grow cap _ (by omega) rfl hrd.2
def KOv (e : TypeId) (m size : Nat) (xs : List Value) (L : List Seg) (v : Value) (L' : List Seg) : Prop := ∃ s, v = ovVal s m ∧ ovOk s m size xs ∧ L' = ovSeg s e xs :: L
section
variable {P : Program} {n : Nat} {l : List (Nat × Value)} {L : List Seg} {dd : Option Tmp} {ty : TypeId} {pos : String} {af : Array Edge} {g : Option (Nat × Bool)}
theorem ac_appendO [Env] {x z : Operand} {s : Ov} {v : Value} {e t xT : TypeId} {i : TypeInfo} {zv : Value} {m k size : Nat} {xs us : List Value} {M : List Seg} {dx : TypeDesc}
    (hx : ev l x = some (ovVal s m)) (hz : ev l z = some v) (hp : Pk L (ovSeg s e xs) M) (ht : P.underlying t = some (.slice e)) (hxt : P.underlying xT = some dx) (hni : ∀ q, dx ≠ .int q)
    (hti : ∀ w, (typeInfo e).run P w = .ok i w) (hzv : i.zero = some zv) (hsize : i.size = size) (hzs : zv.cells.size = size) (hok : ovOk s m size xs) (hsrc : Src P L size v k us)
    (h1 : ∀ u ∈ us, u.oneCell' = true) (hbig : (m + k) * (i.bytes + 1) ≤ 140737488355328) :
    Ac P n ⟨dd, .call { callee := .builtin .append, args := #[x, z], argTypes := #[t, xT] }, ty, pos, af, g⟩ l L (KOv e (m + k) size (xs ++ us) M) := by
  intro a w hf hh
  obtain ⟨s', w', hr, hok', hh'⟩ := run_append_ov (ty := ty) hh hp ht hxt hni (info_of hti) hzv hsize hzs hok hsrc h1 hbig
  refine ⟨_, w', _, .inl ?_, ⟨s', rfl, hok', rfl⟩, hh'⟩
  simp [execOp, resolve, invoke, builtin, hf.ev hx, hf.ev hz, hr]
end
end Go.Sl
