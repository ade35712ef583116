/- A part of the proof: contracts and plain lemmas, each without conditions beyond those that it names. -/
import Derived.Test.YtnedokioglfipaaSlM
import Derived.Laws.IdiomStrings
set_option linter.unusedVariables false
set_option linter.unusedSimpArgs false
set_option linter.constructorNameAsVariable false
namespace Go.Sl
set_option linter.unusedSimpArgs false
section
variable {P : Program} {n : Nat} {Q : Exit → Act → World → Prop} {l : List (Nat × Value)} {L : List Seg} {d : Option Tmp} {ty : TypeId} {pos : String} {af : Array Edge} {g : Option (Nat × Bool)}

theorem ccond1 [Env] {c : Operand} {x z : Code} (hc : ev l c = some (.bool true)) (h1 : Sc P n x Q l L) : Sc P n (.cond c x z) Q l L :=
  fun a w hf hh => wp_cond_true (hf.ev hc) (h1 a w hf hh)
theorem ccond0 [Env] {c : Operand} {x z : Code} (hc : ev l c = some (.bool false)) (h1 : Sc P n z Q l L) : Sc P n (.cond c x z) Q l L :=
  fun a w hf hh => wp_cond_false (hf.ev hc) (h1 a w hf hh)

/-! building -/
def evps (l : List (Nat × Value)) : List (Nat × Operand) → Option (List (Nat × Value))
  | [] => some []
  | (i, x) :: xs => match ev l x with
    | some v => match evps l xs with
      | some vs => some ((i, v) :: vs)
      | none => none
    | none => none
theorem evps_eq {a : Act} (hf : Fr n l a) : ∀ {xs : List (Nat × Operand)} {vs : List (Nat × Value)}, evps l xs = some vs → xs.map (fun p => (p.1, a.eval p.2)) = vs
  | [], vs, h => by simpa [evps] using h
  | (i, x) :: xs, vs, h => by
    unfold evps at h
    split at h
    · rename_i v hv
      split at h
      · rename_i us hus
        cases h
        simp [hf.ev hv, evps_eq hf hus]
      · cases h
    · cases h

def vcells : Value → List Value
  | .agg us => us.toList
  | v => [v]
theorem vcells_eq (v : Value) : v.cells = (vcells v).toArray := by cases v <;> simp [Value.cells, vcells]
def splice (z us : List Value) (o : Nat) : List Value := z.take o ++ us ++ z.drop (o + us.length)
/-- The cells behind filling: each part at its place. -/
def fillL (pl : List (Nat × Nat)) : List Value → List (Nat × Value) → List Value
  | z, [] => z
  | z, (i, v) :: r => fillL pl (splice z (vcells v) ((pl[i]?).getD (0, 0)).1) r
def fillOk (pl : List (Nat × Nat)) : Nat → List (Nat × Value) → Prop
  | _, [] => True
  | m, (i, v) :: r => (∃ o k, pl[i]? = some (o, k) ∧ (vcells v).length = k ∧ o + k ≤ m) ∧ fillOk pl m r

theorem foldl_splice : ∀ (us : List Value) (k o : Nat) (cs : Array Value), o + k + us.length ≤ cs.size →
    ((us.zipIdx k).foldl (fun cs (x : Value × Nat) => cs.setIfInBounds (o + x.2) x.1) cs) = (splice cs.toList us (o + k)).toArray
  | [], k, o, cs, _ => by simp [splice]
  | u :: us, k, o, cs, h => by
    have ih := foldl_splice us (k + 1) o (cs.setIfInBounds (o + k) u) (by simp at h ⊢; omega)
    simp only [List.zipIdx_cons, List.foldl_cons, ih]
    congr 1
    have e := list_seg_step cs.toList (o + k) u us (by simp at h ⊢; omega)
    unfold splice
    simp only [Array.toList_setIfInBounds, List.length_cons]
    simpa [Nat.add_assoc] using e

theorem splice_length (z us : List Value) (o : Nat) (h : o + us.length ≤ z.length) : (splice z us o).length = z.length := by
  simp [splice]; omega

theorem fill_eq (place : Nat → Option (Nat × Nat)) (pl : List (Nat × Nat)) (hpl : ∀ i o k, pl[i]? = some (o, k) → place i = some (o, k)) :
    ∀ (ps : List (Nat × Value)) (cells : Array Value), fillOk pl cells.size ps → Instr.fill place cells ps = some (fillL pl cells.toList ps).toArray
  | [], cells, _ => by simp [Instr.fill, fillL]
  | (i, v) :: r, cells, h => by
    obtain ⟨⟨o, k, hi, hk, hle⟩, hr⟩ := h
    have hv := vcells_eq v
    have hs : v.cells.size = k := by rw [hv]; simpa using hk
    have h1 : ¬ ((v.cells.size != k || decide (o + v.cells.size > cells.size)) = true) := by
      simp [hs]; omega
    have h2 : v.cells.zipIdx.foldl (fun cs (x : Value × Nat) => cs.setIfInBounds (o + x.2) x.1) cells = (splice cells.toList (vcells v) o).toArray := by
      have := foldl_splice (vcells v) 0 o cells (by omega)
      simp only [Nat.add_zero] at this
      rw [← this, hv, ← Array.foldl_toList]
      simp
    have ih := fill_eq place pl hpl r (splice cells.toList (vcells v) o).toArray (by
      have : (splice cells.toList (vcells v) o).toArray.size = cells.size := by simp [splice_length _ _ _ (show o + (vcells v).length ≤ cells.toList.length by simp; omega)]
      rw [this]; exact hr)
    simp only [Instr.fill, hpl i o k hi]
    rw [if_neg (by simpa using h1)]
    rw [h2, ih]
    simp [fillL, hi]

/-- Where a struct's parts lie. -/
inductive Places (P : Program) : List Field → List (Nat × Nat) → Prop
  | nil : Places P [] []
  | cons {f : Field} {fs : List Field} {k : Nat} {pl : List (Nat × Nat)} (hs : ∀ w, (sizeOf f.type).run P w = .ok k w) (h : Places P fs pl) : Places P (f :: fs) ((f.offset, k) :: pl)
theorem Places.run {fs : List Field} {pl : List (Nat × Nat)} (h : Places P fs pl) (w : World) : (fs.mapM fun f => do pure (f.offset, ← sizeOf f.type) : Sem (List (Nat × Nat))).run P w = .ok pl w := by
  induction h with
  | nil => simp
  | cons hs _ ih => simp only [List.mapM_cons, Sem.run_bind, hs, Result.andThen_ok, Sem.run_pure, ih]
theorem ev_build [Env] {t : TypeId} {parts : List (Nat × Operand)} {ps : List (Nat × Value)} {fs : Array Field} {zv : Value} {zs vs : List Value} {pl : List (Nat × Nat)} (hp : evps l parts = some ps) (hu : P.underlying t = some (.struct fs))
    (hz : ∀ w, (zeroValue t).run P w = .ok zv w) (hzs : zv.cells = zs.toArray) (hpl : Places P fs.toList pl)
    (hok : fillOk pl zs.length ps) (hv : fillL pl zs ps = vs) :
    Ev P n ⟨d, .build t parts.toArray, ty, pos, af, g⟩ l L (.agg vs.toArray) :=
  fun a w hf _ => by
    have h1 := evps_eq hf hp
    have h2 := fill_eq (fun i => pl.toArray[i]?) pl (fun i o k h => by simpa using h) ps zs.toArray (by simpa using hok)
    have h3 : (parts.toArray.map fun (x : Nat × Operand) => (x.1, a.eval x.2)) = ps.toArray := by simp [← h1]
    have h6 : (fs.mapM fun f => do pure (f.offset, ← sizeOf f.type) : Sem (Array (Nat × Nat))).run P w = .ok pl.toArray w := by
      rw [Array.mapM_eq_mapM_toList]
      simp only [Sem.run_map, hpl.run, Result.andThen_ok]
    have h4 : (Instr.build t ps.toArray).run P w = .ok (.agg vs.toArray) w := by
      simp only [Instr.build, Sem.run_bind, hz, run_underlying hu, Result.andThen_ok, hzs, h6]
      have h5 : Instr.fill (fun x => pl.toArray[x]?) zs.toArray ps.toArray.toList = some vs.toArray := by rw [← hv]; exact h2
      rw [h5]; rfl
    simp only [execOp, Sem.run_bind]
    rw [show (parts.toArray.map fun (x : Nat × Operand) => match x with | (i, x) => (i, a.eval x)) = ps.toArray from h3, h4]
    rfl
theorem ev_buildA [Env] {t e m s : Nat} {parts : List (Nat × Operand)} {ps : List (Nat × Value)} {zv : Value} {zs vs : List Value} (hp : evps l parts = some ps) (hu : P.underlying t = some (.array m e))
    (hz : ∀ w, (zeroValue t).run P w = .ok zv w) (hzs : zv.cells = zs.toArray) (hs : ∀ w, (sizeOf e).run P w = .ok s w)
    (hok : fillOk ((List.range m).map fun i => (i * s, s)) zs.length ps) (hv : fillL ((List.range m).map fun i => (i * s, s)) zs ps = vs) :
    Ev P n ⟨d, .build t parts.toArray, ty, pos, af, g⟩ l L (.agg vs.toArray) :=
  fun a w hf _ => by
    have h1 := evps_eq hf hp
    have h2 := fill_eq (fun i => some (i * s, s)) ((List.range m).map fun i => (i * s, s)) (fun i o k h => by
      simp [List.getElem?_range] at h; obtain ⟨_, h1, h2, h3⟩ := h; obtain ⟨_, rfl⟩ := List.getElem?_eq_some_iff.1 h1; simp at h2; rw [← h2, ← h3]) ps zs.toArray (by simpa using hok)
    have h3 : (parts.toArray.map fun (x : Nat × Operand) => (x.1, a.eval x.2)) = ps.toArray := by simp [← h1]
    have h4 : (Instr.build t ps.toArray).run P w = .ok (.agg vs.toArray) w := by
      simp only [Instr.build, Sem.run_bind, hz, run_underlying hu, Result.andThen_ok, hzs, hs]
      have h5 : Instr.fill (fun i => some (i * s, s)) zs.toArray ps.toArray.toList = some vs.toArray := by rw [← hv]; exact h2
      rw [h5]; rfl
    simp only [execOp, Sem.run_bind]
    rw [show (parts.toArray.map fun (x : Nat × Operand) => match x with | (i, x) => (i, a.eval x)) = ps.toArray from h3, h4]
    rfl

/-- A slice written out. -/
theorem ac_bslice [Env] {t e : TypeId} {m s : Nat} {parts : List (Nat × Operand)} {ps : List (Nat × Value)} {zv : Value} {zs vs : List Value} (hp : evps l parts = some ps)
    (hu : P.underlying t = some (.slice e)) (hs : ∀ w, (sizeOf e).run P w = .ok s w) (hz : ∀ w, (zeroValue e).run P w = .ok zv w) (hbig : Nat.ble (m * s) 16777216 = true) (hpos : Nat.blt 0 (m * s) = true)
    (hzs : ((Array.range (m * s)).map (zv.cells[· % zv.cells.size]!)) = zs.toArray)
    (hok : fillOk ((List.range m).map fun i => (i * s, s)) zs.length ps) (hv : fillL ((List.range m).map fun i => (i * s, s)) zs ps = vs) :
    Ac P n ⟨d, .buildSlice t m parts.toArray, ty, pos, af, g⟩ l L (KSl e m vs L) := by
  intro a w hf hh
  have h0 : ¬ (m * s > 2 ^ 24) := by have := Nat.le_of_ble_eq_true hbig; omega
  have h1 : ¬ (m * s = 0) := by have : 0 < m * s := by simpa using hpos
                                omega
  have hm := evps_eq hf hp
  have h2 := fill_eq (fun i => some (i * s, s)) ((List.range m).map fun i => (i * s, s)) (fun i o k h => by
      simp [List.getElem?_range] at h; obtain ⟨_, h1, h2, h3⟩ := h; obtain ⟨_, rfl⟩ := List.getElem?_eq_some_iff.1 h1; simp at h2; rw [← h2, ← h3]) ps zs.toArray (by simpa using hok)
  have h3 : (parts.toArray.map fun (x : Nat × Operand) => (x.1, a.eval x.2)) = ps.toArray := by simp [← hm]
  have h5 : Instr.fill (fun i => some (i * s, s)) zs.toArray ps.toArray.toList = some vs.toArray := by rw [← hv]; exact h2
  have h4 : (Instr.buildSlice t m ps.toArray).run P w = .ok (.slice (some ⟨w.heap.size, 0, none⟩) m m) (w.alloc (.cells vs.toArray e)) := by
    simp only [Instr.buildSlice, Sem.run_bind, run_underlying hu, Result.andThen_ok, hs, h0, h1, if_false, hz, Sem.run_pure, hzs, h5, newRow, run_newObj, World.alloc_eq]
  refine ⟨_, _, _, .inl ?_, ⟨w.heap.size, rfl, rfl⟩, hh.alloc (.cells vs.toArray e)⟩
  simp only [execOp, Sem.run_bind]
  rw [show (parts.toArray.map fun (x : Nat × Operand) => match x with | (i, x) => (i, a.eval x)) = ps.toArray from h3, h4]
  rfl

/-! strings and bytes -/
def bytesV (bs : List UInt8) : List Value := bs.map fun b => .int .u8 b.toNat
theorem bytesV_one (bs : List UInt8) : ∀ u ∈ bytesV bs, u.oneCell' = true := by
  intro u hu; obtain ⟨b, _, rfl⟩ := List.mem_map.1 hu; rfl
@[simp] theorem bytesV_length (bs : List UInt8) : (bytesV bs).length = bs.length := by simp [bytesV]

theorem ev_toStr [Env] {t u e : TypeId} {x : Operand} {b o m c : Nat} {vs : List Value} {T : TypeId} {fr : Nat × Nat} {bs : List UInt8} (hx : ev l x = some (.slice (some ⟨b, o, none⟩) m c))
    (ht : P.underlying t = some (.slice e)) (hu : P.underlying u = some .string) (he : P.underlying e = some (.int .u8)) (hm : m = bs.length)
    (hi : In L (so b (.cells vs.toArray T fr))) (hv : (vs.drop o).take m = bytesV bs) : Ev P n ⟨d, .convert t u x, ty, pos, af, g⟩ l L (.string ⟨bs.toArray⟩) := by
  intro a w hf hh
  subst hm
  have := run_convert_bytes_back (P := P) w t u e ⟨b, o, none⟩ c bs ht he hu (fun j hj => by
    rw [add_lit]
    refine cell_at hh hi ?_
    have h2 : ((vs.drop o).take bs.length)[j]? = (bytesV bs)[j]? := by rw [hv]
    rw [List.getElem?_take, if_pos hj, List.getElem?_drop] at h2
    rw [h2]
    simp [bytesV, hj])
  simp [execOp, hf.ev hx, this]
theorem ev_toStr0 [Env] {t u e : TypeId} {x : Operand} {m c : Nat} (hx : ev l x = some (.slice none m c))
    (ht : P.underlying t = some (.slice e)) (hu : P.underlying u = some .string) (he : P.underlying e = some (.int .u8)) : Ev P n ⟨d, .convert t u x, ty, pos, af, g⟩ l L (.string ⟨#[]⟩) := by
  intro a w hf _
  simp [execOp, hf.ev hx, convert, run_underlying ht, run_underlying hu, run_underlying he, Conv.bytesToString]
  rfl
theorem ev_strStr [Env] {t u : TypeId} {x : Operand} {s : ByteArray} (hx : ev l x = some (.string s)) (ht : P.underlying t = some .string) (hu : P.underlying u = some .string) : Ev P n ⟨d, .convert t u x, ty, pos, af, g⟩ l L (.string s) := by
  intro a w hf _
  simp [execOp, hf.ev hx, convert, run_underlying ht, run_underlying hu]

/-- '[]byte(s)': a new block with these bytes, and some more. -/
def KBytes (s : ByteArray) (e : TypeId) (L : List Seg) (v : Value) (L' : List Seg) : Prop :=
  ∃ b c sp fr, v = .slice (some ⟨b, 0, none⟩) s.size c ∧ L' = so b (.cells (bytesV s.data.toList ++ sp).toArray e fr) :: L
theorem ac_toBytes [Env] {t u e : TypeId} {x : Operand} {s : ByteArray} (hx : ev l x = some (.string s)) (ht : P.underlying t = some .string) (hu : P.underlying u = some (.slice e)) (he : P.underlying e = some (.int .u8)) :
    Ac P n ⟨d, .convert t u x, ty, pos, af, g⟩ l L (KBytes s e L) := by
  intro a w hf hh
  have hr := run_bytes_of_string (P := P) w t u e s ht hu he
  have h2 := (hh.drew).alloc (.cells (bytesRow s (grownCap w s.size 0 e)) e ((bytesRow s (grownCap w s.size 0 e)).size, (bytesRow s (grownCap w s.size 0 e)).size + 1))
  have hb : bytesRow s (grownCap w s.size 0 e) = (bytesV s.data.toList ++ List.replicate (grownCap w s.size 0 e - s.size) (Value.int .u8 0)).toArray := by
    unfold bytesRow bytesV
    rw [← Array.toList_inj]
    simp
  refine ⟨.slice (some ⟨w.heap.size, 0, none⟩) s.size (grownCap w s.size 0 e), w.drew.alloc (.cells (bytesRow s (grownCap w s.size 0 e)) e ((bytesRow s (grownCap w s.size 0 e)).size, (bytesRow s (grownCap w s.size 0 e)).size + 1)),
    so w.drew.heap.size (.cells (bytesRow s (grownCap w s.size 0 e)) e ((bytesRow s (grownCap w s.size 0 e)).size, (bytesRow s (grownCap w s.size 0 e)).size + 1)) :: L, .inl ?_, ?_, h2⟩
  · simp only [execOp, hf.ev hx, Sem.run_bind, hr, Result.andThen_ok, Sem.run_pure]
  · exact ⟨w.heap.size, grownCap w s.size 0 e, List.replicate (grownCap w s.size 0 e - s.size) (.int .u8 0), _, rfl, by rw [← hb]; rfl⟩
end
end Go.Sl
