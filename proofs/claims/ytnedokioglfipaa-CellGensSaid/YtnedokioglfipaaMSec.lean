/- A part of the proof: contracts and plain lemmas, each without conditions beyond those that it names. -/
import Derived.Test.YtnedokioglfipaaSlP
set_option linter.unusedVariables false
set_option linter.unusedSimpArgs false
set_option linter.constructorNameAsVariable false
/- The model of a device: raw, as it lies; plain Lean. -/
namespace Go.Sl

abbrev Bytes := List UInt8
def zsec : Bytes := List.replicate 144 0
@[simp] theorem zsec_length : zsec.length = 144 := by simp [zsec]
def pad (bs : Bytes) : Bytes := bs ++ List.replicate (144 - bs.length) 0
theorem pad_length {bs : Bytes} (h : bs.length ≤ 144) : (pad bs).length = 144 := by simp [pad]; omega

abbrev Es := List (Int × Bytes × Nat)
def kvs (es : Es) : Kv := es.map fun x => (x.1, .agg (bytesV x.2.1).toArray, x.2.2)
def eget (es : Es) (k : Int) : Option Bytes := (es.find? (fun x => decide (x.1 = k))).map (·.2.1)
def eset (es : Es) (k : Int) (s : Bytes) : Es := es.map fun x => if x.1 = k then (k, s, x.2.2) else x
def ehas (es : Es) (k : Int) : Bool := es.any fun x => decide (x.1 = k)
def eput (es : Es) (c : Nat) (k : Int) (s : Bytes) : Es := if ehas es k then eset es k s else es ++ [(k, s, c)]
def eclk (es : Es) (c : Nat) (k : Int) : Nat := if ehas es k then c else c + 1

structure Dev where
  l : List Bytes
  es : Es
  clk : Nat
  dead : Bool
  fuse : Int

structure Dev.ok (D : Dev) : Prop where
  n : D.l.length ≤ 512
  sec : ∀ s ∈ D.l, s.length = 144
  esec : ∀ x ∈ D.es, x.2.1.length = 144
  keys : ∀ x ∈ D.es, 0 ≤ x.1 ∧ x.1 < D.l.length
  uniq : (D.es.map (·.1)).Nodup
  born : ∀ x ∈ D.es, x.2.2 < D.clk
  once : (D.es.map (·.2.2)).Nodup
  fuse : -1 ≤ D.fuse ∧ D.fuse ≤ 9223372036854775807

def Dev.act (D : Dev) : Int × Dev := if D.fuse = 0 then (30, { D with dead := true }) else (0, if 0 < D.fuse then { D with fuse := IntKind.i64.wrap (D.fuse - 1) } else D)
def Dev.has (D : Dev) (i : Int) : Int := if D.dead = true then 30 else if i < 0 ∨ (D.l.length : Int) ≤ i then 2 else 0
def Dev.write (D : Dev) (i : Int) (bs : Bytes) : Int × Dev :=
  if D.has i ≠ 0 then (D.has i, D) else if (144 : Int) < bs.length then (3, D) else if D.act.1 ≠ 0 then D.act else
  (0, { D.act.2 with es := eput D.act.2.es D.act.2.clk i (pad bs), clk := eclk D.act.2.es D.act.2.clk i })
def settleD (es : Es) (l : List Bytes) : List Bytes := es.foldl (fun l x => l.set x.1.toNat x.2.1) l
def Dev.barrier (D : Dev) : Int × Dev :=
  if D.dead = true then (30, D) else if D.act.1 ≠ 0 then D.act else (0, { D.act.2 with l := settleD D.act.2.es D.act.2.l, es := [] })
def Dev.sec (D : Dev) (i : Int) : Bytes := (eget D.es i).getD ((D.l[i.toNat]?).getD zsec)
def Dev.up (D : Dev) : Dev := { D with es := [], dead := false, fuse := -1 }
def Dev.lose (D : Dev) : Dev := { D with l := List.replicate D.l.length zsec, es := [], dead := false, fuse := -1 }
def Dev.setFuse (D : Dev) (n : Int) : Dev := { D with fuse := if -1 > n then -1 else n }
def Dev.new (n : Nat) : Dev := ⟨List.replicate n zsec, [], 0, false, -1⟩

theorem act_uniq {D : Dev} (h : D.ok) : (D.act.2.es.map (·.1)).Nodup := by
  unfold Dev.act; split
  · exact h.uniq
  · dsimp only; split <;> exact h.uniq
@[simp] theorem act_l {D : Dev} : D.act.2.l = D.l := by unfold Dev.act; split <;> (try split) <;> rfl
@[simp] theorem act_es {D : Dev} : D.act.2.es = D.es := by unfold Dev.act; split <;> (try split) <;> rfl
@[simp] theorem act_clk {D : Dev} : D.act.2.clk = D.clk := by unfold Dev.act; split <;> (try split) <;> rfl
/-! the cells -/
theorem copy_pad {bs : Bytes} (h : bs.length ≤ 144) : (bytesV zsec).take 0 ++ bytesV (bs.take (min bs.length 144)) ++ (bytesV zsec).drop (0 + min bs.length 144) = bytesV (pad bs) := by
  have : min bs.length 144 = bs.length := by omega
  rw [this]
  have e : bytesV zsec = List.replicate 144 (Value.int .u8 0) := by simp only [bytesV, zsec, List.map_replicate]; rfl
  rw [e, List.drop_replicate]
  simp only [pad, bytesV, List.map_append, List.map_replicate, List.take_length, List.take_zero, List.nil_append, Nat.zero_add]
  rfl

def flat (l : List Bytes) : List Value := (l.map bytesV).flatten
theorem flat_length : ∀ {l : List Bytes}, (∀ s ∈ l, s.length = 144) → (flat l).length = l.length * 144
  | [], _ => by simp [flat]
  | s :: l, h => by
    have ih := flat_length (l := l) (fun t ht => h t (by simp [ht]))
    have hs := h s (by simp)
    simp only [flat, List.map_cons, List.flatten_cons, List.length_append, bytesV_length, List.length_cons] at ih ⊢
    omega
theorem flat_get : ∀ {l : List Bytes}, (∀ s ∈ l, s.length = 144) → ∀ {i : Nat} {s : Bytes}, l[i]? = some s → ((flat l).drop (i * 144)).take 144 = bytesV s
  | [], _, i, s, h => by simp at h
  | t :: l, h, i, s, hi => by
    have ht := h t (by simp)
    cases i with
    | zero =>
      simp at hi; subst hi
      simp only [flat, List.map_cons, List.flatten_cons, Nat.zero_mul, List.drop_zero]
      rw [List.take_append_of_le_length (by simp [ht])]
      exact List.take_of_length_le (by simp [ht])
    | succ i =>
      have ih := flat_get (l := l) (fun u hu => h u (by simp [hu])) (i := i) (s := s) (by simpa using hi)
      simp only [flat, List.map_cons, List.flatten_cons] at ih ⊢
      rw [List.drop_append, List.drop_eq_nil_of_le (by simp only [bytesV_length, ht]; omega)]
      simp only [bytesV_length, List.nil_append, ht]
      rw [show (i + 1) * 144 - 144 = i * 144 by omega]
      exact ih
theorem flat_set : ∀ {l : List Bytes}, (∀ s ∈ l, s.length = 144) → ∀ {i : Nat} {s : Bytes}, i < l.length → (flat l).take (i * 144) ++ bytesV s ++ (flat l).drop (i * 144 + 144) = flat (l.set i s)
  | [], _, i, s, h => by simp at h
  | t :: l, h, i, s, hi => by
    have ht := h t (by simp)
    cases i with
    | zero =>
      simp only [flat, List.map_cons, List.flatten_cons, Nat.zero_mul, List.take_zero, List.nil_append, Nat.zero_add, List.set_cons_zero]
      rw [List.drop_append, List.drop_eq_nil_of_le (by simp [ht])]
      simp [ht]
    | succ i =>
      have ih := flat_set (l := l) (fun u hu => h u (by simp [hu])) (i := i) (s := s) (by simpa using hi)
      simp only [flat, List.map_cons, List.flatten_cons, List.set_cons_succ] at ih ⊢
      rw [← ih, List.take_append, List.drop_append, List.drop_eq_nil_of_le (by simp only [bytesV_length, ht]; omega), List.take_of_length_le (by simp only [bytesV_length, ht]; omega)]
      simp only [bytesV_length, ht, List.nil_append, List.append_assoc]
      rw [show (i + 1) * 144 - 144 = i * 144 by omega, show (i + 1) * 144 + 144 - 144 = i * 144 + 144 by omega]
theorem flat_reps (n : Nat) : flat (List.replicate n zsec) = reps n (bytesV zsec) := by simp [flat, reps]

/-! the map -/
theorem kvs_any (es : Es) (k : Int) : (kvs es).any (fun x => decide (x.1 = k)) = ehas es k := by simp [kvs, ehas, List.any_map, Function.comp_def]
theorem kvs_put (es : Es) (c : Nat) (k : Int) (s : Bytes) : mput (kvs es) c k (.agg (bytesV s).toArray) = kvs (eput es c k s) := by
  unfold mput eput
  rw [kvs_any]
  split
  · simp only [mset, kvs, eset, List.map_map]
    apply List.map_congr_left
    intro x _
    simp only [Function.comp]
    split <;> simp_all
  · simp [kvs]
theorem kvs_clk (es : Es) (c : Nat) (k : Int) : mclk (kvs es) c k = eclk es c k := by unfold mclk eclk; rw [kvs_any]
theorem kvs_get (es : Es) (k : Int) : mget (kvs es) k = (eget es k).map fun s => .agg (bytesV s).toArray := by
  unfold mget eget kvs
  rw [List.find?_map]
  simp only [Function.comp_def, Option.map_map]
theorem kvs_uniq {es : Es} (h : (es.map (·.1)).Nodup) : uniq (kvs es) := by
  unfold uniq kvs
  simpa [List.map_map, Function.comp_def] using h
theorem kvs_stamped {es : Es} {c : Nat} (h : ∀ x ∈ es, x.2.2 < c) (h' : (es.map (·.2.2)).Nodup) : stamped (kvs es) c := by
  refine ⟨fun x hx => ?_, ?_⟩
  · obtain ⟨y, hy, rfl⟩ := List.mem_map.1 hx; exact h y hy
  · unfold kvs; simpa [List.map_map, Function.comp_def] using h'

theorem left_es {D : Dev} (hD : D.ok) {seen : List Nat} {x : Int × Value × Nat} (hx : x ∈ left (kvs D.es) seen) :
    ∃ k s b, x = (k, .agg (bytesV s).toArray, b) ∧ s.length = 144 ∧ 0 ≤ k ∧ k < D.l.length ∧ (k, s, b) ∈ D.es := by
  obtain ⟨y, hy, rfl⟩ := List.mem_map.1 (left_mem hx)
  exact ⟨y.1, y.2.1, y.2.2, rfl, hD.esec y hy, (hD.keys y hy).1, (hD.keys y hy).2, hy⟩
theorem left_kvs (es : Es) (seen : List Nat) : left (kvs es) seen = kvs (es.filter fun y => !seen.contains y.2.2) := by
  unfold left kvs
  rw [List.filter_map]
  rfl
theorem settle_done {es : Es} {seen : List Nat} {ls : List Bytes} {r : List Bytes} (h : left (kvs es) seen = []) (hs : settleD (es.filter fun y => !seen.contains y.2.2) ls = r) : ls = r := by
  rw [left_kvs] at h
  have : (es.filter fun y => !seen.contains y.2.2) = [] := by unfold kvs at h; exact List.map_eq_nil_iff.1 h
  rw [this] at hs
  exact hs
theorem settleD_cons (x : Int × Bytes × Nat) (es : Es) (ls : List Bytes) : settleD (x :: es) ls = settleD es (ls.set x.1.toNat x.2.1) := rfl
@[simp] theorem settleD_length : ∀ (es : Es) (ls : List Bytes), (settleD es ls).length = ls.length
  | [], ls => rfl
  | x :: es, ls => by rw [settleD_cons, settleD_length es]; simp
theorem settleD_sec : ∀ {es : Es} {ls : List Bytes}, (∀ x ∈ es, x.2.1.length = 144) → (∀ s ∈ ls, s.length = 144) → ∀ s ∈ settleD es ls, s.length = 144
  | [], ls, _, h => h
  | x :: es, ls, he, h => by
    rw [settleD_cons]
    refine settleD_sec (fun y hy => he y (by simp [hy])) ?_
    intro t ht
    rcases List.mem_or_eq_of_mem_set ht with h1 | rfl
    · exact h t h1
    · exact he x (by simp)
@[simp] theorem kvs_nil : kvs [] = [] := rfl
theorem settleD_comm {k : Int} {s : Bytes} : ∀ {es : Es}, (∀ y ∈ es, y.1 ≠ k ∧ 0 ≤ y.1) → 0 ≤ k → ∀ (ls : List Bytes), (settleD es ls).set k.toNat s = settleD es (ls.set k.toNat s)
  | [], _, _, ls => rfl
  | y :: es, h, hk, ls => by
    rw [settleD_cons, settleD_cons, settleD_comm (fun z hz => h z (by simp [hz])) hk, List.set_comm]
    have := h y (by simp)
    omega
theorem settleD_pull {k : Int} {s : Bytes} {b : Nat} : ∀ {es : Es}, (es.map (·.1)).Nodup → (es.map (·.2.2)).Nodup → (∀ y ∈ es, 0 ≤ y.1) → (k, s, b) ∈ es → ∀ (ls : List Bytes), settleD (es.filter fun y => !(y.2.2 == b)) (ls.set k.toNat s) = settleD es ls
  | [], _, _, _, h, _ => by cases h
  | y :: es, hn, hb, hp, h, ls => by
    have hn' := List.nodup_cons.1 hn
    have hb' := List.nodup_cons.1 hb
    rcases List.mem_cons.1 h with rfl | h
    · have hf : (es.filter fun y => !(y.2.2 == b)) = es := by
        rw [List.filter_eq_self]
        intro z hz
        have : z.2.2 ≠ b := fun e => hb'.1 (List.mem_map.2 ⟨z, hz, e⟩)
        simpa using this
      rw [List.filter_cons_of_neg (by simp), hf]
      rfl
    · have h1 : y.2.2 ≠ b := fun e => hb'.1 (List.mem_map.2 ⟨(k, s, b), h, e.symm⟩)
      have h2 : y.1 ≠ k := fun e => hn'.1 (List.mem_map.2 ⟨(k, s, b), h, e.symm⟩)
      rw [List.filter_cons_of_pos (by simpa using h1), settleD_cons, settleD_cons, List.set_comm]
      · exact settleD_pull hn'.2 hb'.2 (fun z hz => hp z (by simp [hz])) h _
      · have := hp y (by simp); have := hp (k, s, b) (by simp [h]); simp only at this; omega
theorem filter_seen (es : Es) (seen : List Nat) (b : Nat) : (es.filter fun y => !(seen ++ [b]).contains y.2.2) = (es.filter fun y => !seen.contains y.2.2).filter fun y => !(y.2.2 == b) := by
  rw [List.filter_filter]
  apply List.filter_congr
  intro y _
  by_cases h : y.2.2 = b <;> simp [h]
theorem settleD_step {D : Dev} (hD : D.ok) {seen : List Nat} {k : Int} {s : Bytes} {b : Nat} {ls : List Bytes} {v : Value} (hx : (k, v, b) ∈ left (kvs D.es) seen) (hm : (k, s, b) ∈ D.es) {r : List Bytes}
    (h : settleD (D.es.filter fun y => !seen.contains y.2.2) ls = r) : settleD (D.es.filter fun y => !(seen ++ [b]).contains y.2.2) (ls.set k.toNat s) = r := by
  rw [← h, filter_seen]
  have hb : (!seen.contains b) = true := (List.mem_filter.1 hx).2
  refine settleD_pull ?_ ?_ ?_ (List.mem_filter.2 ⟨hm, hb⟩) ls
  · exact (List.filter_sublist.map _).nodup hD.uniq
  · exact (List.filter_sublist.map _).nodup hD.once
  · intro y hy; exact (hD.keys y (List.mem_filter.1 hy).1).1
theorem set_len {ls : List Bytes} {m : Nat} (h : ∀ s ∈ ls, s.length = m) {i : Nat} {s : Bytes} (hs : s.length = m) : ∀ t ∈ ls.set i s, t.length = m := by
  intro t ht
  rcases List.mem_or_eq_of_mem_set ht with h1 | rfl
  · exact h t h1
  · exact hs
theorem eget_mem {es : Es} {k : Int} {s : Bytes} (h : eget es k = some s) : ∃ b, (k, s, b) ∈ es := by
  unfold eget at h
  obtain ⟨x, hx, rfl⟩ := Option.map_eq_some_iff.1 h
  have h1 := List.mem_of_find?_eq_some hx
  have h2 := List.find?_some hx
  have h3 : x.1 = k := by simpa using h2
  subst h3
  exact ⟨_, h1⟩
theorem eget_len {D : Dev} (hD : D.ok) {k : Int} {s : Bytes} (h : eget D.es k = some s) : s.length = 144 := by
  obtain ⟨b, hb⟩ := eget_mem h; exact hD.esec _ hb
theorem sec_some {D : Dev} {i : Int} {s : Bytes} (h : eget D.es i = some s) : D.sec i = s := by simp [Dev.sec, h]
theorem sec_none {D : Dev} {i : Int} {s : Bytes} (h : eget D.es i = none) (h2 : D.l[i.toNat]? = some s) : D.sec i = s := by simp [Dev.sec, h, h2]
theorem sec_length {D : Dev} (hD : D.ok) (i : Int) : (D.sec i).length = 144 := by
  unfold Dev.sec
  cases h : eget D.es i with
  | some s => obtain ⟨b, hb⟩ := eget_mem h; exact hD.esec _ hb
  | none =>
    cases h2 : D.l[i.toNat]? with
    | none => simp
    | some s => exact hD.sec s (List.mem_of_getElem? h2)
theorem has_zero {D : Dev} {i : Int} (h : D.has i = 0) : D.dead = false ∧ 0 ≤ i ∧ i < D.l.length := by
  unfold Dev.has at h
  split at h
  · simp at h
  · rename_i hd
    split at h
    · simp at h
    · rename_i h2
      exact ⟨by simpa using hd, by omega, by omega⟩
theorem at_some {l : List Bytes} {i : Int} (h0 : 0 ≤ i) (h1 : i < l.length) : ∃ s, l[i.toNat]? = some s :=
  ⟨_, List.getElem?_eq_getElem (by omega)⟩
/-! reading bytes -/
/-- 'v' is a slice of bytes that reads as bs, in every world in which R lies. -/
def RdB [Env] (R : List Seg) (v : Value) (bs : Bytes) : Prop :=
  (v = .slice none 0 0 ∧ bs = []) ∨ ∃ a c, v = .slice (some a) bs.length c ∧ ∀ w, Has w R → ∀ j (h : j < bs.length), w.cell? (a.add j) = some (.int .u8 bs[j].toNat)
theorem RdB.mono [Env] {R R' : List Seg} {v : Value} {bs : Bytes} (h : RdB R v bs) (hg : Ge R' R) : RdB R' v bs := by
  rcases h with h | ⟨a, c, h1, h2⟩
  · exact .inl h
  · exact .inr ⟨a, c, h1, fun w hh => h2 w (hg.has hh)⟩
theorem rdB_in [Env] {L : List Seg} {b o m c : Nat} {vs : List Value} {T : TypeId} {fr : Nat × Nat} {bs : Bytes} (hi : In L (so b (.cells vs.toArray T fr))) (hm : m = bs.length) (hv : (vs.drop o).take m = bytesV bs) :
    RdB L (.slice (some ⟨b, o, none⟩) m c) bs := by
  subst hm
  refine .inr ⟨_, c, rfl, fun w hh j hj => ?_⟩
  rw [add_lit]
  refine cell_at hh hi ?_
  have h2 : ((vs.drop o).take bs.length)[j]? = (bytesV bs)[j]? := by rw [hv]
  rw [List.getElem?_take, if_pos hj, List.getElem?_drop] at h2
  rw [h2]
  simp [bytesV, hj]
theorem rdB_sv [Env] {L : List Seg} {s : Sv} {e : TypeId} {bs : Bytes} (hi : In L (svSeg s e (bytesV bs))) (hok : svOk s bs.length 1 (bytesV bs)) : RdB L (svVal s bs.length) bs := by
  cases s with
  | none =>
    obtain ⟨h1, h2⟩ := hok
    have : bs = [] := List.eq_nil_of_length_eq_zero h1
    subst this
    exact .inl ⟨rfl, rfl⟩
  | some p => exact rdB_in hi rfl (by simp)
theorem RdB.lenVal [Env] {R : List Seg} {v : Value} {bs : Bytes} (h : RdB R v bs) : ∃ b c, v = .slice b bs.length c := by
  rcases h with ⟨rfl, rfl⟩ | ⟨a, c, rfl, _⟩
  · exact ⟨none, 0, rfl⟩
  · exact ⟨some a, c, rfl⟩

section
variable {P : Program} {n : Nat} {l : List (Nat × Value)} {L : List Seg} {d : Option Tmp} {ty : TypeId} {pos : String} {af : Array Edge} {g : Option (Nat × Bool)}
theorem ev_lenB [Env] {x : Operand} {t : TypeId} {T e : TypeId} {v : Value} {bs : Bytes} (hx : ev l x = some v) (hu : P.underlying T = some (.slice e)) (hb : ∃ b c, v = .slice b bs.length c) :
    Ev P n ⟨d, .call { callee := .builtin .len, args := #[x], argTypes := #[T] }, t, pos, af, g⟩ l L (.int .i64 bs.length) := by
  obtain ⟨b, c, rfl⟩ := hb
  exact ev_len hx hu
theorem RdB.first [Env] {R : List Seg} {v : Value} {bs : Bytes} (h : RdB R v bs) (k : Nat) (hk : k ≤ bs.length) {w : World} (hh : Has w R) : (Builtin.firstCells 1 k v).run P w = .ok (bytesV (bs.take k)).toArray w := by
  rcases h with ⟨rfl, rfl⟩ | ⟨a, c, rfl, h2⟩
  · simp [Builtin.firstCells, bytesV]
  · have hl := run_loadCells_list (P := P) w a (bytesV (bs.take k)) (fun j v hj => by
      have hj' := (List.getElem?_eq_some_iff.1 hj).1
      simp at hj'
      rw [h2 w hh j (by omega)]
      rw [← hj]
      simp [bytesV, hj', show j < bs.length by omega])
    have : (bytesV (bs.take k)).length = k := by simp; omega
    rw [this] at hl
    simp [Builtin.firstCells, hl]
theorem RdB.src [Env] {R : List Seg} {v : Value} {bs : Bytes} (h : RdB R v bs) : Src P R 1 v bs.length (bytesV bs) := by
  refine ⟨by simp, fun w hh => ⟨?_, ?_⟩⟩
  · obtain ⟨p, q, rfl⟩ := h.lenVal
    simp [Builtin.lenOf]
  · have := h.first (P := P) bs.length (Nat.le_refl _) hh
    simpa using this
theorem ac_copyB [Env] {x z : Operand} {dT sT e : TypeId} {b o dl dc k : Nat} {vs vs' : List Value} {T : TypeId} {v : Value} {bs : Bytes} {L' : List Seg}
    (hx : ev l x = some (.slice (some ⟨b, o, none⟩) dl dc)) (hz : ev l z = some v) (hu : P.underlying dT = some (.slice e)) (hs : ∀ w, (sizeOf e).run P w = .ok 1 w)
    (hb : RdB L v bs) (hk : k = min bs.length dl) (r : Rp L (sc b vs T) (sc b vs' T) L') (ho : o + k ≤ vs.length) (hv : vs.take o ++ bytesV (bs.take k) ++ vs.drop (o + k) = vs') :
    Ac P n ⟨d, .call { callee := .builtin .copy, args := #[x, z], argTypes := #[dT, sT] }, ty, pos, af, g⟩ l L (fun v L'' => v = .int .i64 k ∧ L'' = L') := by
  intro a w hf hh
  have hin : In L (sc b vs T) := r.pk.choose_spec.1.in
  have hbk := hh.cells hin
  have hl : (bytesV (bs.take k)).length = k := by simp; omega
  have hst := run_storeCells_at P b o T (bytesV (bs.take k)) 0 vs.toArray w hbk (by simp at hl ⊢; omega) (bytesV_one _)
  have e : List.take (o + 0) vs.toArray.toList ++ bytesV (bs.take k) ++ List.drop (o + 0 + (bytesV (bs.take k)).length) vs.toArray.toList = vs' := by rw [← hv, hl]; simp
  rw [e] at hst
  refine ⟨_, _, _, .inl ?_, ⟨rfl, rfl⟩, hh.setRow r⟩
  have h2 : (Builtin.lenOf v).run P w = .ok bs.length w := by
    obtain ⟨p, q, rfl⟩ := hb.lenVal
    simp [Builtin.lenOf]
  have h3 := hb.first (P := P) k (by omega) hh
  have h4 : Nat.min bs.length dl = k := hk.symm
  simp [execOp, resolve, invoke, builtin, hf.ev hx, hf.ev hz, Builtin.copy_, run_underlying hu, hs, h2, h3, h4, hst, goInt]
theorem ev_loadAll [Env] {t : TypeId} {x : Operand} {b k : Nat} {vs : List Value} {T : TypeId} {fr : Nat × Nat} (hx : ev l x = some (.pointer (some ⟨b, 0, none⟩)))
    (ha : ∀ w, (isAgg t).run P w = .ok true w) (hs : ∀ w, (sizeOf t).run P w = .ok k w) (hi : In L (so b (.cells vs.toArray T fr))) (hk : vs.length = k) :
    Ev P n ⟨d, .load t x, ty, pos, af, g⟩ l L (.agg vs.toArray) :=
  ev_loadN hx ha hs hi (by simp [← hk]) hk
end
end Go.Sl
