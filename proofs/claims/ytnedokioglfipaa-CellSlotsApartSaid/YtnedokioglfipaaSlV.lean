/- A part of the proof: contracts and plain lemmas, each without conditions beyond those that it names. -/
import Derived.Test.YtnedokioglfipaaSlS
import Derived.Test.YtnedokioglfipaaSlQ
import Derived.Test.YtnedokioglfipaaCodA
set_option linter.unusedVariables false
set_option linter.unusedSimpArgs false
set_option linter.constructorNameAsVariable false
namespace Go.Sl
set_option linter.unusedSimpArgs false
/-! ### slices of slices that are read -/
theorem add_add (a : Addr) (m n : Nat) : (a.add m).add n = a.add (m + n) := by
  unfold Addr.add
  by_cases hm : m = 0
  · subst hm; simp
  · by_cases hn : n = 0
    · subst hn; simp [hm]
    · rw [if_neg hm, if_neg hn, if_neg (by omega)]; simp; omega
/-- The slice has room for its elements. -/
def CapOk (v : Value) : Prop := ∀ a m c, v = .slice a m c → m ≤ c
def vSl (v : Value) (lo hi s : Nat) : Value := match v with
  | .slice a _ c => sliced a lo hi c s
  | u => u
theorem vSl_cap {v : Value} (lo : Nat) {hi s : Nat} (h : CapOk v) (hh : ∃ b m c, v = .slice b m c ∧ hi ≤ m) : CapOk (vSl v lo hi s) := by
  obtain ⟨b, m, c, rfl, hm⟩ := hh
  have := h b m c rfl
  intro a m' c' e
  simp only [vSl, sliced, Value.slice.injEq] at e
  omega
theorem RdV.sl [Env] {R : List Seg} {v : Value} {m s lo hi : Nat} {vs : List Value} (h : RdV R v m vs) (hc : CapOk v) (hl : lo ≤ hi) (hm : hi ≤ m) (hs : vs.length = m * s) :
    RdV R (vSl v lo hi s) (hi - lo) ((vs.drop (lo * s)).take ((hi - lo) * s)) := by
  rcases h with ⟨rfl, rfl, rfl⟩ | ⟨a, c, rfl, h3, h2⟩
  · have : hi = 0 := by omega
    subst this
    have : lo = 0 := by omega
    subst this
    exact .inl ⟨rfl, rfl, by simp⟩
  · have hcm := hc (some a) m c rfl
    refine .inr ⟨if c = lo then a else a.add (lo * s), c - lo, ?_, ?_, ?_⟩
    · unfold vSl sliced
      by_cases e : c = lo <;> simp [e]
    · intro h0
      rw [if_neg (by omega)]
      unfold Addr.add
      split
      · exact h3 (by omega)
      · rfl
    · intro w hw j hj
      have hmul : (hi - lo) * s ≤ vs.length - lo * s := by
        rw [hs, ← Nat.sub_mul]
        exact Nat.mul_le_mul_right _ (by omega)
      simp only [List.length_take, List.length_drop] at hj
      by_cases e : c = lo
      · exfalso
        have : hi - lo = 0 := by omega
        rw [this] at hj; simp at hj
      · have hq := h2 w hw (lo * s + j) (by omega)
        rw [if_neg e]
        have hsp : (a.add (lo * s)).block = a.block ∧ (a.add (lo * s)).off = a.off + lo * s := by
          unfold Addr.add; split
          · rename_i h0; rw [h0]; exact ⟨rfl, rfl⟩
          · exact ⟨rfl, rfl⟩
        rw [hsp.1, hsp.2, show a.off + lo * s + j = a.off + (lo * s + j) by omega, hq]
        simp
theorem svVal_one (s : Sv) (m : Nat) : (svVal s m).oneCell' = true := by cases s <;> rfl
theorem vSl_one {v : Value} {lo hi s m : Nat} (h : ∃ b c, v = .slice b m c) : (vSl v lo hi s).oneCell' = true := by
  obtain ⟨b, c, rfl⟩ := h; rfl
/-- Bytes that can be read, and sliced. -/
structure RdY [Env] (R : List Seg) (v : Value) (bs : Bytes) : Prop where
  rd : RdV R v bs.length (bytesV bs)
  cap : CapOk v
theorem RdY.mono [Env] {R R' : List Seg} {v : Value} {bs : Bytes} (h : RdY R v bs) (hg : Ge R' R) : RdY R' v bs := ⟨h.rd.mono hg, h.cap⟩
theorem RdY.sl [Env] {R : List Seg} {v : Value} {bs : Bytes} {lo hi : Nat} (h : RdY R v bs) (hl : lo ≤ hi) (hm : hi ≤ bs.length) : RdY R (vSl v lo hi 1) ((bs.drop lo).take (hi - lo)) := by
  have h1 := h.rd.sl h.cap hl hm (s := 1) (by simp)
  obtain ⟨b, c, e⟩ := h.rd.lenVal
  refine ⟨?_, vSl_cap lo h.cap ⟨b, _, c, e, hm⟩⟩
  have e2 : ((bs.drop lo).take (hi - lo)).length = hi - lo := by simp; omega
  rw [e2, bytesV_take, bytesV_drop]
  simpa using h1
theorem RdY.take [Env] {R : List Seg} {v : Value} {bs : Bytes} {k : Nat} (h : RdY R v bs) (hm : k ≤ bs.length) : RdY R (vSl v 0 k 1) (bs.take k) := by
  simpa using h.sl (Nat.zero_le k) hm
theorem RdY.drop [Env] {R : List Seg} {v : Value} {bs : Bytes} {k : Nat} (h : RdY R v bs) (hm : k ≤ bs.length) : RdY R (vSl v k bs.length 1) (bs.drop k) := by
  have := h.sl hm (Nat.le_refl _)
  rwa [List.take_of_length_le (by simp)] at this
theorem svCap {s : Sv} {m k : Nat} {xs : List Value} (h : svOk s m k xs) : CapOk (svVal s m) := by
  intro a m' c e
  cases s with
  | none => simp only [svVal, Value.slice.injEq] at e; omega
  | some p => obtain ⟨b, cap, sp⟩ := p; simp only [svVal, Value.slice.injEq] at e; have := h.1; omega
theorem rdY_sv [Env] {L : List Seg} {s : Sv} {e : TypeId} {bs : Bytes} (hi : In L (svSeg s e (bytesV bs))) (hok : svOk s bs.length 1 (bytesV bs)) : RdY L (svVal s bs.length) bs := ⟨rdV_sv hi hok, svCap hok⟩
section
variable {P : Program} {n : Nat} {l : List (Nat × Value)} {L : List Seg} {d : Option Tmp} {ty : TypeId} {pos : String} {af : Array Edge} {g : Option (Nat × Bool)}
theorem ev_slHV [Env] {R : List Seg} {t e : TypeId} {x z : Operand} {m s : Nat} {k' : IntKind} {hi : Int} {v : Value} {vs : List Value} (hv : RdV R v m vs) (hc : CapOk v) (hx : ev l x = some v) (hz : ev l z = some (.int k' hi))
    (hu : P.underlying t = some (.slice e)) (hs : ∀ w, (sizeOf e).run P w = .ok s w) (h1 : 0 ≤ hi) (h2 : hi ≤ m) :
    Ev P n ⟨d, .slice t x none (some z) none, ty, pos, af, g⟩ l L (vSl v 0 hi.toNat s) := by
  intro a w hf _
  obtain ⟨b, c, rfl⟩ := hv.lenVal
  have hcm := hc b m c rfl
  have he : P.elem t = e := by simp [Program.elem, hu]
  have hu' : P.underlying t = some (.slice (P.elem t)) := by rw [he]; exact hu
  simp only [execOp, Option.map_some, Option.map_none, hf.ev hx, hf.ev hz, Sem.run_bind, run_sliceAt_slice w t _ _ _ _ hu', run_slice_h w t b m c hu' k' hi h1 (by omega), he, hs, Result.andThen_ok, Sem.run_pure, vSl]
theorem ev_slLV [Env] {R : List Seg} {t e : TypeId} {x z : Operand} {m s : Nat} {k' : IntKind} {lo : Int} {v : Value} {vs : List Value} (hv : RdV R v m vs) (hx : ev l x = some v) (hz : ev l z = some (.int k' lo))
    (hu : P.underlying t = some (.slice e)) (hs : ∀ w, (sizeOf e).run P w = .ok s w) (h1 : 0 ≤ lo) (h2 : lo ≤ m) :
    Ev P n ⟨d, .slice t x (some z) none none, ty, pos, af, g⟩ l L (vSl v lo.toNat m s) := by
  intro a w hf _
  obtain ⟨b, c, rfl⟩ := hv.lenVal
  have he : P.elem t = e := by simp [Program.elem, hu]
  have hu' : P.underlying t = some (.slice (P.elem t)) := by rw [he]; exact hu
  simp only [execOp, Option.map_some, Option.map_none, hf.ev hx, hf.ev hz, Sem.run_bind, run_sliceAt_slice w t _ _ _ _ hu', run_slice_l w t b m c hu' k' lo h1 h2, he, hs, Result.andThen_ok, Sem.run_pure, vSl]
theorem ev_slLHV [Env] {R : List Seg} {t e : TypeId} {x y z : Operand} {m s : Nat} {k k' : IntKind} {lo hi : Int} {v : Value} {vs : List Value} (hv : RdV R v m vs) (hc : CapOk v) (hx : ev l x = some v) (hy : ev l y = some (.int k lo)) (hz : ev l z = some (.int k' hi))
    (hu : P.underlying t = some (.slice e)) (hs : ∀ w, (sizeOf e).run P w = .ok s w) (h0 : 0 ≤ lo) (h1 : lo ≤ hi) (h2 : hi ≤ m) :
    Ev P n ⟨d, .slice t x (some y) (some z) none, ty, pos, af, g⟩ l L (vSl v lo.toNat hi.toNat s) := by
  intro a w hf _
  obtain ⟨b, c, rfl⟩ := hv.lenVal
  have hcm := hc b m c rfl
  have he : P.elem t = e := by simp [Program.elem, hu]
  have hu' : P.underlying t = some (.slice (P.elem t)) := by rw [he]; exact hu
  simp only [execOp, Option.map_some, Option.map_none, hf.ev hx, hf.ev hy, hf.ev hz, Sem.run_bind, run_sliceAt_slice w t _ _ _ _ hu', run_slice_lh w t b m c hu' k k' lo hi h0 h1 (by omega), he, hs, Result.andThen_ok, Sem.run_pure, vSl]
end
theorem ev_lenStr [Env] {P : Program} {n : Nat} {l : List (Nat × Value)} {L : List Seg} {d : Option Tmp} {ty : TypeId} {pos : String} {af : Array Edge} {g : Option (Nat × Bool)} {x : Operand} {T : TypeId} {s : Bytes} (hx : ev l x = some (.string ⟨s.toArray⟩)) (hu : P.underlying T = some .string) :
    Ev P n ⟨d, .call { callee := .builtin .len, args := #[x], argTypes := #[T] }, ty, pos, af, g⟩ l L (.int .i64 s.length) := by
  have e : (⟨s.toArray⟩ : ByteArray).size = s.length := by show s.toArray.size = _; simp
  rw [← e]
  exact ev_lenS hx hu
/-! ### results that lie in variables -/
section
variable {P : Program} {n : Nat} {l : List (Nat × Value)} {L : List Seg} {Q : Exit → Act → World → Prop}
theorem run_loadAll [Env] {t : TypeId} {b k : Nat} {vs : List Value} {T : TypeId} (hi : In L (sc b vs T)) (ha : ∀ w, (isAgg t).run P w = .ok true w) (hs : ∀ w, (sizeOf t).run P w = .ok k w) (hk : vs.length = k) {w : World} (hh : Has w L) :
    (loadVar t ⟨b, 0, none⟩).run P w = .ok (.agg vs.toArray) w := by
  have hl : (loadCells ⟨b, 0, none⟩ vs.length).run P w = .ok vs.toArray w := by
    refine run_loadCells_list w _ vs (fun j u hj => ?_)
    rw [add_lit]
    exact cell_at hh hi (by simpa using hj)
  rw [hk] at hl
  simp [loadVar, ha, hs, hl]
theorem run_load1 [Env] {t : TypeId} {b : Nat} {v : Value} {T : TypeId} (hi : In L (sc b [v] T)) (ha : ∀ w, (isAgg t).run P w = .ok false w) {w : World} (hh : Has w L) :
    (loadVar t ⟨b, 0, none⟩).run P w = .ok v w := by
  have := cell_at (o := 0) (v := v) hh hi rfl
  simp [loadVar, ha, this]
theorem kretcP [Env] {fn : Func} {R L1 : List Seg} {post : Value → List Seg → Prop} {pv : Value} {bad : List Seg → Prop} {t : Tmp} {T T' : TypeId} {b k : Nat} {vs : List Value} {e : Exit} (he : e = .ret ∨ e = .normal) (hr : fn.results = #[.cell t T]) (hl : look l t = some (.pointer (some ⟨b, 0, none⟩)))
    (ha : ∀ w, (isAgg T).run P w = .ok true w) (hs : ∀ w, (sizeOf T).run P w = .ok k w) (hi : In L (sc b vs T')) (hk : vs.length = k) (hg : Ge L L1) (hp : ∃ L', post (.agg vs.toArray) L' ∧ L1 = L' ++ R) :
    Sk n (bodyPost P fn (CPP post R pv bad) e) l L := by
  obtain ⟨L', h1, rfl⟩ := hp
  intro a w hf hh
  have h2 := run_loadAll hi ha hs hk hh
  have h4 := hf.get t _ hl
  have h3 : (results fn a.tmps).run P w = .ok (.agg vs.toArray) w := by
    simp only [Array.getD_eq_getD_getElem?] at h4
    simp [results, hr, h4, asAddr, h2]
  rcases he with rfl | rfl
  · exact ⟨hf.defers, _, h3, .inl ⟨_, L', rfl, h1, hg.has hh⟩⟩
  · exact ⟨hf.defers, _, h3, .inl ⟨_, L', rfl, h1, hg.has hh⟩⟩
end
/-! ### regions that draw their order, with callees that may panic -/
section
variable {P : Program} {ops : Array Oper} {md : Region.Mode} {Q : Exit → Act → World → Prop} {S : World → Prop}
theorem wpAnyM_hd' {n : Nat} {K : Act → World → Prop} (hsel : Region.noSelect ops = true) (hs : Region.sinkB md ops n = true) (hc : Region.chainB md ops n = true) (hn : n ≤ ops.size)
    (hQ : ∀ c a d v w, Q (.panic c) (a.put d v) w → Q (.panic c) a w) :
    ∀ (π : List (Nat × Bool)) (listed : Array Bool) (a : Act) (w : World), HeadInv md ops n listed → hdB md ops n π listed = true → S w → wpHd P ops Q S K π a w →
    wpAnyM P md ops Q S n (fun listed' a' w' => Region.seqB md ops (ops.size - n) n listed' = true ∧ K a' w') π.length listed a w
  | [], listed, a, w, _, hB, _, h => ⟨hB, h⟩
  | (i, true) :: π, listed, a, w, inv, hB, hS, h => by
    simp only [hdB, Bool.and_eq_true, decide_eq_true_eq] at hB
    obtain ⟨⟨⟨hr, hf⟩, hin⟩, hB'⟩ := hB
    obtain ⟨oi, v, hoi, hy, hK⟩ := h
    have hr' : i ∈ Region.ready md ops listed := by simpa using hr
    exact wpAnyM_first hoi (Region.noSelect_spec hsel) hs hc hn hin (fun c a w h => hQ c a _ _ w h) (fun listed' a' w' hL => seqB_ready hL.1) π.length listed a w inv (Region.free_spec hoi hf) hr' hy hS
      (wpAnyM_hd' hsel hs hc hn hQ π _ _ w (inv.set hr' hin) hB' hS hK)
  | (i, false) :: π, listed, a, w, inv, hB, hS, h => by
    simp only [hdB, Bool.and_eq_true, decide_eq_true_eq] at hB
    obtain ⟨⟨hr, hin⟩, hB'⟩ := hB
    have hr' : i ∈ Region.ready md ops listed := by rw [hr]; simp
    refine ⟨by rw [hr]; simp, fun j hj => ?_⟩
    rw [hr] at hj
    have : j = i := by simpa using hj
    subst this
    exact ⟨hin, wpOp_mono (fun a' w' h' => ⟨h'.1, wpAnyM_hd' hsel hs hc hn hQ π _ _ w' (inv.set hr' hin) hB' h'.1 h'.2⟩) h⟩
/-- What is panicked with, whatever the frame. -/
def WP (pw : List PanicEntry → World → Prop) (Q : Exit → Act → World → Prop) : Exit → Act → World → Prop
  | .panic c, a, w => a.defers = [] ∧ pw c w
  | e, a, w => Q e a w
theorem wp_hdP {id : Nat} {a : Act} {w : World} {os : List Oper} {n : Nat} {π : List (Nat × Bool)} {pw : List PanicEntry → World → Prop} (hq : ∀ c a w, a.defers = [] → pw c w → Q (.panic c) a w)
    (hm : P.follows .mixedOrders = true) (hB : hdOk os.toArray n π = true) (hS : S { w with drawn := w.drawn + 1 })
    (h : wpHd P os.toArray (WP pw Q) S (fun a w => wpList P os.toArray (WP pw Q) (os.drop n) a w) π a { w with drawn := w.drawn + 1 }) : (Code.region id os.toArray true).wp P Q a w := by
  refine wp_mono (Q := WP pw Q) ?_ (fun e a w h => by cases e <;> first | exact h | exact hq _ a w h.1 h.2)
  simp only [hdOk, Bool.and_eq_true, decide_eq_true_eq] at hB
  obtain ⟨⟨⟨⟨⟨hsel, hn⟩, hl⟩, hs⟩, hc⟩, hB⟩ := hB
  have inv0 : HeadInv .any os.toArray n (Array.replicate os.toArray.size false) := by
    refine ⟨by simp, fun j oj _ h => ?_, fun t _ ht' => ?_⟩
    · rw [getD_replicate_false] at h; cases h
    · have : t < os.length := by simpa using ht'
      simp [this]
  have h1 := wpAnyM_hd' (S := S) (md := .any) hsel hs hc hn (Q := WP pw Q) (fun c a d v w h => by cases d <;> exact h) π _ a _ inv0 hB hS h
  refine wp_region_any hm ?_
  have hsz : os.toArray.size = π.length + (os.toArray.size - n) := by omega
  rw [hsz]
  rw [← hsz]
  have h2 := wpAny_of_M (g := os.toArray.size - n) (Q := WP pw Q) (P := P) (ops := os.toArray) (md := .any) (fun listed a w hh => ?_) π.length _ a _ h1
  · rw [← hsz] at h2; exact h2
  · obtain ⟨h3, h4⟩ := hh
    have hdl : (os.drop n).length = os.toArray.size - n := by simp
    have := wpAny_of_seq (P := P) (ops := os.toArray) (Q' := WP pw Q) (os.drop n) n listed a w (fun j => by simp) (by rw [hdl]; exact h3) h4
    rwa [hdl] at this
end
section
variable {P : Program} {ops : Array Oper} {n : Nat} {Q : Exit → Act → World → Prop} {tail : List Oper} {l : List (Nat × Value)} {L Lh : List Seg} {π : List (Nat × Bool)}
theorem cdrawP [Env] {id : Nat} {os : List Oper} (m : Nat) (π : List (Nat × Bool)) (Lh : List Seg) (pw : List PanicEntry → World → Prop) (hq : ∀ c a w, a.defers = [] → pw c w → Q (.panic c) a w) (hm : P.follows .mixedOrders = true) (hB : hdOk os.toArray m π = true) (hg : Ge L Lh)
    (h : Sh P os.toArray n (os.drop m) (WP pw Q) Lh π l L) : Sc P n (.region id os.toArray true) Q l L :=
  fun a w hf hh => wp_hdP hq hm hB (hg.has (hh.drawn _)) (h a _ hf (hh.drawn _))
theorem hwP [Env] {pw : List PanicEntry → World → Prop} (h : Sk n (Q .normal) l L) : Sy P ops n [] (WP pw Q) l L := fun a w hf hh => h a w hf hh
theorem hcallP [Env] {i : Nat} {d : Tmp} {ty : TypeId} {pos : String} {af : Array Edge} {f : FuncId} {xs : List Operand} {ts : Array TypeId} {args : List Value} {pre R : List Seg} {post : Value → List Seg → Prop} {pv : Value} {bad : List Seg → Prop} {pw : List PanicEntry → World → Prop}
    (ho : ops[i]? = some ⟨some d, .call { callee := .value (.func f), args := xs.toArray, argTypes := ts }, ty, pos, af, none⟩) (hc : ConP P f args pre R post pv bad) (hx : evs l xs = some args)
    (hcall : ∀ (args : Array Value) (w : World), (callFunc f args).run P w = .ok (.enter f args) w) (ht : Tk L pre R) (hd : Nat.blt d n = true)
    (kp : ∀ L', bad L' → ∀ w, Has w (L' ++ R) → pw (pchain pv) w)
    (k : ∀ v L', post v L' → Ge (L' ++ R) Lh ∧ Sh P ops n tail (WP pw Q) Lh π ((d, v) :: l) (L' ++ R)) : Sh P ops n tail (WP pw Q) Lh ((i, false) :: π) l L := by
  intro a w hf hh
  unfold wpHd wpOp
  simp only [ho]
  rw [if_pos (by simp [Region.wanted])]
  refine .inl ?_
  unfold Oper.wp
  have hr : (execOp a.eval (⟨some d, .call { callee := .value (.func f), args := xs.toArray, argTypes := ts }, ty, pos, af, none⟩ : Oper)).run P w = .ok (.enter f args.toArray) w := by
    have := evs_eq hf hx
    simp [execOp, resolve, Act.eval, Deferred.ofValue, invoke, hcall, this]
  rw [hr, Oper.upon_enter]
  refine (hc w (ht.has hh)).mono ?_
  rintro e w' (⟨v, L', rfl, hp, hh'⟩ | ⟨L', rfl, hp, hh'⟩)
  · exact ⟨(k v L' hp).1.has hh', (k v L' hp).2 _ w' (hf.put hd v) hh'⟩
  · exact ⟨hf.defers, kp L' hp _ hh'⟩
end
theorem ac_of_ev [Env] {P : Program} {n : Nat} {o : Oper} {l : List (Nat × Value)} {L : List Seg} {v : Value} (he : Ev P n o l L v) : Ac P n o l L (fun u L' => u = v ∧ L' = L) :=
  fun a w hf hh => ⟨v, w, L, .inl (he a w hf hh), ⟨rfl, rfl⟩, hh⟩
/-! unwinding a panic -/
section
variable {P : Program} {n : Nat} {l : List (Nat × Value)} {L : List Seg} {Q : Exit → Act → World → Prop}
theorem kthp [Env] {K : Act → World → Prop} {c : List PanicEntry} (h : Sk n (Q (.panic c)) l L) : Sk n (Exit.then K Q (.panic c)) l L := h
theorem kbpp [Env] {i : Nat} {c : List PanicEntry} (h : Sk n (Q (.panic c)) l L) : Sk n (Exit.inBlock i Q (.panic c)) l L := h
theorem kwp [Env] {R L1 : List Seg} {post : Value → List Seg → Prop} {pv : Value} {bad : List Seg → Prop} (hg : Ge L L1) (hp : ∃ L', bad L' ∧ L1 = L' ++ R) :
    Sk n (WP (fun c w => CPP post R pv bad (.panicked c) w) Q (.panic (pchain pv))) l L := by
  obtain ⟨L', h1, rfl⟩ := hp
  exact fun a _ hf hh => ⟨hf.defers, .inr ⟨L', rfl, h1, hg.has hh⟩⟩
end
end Go.Sl
