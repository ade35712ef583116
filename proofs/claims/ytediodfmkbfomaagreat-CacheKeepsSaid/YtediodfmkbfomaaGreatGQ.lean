/- A part of the proof: contracts and plain lemmas, each without conditions beyond those that it names. -/
import Derived.Test.YtediodfmkbfomaaGreatGM
import Derived.Test.YtediodfmkbfomaaGreatGH
set_option linter.unusedVariables false
set_option linter.unusedSimpArgs false
set_option linter.constructorNameAsVariable false
namespace Go.Sl
set_option linter.unusedSimpArgs false
/-- What is sure of a sector. -/
def Dev.sur (D : Dev) (j : Int) : Bytes := (D.l[j.toNat]?).getD zsec
structure Awk (D : Dev) (N : Nat) : Prop where
  ok : D.ok
  len : D.l.length = N
  live : D.dead = false
theorem Awk.has {D : Dev} {N : Nat} (h : Awk D N) {i : Int} (h0 : 0 ≤ i) (h1 : i < N) : D.has i = 0 := by
  unfold Dev.has; rw [if_neg (by rw [h.live]; decide), if_neg (by rw [h.len]; omega)]
theorem Awk.of_live {D : Dev} {N : Nat} (h : Live D N) : Awk D N := ⟨h.ok, h.len, h.live⟩
theorem Awk.of_up {D : Dev} {N : Nat} (h : Up D N) : Awk D N := ⟨h.ok, h.len, h.live⟩
theorem sur_sec {D : Dev} {j : Int} (h : eget D.es j = none) : D.sec j = D.sur j := by unfold Dev.sec Dev.sur; rw [h]; rfl
theorem sur_nil {D : Dev} (h : D.es = []) (j : Int) : D.sec j = D.sur j := sur_sec (by rw [h]; rfl)
theorem crashL_pick {D : Dev} {j : Int} (h0 : 0 ≤ j) {A : Bytes} : ∀ (is : List Int) (ks : Keeps) (ls : List Bytes), (∀ i ∈ is, 0 ≤ i) → (∀ x ∈ ks, x.1 ≠ 2) → (∀ s, ls[j.toNat]? = some s → s = A ∨ s = D.sec j) → ∀ s, (crashL D is ks ls)[j.toNat]? = some s → s = A ∨ s = D.sec j
  | [], ks, ls, _, _, h, s, hs => by rw [crashL_nil] at hs; exact h s hs
  | i :: is, [], ls, _, _, h, s, hs => by rw [crashL_nil'] at hs; exact h s hs
  | i :: is, x :: ks, ls, hi, hk, h, s, hs => by
    unfold crashL at hs
    refine crashL_pick h0 is ks _ (fun y hy => hi y (by simp [hy])) (fun y hy => hk y (by simp [hy])) (fun t ht => ?_) s hs
    have hi0 := hi i (by simp)
    by_cases e : i = j
    · subst e
      by_cases hl : i.toNat < ls.length
      · rw [List.getElem?_set_self hl] at ht
        simp only [Option.some.injEq] at ht
        subst ht
        unfold keep1
        split
        · exact .inr rfl
        · rw [if_neg (hk x (by simp))]
          exact h _ (by rw [List.getElem?_eq_getElem hl]; rfl)
      · rw [List.getElem?_eq_none (by simp; omega)] at ht; cases ht
    · rw [List.getElem?_set_ne (by omega)] at ht
      exact h t ht
/-- Behind a crash, a sector has what is sure of it, or what was written to it. -/
theorem crash_pick {D : Dev} {N : Nat} (h : D.ok) (hl : D.l.length = N) {ks : Keeps} (hk : ∀ x ∈ ks, x.1 ≠ 2) {j : Int} (h0 : 0 ≤ j) (h1 : j < N) : (D.crash ks).sec j = D.sur j ∨ (D.crash ks).sec j = D.sec j := by
  rw [sec_of_l (crash_es D ks)]
  unfold Dev.crash
  dsimp only
  have hlen : j.toNat < (crashL D D.pending ks D.l).length := by rw [crashL_length]; omega
  rw [List.getElem?_eq_getElem hlen, Option.getD_some]
  refine crashL_pick h0 (A := D.sur j) D.pending ks D.l (fun i hi => ?_) hk (fun s hs => .inl ?_) _ (List.getElem?_eq_getElem hlen)
  · obtain ⟨y, hy, e⟩ := List.mem_map.1 ((List.mergeSort_perm _ _).mem_iff.1 hi)
    have := (h.keys y hy).1
    omega
  · unfold Dev.sur; rw [hs]; rfl
theorem crash_live {D : Dev} {N : Nat} (h : D.ok) (hl : D.l.length = N) (ks : Keeps) : Live (D.crash ks) N := by
  have hU := crash_up h ks
  rw [hl] at hU
  exact ⟨hU.ok, hU.len, hU.live, rfl⟩
/-- Two devices that a crash leaves alike. -/
structure Twin (D' D : Dev) : Prop where
  ok : D'.ok
  l : D'.l = D.l
  es : D'.es = D.es
theorem Twin.sec {D' D : Dev} (h : Twin D' D) (j : Int) : D'.sec j = D.sec j := by unfold Dev.sec; rw [h.l, h.es]
theorem Twin.sur {D' D : Dev} (h : Twin D' D) (j : Int) : D'.sur j = D.sur j := by unfold Dev.sur; rw [h.l]
/-- A write, where the power may go. -/
theorem Awk.write {D : Dev} {N : Nat} (h : Awk D N) {i : Int} {bs : Bytes} (h0 : 0 ≤ i) (h1 : i < N) (hb : bs.length ≤ 144) :
    ((D.write i bs).1 = 0 ∧ Awk (D.write i bs).2 N ∧ (∀ j, (D.write i bs).2.sur j = D.sur j) ∧ (D.write i bs).2.sec i = pad bs ∧ ∀ j, j ≠ i → (D.write i bs).2.sec j = D.sec j) ∨
    ((D.write i bs).1 = 30 ∧ (D.write i bs).2.dead = true ∧ Twin (D.write i bs).2 D) := by
  have hok := Dev.write_ok h.ok i bs
  have hh := h.has h0 h1
  by_cases hf : D.fuse = 0
  · have e : D.write i bs = (30, { D with dead := true }) := by
      unfold Dev.write; rw [if_neg (by simpa using hh), if_neg (by omega), act_fail hf]; rfl
    rw [e] at hok ⊢
    exact .inr ⟨rfl, rfl, hok, rfl, rfl⟩
  · obtain ⟨f, hact⟩ := act_good hf
    have e : D.write i bs = (0, { D with fuse := f, es := eput D.es D.clk i (pad bs), clk := eclk D.es D.clk i }) := by
      unfold Dev.write; rw [if_neg (by simpa using hh), if_neg (by omega), hact, if_neg (by simp)]
    rw [e] at hok ⊢
    refine .inl ⟨rfl, ⟨hok, h.len, h.live⟩, fun _ => rfl, ?_, fun j hj => ?_⟩
    · unfold Dev.sec; dsimp only; rw [eget_eput_same]; rfl
    · unfold Dev.sec; dsimp only; rw [eget_eput_other _ _ (Ne.symm hj)]
theorem Awk.barrier {D : Dev} {N : Nat} (h : Awk D N) :
    (D.barrier.1 = 0 ∧ Live D.barrier.2 N ∧ ∀ j : Int, 0 ≤ j → j < N → D.barrier.2.sec j = D.sec j) ∨ (D.barrier.1 = 30 ∧ D.barrier.2.dead = true ∧ Twin D.barrier.2 D) := by
  have hok := Dev.barrier_ok h.ok
  by_cases hf : D.fuse = 0
  · have e : D.barrier = (30, { D with dead := true }) := by unfold Dev.barrier; rw [if_neg (by rw [h.live]; decide), act_fail hf]; rfl
    rw [e] at hok ⊢
    exact .inr ⟨rfl, rfl, hok, rfl, rfl⟩
  · obtain ⟨f, hact⟩ := act_good hf
    have e : D.barrier = (0, { D with fuse := f, l := settleD D.es D.l, es := [] }) := by unfold Dev.barrier; rw [if_neg (by rw [h.live]; decide), hact, if_neg (by simp)]
    rw [e] at hok ⊢
    refine .inl ⟨rfl, ⟨hok, by simp [h.len], h.live, rfl⟩, fun j h0 h1 => ?_⟩
    unfold Dev.sec
    dsimp only
    rw [settleD_get h.ok.uniq (fun x hx => (h.ok.keys x hx).1) h0 (by rw [h.len]; exact h1)]
    cases eget D.es j with
    | none => rfl
    | some s => rfl
theorem Awk.fuse {D : Dev} {N : Nat} (h : Awk D N) {x : Int} (hx : x ≤ 9223372036854775807) : Awk (D.setFuse x) N := ⟨Dev.setFuse_ok h.ok hx, h.len, h.live⟩
def LogM.lastT (l : List (Bytes × Int)) (le : Int) (p : Nat) : Int := if p = 0 then le else (l.getD (p - 1) ([], 0)).2
/-- Of a log with records `l`, the first `p` are sure. -/
structure LX (first : Int) (n : Nat) (a b : Int) (D : Dev) (N k : Nat) (h T le : Int) (l : List (Bytes × Int)) (p : Nat) : Prop where
  aw : Awk D N
  e : openE D a b = 0
  gen : (openC D a b).gen ≤ k
  hd : headOf (openC D a b).text = (h, T, le)
  arg : ¬ logArg D first n a b
  h1 : 1 ≤ h
  ht : h + l.length ≤ 1 + k
  t0 : 0 ≤ T ∧ T ≤ k
  le0 : 0 ≤ le
  ll : l.length ≤ n
  ch : chain le l T
  sl : ∀ x ∈ l, x.1.length ≤ 110
  pl : p ≤ l.length
  cell : D.sec a = D.sur a ∧ D.sec b = D.sur b
  ring : ∀ (i : Nat) (x : Bytes × Int), l[i]? = some x → D.sec (first + (h + i) % n) = pad (frL (h + i) x.2 x.1)
  here : ∀ (i : Nat) (x : Bytes × Int), p ≤ i → l[i]? = some x → x.2 = T
  sure : ∀ j : Int, 0 ≤ j → j < n → (∀ i : Nat, p ≤ i → i < l.length → j ≠ (h + i) % n) → D.sec (first + j) = D.sur (first + j)
  old : ∀ j : Int, 0 ≤ j → j < n → ∀ q t s, readL (D.sur (first + j)) = some (q, t, s) → t ≤ T ∧ (h + p ≤ q → t < T)
  gap : ∀ t s, readL (D.sur (first + (h + p) % n)) = some (h + p, t, s) → t < LogM.lastT l le p
theorem LX.lim {first : Int} {n : Nat} {a b : Int} {D : Dev} {N k : Nat} {h T le : Int} {l : List (Bytes × Int)} {p : Nat} (g : LX first n a b D N k h T le l p) : 2 ≤ n ∧ 0 ≤ first ∧ first + n ≤ N ∧ N ≤ 512 ∧ ¬ inRing first n a ∧ ¬ inRing first n b := by
  have h1 := g.arg
  unfold logArg at h1
  have h2 := g.aw.ok.n
  have h3 := g.aw.len
  rw [h3] at h1 h2
  refine ⟨by omega, by omega, by omega, by omega, fun hx => h1 (.inr (.inr (.inr (.inr (.inl hx))))), fun hx => h1 (.inr (.inr (.inr (.inr (.inr hx)))))⟩
theorem LX.ab {first : Int} {n : Nat} {a b : Int} {D : Dev} {N k : Nat} {h T le : Int} {l : List (Bytes × Int)} {p : Nat} (g : LX first n a b D N k h T le l p) : (openC D a b).ok N ∧ (0 ≤ a ∧ a < N) ∧ (0 ≤ b ∧ b < N) ∧ a ≠ b := by
  have hC := (openC_ok g.e).1
  rw [g.aw.len] at hC
  have e2 := openC_ab D a b
  have ha := hC.a
  have hb := hC.b
  rw [e2.1] at ha
  rw [e2.2] at hb
  refine ⟨hC, ha, hb, fun e => ?_⟩
  have := g.e
  unfold openE at this
  rw [if_pos (.inl e)] at this
  cases this
theorem LX.up1 {first : Int} {n : Nat} {a b : Int} {D : Dev} {N k : Nat} {h T le : Int} {l : List (Bytes × Int)} {p : Nat} (g : LX first n a b D N k h T le l p) : LX first n a b D N (k + 1) h T le l p :=
  ⟨g.aw, g.e, by have := g.gen; omega, g.hd, g.arg, g.h1, by have := g.ht; omega, by have := g.t0; omega, g.le0, g.ll, g.ch, g.sl, g.pl, g.cell, g.ring, g.here, g.sure, g.old, g.gap⟩
theorem lx_openE {D D' : Dev} {N : Nat} {a b : Int} (h : Awk D N) (h' : Awk D' N) (he : openE D a b = 0) : openE D' a b = 0 := by
  unfold openE at he ⊢
  rw [h.len] at he
  rw [h'.len]
  by_cases c : a = b ∨ min a b < 0 ∨ (N : Int) ≤ max a b
  · rw [if_pos c] at he; cases he
  · rw [if_neg c, if_neg (by rw [h'.live]; decide)]
theorem lx_arg {D D' : Dev} {N : Nat} {f n a b : Int} (h : Awk D N) (h' : Awk D' N) (he : ¬ logArg D f n a b) : ¬ logArg D' f n a b := by
  unfold logArg at he ⊢
  rw [h'.len, ← h.len]; exact he
/-- Behind a crash: what stands there, ready to be opened. -/
structure LR (first : Int) (n : Nat) (a b : Int) (D : Dev) (N k : Nat) (h T le : Int) (l : List (Bytes × Int)) : Prop where
  lv : Live D N
  up : Up D N
  e : openE D a b = 0
  gen : (openC D a b).gen ≤ k
  hd : headOf (openC D a b).text = (h, T, le)
  arg : ¬ logArg D first n a b
  h1 : 1 ≤ h
  ht : h + l.length ≤ 1 + k
  t0 : 0 ≤ T ∧ T ≤ k
  le0 : 0 ≤ le
  ll : l.length ≤ n
  ch : chain le l T
  sl : ∀ x ∈ l, x.1.length ≤ 110
  ring : ∀ (i : Nat) (x : Bytes × Int), l[i]? = some x → D.sec (first + (h + i) % n) = pad (frL (h + i) x.2 x.1)
  old : ∀ j : Int, 0 ≤ j → j < n → ∀ q t s, readL (D.sec (first + j)) = some (q, t, s) → t ≤ T
  gap : ∀ t s, readL (D.sec (first + (h + l.length) % n)) = some (h + l.length, t, s) → t < LogM.lastT l le l.length
theorem LR.up1 {first : Int} {n : Nat} {a b : Int} {D : Dev} {N k : Nat} {h T le : Int} {l : List (Bytes × Int)} (g : LR first n a b D N k h T le l) : LR first n a b D N (k + 1) h T le l :=
  ⟨g.lv, g.up, g.e, by have := g.gen; omega, g.hd, g.arg, g.h1, by have := g.ht; omega, by have := g.t0; omega, g.le0, g.ll, g.ch, g.sl, g.ring, g.old, g.gap⟩
/-- What is scanned, where the next one isn't taken. -/
theorem scan_gap {D : Dev} {first : Int} {n : Nat} {T : Int} (hn : 0 < n) : ∀ (l : List (Bytes × Int)) (f : Nat) (tail lo : Int), l.length ≤ f → I63 tail → tail + l.length ≤ 4611686018427388416 → 0 ≤ lo → T ≤ 4611686018427388416 → chain lo l T → (∀ x ∈ l, x.1.length ≤ 110) →
    (∀ (i : Nat) (x : Bytes × Int), l[i]? = some x → D.sec (first + (tail + i) % n) = pad (frL (tail + i) x.2 x.1)) → (∀ t s, readL (D.sec (first + (tail + l.length) % n)) = some (tail + l.length, t, s) → t < LogM.lastT l lo l.length) →
    scanL D first n T f tail lo = l
  | [], f, tail, lo, _, _, _, _, _, _, _, _, ho => by
    cases hr : readL (D.sec (first + tail % n)) with
    | none => exact scan_no hr
    | some v =>
      obtain ⟨q, t, s⟩ := v
      refine scan_bad hr (fun hc => ?_)
      obtain ⟨h1, h2, h3⟩ := hc
      subst h1
      have := ho t s (by simpa using hr)
      unfold LogM.lastT at this
      rw [if_pos (show ([] : List (Bytes × Int)).length = 0 from rfl)] at this
      omega
  | x :: l, 0, _, _, hf, _, _, _, _, _, _, _, _ => by simp at hf
  | x :: l, f + 1, tail, lo, hf, ht, htl, h0, hT, hc, hs, hr, ho => by
    have h1 := hr 0 x rfl
    have hxT := chain_mem hc x (by simp)
    have e1 : readL (D.sec (first + tail % n)) = some (tail, x.2, x.1) := by
      have : tail + ((0 : Nat) : Int) = tail := by simp
      rw [this] at h1
      rw [h1]
      exact readL_pad ht ⟨by omega, by omega⟩ (hs x (by simp))
    rw [scan_go e1 rfl hxT.1 hxT.2]
    simp only [List.length_cons] at hf htl ho
    have := scan_gap hn l f (tail + 1) x.2 (by omega) ⟨by have := ht.1; omega, by omega⟩ (by omega) (by omega) hT hc.2 (fun y hy => hs y (by simp [hy])) (fun i y hy => by
      have := hr (i + 1) y (by simpa using hy)
      rw [show tail + 1 + (i : Int) = tail + ((i + 1 : Nat) : Int) by omega]; exact this) (fun t s hq => by
      have h2 := ho t s (by rw [show tail + ((l.length + 1 : Nat) : Int) = tail + 1 + (l.length : Int) by omega]; exact hq)
      unfold LogM.lastT at h2 ⊢
      rw [if_neg (by omega)] at h2
      cases l with
      | nil => rw [if_pos (show ([] : List (Bytes × Int)).length = 0 from rfl)]; exact h2
      | cons y l => rw [if_neg (by simp)]; simpa using h2)
    rw [this]
end Go.Sl
namespace Go.Sl
set_option linter.unusedSimpArgs false
variable {first : Int} {n : Nat} {a b : Int} {D : Dev} {N k : Nat} {h T le : Int} {l : List (Bytes × Int)} {p : Nat}
theorem kept_to (P : Nat → Prop) [DecidablePred P] (p : Nat) : ∀ m : Nat, p ≤ m → (∀ i, i < p → P i) → ∃ q, p ≤ q ∧ q ≤ m ∧ (∀ i, i < q → P i) ∧ (q = m ∨ ¬ P q)
  | 0, hm, h0 => ⟨0, by omega, by omega, fun i hi => by omega, .inl rfl⟩
  | m + 1, hm, h0 => by
    by_cases e : p = m + 1
    · exact ⟨m + 1, by omega, by omega, fun i hi => h0 i (by omega), .inl rfl⟩
    · obtain ⟨q, h1, h2, h3, h4⟩ := kept_to P p m (by omega) h0
      rcases h4 with h4 | h4
      · subst h4
        by_cases hp : P q
        · exact ⟨q + 1, by omega, by omega, fun i hi => by
            by_cases hi2 : i = q
            · rw [hi2]; exact hp
            · exact h3 i (by omega), .inl rfl⟩
        · exact ⟨q, h1, by omega, h3, .inr hp⟩
      · exact ⟨q, h1, by omega, h3, .inr h4⟩
theorem chain_take : ∀ {l : List (Bytes × Int)} {lo hi : Int} (j : Nat), chain lo l hi → chain lo (l.take j) hi
  | l, lo, hi, 0, h => by rw [List.take_zero]; exact chain_le h
  | [], lo, hi, j + 1, h => h
  | y :: l, lo, hi, j + 1, h => ⟨h.1, chain_take j h.2⟩
theorem lastT_take {q : Nat} (hq : q ≤ l.length) : LogM.lastT (l.take q) le q = LogM.lastT l le q := by
  unfold LogM.lastT
  by_cases h0 : q = 0
  · rw [if_pos h0, if_pos h0]
  · rw [if_neg h0, if_neg h0, List.getD_eq_getElem?_getD, List.getD_eq_getElem?_getD, List.getElem?_take, if_pos (by omega)]
theorem place_ne (hn : 0 < n) {i j : Nat} (hij : i < j) (hj : j < i + n) : (h + i) % (n : Int) ≠ (h + j) % n := emod_ne (by omega) (by omega)
theorem LX.place (g : LX first n a b D N k h T le l p) (q : Int) : 0 ≤ q % (n : Int) ∧ q % (n : Int) < n := by
  have := g.lim
  exact ⟨Int.emod_nonneg _ (by omega), Int.emod_lt_of_pos _ (by omega)⟩
theorem LX.bound (g : LX first n a b D N k h T le l p) (hk : k < 4611686018427387000) : I63 h ∧ I63 (h + l.length) ∧ I63 T ∧ I63 le := by
  have h1 := g.h1; have h2 := g.ht; have h3 := g.t0; have h4 := g.le0; have h5 := chain_le g.ch
  exact ⟨⟨by omega, by omega⟩, ⟨by omega, by omega⟩, ⟨by omega, by omega⟩, ⟨by omega, by omega⟩⟩
theorem LX.read (g : LX first n a b D N k h T le l p) (hk : k < 4611686018427387000) {i : Nat} {x : Bytes × Int} (hx : l[i]? = some x) : readL (D.sec (first + (h + i) % n)) = some (h + i, x.2, x.1) := by
  have hi := (List.getElem?_eq_some_iff.1 hx).1
  have hb := g.bound hk
  have hm := chain_mem g.ch x (List.mem_of_getElem? hx)
  rw [g.ring i x hx]
  unfold I63 at hb
  exact readL_pad ⟨by omega, by omega⟩ ⟨by omega, by omega⟩ (g.sl x (List.mem_of_getElem? hx))
/-- What lies in the ring is either sure or a record that isn't. -/
theorem LX.is (g : LX first n a b D N k h T le l p) {j : Int} (h0 : 0 ≤ j) (h1 : j < n) : D.sec (first + j) = D.sur (first + j) ∨ ∃ (i : Nat) (x : Bytes × Int), p ≤ i ∧ l[i]? = some x ∧ j = (h + i) % n := by
  by_cases hc : ∃ i : Nat, p ≤ i ∧ i < l.length ∧ j = (h + i) % n
  · obtain ⟨i, q1, q2, q3⟩ := hc
    exact .inr ⟨i, _, q1, List.getElem?_eq_getElem q2, q3⟩
  · exact .inl (g.sure j h0 h1 fun i q1 q2 q3 => hc ⟨i, q1, q2, q3⟩)
theorem LX.crash (g : LX first n a b D N k h T le l p) (hk : k < 4611686018427387000) {D' : Dev} (ht : Twin D' D) {ks : Keeps} (hks : ∀ x ∈ ks, x.1 ≠ 2) :
    ∃ q, p ≤ q ∧ q ≤ l.length ∧ LR first n a b (D'.crash ks) N k h T le (l.take q) := by
  obtain ⟨m1, m2, m3, m4, m5, m6⟩ := g.lim
  obtain ⟨hC, ha, hb, hab⟩ := g.ab
  have hlen : D'.l.length = N := by rw [ht.l]; exact g.aw.len
  have hLv := crash_live ht.ok hlen ks
  have hU : Up (D'.crash ks) N := by have := crash_up ht.ok ks; rw [hlen] at this; exact this
  have hp : ∀ j : Int, 0 ≤ j → j < N → (D'.crash ks).sec j = D.sur j ∨ (D'.crash ks).sec j = D.sec j := fun j h0 h1 => by
    rw [← ht.sur j, ← ht.sec j]; exact crash_pick ht.ok hlen hks h0 h1
  have hca : (D'.crash ks).sec a = D.sec a := by rcases hp a ha.1 ha.2 with e | e; rw [e, g.cell.1]; exact e
  have hcb : (D'.crash ks).sec b = D.sec b := by rcases hp b hb.1 hb.2 with e | e; rw [e, g.cell.2]; exact e
  have ho : openC (D'.crash ks) a b = openC D a b := open_same hca hcb
  have hE : openE (D'.crash ks) a b = 0 := openE_up hU hab ha hb
  have hpl : ∀ q : Int, 0 ≤ first + q % (n : Int) ∧ first + q % (n : Int) < N := fun q => by have := g.place q; omega
  obtain ⟨q, q1, q2, q3, q4⟩ := kept_to (fun i => (D'.crash ks).sec (first + (h + i) % n) = D.sec (first + (h + i) % n)) p l.length g.pl (fun i hi => by
    have h2 := hpl (h + i)
    have hll := g.ll
    have hpl' := g.pl
    have h3 := g.sure ((h + i) % n) (g.place _).1 (g.place _).2 (fun j j1 j2 => place_ne (by omega) (by omega) (by omega))
    rcases hp _ h2.1 h2.2 with e | e
    · rw [e, h3]
    · exact e)
  have hbd := g.bound hk
  have hll := g.ll
  have hpp := g.pl
  refine ⟨q, q1, q2, hLv, hU, hE, by rw [ho]; exact g.gen, by rw [ho]; exact g.hd, ?_, g.h1, ?_, g.t0, g.le0, ?_, chain_take q g.ch, fun x hx => g.sl x (List.mem_of_mem_take hx), fun i x hx => ?_, fun j h0 h1 q' t s hr => ?_, fun t s hr => ?_⟩
  · exact lx_arg g.aw (Awk.of_live hLv) g.arg
  · have := g.ht; rw [List.length_take]; omega
  · rw [List.length_take]; omega
  · rw [List.getElem?_take] at hx
    by_cases hi : i < q
    · rw [if_pos hi] at hx
      rw [q3 i hi]; exact g.ring i x hx
    · rw [if_neg hi] at hx; cases hx
  · rcases hp (first + j) (by omega) (by omega) with e | e
    · rw [e] at hr; exact (g.old j h0 h1 q' t s hr).1
    · rw [e] at hr
      rcases g.is h0 h1 with e2 | ⟨i, x, i1, i2, i3⟩
      · rw [e2] at hr; exact (g.old j h0 h1 q' t s hr).1
      · rw [i3, g.read hk i2] at hr
        simp only [Option.some.injEq, Prod.mk.injEq] at hr
        have := g.here i x i1 i2
        omega
  · rw [List.length_take, show min q l.length = q by omega] at hr ⊢
    rw [lastT_take q2]
    have hsur : (D'.crash ks).sec (first + (h + q) % n) = D.sur (first + (h + q) % n) := by
      have h2 := hpl (h + q)
      rcases q4 with q4 | q4
      · by_cases hf : l.length < n
        · have h3 := g.sure ((h + q) % n) (g.place _).1 (g.place _).2 (fun j j1 j2 => Ne.symm (place_ne (by omega) (by omega) (by omega)))
          rcases hp _ h2.1 h2.2 with e | e
          · exact e
          · rw [e, h3]
        · exfalso
          have hqn : q = n := by omega
          have e0 : (h + (q : Int)) % n = (h + ((0 : Nat) : Int)) % n := by rw [hqn]; simp
          have hx0 : l[0]? = some (l[0]'(by omega)) := List.getElem?_eq_getElem _
          have := g.read hk hx0
          rw [← q3 0 (by omega), ← e0, hr] at this
          simp only [Option.some.injEq, Prod.mk.injEq] at this
          omega
      · rcases hp _ h2.1 h2.2 with e | e
        · exact e
        · exact absurd e q4
    rw [hsur] at hr
    by_cases hq : q = p
    · subst hq; exact g.gap t s hr
    · have h3 := (g.old _ (g.place _).1 (g.place _).2 _ _ _ hr).2 (by omega)
      have hx : l[q - 1]? = some (l[q - 1]'(by omega)) := List.getElem?_eq_getElem _
      have h4 := g.here (q - 1) _ (by omega) hx
      unfold LogM.lastT
      rw [if_neg (by omega), List.getD_eq_getElem?_getD, hx, Option.getD_some, h4]
      exact h3
/-- Opened behind a crash. -/
theorem LR.opened (g : LR first n a b D N k h T le l) (hk : k < 4611686018427387000) :
    ∃ D', logOpen D first n a b = (0, ⟨first, n, openC D' a b, h, T + 1, le, l⟩, D') ∧ LX first n a b D' N (k + 1) h (T + 1) le l l.length ∧ D'.es = [] ∧ Up D' N ∧ ∀ j : Int, 0 ≤ j → j < N → j ≠ a → j ≠ b → D'.sec j = D.sec j := by
  have harg := g.arg
  unfold logArg at harg
  have hlen := g.up.len
  have hn5 := g.up.ok.n
  rw [hlen] at harg hn5
  have h1 := g.h1; have h2 := g.ht; have h3 := g.t0; have h4 := g.le0; have h5 := chain_le g.ch
  have hsc : scanL D first n T n h le = l := scan_gap (by omega) l n h le g.ll ⟨by omega, by omega⟩ (by omega) h4 (by omega) g.ch g.sl g.ring g.gap
  have hl0 : log0 D first (n : Int).toNat a b = ⟨first, n, openC D a b, h, T + 1, le, l⟩ := by
    unfold log0
    rw [g.hd]
    show (⟨first, n, openC D a b, h, T + 1, le, scanL D first n T n h le⟩ : LogM) = _
    rw [hsc]
  have hhl := headR_len (h := h) (t := T + 1) (l := le) ⟨by omega, by omega⟩ ⟨by omega, by omega⟩ ⟨by omega, by omega⟩
  have hg := g.gen
  obtain ⟨D', p1, p2, p3, p4, p5⟩ := lg_put g.up g.e hhl (by omega)
  have hna : ∀ j : Int, 0 ≤ j → j < n → D'.sec (first + j) = D.sec (first + j) := fun j h0 h1 => p5 _ (by omega) (by omega) (fun e => harg (.inr (.inr (.inr (.inr (.inl ⟨by omega, by omega⟩)))))) (fun e => harg (.inr (.inr (.inr (.inr (.inr ⟨by omega, by omega⟩))))))
  have hem : ∀ q : Int, 0 ≤ q % (n : Int) ∧ q % (n : Int) < n := fun q => ⟨Int.emod_nonneg _ (by omega), Int.emod_lt_of_pos _ (by omega)⟩
  have hsur : ∀ j, D'.sec j = D'.sur j := fun j => sur_nil p3 j
  refine ⟨D', ?_, ⟨Awk.of_up p2, lg_openE g.up p2 g.e, by rw [p4]; show (openC D a b).gen + 1 ≤ _; omega, ?_, lg_arg g.up p2 g.arg, h1, by omega, by omega, h4, g.ll, chain_up g.ch (by omega), g.sl, Nat.le_refl _, ⟨hsur a, hsur b⟩, fun i x hx => ?_, fun i x hi hx => ?_, fun j _ _ _ => hsur _, fun j h0 h1 q t s hr => ?_, fun t s hr => ?_⟩, p3, p2, p5⟩
  · unfold logOpen
    rw [if_neg g.arg, if_neg (by rw [g.e]; decide), if_neg (by rw [g.hd]; dsimp only; omega), hl0]
    unfold LogM.put
    dsimp only
    rw [p1, p4]
  · rw [p4]; exact headOf_rec ⟨by omega, by omega⟩ ⟨by omega, by omega⟩ ⟨by omega, by omega⟩
  · rw [hna _ (hem _).1 (hem _).2]; exact g.ring i x hx
  · rw [List.getElem?_eq_none (by omega)] at hx; cases hx
  · rw [← hsur, hna j h0 h1] at hr
    have := g.old j h0 h1 q t s hr
    exact ⟨by omega, fun _ => by omega⟩
  · rw [← hsur, hna _ (hem _).1 (hem _).2] at hr
    exact g.gap t s hr
theorem new_lr {N n : Nat} {first a b : Int} (hN : N ≤ 512) (hn : 2 ≤ n) (hf : 0 ≤ first ∧ first + n ≤ N) (hab : a ≠ b) (ha : 0 ≤ a ∧ a < N) (hb : 0 ≤ b ∧ b < N) (hra : ¬ inRing first n a) (hrb : ¬ inRing first n b) : LR first n a b (Dev.new N) N 0 1 0 0 [] := by
  have g := new_ldev hN hn hf hab ha hb hra hrb
  refine ⟨⟨g.up.ok, g.up.len, g.up.live, rfl⟩, g.up, g.e, g.gen, g.hd, g.arg, g.h1, g.ht, g.t0, g.le0, g.ll, g.ch, g.sl, g.ring, fun j h0 h1 q t s hr => ?_, fun t s hr => ?_⟩
  · rw [sec_new (n := N) (by omega) (by omega), readL_zero] at hr; cases hr
  · have h0 := Int.emod_nonneg (1 + (([] : List (Bytes × Int)).length : Int)) (show (n : Int) ≠ 0 by omega)
    have h1 := Int.emod_lt_of_pos (1 + (([] : List (Bytes × Int)).length : Int)) (show (0 : Int) < n by omega)
    rw [sec_new (n := N) (by omega) (by omega), readL_zero] at hr; cases hr
end Go.Sl
namespace Go.Sl
set_option linter.unusedSimpArgs false
variable {first : Int} {n : Nat} {a b : Int} {D : Dev} {N k : Nat} {h T le : Int} {l : List (Bytes × Int)} {p : Nat}
theorem LX.ok0 (g : LX first n a b D N k h T le l p) (hk : k < 4611686018427387000) : (⟨first, n, openC D a b, h, T, le, l⟩ : LogM).ok D := by
  obtain ⟨l1, l2, l3, l4, l5, l6⟩ := g.lim
  have h1 := g.h1; have h2 := g.ht; have h3 := g.t0; have h4 := g.le0; have h5 := chain_le g.ch
  refine ⟨l1, ⟨l2, by rw [g.aw.len]; exact l3⟩, (openC_ok g.e).1, h1, ⟨h3.1, by dsimp only; omega⟩, ⟨h4, by dsimp only; omega⟩, g.ll, fun x hx => ?_, ?_, g.aw.ok⟩
  · have := chain_mem g.ch x hx
    exact ⟨g.sl x hx, by omega, by omega⟩
  · unfold LogM.tail; dsimp only; omega
theorem lastT_app {x : Bytes × Int} {q : Nat} (hq : q ≤ l.length) : LogM.lastT (l ++ [x]) le q = LogM.lastT l le q := by
  unfold LogM.lastT
  by_cases h0 : q = 0
  · rw [if_pos h0, if_pos h0]
  · rw [if_neg h0, if_neg h0, List.getD_eq_getElem?_getD, List.getD_eq_getElem?_getD, List.getElem?_append_left (by omega)]
/-- A record is appended, where the power may go. -/
theorem LX.append (g : LX first n a b D N k h T le l p) (hk : k < 4611686018427387000) {s : Bytes} (hs : s.length ≤ 110) (hf : l.length < n) :
    (∃ D', (⟨first, n, openC D a b, h, T, le, l⟩ : LogM).append D s = (0, ⟨first, n, openC D' a b, h, T, le, l ++ [(s, T)]⟩, D') ∧ LX first n a b D' N (k + 1) h T le (l ++ [(s, T)]) p) ∨
    (∃ D', (⟨first, n, openC D a b, h, T, le, l⟩ : LogM).append D s = (30, ⟨first, n, openC D a b, h, T, le, l⟩, D') ∧ D'.dead = true ∧ Twin D' D) := by
  obtain ⟨l1, l2, l3, l4, l5, l6⟩ := g.lim
  obtain ⟨hC, ha, hb, hab⟩ := g.ab
  have h1 := g.h1; have h2 := g.ht; have h3 := g.t0; have h4 := g.le0; have h5 := chain_le g.ch; have hll := g.ll; have hpl := g.pl
  have hbd := g.bound hk
  unfold I63 at hbd
  have hm0 := Int.emod_nonneg (h + l.length) (show (n : Int) ≠ 0 by omega)
  have hm1 := Int.emod_lt_of_pos (h + l.length) (show (0 : Int) < n by omega)
  have hfl := frL_len (q := h + l.length) (t := T) (s := s) ⟨by omega, by omega⟩ ⟨by omega, by omega⟩ (by omega)
  unfold LogM.append
  rw [if_neg (by omega), if_neg (by dsimp only; omega), if_neg (by unfold LogM.tail; dsimp only; omega)]
  have ep : (⟨first, n, openC D a b, h, T, le, l⟩ : LogM).place (⟨first, n, openC D a b, h, T, le, l⟩ : LogM).tail = first + (h + l.length) % n := rfl
  have et : (⟨first, n, openC D a b, h, T, le, l⟩ : LogM).tail = h + l.length := rfl
  rw [ep, et]
  dsimp only
  have hw := g.aw.write (i := first + (h + l.length) % n) (bs := frL (h + l.length) T s) (by omega) (by omega) (by omega)
  obtain ⟨w, hw2⟩ : ∃ w, D.write (first + (h + l.length) % n) (frL (h + l.length) T s) = w := ⟨_, rfl⟩
  rw [hw2] at hw ⊢
  rcases hw with ⟨w0, w1, w2, w3, w4⟩ | ⟨w0, w1, w2⟩
  · left
    have hne : ∀ j : Int, ¬ inRing first n j → j ≠ first + (h + l.length) % n := fun j hj e => hj (by rw [e]; exact ⟨by omega, by omega⟩)
    have ho : openC w.2 a b = openC D a b := open_same (w4 a (hne a l5)) (w4 b (hne b l6))
    refine ⟨w.2, by rw [w0, if_pos rfl, ho], ⟨w1, lx_openE g.aw w1 g.e, by rw [ho]; have := g.gen; omega, by rw [ho]; exact g.hd, lx_arg g.aw w1 g.arg, h1, by simp; omega, by omega, h4, by simp; omega, chain_snoc g.ch, fun x hx => ?_, by simp; omega, ?_, fun i x hx => ?_, fun i x hi hx => ?_, fun j j0 j1 hj => ?_, fun j j0 j1 q t u hr => ?_, fun t u hr => ?_⟩⟩
    · rcases List.mem_append.1 hx with hx | hx
      · exact g.sl x hx
      · simp at hx; subst hx; exact hs
    · rw [w4 a (hne a l5), w4 b (hne b l6), w2, w2]; exact g.cell
    · rcases Nat.lt_or_ge i l.length with hi | hi
      · rw [List.getElem?_append_left hi] at hx
        rw [w4]
        · exact g.ring i x hx
        · intro e
          exact emod_ne (x := h + i) (y := h + l.length) (n := n) (by omega) (by omega) (by omega)
      · have : i = l.length := by
          have := (List.getElem?_eq_some_iff.1 hx).1
          simp at this; omega
        subst this
        simp at hx
        subst hx
        exact w3
    · rcases Nat.lt_or_ge i l.length with hi2 | hi2
      · rw [List.getElem?_append_left hi2] at hx
        exact g.here i x hi hx
      · have : i = l.length := by
          have := (List.getElem?_eq_some_iff.1 hx).1
          simp at this; omega
        subst this
        simp at hx
        subst hx
        rfl
    · have hjl := hj l.length hpl (by simp)
      rw [w4 _ (by omega), w2]
      exact g.sure j j0 j1 fun i i0 i1 => hj i i0 (by simp; omega)
    · rw [w2] at hr; exact g.old j j0 j1 q t u hr
    · rw [w2] at hr
      rw [lastT_app hpl]; exact g.gap t u hr
  · right
    exact ⟨w.2, by rw [w0, if_neg (by decide)], w1, w2⟩
theorem LX.sure_all (g : LX first n a b D N k h T le l p) (hk : k < 4611686018427387000) {D' : Dev} (hL : Live D' N) (hs : ∀ j : Int, 0 ≤ j → j < N → D'.sec j = D.sec j) : LX first n a b D' N k h T le l l.length ∧ openC D' a b = openC D a b := by
  obtain ⟨l1, l2, l3, l4, l5, l6⟩ := g.lim
  obtain ⟨hC, ha, hb, hab⟩ := g.ab
  have ho : openC D' a b = openC D a b := open_same (hs a ha.1 ha.2) (hs b hb.1 hb.2)
  have haw := Awk.of_live hL
  have hsur : ∀ j, D'.sec j = D'.sur j := fun j => sur_nil hL.es j
  have hll := g.ll; have hpl := g.pl
  have hpp : ∀ q : Int, 0 ≤ first + q % (n : Int) ∧ first + q % (n : Int) < N := fun q => by have := g.place q; omega
  have hold : ∀ j : Int, 0 ≤ j → j < n → ∀ q t s, readL (D.sec (first + j)) = some (q, t, s) → t ≤ T ∧ (h + l.length ≤ q → t < T) := fun j j0 j1 q t s hr => by
    rcases g.is j0 j1 with e | ⟨i, x, i1, i2, i3⟩
    · rw [e] at hr
      have := g.old j j0 j1 q t s hr
      exact ⟨this.1, fun hq => this.2 (by omega)⟩
    · rw [i3, g.read hk i2] at hr
      simp only [Option.some.injEq, Prod.mk.injEq] at hr
      have h1 := g.here i x i1 i2
      have h2 := (List.getElem?_eq_some_iff.1 i2).1
      exact ⟨by omega, fun hq => by omega⟩
  refine ⟨⟨haw, lx_openE g.aw haw g.e, by rw [ho]; exact g.gen, by rw [ho]; exact g.hd, lx_arg g.aw haw g.arg, g.h1, g.ht, g.t0, g.le0, g.ll, g.ch, g.sl, Nat.le_refl _, ⟨hsur a, hsur b⟩, fun i x hx => ?_, fun i x hi hx => ?_, fun j _ _ _ => hsur _, fun j j0 j1 q t s hr => ?_, fun t s hr => ?_⟩, ho⟩
  · rw [hs _ (hpp _).1 (hpp _).2]; exact g.ring i x hx
  · rw [List.getElem?_eq_none (by omega)] at hx; cases hx
  · rw [← hsur, hs _ (by omega) (by omega)] at hr
    exact hold j j0 j1 q t s hr
  · rw [← hsur, hs _ (hpp _).1 (hpp _).2] at hr
    by_cases hp : p = l.length
    · have hnp := g.sure ((h + l.length) % n) (g.place _).1 (g.place _).2 (fun j j1 j2 => by omega)
      rw [hnp] at hr
      rw [← hp] at hr ⊢
      exact g.gap t s hr
    · have h3 := (hold _ (g.place _).1 (g.place _).2 _ _ _ hr).2 (Int.le_refl _)
      have hx : l[l.length - 1]? = some (l[l.length - 1]'(by omega)) := List.getElem?_eq_getElem _
      have h4 := g.here (l.length - 1) _ (by omega) hx
      unfold LogM.lastT
      rw [if_neg (by omega), List.getD_eq_getElem?_getD, hx, Option.getD_some, h4]
      exact h3
theorem LX.sync (g : LX first n a b D N k h T le l p) (hk : k < 4611686018427387000) :
    (D.barrier.1 = 0 ∧ Live D.barrier.2 N ∧ LX first n a b D.barrier.2 N k h T le l l.length ∧ openC D.barrier.2 a b = openC D a b) ∨ (D.barrier.1 = 30 ∧ D.barrier.2.dead = true ∧ Twin D.barrier.2 D) := by
  rcases g.aw.barrier with ⟨h1, h2, h3⟩ | h1
  · have := g.sure_all hk h2 h3
    exact .inl ⟨h1, h2, this.1, this.2⟩
  · exact .inr h1
theorem LX.fuse (g : LX first n a b D N k h T le l p) {x : Int} (hx : x ≤ 9223372036854775807) : LX first n a b (D.setFuse x) N k h T le l p :=
  ⟨g.aw.fuse hx, g.e, g.gen, g.hd, g.arg, g.h1, g.ht, g.t0, g.le0, g.ll, g.ch, g.sl, g.pl, g.cell, g.ring, g.here, g.sure, g.old, g.gap⟩
/-- A device that died while its cell was put, all else being sure. -/
structure LHalf (first : Int) (n : Nat) (a b : Int) (D' : Dev) (N k : Nat) (h T le : Int) (l : List (Bytes × Int)) (m le' : Int) where
  D : Dev
  g : LX first n a b D N k h T le l l.length
  lv : Live D N
  half : HalfD D' D N (openC D a b).other (pad (slotM ((openC D a b).gen + 1) (recB (headR m T le'))))
  hm : h ≤ m ∧ m ≤ h + l.length
  hle : le' = if 0 < (m - h).toNat then (l.getD ((m - h).toNat - 1) ([], 0)).2 else le
/-- What is left where the cell was put with another head. -/
theorem LX.cutLR (g : LX first n a b D N k h T le l l.length) (hk : k < 4611686018427387000) {D' : Dev} (hL : Live D' N) (hU : Up D' N) {m le' : Int} (hm : h ≤ m ∧ m ≤ h + l.length) (hle : le' = if 0 < (m - h).toNat then (l.getD ((m - h).toNat - 1) ([], 0)).2 else le)
    (ho : openC D' a b = (openC D a b).next (recB (headR m T le'))) (hs : ∀ j : Int, 0 ≤ j → j < n → D'.sec (first + j) = D.sec (first + j)) : LR first n a b D' N (k + 1) m T le' (l.drop (m - h).toNat) := by
  obtain ⟨l1, l2, l3, l4, l5, l6⟩ := g.lim
  obtain ⟨hC, ha, hb, hab⟩ := g.ab
  have h1 := g.h1; have h2 := g.ht; have h3 := g.t0; have h4 := g.le0; have h5 := chain_le g.ch; have hll := g.ll
  obtain ⟨j, hj⟩ : ∃ j : Nat, m - h = j := ⟨(m - h).toNat, by omega⟩
  have hjt : (m - h).toNat = j := by omega
  rw [hjt] at hle ⊢
  have hch : chain le' (l.drop j) T := by
    rw [hle]
    rcases chain_drop j g.ch with hc | hc
    · exact hc
    · omega
  have hle0 : 0 ≤ le' := by
    rw [hle]
    split
    · have hx : l[j - 1]? = some (l.getD (j - 1) ([], 0)) := getd_get (by omega)
      have := chain_mem g.ch _ (List.mem_of_getElem? hx)
      omega
    · exact h4
  have hleT := chain_le hch
  refine ⟨hL, hU, openE_up hU hab ha hb, by rw [ho]; have := g.gen; show (openC D a b).gen + 1 ≤ _; omega, ?_, lx_arg g.aw (Awk.of_live hL) g.arg, by omega, by simp; omega, by omega, hle0, by simp; omega, hch, fun x hx => g.sl x (List.mem_of_mem_drop hx), fun i x hx => ?_, fun i i0 i1 q t s hr => ?_, fun t s hr => ?_⟩
  · rw [ho]; exact headOf_rec ⟨by omega, by omega⟩ ⟨by omega, by omega⟩ ⟨by omega, by omega⟩
  · rw [List.getElem?_drop] at hx
    have := g.ring (j + i) x hx
    rw [hs _ (g.place _).1 (g.place _).2, show m + (i : Int) = h + ((j + i : Nat) : Int) by omega]; exact this
  · rw [hs i i0 i1] at hr
    rcases g.is i0 i1 with e | ⟨z, x, z1, z2, z3⟩
    · rw [e] at hr; exact (g.old i i0 i1 q t s hr).1
    · rw [List.getElem?_eq_none (by omega)] at z2; cases z2
  · rw [hs _ (g.place _).1 (g.place _).2] at hr
    have hlen : ((l.drop j).length : Int) = l.length - j := by simp; omega
    rw [show m + ((l.drop j).length : Int) = h + (l.length : Int) by omega] at hr
    have hsur := g.sure ((h + l.length) % n) (g.place _).1 (g.place _).2 (fun z z1 z2 => by omega)
    rw [hsur] at hr
    have hg := g.gap t s hr
    unfold LogM.lastT at hg ⊢
    by_cases hjl : j = l.length
    · rw [if_pos (by simp; omega), hle]
      by_cases h0 : l.length = 0
      · rw [if_pos h0] at hg
        rw [if_neg (by omega)]; exact hg
      · rw [if_neg h0] at hg
        rw [if_pos (by omega), hjl]; exact hg
    · rw [if_neg (by simp; omega)]
      rw [if_neg (by omega)] at hg
      have e : (l.drop j).getD ((l.drop j).length - 1) ([], 0) = l.getD (l.length - 1) ([], 0) := by
        rw [List.getD_eq_getElem?_getD, List.getD_eq_getElem?_getD, List.getElem?_drop]
        congr 2
        simp; omega
      rw [e]; exact hg
theorem LHalf.crash {D' : Dev} {m le' : Int} (q : LHalf first n a b D' N k h T le l m le') (hk : k < 4611686018427387000) {ks : Keeps} (hks : ∀ x ∈ ks, x.1 ≠ 2) :
    LR first n a b (D'.crash ks) N k h T le l ∨ LR first n a b (D'.crash ks) N (k + 1) m T le' (l.drop (m - h).toNat) := by
  obtain ⟨D, g, lv, half, hm, hle⟩ := q
  obtain ⟨l1, l2, l3, l4, l5, l6⟩ := g.lim
  obtain ⟨hC, ha, hb, hab⟩ := g.ab
  have hbd := g.bound hk
  unfold I63 at hbd
  have hgen := g.gen
  have hll := g.ll
  have hole : 0 ≤ le' ∧ le' ≤ 4611686018427387904 := by
    have h3 := g.t0
    rw [hle]
    split
    · have hx : l[(m - h).toNat - 1]? = some (l.getD ((m - h).toNat - 1) ([], 0)) := getd_get (by omega)
      have h4 := g.le0
      have := chain_mem g.ch _ (List.mem_of_getElem? hx)
      omega
    · have h4 := g.le0; have h5 := chain_le g.ch; omega
  have h3 := g.t0; have h2 := g.ht; have h1 := g.h1
  have hslen := headR_len (h := m) (t := T) (l := le') ⟨by omega, by omega⟩ ⟨by omega, by omega⟩ ⟨by omega, by omega⟩
  obtain ⟨c1, c2, c3⟩ := half_crash half hks
  have hlen : D'.l.length = N := by rw [half.l]; exact lv.len
  have hU : Up (D'.crash ks) N := by have := crash_up half.ok ks; rw [hlen] at this; exact this
  have hoab : (openC D a b).other = a ∨ (openC D a b).other = b := by
    have e2 := openC_ab D a b
    unfold CellM.other
    rw [e2.1, e2.2]
    split
    · exact .inr rfl
    · exact .inl rfl
  have hring : ∀ j : Int, 0 ≤ j → j < n → (D'.crash ks).sec (first + j) = D.sec (first + j) := fun j j0 j1 => by
    refine c2 _ (by omega) (by omega) (fun e => ?_)
    rcases hoab with e2 | e2
    · exact l5 (by rw [← e2, ← e]; exact ⟨by omega, by omega⟩)
    · exact l6 (by rw [← e2, ← e]; exact ⟨by omega, by omega⟩)
  rcases half_cell half hks hC hslen (by omega) with ho | ho
  · left
    have hsur : ∀ z : Int, D.sec z = D.sur z := fun z => sur_nil lv.es z
    refine ⟨c1, hU, openE_up hU hab ha hb, by rw [ho]; exact g.gen, by rw [ho]; exact g.hd, lx_arg g.aw (Awk.of_live c1) g.arg, g.h1, g.ht, g.t0, g.le0, g.ll, g.ch, g.sl, fun i x hx => ?_, fun j j0 j1 q t s hr => ?_, fun t s hr => ?_⟩
    · rw [hring _ (g.place _).1 (g.place _).2]; exact g.ring i x hx
    · rw [hring j j0 j1, hsur] at hr; exact (g.old j j0 j1 q t s hr).1
    · rw [hring _ (g.place _).1 (g.place _).2, hsur] at hr; exact g.gap t s hr
  · right
    exact g.cutLR hk c1 hU hm hle ho hring
/-- Records are let go, where the power may go. -/
theorem LX.trim (g : LX first n a b D N k h T le l p) (hk : k < 4611686018427387000) {m : Int} (hm : h ≤ m ∧ m ≤ h + l.length) :
    (∃ D' le', (⟨first, n, openC D a b, h, T, le, l⟩ : LogM).trim D m = (0, ⟨first, n, openC D' a b, m, T, le', l.drop (m - h).toNat⟩, D') ∧ LX first n a b D' N (k + 1) m T le' (l.drop (m - h).toNat) (l.drop (m - h).toNat).length) ∨
    (∃ D', (⟨first, n, openC D a b, h, T, le, l⟩ : LogM).trim D m = (30, ⟨first, n, openC D a b, h, T, le, l⟩, D') ∧ D'.dead = true ∧ (Twin D' D ∨ ∃ le', Nonempty (LHalf first n a b D' N k h T le l m le'))) := by
  have hok := g.ok0 hk
  have hwi : within3 m (⟨first, n, openC D a b, h, T, le, l⟩ : LogM).head (⟨first, n, openC D a b, h, T, le, l⟩ : LogM).tail = true := within3_iff.2 hm
  have hla : (⟨first, n, openC D a b, h, T, le, l⟩ : LogM).leastAt m = if 0 < (m - h).toNat then (l.getD ((m - h).toNat - 1) ([], 0)).2 else le := by
    unfold LogM.leastAt
    dsimp only
    by_cases hc : h < m
    · rw [if_pos hc, if_pos (by omega), show (m - h - 1).toNat = (m - h).toNat - 1 by omega]
    · rw [if_neg hc, if_neg (by omega)]
  have hlo := leastAt_ok hok (k := m) (by unfold LogM.tail; exact hm.2)
  have h1 := g.h1; have h2 := g.ht; have h3 := g.t0; have hgen := g.gen; have hll := g.ll
  unfold LogM.trim
  rw [if_neg (by rw [hwi]; decide)]
  rcases g.sync hk with ⟨b0, b1, b2, b3⟩ | ⟨b0, b1, b2⟩
  · rw [if_neg (by rw [b0]; exact fun h => h rfl)]
    obtain ⟨hC, ha, hb, hab⟩ := b2.ab
    have hbg := b2.gen
    generalize hlez : (⟨first, n, openC D a b, h, T, le, l⟩ : LogM).leastAt m = le' at *
    have hslen := headR_len (h := m) (t := T) (l := le') ⟨by omega, by omega⟩ ⟨by omega, by omega⟩ ⟨by omega, by omega⟩
    have hput : ∀ r, (openC D.barrier.2 a b).put D.barrier.2 (recB (headR m T le')) = r → LogM.put ⟨first, n, openC D a b, h, T, le, l⟩ D.barrier.2 m le' = (r.1, ⟨first, n, r.2.1, h, T, le, l⟩, r.2.2) := fun r hr => by
      unfold LogM.put
      dsimp only
      rw [← b3, hr]
    rcases put_live b1 hC hslen (by omega) with ⟨D', p1, p2, p3, p4⟩ | ⟨D', p1, p2⟩
    · left
      have hU : Awk D' N := Awk.of_live p2
      have hoab : (openC D.barrier.2 a b).other = a ∨ (openC D.barrier.2 a b).other = b := by
        have e2 := openC_ab D.barrier.2 a b
        unfold CellM.other
        rw [e2.1, e2.2]
        split
        · exact .inr rfl
        · exact .inl rfl
      obtain ⟨l1, l2, l3, l4, l5, l6⟩ := b2.lim
      have hring : ∀ j : Int, 0 ≤ j → j < n → D'.sec (first + j) = D.barrier.2.sec (first + j) := fun j j0 j1 => by
        refine p4 _ (by omega) (by omega) (fun e => ?_)
        rcases hoab with e2 | e2
        · exact l5 (by rw [← e2, ← e]; exact ⟨by omega, by omega⟩)
        · exact l6 (by rw [← e2, ← e]; exact ⟨by omega, by omega⟩)
      refine ⟨D', le', ?_, ?_⟩
      · rw [hput _ p1]
        dsimp only
        rw [if_pos rfl]
        unfold LogM.cut
        rw [p3]
        dsimp only
        have : (⟨first, n, (openC D.barrier.2 a b).next (recB (headR m T le')), h, T, le, l⟩ : LogM).leastAt m = le' := hlez
        rw [this]
      · have hsur : ∀ z : Int, D'.sec z = D'.sur z := fun z => sur_nil p2.es z
        have hbsur : ∀ z : Int, D.barrier.2.sec z = D.barrier.2.sur z := fun z => sur_nil b1.es z
        have hcr : Live { D' with fuse := -1 } N := ⟨⟨p2.ok.n, p2.ok.sec, p2.ok.esec, p2.ok.keys, p2.ok.uniq, p2.ok.born, p2.ok.once, ⟨Int.le_refl _, by show (-1 : Int) ≤ _; omega⟩⟩, p2.len, p2.live, p2.es⟩
        have hcu : Up { D' with fuse := -1 } N := ⟨hcr.ok, hcr.len, hcr.live, rfl⟩
        have hLR := b2.cutLR hk (D' := { D' with fuse := -1 }) hcr hcu hm hla (by rw [← p3]; rfl) hring
        refine ⟨hU, lx_openE b2.aw hU b2.e, hLR.gen, hLR.hd, lx_arg b2.aw hU b2.arg, hLR.h1, hLR.ht, hLR.t0, hLR.le0, hLR.ll, hLR.ch, hLR.sl, Nat.le_refl _, ⟨hsur a, hsur b⟩, hLR.ring, fun i x hi hx => ?_, fun j _ _ _ => hsur _, fun j j0 j1 q t s hr => ?_, fun t s hr => ?_⟩
        · rw [List.getElem?_eq_none (by omega)] at hx; cases hx
        · rw [← hsur, hring j j0 j1, hbsur] at hr
          have := b2.old j j0 j1 q t s hr
          refine ⟨this.1, fun hq => this.2 ?_⟩
          have : ((l.drop (m - h).toNat).length : Int) = l.length - (m - h) := by simp; omega
          omega
        · rw [← hsur] at hr
          exact hLR.gap t s hr
    · right
      refine ⟨D', ?_, p2.dead, .inr ⟨le', ⟨⟨D.barrier.2, b2, b1, p2, hm, hla⟩⟩⟩⟩
      rw [hput _ p1]
      dsimp only
      rw [if_neg (by decide), b3]
  · right
    exact ⟨D.barrier.2, by rw [if_pos (by rw [b0]; decide), b0], b1, .inl b2⟩
end Go.Sl
