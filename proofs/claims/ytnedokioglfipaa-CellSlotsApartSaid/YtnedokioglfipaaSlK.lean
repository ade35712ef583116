/- A part of the proof: contracts and plain lemmas, each without conditions beyond those that it names. -/
import Derived.Test.YtnedokioglfipaaMSec
import Derived.Lib.SlKeysI
import Derived.Shelf.SlIterI.Nil
import Derived.WalkArith
set_option linter.unusedVariables false
set_option linter.unusedSimpArgs false
set_option linter.constructorNameAsVariable false
namespace Go.Sl
open Go.Maps
set_option linter.unusedSimpArgs false
abbrev rU : Value → Option (DataW Unit × List MemPlace) := fun _ => some (.nil, [])
def dU (kv : Kv) : DataW Unit := .map ((kv.map fun x => ((Lit.int .i64 x.1, DataW.nil) : Lit × DataW Unit)).foldr DataW.insert [])
theorem dU_keys (kv : Kv) : (intKeys (dU kv)).Perm (kv.map (·.1)) := by
  have := (Go.WideShapes.sorted_perm (kv.map fun x => ((Lit.int .i64 x.1, DataW.nil) : Lit × DataW Unit))).map (fun p => intOf p.1)
  refine this.trans ?_
  rw [List.map_map]
  exact List.Perm.of_eq (List.map_congr_left fun x _ => rfl)
theorem dU_size (kv : Kv) : Maps.size (dU kv) = kv.length := by
  have := (Go.WideShapes.sorted_perm (kv.map fun x => ((Lit.int .i64 x.1, DataW.nil) : Lit × DataW Unit))).length_eq
  simpa [Maps.size, dU] using this
theorem own_of {P : Program} {K : TypeId} {w : World} {b c : Nat} {kv : Kv} (hK : P.underlying K = some (.int .i64)) (h : w.heap[b]? = some (.map (ents kv) c)) (hst : stamped kv c) (hq : uniq kv)
    (hk : ∀ x ∈ kv, -9223372036854775808 ≤ x.1 ∧ x.1 ≤ 9223372036854775807) (hn : kv.length ≤ 2 ^ 40) : w.ownsMap P K rU b kv.length (dU kv) := by
  have hwf : ∀ x ∈ kv, (Lit.int .i64 x.1).wf = true := by
    intro x hx
    have := hk x hx
    exact Go.WalkArith.wf_i64 ⟨by omega, by omega⟩
  refine ⟨ents kv, c, h, ⟨by simp [ents, maxLen]; omega, ?_, ?_⟩, by simp [ents], ?_⟩
  · refine ⟨fun x hx => ?_, ?_, ?_⟩
    · simp only [ents, List.mem_map] at hx
      obtain ⟨y, hy, rfl⟩ := hx
      exact hst.1 y hy
    · have := hst.2
      simpa [ents, List.map_map, Function.comp_def, ent] using this
    · have : (kv.map fun x => Value.int .i64 x.1).Nodup := by
        have h2 : (kv.map (·.1)).Nodup := hq
        have h3 : ((kv.map (·.1)).map (Value.int .i64)).Nodup := List.pairwise_map.2 (h2.imp fun h e => h (by cases e; rfl))
        simpa [List.map_map, Function.comp_def] using h3
      simpa [ents, List.map_map, Function.comp_def, ent] using this
  · intro x hx
    simp only [ents, List.mem_map] at hx
    obtain ⟨y, hy, rfl⟩ := hx
    exact ⟨(.int .i64 y.1, .nil), by simp [Go.WideElems.rd, ent, keyOf_int_mk hK (hwf y hy)]⟩
  · unfold dU
    congr 2
    simp only [ents, List.map_map]
    apply List.map_congr_left
    intro y hy
    simp [Go.WideElems.rg, Go.WideElems.rd, ent, keyOf_int_mk hK (hwf y hy)]

def intsV (l : List Int) : List Value := l.map (Value.int .i64)
theorem sort_perm {a b : List Int} (h : a.Perm b) : a.mergeSort (fun x y => decide (x ≤ y)) = b.mergeSort (fun x y => decide (x ≤ y)) := by
  have hs : ∀ l : List Int, (l.mergeSort (fun x y => decide (x ≤ y))).Pairwise (fun x y => decide (x ≤ y) = true) := fun l =>
    List.pairwise_mergeSort (fun x y z h1 h2 => by simp at *; omega) (fun x y => by simp; omega) l
  refine List.Perm.eq_of_pairwise ?_ (hs a) (hs b) (((List.mergeSort_perm a _).trans h).trans (List.mergeSort_perm b _).symm)
  intro x y _ _ h1 h2
  simp at h1 h2
  omega
/-- The keys of a map, sorted. -/
def keysOf (kv : Kv) : List Int := (kv.map (·.1)).mergeSort (fun x y => decide (x ≤ y))
def Dev.pending (D : Dev) : List Int := (D.es.map (·.1)).mergeSort (fun x y => decide (x ≤ y))
theorem keysOf_kvs (es : Es) : keysOf (kvs es) = (es.map (·.1)).mergeSort (fun x y => decide (x ≤ y)) := by
  unfold keysOf kvs; rw [List.map_map]; rfl
theorem nodup_le : ∀ (n : Nat) (l : List Int), l.Nodup → (∀ x ∈ l, 0 ≤ x ∧ x < n) → l.length ≤ n
  | 0, l, _, h => by
    cases l with
    | nil => simp
    | cons a l => have := h a (by simp); omega
  | n + 1, l, hd, h => by
    have h1 := nodup_le n (l.erase (n : Int)) (hd.erase _) (fun x hx => by
      have := h x (List.mem_of_mem_erase hx)
      have : x ≠ n := fun e => by subst e; exact absurd hx (List.Nodup.not_mem_erase hd)
      omega)
    have := @List.length_erase Int _ _ (n : Int) l
    split at this <;> omega
theorem es_le {D : Dev} (hD : D.ok) : D.es.length ≤ 512 := by
  have := nodup_le D.l.length (D.es.map (·.1)) hD.uniq (fun x hx => by
    obtain ⟨y, hy, rfl⟩ := List.mem_map.1 hx
    exact hD.keys y hy)
  have := hD.n
  simp at *
  omega
/-- A row of one's own that lies behind all that was there. -/
theorem has_row [Env] {w w' : World} {L : List Seg} {e : TypeId} {v : Value} {m : Nat} {xs : List Value} (hh : Has w L) (hb : Go.RowKit.Below w.heap.size w w') (hr : w'.ownsRow w.heap.size e 1 v m xs) :
    ∃ s, v = svVal s m ∧ svOk s m 1 xs ∧ Has w' (svSeg s e xs :: L) := by
  have hold : Has w' L := ⟨⟨hb.os.trans hh.env.1, hb.tape.trans hh.env.2.1, hb.output.trans hh.env.2.2⟩, fun x hx => by rw [hb.block _ (hh.lt hx)]; exact hh.mem x hx, hh.nd⟩
  rcases hr with ⟨hl, ⟨rfl, rfl⟩ | ⟨g, cap, cur, rfl, hg, hgg, hmc, hcm, hcs, htake⟩⟩
  · have : xs = [] := List.eq_nil_of_length_eq_zero (by simpa using hl)
    subst this
    exact ⟨none, rfl, ⟨rfl, rfl⟩, hold.re (by simp [svSeg])⟩
  · have hcur : cur.toList = xs ++ cur.toList.drop (m * 1) := by rw [← htake]; simp
    refine ⟨some (g, cap, cur.toList.drop (m * 1)), rfl, ⟨hmc, hcm, hl, by rw [← hcur]; simpa using hcs⟩, hold.env, ?_, ?_⟩
    · intro x hx
      simp only [svSeg, sc, List.flatten_cons, List.cons_append, List.nil_append, List.mem_cons] at hx
      rcases hx with rfl | hx
      · rw [← hcur]; simpa using hgg
      · exact hold.mem x hx
    · simp only [svSeg, sc, List.flatten_cons, List.cons_append, List.nil_append, List.map_cons, List.nodup_cons]
      refine ⟨fun hm => ?_, hold.nd⟩
      obtain ⟨x, hx, e⟩ := List.mem_map.1 hm
      have := hh.lt hx
      omega
end Go.Sl
