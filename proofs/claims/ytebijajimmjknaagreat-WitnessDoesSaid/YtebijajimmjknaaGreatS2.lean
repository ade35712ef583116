/- A part of the proof: contracts and plain lemmas, each without conditions beyond those that it names. -/
import Derived.Test.YtebijajimmjknaaGreatS1
import Derived.Test.YtebijajimmjknaaGreatGC
import Derived.Test.YtebijajimmjknaaGreatLays
set_option linter.unusedVariables false
set_option linter.unusedSimpArgs false
set_option linter.constructorNameAsVariable false
namespace Go.Proofs
open Go.RowKit Go.Maps Go.Sort Go.Shelf
theorem Tryz.sortsA (m : Nat) : AnyZI.SortsIn Tryz.prog Tryz.sortedA_ren Fence.wide m :=
  ⟨fun blk off cap ss W hH hblk hsz => callsIn_wide.2 (AnyM.slices_Sort_int Tryz.sortA blk off cap ss W hH hblk hsz),
   fun p cap W => callsIn_wide.2 (AnyM.slices_Sort_int_none Tryz.sortA p cap W)⟩
namespace W
open Go.Sl
set_option linter.unusedVariables false
abbrev keysF : Nat := 101
theorem ent1 : Enters Tryz.prog 100 := enters_of Tryz.func100 (by kernel_rfl) rfl
theorem ent2 : Enters Tryz.prog keysF := enters_of Tryz.func101 (by kernel_rfl) rfl
abbrev seqV (g : Nat) : Value := .func (.func 101) #[] #[ptr g]
theorem mapsKeys [Env] {R : List Seg} {mb : Nat} : Con Tryz.prog 85 [.map (some mb)] [] R
    (fun v L' => ∃ g, v = seqV g ∧ L' = [sc g [.map (some mb)] 81]) := by
  intro w hh
  have cK : CallsIn Fence.wide 5 Tryz.prog 85 #[.map (some mb)] w fun e w' => e = .returned (seqV w.heap.size) ∧ w' = w.alloc (.cells #[.map (some mb)] 81) := AnyZI.keys_in Tryz.keysA Fence.wide 5 trivial rfl (some mb) w
  refine (callsIn_wide.1 cK).mono ?_
  rintro e w' ⟨rfl, rfl⟩
  exact ⟨_, _, rfl, ⟨w.heap.size, rfl, rfl⟩, hh.alloc (.cells _ _)⟩
theorem slicesSorted [Env] {R : List Seg} {g mb c : Nat} {kv : Kv} (hst : stamped kv c) (hq : uniq kv) (hk : ∀ x ∈ kv, -9223372036854775808 ≤ x.1 ∧ x.1 ≤ 9223372036854775807) (hn : kv.length ≤ 2 ^ 40) :
    Con Tryz.prog 84 [seqV g] [sc g [.map (some mb)] 81, so mb (.map (ents kv) c)] R
    (KSv 3 kv.length 1 (intsV (keysOf kv)) [sc g [.map (some mb)] 81, so mb (.map (ents kv) c)]) := by
  intro w hh
  have h1 : w.heap[g]? = some (.cells #[.map (some mb)] 81 (0, 0)) := hh.cells (vs := [.map (some mb)]) .z
  have h2 : w.heap[mb]? = some (.map (ents kv) c) := hh.obj (.s .z)
  have hown := own_of (K := 3) (P := Tryz.prog) Tryz.underlying3 h2 hst hq hk hn
  have hseq : SeqGives Fence.wide 2 Tryz.prog keysF #[ptr g] encZ (fun ss => ss.Perm (intKeys (dU kv))) (Maps.size (dU kv)) w :=
    AnyZI.keys_gives (ρ := Tryz.keysA_ren) { Tryz.keysA with } Fence.wide _ trivial rfl (by omega) g mb kv.length (dU kv) w (Array.getElem?_eq_some_iff.1 h1).1 (by simp [World.cell?, h1]) hown
  have hsz := dU_size kv
  have cS := AnyZI.sorted_in Tryz.sortedA Fence.wide 5 trivial trivial trivial trivial rfl (by decide) (Tryz.sortsA 4) (by rw [show Tryz.sortedA_ren.f 9 = 100 from by kernel_rfl]; exact ent1) keysF #[ptr g] trivial ent2 _ _ (by rw [hsz]; simp [maxLen]; omega) (by omega) _ hseq
  change CallsIn _ _ Tryz.prog 84 _ _ _ at cS
  refine (callsIn_wide.1 cS).mono ?_
  rintro e w' ⟨v, ss, rfl, hS, hrow, -, hb⟩
  have hp := hS.trans (dU_keys kv)
  have hl : ss.length = kv.length := by simpa using hp.length_eq
  obtain ⟨s, rfl, hok, hh'⟩ := has_row hh hb hrow
  have he : (ss.mergeSort (fun x y => decide (x ≤ y))).map encZ = intsV (keysOf kv) := by rw [sort_perm hp]; rfl
  rw [he] at hok hh'
  rw [hl] at hok
  exact ⟨svVal s ss.length, _, rfl, ⟨s, by rw [hl], hok, rfl⟩, hh'⟩
theorem pending [Env] {R : List Seg} {p la m : Nat} {D : Dev} (hD : D.ok) : Con Tryz.prog 55 [ptr p] [devP p la m D, devM m D] R
    (KSv 3 D.es.length 1 (intsV D.pending) [devP p la m D, devM m D]) := by
  have hle := es_le hD
  refine con_enter Tryz.func55 Tryz.ntmps55 rfl rfl ?_
  unfold devP devM
  refine cseq ?_; intro K1 hK1
  refine creg ?_
  refine y (ev_assign rfl) rfl ?_
  refine ynil' (kthn (hK1 _ _ ?_))
  clear hK1
  refine cseq ?_; intro K2 hK2
  refine creg ?_
  refine y (ev_move rfl) rfl ?_
  refine y (ev_nil rfl) rfl ?_
  refine y (ev_fieldAddr 1 rfl Tryz.underlying83 rfl Tryz.sizeOf81) rfl ?_
  refine y (ev_load rfl Tryz.isAgg81 zin rfl) rfl ?_
  refine ycall (mapsKeys) rfl Tryz.call85 ztk rfl ?_
  rintro v L' ⟨g7, rfl, rfl⟩
  refine ycall (slicesSorted ?st7 ?un7 ?ks7 ?nn7) rfl Tryz.call84 ztk rfl ?_
  case st7 => exact kvs_stamped hD.born hD.once
  case un7 => exact kvs_uniq hD.uniq
  case ks7 => intro x hx; obtain ⟨y, hy, rfl⟩ := List.mem_map.1 hx; have := hD.keys y hy; have := hD.n; dsimp only; omega
  case nn7 => simp [kvs]; omega
  rintro v L' ⟨s8, rfl, ok8, rfl⟩
  rw [show (kvs D.es).length = D.es.length by simp [kvs]] at *; rw [keysOf_kvs] at *
  refine y (ev_assign rfl) rfl ?_
  refine ynil' (kthn (hK2 _ _ ?_))
  clear hK2
  refine cret ?_
  first
    | (exfalso; omega; done)
    | (refine kretv Tryz.results55 rfl (L1 := [svSeg _ _ _, devP p la m _, devM m D] ++ R) zge ?_
       exact ⟨_, ⟨s8, rfl, ok8, rfl⟩, rfl⟩)
end W
end Go.Proofs
