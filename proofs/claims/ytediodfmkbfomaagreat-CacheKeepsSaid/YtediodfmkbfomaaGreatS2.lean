/- A part of the proof: contracts and plain lemmas, each without conditions beyond those that it names. -/
import Derived.Shelf.SlIterI.Nil
import Derived.Shelf.SortM.Plain
import Derived.Shelf.SortM.SortNone
import Derived.Ground.GgzProg
import Derived.Ground.SlgmProg
import Derived.Test.YtediodfmkbfomaaGreatProg
import Derived.Test.YtediodfmkbfomaaGreatS1
import Derived.Test.YtediodfmkbfomaaGreatGC
set_option linter.unusedVariables false
set_option linter.unusedSimpArgs false
set_option linter.constructorNameAsVariable false
namespace Go.Proofs
open Go.Shelf
def Tryz.keysA_ren : Go.Shelf.Ren := ⟨fun | 7 => 69 | 10 => 88 | n => n, fun | 23 => 110 | 26 => 3 | 3 => 116 | 28 => 137 | 0 => 0 | 27 => 136 | 33 => 161 | 4 => 4 | n => n, fun | n => n⟩
theorem Tryz.keysA : Go.Proofs.SlLaysZI.n7 Tryz.prog Tryz.keysA_ren := {
 mixed := by kernel_rfl
 f7 := ⟨Tryz.f69.name, by decide, Tryz.func69.trans (congrArg some (by kernel_rfl))⟩
 f10 := ⟨Tryz.f88.name, by decide, Tryz.func88.trans (congrArg some (by kernel_rfl))⟩
 t0 := Tryz.underlying0
 a0 := Tryz.isAgg0
 z0 := Tryz.sizeOf0
 v0 := Tryz.zeroValue0
 t4 := Tryz.underlying4
 a4 := Tryz.isAgg4
 z4 := Tryz.sizeOf4
 v4 := Tryz.zeroValue4
 t23 := Tryz.underlying110
 a23 := Tryz.isAgg110
 z23 := Tryz.sizeOf110
 v23 := Tryz.zeroValue110
 t26 := Tryz.underlying3
 a26 := Tryz.isAgg3
 z26 := Tryz.sizeOf3
 v26 := Tryz.zeroValue3
 t27 := Tryz.underlying136
 a27 := Tryz.isAgg136
 z27 := Tryz.sizeOf136
 v27 := Tryz.zeroValue136
 t28 := Tryz.underlying137
 a28 := Tryz.isAgg137
 z28 := Tryz.sizeOf137
 v28 := Tryz.zeroValue137
 t33 := Tryz.underlying161
 a33 := Tryz.isAgg161
 z33 := Tryz.sizeOf161
 v33 := Tryz.zeroValue161 }
def Tryz.sortedA_ren : Go.Shelf.Ren := ⟨fun | 6 => 68 | 8 => 86 | 9 => 87 | 11 => 101 | 13 => 103 | 12 => 102 | 23 => 116 | 24 => 117 | 14 => 107 | 15 => 108 | 16 => 109 | 17 => 110 | 18 => 111 | 19 => 112 | 20 => 113 | 21 => 114 | 22 => 115 | 25 => 120 | 26 => 121 | 27 => 122 | 28 => 123 | 29 => 124 | 30 => 125 | 31 => 126 | n => n, fun | 26 => 3 | 28 => 137 | 24 => 113 | 0 => 0 | 3 => 3 | 37 => 32 | 48 => 163 | 50 => 179 | 4 => 4 | 40 => 182 | 39 => 181 | 45 => 90 | 5 => 5 | 9 => 9 | 51 => 192 | 55 => 196 | 57 => 198 | 58 => 199 | 33 => 161 | n => n, fun | n => n⟩
theorem Tryz.sortedA : Go.Proofs.SlLaysZI.n6 Tryz.prog Tryz.sortedA_ren := {
 mixed := by kernel_rfl
 f6 := ⟨Tryz.f68.name, by decide, Tryz.func68.trans (congrArg some (by kernel_rfl))⟩
 f8 := ⟨Tryz.f86.name, by decide, Tryz.func86.trans (congrArg some (by kernel_rfl))⟩
 f11 := ⟨Tryz.f101.name, by decide, Tryz.func101.trans (congrArg some (by kernel_rfl))⟩
 t0 := Tryz.underlying0
 a0 := Tryz.isAgg0
 z0 := Tryz.sizeOf0
 v0 := Tryz.zeroValue0
 t24 := Tryz.underlying113
 a24 := Tryz.isAgg113
 z24 := Tryz.sizeOf113
 v24 := Tryz.zeroValue113
 t26 := Tryz.underlying3
 a26 := Tryz.isAgg3
 z26 := Tryz.sizeOf3
 v26 := Tryz.zeroValue3
 t28 := Tryz.underlying137
 a28 := Tryz.isAgg137
 z28 := Tryz.sizeOf137
 v28 := Tryz.zeroValue137
 i26 := by kernel_rfl }
def Tryz.sortA_ren : Go.Shelf.Ren := ⟨fun | 5 => 87 | 8 => 103 | 7 => 102 | 19 => 116 | 20 => 117 | 10 => 107 | 11 => 108 | 12 => 109 | 13 => 110 | 14 => 111 | 15 => 112 | 16 => 113 | 17 => 114 | 18 => 115 | 30 => 120 | 31 => 121 | 32 => 122 | 33 => 123 | 34 => 124 | 35 => 125 | 40 => 126 | n => n, fun | 23 => 113 | 25 => 3 | 3 => 3 | 32 => 32 | 22 => 113 | 0 => 0 | 44 => 163 | 46 => 179 | 4 => 4 | 36 => 182 | 35 => 181 | 41 => 90 | 5 => 5 | 9 => 9 | 53 => 192 | 57 => 196 | 63 => 198 | 64 => 199 | n => n, fun | n => n⟩
theorem Tryz.sortA : Go.Proofs.SlLaysM.n5 Tryz.prog Tryz.sortA_ren := {
 mixed := by kernel_rfl
 f5 := ⟨Tryz.f87.name, by decide, Tryz.func87.trans (congrArg some (by kernel_rfl))⟩
 f7 := ⟨Tryz.f102.name, by decide, Tryz.func102.trans (congrArg some (by kernel_rfl))⟩
 f8 := Tryz.func103.trans (congrArg some (by kernel_rfl))
 f10 := ⟨Tryz.f107.name, by decide, Tryz.func107.trans (congrArg some (by kernel_rfl))⟩
 f11 := ⟨Tryz.f108.name, by decide, Tryz.func108.trans (congrArg some (by kernel_rfl))⟩
 f12 := ⟨Tryz.f109.name, by decide, Tryz.func109.trans (congrArg some (by kernel_rfl))⟩
 f13 := ⟨Tryz.f110.name, by decide, Tryz.func110.trans (congrArg some (by kernel_rfl))⟩
 f14 := ⟨Tryz.f111.name, by decide, Tryz.func111.trans (congrArg some (by kernel_rfl))⟩
 f15 := ⟨Tryz.f112.name, by decide, Tryz.func112.trans (congrArg some (by kernel_rfl))⟩
 f16 := ⟨Tryz.f113.name, by decide, Tryz.func113.trans (congrArg some (by kernel_rfl))⟩
 f17 := ⟨Tryz.f114.name, by decide, Tryz.func114.trans (congrArg some (by kernel_rfl))⟩
 f18 := ⟨Tryz.f115.name, by decide, Tryz.func115.trans (congrArg some (by kernel_rfl))⟩
 f19 := Tryz.func116.trans (congrArg some (by kernel_rfl))
 f20 := Tryz.func117.trans (congrArg some (by kernel_rfl))
 f30 := ⟨Tryz.f120.name, by decide, Tryz.func120.trans (congrArg some (by kernel_rfl))⟩
 f31 := Tryz.func121.trans (congrArg some (by kernel_rfl))
 f32 := Tryz.func122.trans (congrArg some (by kernel_rfl))
 f33 := ⟨Tryz.f123.name, by decide, Tryz.func123.trans (congrArg some (by kernel_rfl))⟩
 f34 := ⟨Tryz.f124.name, by decide, Tryz.func124.trans (congrArg some (by kernel_rfl))⟩
 f35 := ⟨Tryz.f125.name, by decide, Tryz.func125.trans (congrArg some (by kernel_rfl))⟩
 f40 := ⟨Tryz.f126.name, by decide, Tryz.func126.trans (congrArg some (by kernel_rfl))⟩
 t0 := Tryz.underlying0
 a0 := Tryz.isAgg0
 z0 := Tryz.sizeOf0
 v0 := Tryz.zeroValue0
 t3 := Tryz.underlying3
 a3 := Tryz.isAgg3
 z3 := Tryz.sizeOf3
 v3 := Tryz.zeroValue3
 t4 := Tryz.underlying4
 a4 := Tryz.isAgg4
 z4 := Tryz.sizeOf4
 v4 := Tryz.zeroValue4
 t5 := Tryz.underlying5
 a5 := Tryz.isAgg5
 z5 := Tryz.sizeOf5
 v5 := Tryz.zeroValue5
 t9 := Tryz.underlying9
 a9 := Tryz.isAgg9
 z9 := Tryz.sizeOf9
 v9 := Tryz.zeroValue9
 t22 := Tryz.underlying113
 a22 := Tryz.isAgg113
 z22 := Tryz.sizeOf113
 v22 := Tryz.zeroValue113
 t23 := Tryz.underlying113
 a23 := Tryz.isAgg113
 z23 := Tryz.sizeOf113
 v23 := Tryz.zeroValue113
 t25 := Tryz.underlying3
 a25 := Tryz.isAgg3
 z25 := Tryz.sizeOf3
 v25 := Tryz.zeroValue3
 t32 := Tryz.underlying32
 a32 := Tryz.isAgg32
 z32 := Tryz.sizeOf32
 v32 := Tryz.zeroValue32
 t35 := Tryz.underlying181
 a35 := Tryz.isAgg181
 z35 := Tryz.sizeOf181
 v35 := Tryz.zeroValue181
 t36 := Tryz.underlying182
 a36 := Tryz.isAgg182
 z36 := Tryz.sizeOf182
 v36 := Tryz.zeroValue182
 t41 := Tryz.underlying90
 a41 := Tryz.isAgg90
 z41 := Tryz.sizeOf90
 v41 := Tryz.zeroValue90
 t44 := Tryz.underlying163
 a44 := Tryz.isAgg163
 z44 := Tryz.sizeOf163
 v44 := Tryz.zeroValue163
 t46 := Tryz.underlying179
 a46 := Tryz.isAgg179
 z46 := Tryz.sizeOf179
 v46 := Tryz.zeroValue179
 t53 := Tryz.underlying192
 a53 := Tryz.isAgg192
 z53 := Tryz.sizeOf192
 v53 := Tryz.zeroValue192
 t57 := Tryz.underlying196
 a57 := Tryz.isAgg196
 z57 := Tryz.sizeOf196
 v57 := Tryz.zeroValue196
 t63 := Tryz.underlying198
 a63 := Tryz.isAgg198
 z63 := Tryz.sizeOf198
 v63 := Tryz.zeroValue198
 t64 := Tryz.underlying199
 a64 := Tryz.isAgg199
 z64 := Tryz.sizeOf199
 v64 := Tryz.zeroValue199 }
end Go.Proofs
namespace Go.Proofs
open Go.RowKit Go.Maps Go.Sort Go.Shelf
theorem Tryz.sortsA (m : Nat) : AnyZI.SortsIn Tryz.prog Tryz.sortedA_ren Fence.wide m :=
 ⟨fun blk off cap ss W hH hblk hsz => callsIn_wide.2 (AnyM.slices_Sort_int Tryz.sortA blk off cap ss W hH hblk hsz),
  fun p cap W => callsIn_wide.2 (AnyM.slices_Sort_int_none Tryz.sortA p cap W)⟩
namespace W
open Go.Sl
set_option linter.unusedVariables false
abbrev keysF : Nat := 88
theorem ent1 : Enters Tryz.prog 87 := enters_of Tryz.func87 (by kernel_rfl) rfl
theorem ent2 : Enters Tryz.prog keysF := enters_of Tryz.func88 (by kernel_rfl) rfl
abbrev seqV (g : Nat) : Value := .func (.func 88) #[] #[ptr g]
theorem mapsKeys [Env] {R : List Seg} {mb : Nat} : Con Tryz.prog 69 [.map (some mb)] [] R
   (fun v L' => ∃ g, v = seqV g ∧ L' = [sc g [.map (some mb)] 110]) := by
 intro w hh
 have cK : CallsIn Fence.wide 5 Tryz.prog 69 #[.map (some mb)] w fun e w' => e = .returned (seqV w.heap.size) ∧ w' = w.alloc (.cells #[.map (some mb)] 110) := AnyZI.keys_in Tryz.keysA Fence.wide 5 trivial rfl (some mb) w
 refine (callsIn_wide.1 cK).mono ?_
 rintro e w' ⟨rfl, rfl⟩
 exact ⟨_, _, rfl, ⟨w.heap.size, rfl, rfl⟩, hh.alloc (.cells _ _)⟩
theorem slicesSorted [Env] {R : List Seg} {g mb c : Nat} {kv : Kv} (hst : stamped kv c) (hq : uniq kv) (hk : ∀ x ∈ kv, -9223372036854775808 ≤ x.1 ∧ x.1 ≤ 9223372036854775807) (hn : kv.length ≤ 2 ^ 40) :
   Con Tryz.prog 68 [seqV g] [sc g [.map (some mb)] 110, so mb (.map (ents kv) c)] R
   (KSv 3 kv.length 1 (intsV (keysOf kv)) [sc g [.map (some mb)] 110, so mb (.map (ents kv) c)]) := by
 intro w hh
 have h1 : w.heap[g]? = some (.cells #[.map (some mb)] 110 (0, 0)) := hh.cells (vs := [.map (some mb)]) .z
 have h2 : w.heap[mb]? = some (.map (ents kv) c) := hh.obj (.s .z)
 have hown := own_of (K := 3) (P := Tryz.prog) Tryz.underlying3 h2 hst hq hk hn
 have hseq : SeqGives Fence.wide 2 Tryz.prog keysF #[ptr g] encZ (fun ss => ss.Perm (intKeys (dU kv))) (Maps.size (dU kv)) w :=
   AnyZI.keys_gives (ρ := Tryz.keysA_ren) { Tryz.keysA with } Fence.wide _ trivial rfl (by omega) g mb kv.length (dU kv) w (Array.getElem?_eq_some_iff.1 h1).1 (by simp [World.cell?, h1]) hown
 have hsz := dU_size kv
 have cS := AnyZI.sorted_in Tryz.sortedA Fence.wide 5 trivial trivial trivial trivial rfl (by decide) (Tryz.sortsA 4) (by rw [show Tryz.sortedA_ren.f 9 = 87 from by kernel_rfl]; exact ent1) keysF #[ptr g] trivial ent2 _ _ (by rw [hsz]; simp [maxLen]; omega) (by omega) _ hseq
 change CallsIn _ _ Tryz.prog 68 _ _ _ at cS
 refine (callsIn_wide.1 cS).mono ?_
 rintro e w' ⟨v, ss, rfl, hS, hrow, -, hb⟩
 have hp := hS.trans (dU_keys kv)
 have hl : ss.length = kv.length := by simpa using hp.length_eq
 obtain ⟨s, rfl, hok, hh'⟩ := has_row hh hb hrow
 have he : (ss.mergeSort (fun x y => decide (x ≤ y))).map encZ = intsV (keysOf kv) := by rw [sort_perm hp]; rfl
 rw [he] at hok hh'
 rw [hl] at hok
 exact ⟨svVal s ss.length, _, rfl, ⟨s, by rw [hl], hok, rfl⟩, hh'⟩
theorem pending [Env] {R : List Seg} {p la m : Nat} {D : Dev} (hD : D.ok) : Con Tryz.prog 52 [ptr p] [devP p la m D, devM m D] R
   (KSv 3 D.es.length 1 (intsV D.pending) [devP p la m D, devM m D]) := by
 have hle := es_le hD
 refine con_enter Tryz.func52 Tryz.ntmps52 rfl rfl ?_
 unfold devP devM
 refine cseq ?_; intro K1 hK1
 refine creg ?_
 refine yas ?_
 refine ynil' (kthn (hK1 _ _ ?_))
 clear hK1
 refine cseq ?_; intro K2 hK2
 refine creg ?_
 refine ymv ?_
 refine yni ?_
 refine y (ev_fieldAddr 1 rfl Tryz.underlying112 rfl Tryz.sizeOf110) rfl ?_
 refine y (ev_load rfl Tryz.isAgg110 zin rfl) rfl ?_
 refine ycall (mapsKeys) rfl Tryz.call69 ztk rfl ?_
 rintro v L' ⟨g7, rfl, rfl⟩
 refine ycall (slicesSorted ?st7 ?un7 ?ks7 ?nn7) rfl Tryz.call68 ztk rfl ?_
 case st7 => exact kvs_stamped hD.born hD.once
 case un7 => exact kvs_uniq hD.uniq
 case ks7 => intro x hx; obtain ⟨y, hy, rfl⟩ := List.mem_map.1 hx; have := hD.keys y hy; have := hD.n; dsimp only; omega
 case nn7 => simp [kvs]; omega
 rintro v L' ⟨s8, rfl, ok8, rfl⟩
 rw [show (kvs D.es).length = D.es.length by simp [kvs]] at *; rw [keysOf_kvs] at *
 refine yas ?_
 refine ynil' (kthn (hK2 _ _ ?_))
 clear hK2
 refine cret ?_
 first
   | (exfalso; omega; done)
   | (refine kretv Tryz.results52 rfl (L1 := [svSeg _ _ _, devP p la m _, devM m D] ++ R) zge ?_
      exact ⟨_, ⟨s8, rfl, ok8, rfl⟩, rfl⟩)
end W
end Go.Proofs
