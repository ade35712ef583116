/- A part of the proof: contracts and plain lemmas, each without conditions beyond those that it names. -/
import Derived.Test.YtnedokioglfipaaSecC
set_option linter.unusedVariables false
set_option linter.unusedSimpArgs false
set_option linter.constructorNameAsVariable false
namespace Go.Sl
set_option linter.unusedSimpArgs false
/-- The first sectors, as strings. -/
def secStr (D : Dev) (k : Nat) : List Value := (List.range k).map fun (j : Nat) => .string ⟨(D.sec (j : Int)).toArray⟩
theorem secStr_succ (D : Dev) (k : Nat) : secStr D (k + 1) = secStr D k ++ [.string ⟨(D.sec k).toArray⟩] := by simp [secStr, List.range_succ]
theorem secStr_get {D : Dev} {n k : Nat} (h : k < n) : (secStr D n)[k]? = some (.string ⟨(D.sec k).toArray⟩) := by simp [secStr, h]
theorem sec_crash_nil {D : Dev} (he : D.es = []) (ks : Keeps) (i : Int) : (D.crash ks).sec i = D.sec i := by
  have hp : D.pending = [] := by simp [Dev.pending, he]
  unfold Dev.sec Dev.crash
  simp only [hp, crashL_nil, he]
theorem crash_es (D : Dev) (ks : Keeps) : (D.crash ks).es = [] := rfl
theorem sec_lose {D : Dev} {i : Int} (h0 : 0 ≤ i) (h1 : i < D.l.length) : D.lose.sec i = zsec := by
  unfold Dev.sec Dev.lose
  simp only [eget, List.find?_nil, Option.map_none, Option.getD_none]
  rw [List.getElem?_replicate, if_pos (by omega)]
  rfl
theorem sec_take {s : Bytes} {sp : List Value} (h : s.length = 144) : ((bytesV s ++ sp).drop 0).take 144 = bytesV s := by
  rw [List.drop_zero, List.take_append_of_le_length (by simp [h]), List.take_of_length_le (by simp [h])]
theorem zsec_get {sp : List Value} {k : Nat} (h : k < 144) : (bytesV zsec ++ sp)[k]? = some (.int .u8 0) := by
  rw [List.getElem?_append_left (by simpa using h)]
  unfold bytesV zsec
  rw [List.map_replicate, List.getElem?_replicate, if_pos h]
  rfl
end Go.Sl
