/- A part of the proof: contracts and plain lemmas, each without conditions beyond those that it names. -/
import Derived.Test.YtebijajimmjknaaGreatS3
import Derived.Test.YtebijajimmjknaaGreatGC
set_option linter.unusedVariables false
set_option linter.unusedSimpArgs false
set_option linter.constructorNameAsVariable false
namespace Go.Proofs
open Go Go.Sl
namespace W
set_option linter.unusedVariables false
abbrev Q3 := Nat × Nat × Nat
def dev (q : Q3) (D : Dev) : Seg := devP q.1 q.2.1 q.2.2 D ++ devL q.2.1 D ++ devM q.2.2 D
abbrev dp (q : Q3) : Value := ptr q.1
abbrev nilP : Value := .pointer none
theorem dev_in {q : Q3} {D : Dev} {R : List Seg} : ([dev q D] ++ R).flatten.Perm (devS q.1 q.2.1 q.2.2 D ++ R).flatten := by simp [dev]
theorem dev_out {q : Q3} {D : Dev} {R : List Seg} : (devS q.1 q.2.1 q.2.2 D ++ R).flatten.Perm ([dev q D] ++ R).flatten := dev_in.symm
theorem devPM_in {q : Q3} {D : Dev} {R : List Seg} : ([dev q D] ++ R).flatten.Perm ([devP q.1 q.2.1 q.2.2 D, devM q.2.2 D] ++ (devL q.2.1 D :: R)).flatten := by
  simp only [dev, List.cons_append, List.nil_append, List.flatten_cons, List.append_assoc]
  exact List.Perm.append_left _ (List.perm_append_comm_assoc _ _ _)
theorem devP_in {q : Q3} {D : Dev} {R : List Seg} : ([dev q D] ++ R).flatten.Perm ([devP q.1 q.2.1 q.2.2 D] ++ (devL q.2.1 D :: devM q.2.2 D :: R)).flatten := by
  simp [dev]
theorem secNew [Env] {R : List Seg} {n : Nat} (hn : n ≤ 512) : Con Tryz.prog 6 [i64 n] [] R (fun v L' => ∃ q, v = dp q ∧ L' = [dev q (Dev.new n)]) :=
  (new hn).via (List.Perm.refl _) (fun _ _ ⟨p, la, m, h1, h2⟩ => ⟨_, ⟨(p, la, m), h1, rfl⟩, h2 ▸ dev_out (q := (p, la, m))⟩)
theorem secNewNil [Env] {R : List Seg} {n : Int} (hn : n < 0 ∨ 512 < n) : Con Tryz.prog 6 [i64 n] [] R (Is nilP []) := by
  refine con_enter Tryz.func6 Tryz.ntmps6 rfl rfl ?_
  refine cseq ?_; intro K1 hK1
  refine creg ?_
  refine y (ev_assign rfl) rfl ?_
  refine ynil' (kthn (hK1 _ _ ?_))
  clear hK1
  refine cseq ?_; intro K2 hK2
  refine cseq ?_; intro K3 hK3
  refine creg ?_
  refine y (ev_move rfl) rfl ?_
  refine y (ev_lss rfl rfl) rfl ?_
  refine y (ev_move rfl) rfl ?_
  refine ysplit 5 rfl (fun h5 => ?_) (fun h5 => ?_)
  ·(try simp only [sH] at h5)
   refine yg0 rfl rfl rfl rfl ?_
   refine yg0 rfl rfl rfl rfl ?_
   refine y (ev_pick1 rfl rfl) rfl ?_
   refine ynil' (kthn (hK3 _ _ ?_))
   clear hK3
   refine ccond1 rfl ?_
   refine cseq ?_; intro K4 hK4
   refine creg ?_
   refine y (ev_assign rfl) rfl ?_
   refine ynil' (kthn (hK4 _ _ ?_))
   clear hK4
   refine cret (kthr ?_)
   first
     | (exfalso; omega; done)
     | (refine kretv Tryz.results6 rfl (L1 := _) zge ?_
        exact ⟨_, ⟨by first | rfl | (simp [*]; done) | (simp [*]; omega) | simp_all, rfl⟩, by first | rfl | (simp [*]; done) | (simp [*]; omega) | simp_all⟩)
  ·(try simp only [sH] at h5)
   refine yg1 rfl rfl ?_
   refine y (ev_move rfl) rfl ?_
   refine yg1 rfl rfl ?_
   refine y (ev_gtr rfl rfl) rfl ?_
   refine y (ev_pick0 rfl rfl) rfl ?_
   refine ynil' (kthn (hK3 _ _ ?_))
   clear hK3
   refine ccond rfl (fun h11 => ?_) (fun h11 => ?_)
   ·(try simp only [sH] at h11)
    refine cseq ?_; intro K5 hK5
    refine creg ?_
    refine y (ev_assign rfl) rfl ?_
    refine ynil' (kthn (hK5 _ _ ?_))
    clear hK5
    refine cret (kthr ?_)
    first
      | (exfalso; omega; done)
      | (refine kretv Tryz.results6 rfl (L1 := _) zge ?_
         exact ⟨_, ⟨by first | rfl | (simp [*]; done) | (simp [*]; omega) | simp_all, rfl⟩, by first | rfl | (simp [*]; done) | (simp [*]; omega) | simp_all⟩)
   ·(try simp only [sH] at h11)
    exfalso; omega
theorem secWrite [Env] {R : List Seg} {q : Q3} {D : Dev} {i : Int} {bv : Value} {bs : Bytes} (hD : D.ok) (hb : RdB R bv bs) :
    Con Tryz.prog 20 [dp q, i64 i, bv] [dev q D] R (Is (i64 (D.write i bs).1) [dev q (D.write i bs).2]) :=
  (write hD (hb.mono (.drop .refl))).via devPM_in (fun _ _ ⟨h1, h2⟩ => ⟨_, ⟨h1, rfl⟩, h2 ▸ (by rw [show devL q.2.1 D = devL q.2.1 (D.write i bs).2 by unfold devL; rw [write_l]]; exact devPM_in.symm)⟩)
theorem secBarrier [Env] {R : List Seg} {q : Q3} {D : Dev} (hD : D.ok) : Con Tryz.prog 107 [dp q] [dev q D] R (Is (i64 D.barrier.1) [dev q D.barrier.2]) :=
  (barrier hD).via dev_in (fun _ _ ⟨h1, h2⟩ => ⟨_, ⟨h1, rfl⟩, h2 ▸ dev_out⟩)
theorem secCrash [Env] {R : List Seg} {q : Q3} {D : Dev} {kv : Value} {ks : Keeps} (hD : D.ok) (hk : RdV R kv ks.length (keepsV ks)) : Con Tryz.prog 15 [dp q, kv] [dev q D] R (Is (.tuple #[]) [dev q (D.crash ks)]) :=
  (crash hD hk).via dev_in (fun _ _ ⟨h1, h2⟩ => ⟨_, ⟨h1, rfl⟩, h2 ▸ dev_out⟩)
theorem secFuse [Env] {R : List Seg} {q : Q3} {D : Dev} {i : Int} : Con Tryz.prog 18 [dp q, i64 i] [dev q D] R (Is (.tuple #[]) [dev q (D.setFuse i)]) :=
  setFuse.via devP_in (fun _ _ ⟨h1, h2⟩ => ⟨_, ⟨h1, rfl⟩, h2 ▸ devP_in.symm⟩)
theorem secDead [Env] {R : List Seg} {q : Q3} {D : Dev} : Con Tryz.prog 63 [dp q] [dev q D] R (Is (.bool D.dead) [dev q D]) :=
  dead.via devP_in (fun _ _ ⟨h1, h2⟩ => ⟨_, ⟨h1, rfl⟩, h2 ▸ devP_in.symm⟩)
theorem secSectors [Env] {R : List Seg} {q : Q3} {D : Dev} : Con Tryz.prog 62 [dp q] [dev q D] R (Is (i64 D.l.length) [dev q D]) :=
  sectors.via devP_in (fun _ _ ⟨h1, h2⟩ => ⟨_, ⟨h1, rfl⟩, h2 ▸ devP_in.symm⟩)
theorem secRead [Env] {R : List Seg} {q : Q3} {D : Dev} {i : Int} (hD : D.ok) : Con Tryz.prog 26 [dp q, i64 i] [dev q D] R (KRead D i [dev q D]) :=
  (read hD).via dev_in (fun _ _ h => h.elim (fun ⟨h0, h1, h2⟩ => ⟨_, .inl ⟨h0, h1, rfl⟩, h2 ▸ dev_out⟩) (fun ⟨h0, s, h1, h2, h3⟩ => ⟨_, .inr ⟨h0, s, h1, h2, rfl⟩, h3 ▸ (by
    simp only [List.cons_append, List.flatten_cons]
    exact List.Perm.append_left _ (by simpa using dev_out))⟩))
end W
end Go.Proofs
