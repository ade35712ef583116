/- A part of the proof: contracts and plain lemmas, each without conditions beyond those that it names. -/
import Derived.Test.YtebijajimmjknaaGreatB5
set_option linter.unusedVariables false
set_option linter.unusedSimpArgs false
set_option linter.constructorNameAsVariable false
namespace Go.Proofs
open Go Go.Sl
namespace W
set_option linter.unusedVariables false
def stoE (D : Dev) (f n : Int) : Int := if n < 1 ∨ 32 < n ∨ f < 0 ∨ (D.l.length : Int) - 2 - 2 * n < f then 1 else if D.dead = true then 30 else 0
def KBOpen (D : Dev) (f n : Int) (q : Q3) (u : Value) (L' : List Seg) : Prop :=
 (stoE D f n ≠ 0 ∧ u = .tuple #[nilP, i64 (stoE D f n)] ∧ L' = [dev q D]) ∨ (stoE D f n = 0 ∧ ∃ s t ps, ps.length = n.toNat ∧ u = .tuple #[ptr s, i64 0] ∧ L' = [stoP s t ps (openS D f n.toNat), celP t q (openS D f n.toNat).tok, celsP ps q (openS D f n.toNat).cs, dev q D])
theorem cOpenCz [Env] {R : List Seg} {q : Q3} {D : Dev} {f a b : Int} {z : Nat} (hD : D.ok) (hd : D.dead = false) (h0 : 0 ≤ f) (hz : f + 2 * z + 1 < D.l.length) (ha : a = f + 2 * z) (hb : b = f + 2 * z + 1) :
   Con Tryz.prog 40 [dp q, i64 a, i64 b] [dev q D] R (fun u L' => ∃ c, u = .tuple #[ptr c, i64 0] ∧ L' = [celP c q (cz D f z), dev q D]) := by
 subst ha; subst hb
 have hE : openE D (f + 2 * z) (f + 2 * z + 1) = 0 := openE_ok (by omega) (by omega) (by omega) (by rw [hd]; decide)
 refine (cOpen hD).mono ?_
 rintro v L (⟨h1, _⟩ | ⟨_, c, rfl, rfl⟩)
 · exact absurd hE h1
 · exact ⟨c, rfl, rfl⟩
theorem cz_text {D : Dev} {f : Int} {z : Nat} (hd : D.dead = false) (h0 : 0 ≤ f) (hz : f + 2 * z + 1 < D.l.length) : (cz D f z).text.length ≤ 100 := by
 have hE : openE D (f + 2 * z) (f + 2 * z + 1) = 0 := openE_ok (by omega) (by omega) (by omega) (by rw [hd]; decide)
 exact (openC_ok hE).1.text
theorem bRaiseEnd [Env] {R : List Seg} {b o : Nat} {T : TypeId} {pre : List Value} {t l : List Int} {lv : Value} (hv : RdV R lv 4 (intsV l)) (ho : o = pre.length) (ht : t.length = 4) (hl : l.length = 4) :
   Con Tryz.prog 65 [.pointer (some ⟨b, o, none⟩), lv] [sc b (pre ++ intsV t) T] R (Is (.tuple #[]) [sc b (pre ++ intsV (maxT t l)) T]) := by
 have h := bRaise (b := b) (o := o) (T := T) (pre := pre) (post := []) hv ho ht hl
 simpa using h
theorem cels_snoc {ps : List Nat} {q : Q3} {cs : List CellM} {p : Nat} {C : CellM} (h : ps.length = cs.length) : celsP (ps ++ [p]) q (cs ++ [C]) = celsP ps q cs ++ celP p q C := by
 unfold celsP
 rw [List.zipWith_append h]
 simp
def bsTo (D : Dev) (f : Int) (k : Nat) : List BlkM := (List.range k).map fun i => blkOf (cz D f (i + 1)).text
def csTo (D : Dev) (f : Int) (k : Nat) : List CellM := (List.range k).map fun i => cz D f (i + 1)
theorem bsTo_succ (D : Dev) (f : Int) (k : Nat) : bsTo D f (k + 1) = bsTo D f k ++ [blkOf (cz D f (k + 1)).text] := by simp [bsTo, List.range_succ]
theorem csTo_succ (D : Dev) (f : Int) (k : Nat) : csTo D f (k + 1) = csTo D f k ++ [cz D f (k + 1)] := by simp [csTo, List.range_succ]
theorem bsTo_len (D : Dev) (f : Int) (k : Nat) : (bsTo D f k).length = k := by simp [bsTo]
theorem csTo_len (D : Dev) (f : Int) (k : Nat) : (csTo D f k).length = k := by simp [csTo]
abbrev rows0 : List RowM := List.replicate 32 RowM.zero
set_option maxRecDepth 10000 in
theorem zsto : (Value.agg Tryz.zeroCells128).cells = (stoV nilP 0 0 rows0 zeroT).toArray := by kernel_rfl
theorem fill_sto (n : Nat) : fillL [(0, 1), (1, 1), (2, 1), (3, 128), (131, 4)] (stoV nilP 0 0 rows0 zeroT) [(2, .int .i64 n)] = stoV nilP 0 n rows0 zeroT := by
 simp [fillL, splice, vcells, stoV]
theorem bOpen [Env] {R : List Seg} {q : Q3} {D : Dev} {f nb : Int} (hD : D.ok) : Con Tryz.prog 29 [dp q, i64 f, i64 nb] [dev q D] R (KBOpen D f nb q) := by
 have hn512 := hD.n
 refine con_enter Tryz.func29 Tryz.ntmps29 rfl rfl ?_
 refine cseq ?_; intro K1 hK1
 refine creg ?_
 refine yas ?_
 refine yas ?_
 refine ynil' (kthn (hK1 _ _ ?_))
 clear hK1
 refine cseq ?_; intro K2 hK2
 refine cblock ?_
 refine cseq ?_; intro K3 hK3
 refine creg ?_
 refine ymv ?_
 refine y (ev_eqlPnil rfl rfl Tryz.underlying24) rfl ?_
 refine ymv ?_
 refine ysplit 18 rfl (fun h6 => ?_) (fun h6 => ?_)
 ·(try simp only [sH] at h6)
  cases h6
 ·(try simp only [sH] at h6)
  refine ygo ?_
  refine ymv ?_
  refine ygo ?_
  refine y (ev_lss rfl rfl) rfl ?_
  refine ypb ?_
  refine ymv ?_
  refine ysplit 22 rfl (fun h11 => ?_) (fun h11 => ?_)
  ·(try simp only [sH] at h11)
   refine ygz ?_
   refine ygz ?_
   refine ypa ?_
   refine ymv ?_
   refine ygz ?_
   refine ygz ?_
   refine ypa ?_
   refine ymv ?_
   refine ygz ?_
   refine ygz ?_
   refine ygz ?_
   refine ygz ?_
   refine ygz ?_
   refine ygz ?_
   refine ygz ?_
   refine ygz ?_
   refine ypa ?_
   refine yas ?_
   refine ynil' (kthn (hK3 _ _ ?_))
   clear hK3
   refine ccond1 rfl ?_
   refine cseq ?_; intro K4 hK4
   refine creg ?_
   have hse : stoE D f nb = 1 := by unfold stoE; rw [if_pos (by omega)]
   refine yas ?_
   refine yas ?_
   refine ynil' (kthn (hK4 _ _ ?_))
   clear hK4
   refine cret (kbr (kthr ?_))
   first
     | (exfalso; omega; done)
     | (refine kretv2 Tryz.results29 rfl rfl (L1 := [dev q D] ++ R) zge ?_
        exact ⟨_, .inl ⟨by rw [hse]; decide, by rw [hse], rfl⟩, rfl⟩)
     | (refine kretv2 Tryz.results29 rfl rfl (L1 := [sc b45 _ 128, celP ct q C0, celsP ps q _, dev q D] ++ R) zge ?_
        exact ⟨_, .inr ⟨hse, b45, ct, ps, by simpa using hpl, rfl, by rw [Int.toNat_natCast]; simp only [stoP, openS, List.length_map, List.length_range, hC0, hIr10]; rfl⟩, rfl⟩)
  ·(try simp only [sH] at h11)
   refine ygo ?_
   refine ymv ?_
   refine ygo ?_
   refine y (ev_gtr rfl rfl) rfl ?_
   refine ypb ?_
   refine ymv ?_
   refine ysplit 26 rfl (fun h24 => ?_) (fun h24 => ?_)
   ·(try simp only [sH] at h24)
    refine ygz ?_
    refine ygz ?_
    refine ypa ?_
    refine ymv ?_
    refine ygz ?_
    refine ygz ?_
    refine ygz ?_
    refine ygz ?_
    refine ygz ?_
    refine ygz ?_
    refine ygz ?_
    refine ygz ?_
    refine ypa ?_
    refine yas ?_
    refine ynil' (kthn (hK3 _ _ ?_))
    clear hK3
    refine ccond1 rfl ?_
    refine cseq ?_; intro K5 hK5
    refine creg ?_
    have hse : stoE D f nb = 1 := by unfold stoE; rw [if_pos (by omega)]
    refine yas ?_
    refine yas ?_
    refine ynil' (kthn (hK5 _ _ ?_))
    clear hK5
    refine cret (kbr (kthr ?_))
    first
      | (exfalso; omega; done)
      | (refine kretv2 Tryz.results29 rfl rfl (L1 := [dev q D] ++ R) zge ?_
         exact ⟨_, .inl ⟨by rw [hse]; decide, by rw [hse], rfl⟩, rfl⟩)
      | (refine kretv2 Tryz.results29 rfl rfl (L1 := [sc b45 _ 128, celP ct q C0, celsP ps q _, dev q D] ++ R) zge ?_
         exact ⟨_, .inr ⟨hse, b45, ct, ps, by simpa using hpl, rfl, by rw [Int.toNat_natCast]; simp only [stoP, openS, List.length_map, List.length_range, hC0, hIr10]; rfl⟩, rfl⟩)
   ·(try simp only [sH] at h24)
    refine ygo ?_
    refine ymv ?_
    refine ygo ?_
    refine y (ev_lss rfl rfl) rfl ?_
    refine ypb ?_
    refine ymv ?_
    refine ysplit 30 rfl (fun h35 => ?_) (fun h35 => ?_)
    ·(try simp only [sH] at h35)
     refine ygz ?_
     refine ygz ?_
     refine ygz ?_
     refine ygz ?_
     refine ygz ?_
     refine ygz ?_
     refine ygz ?_
     refine ygz ?_
     refine ypa ?_
     refine yas ?_
     refine ynil' (kthn (hK3 _ _ ?_))
     clear hK3
     refine ccond1 rfl ?_
     refine cseq ?_; intro K6 hK6
     refine creg ?_
     have hse : stoE D f nb = 1 := by unfold stoE; rw [if_pos (by omega)]
     refine yas ?_
     refine yas ?_
     refine ynil' (kthn (hK6 _ _ ?_))
     clear hK6
     refine cret (kbr (kthr ?_))
     first
       | (exfalso; omega; done)
       | (refine kretv2 Tryz.results29 rfl rfl (L1 := [dev q D] ++ R) zge ?_
          exact ⟨_, .inl ⟨by rw [hse]; decide, by rw [hse], rfl⟩, rfl⟩)
       | (refine kretv2 Tryz.results29 rfl rfl (L1 := [sc b45 _ 128, celP ct q C0, celsP ps q _, dev q D] ++ R) zge ?_
          exact ⟨_, .inr ⟨hse, b45, ct, ps, by simpa using hpl, rfl, by rw [Int.toNat_natCast]; simp only [stoP, openS, List.length_map, List.length_range, hC0, hIr10]; rfl⟩, rfl⟩)
    ·(try simp only [sH] at h35)
     refine ygo ?_
     refine ymv ?_
     refine ygo ?_
     refine ymv ?_
     refine ygo ?_
     refine ycall (secSectors) rfl Tryz.call62 ztk rfl ?_
     rintro v L' ⟨rfl, rfl⟩
     refine ygo ?_
     refine y (ev_sub rfl rfl) rfl ?_
     rw [wr (by omega) (by omega)]
     refine ygo ?_
     refine ymv ?_
     refine ygo ?_
     refine y (ev_mul rfl rfl) rfl ?_
     rw [wr (by omega) (by omega)]
     refine ygo ?_
     refine y (ev_sub rfl rfl) rfl ?_
     rw [wr (by omega) (by omega)]
     refine ygo ?_
     refine y (ev_gtr rfl rfl) rfl ?_
     refine ypb ?_
     refine yas ?_
     refine ynil' (kthn (hK3 _ _ ?_))
     clear hK3
     refine ccond rfl (fun h50 => ?_) (fun h50 => ?_)
     ·(try simp only [sH] at h50)
      refine cseq ?_; intro K7 hK7
      refine creg ?_
      have hse : stoE D f nb = 1 := by unfold stoE; rw [if_pos (by omega)]
      refine yas ?_
      refine yas ?_
      refine ynil' (kthn (hK7 _ _ ?_))
      clear hK7
      refine cret (kbr (kthr ?_))
      first
        | (exfalso; omega; done)
        | (refine kretv2 Tryz.results29 rfl rfl (L1 := [dev q D] ++ R) zge ?_
           exact ⟨_, .inl ⟨by rw [hse]; decide, by rw [hse], rfl⟩, rfl⟩)
        | (refine kretv2 Tryz.results29 rfl rfl (L1 := [sc b45 _ 128, celP ct q C0, celsP ps q _, dev q D] ++ R) zge ?_
           exact ⟨_, .inr ⟨hse, b45, ct, ps, by simpa using hpl, rfl, by rw [Int.toNat_natCast]; simp only [stoP, openS, List.length_map, List.length_range, hC0, hIr10]; rfl⟩, rfl⟩)
     ·(try simp only [sH] at h50)
      refine cseq ?_; intro K8 hK8
      refine creg ?_
      refine ymv ?_
      refine ycall (secDead) rfl Tryz.call63 ztk rfl ?_
      rintro v L' ⟨rfl, rfl⟩
      refine yas ?_
      refine ynil' (kthn (hK8 _ _ ?_))
      clear hK8
      refine ccond rfl (fun h56 => ?_) (fun h56 => ?_)
      ·(try simp only [sH] at h56)
       have hse : stoE D f nb = 30 := by unfold stoE; rw [if_neg (by omega), if_pos h56]
       refine cseq ?_; intro K9 hK9
       refine creg ?_
       refine yas ?_
       refine yas ?_
       refine ynil' (kthn (hK9 _ _ ?_))
       clear hK9
       refine cret (kbr (kthr ?_))
       first
         | (exfalso; omega; done)
         | (refine kretv2 Tryz.results29 rfl rfl (L1 := [dev q D] ++ R) zge ?_
            exact ⟨_, .inl ⟨by rw [hse]; decide, by rw [hse], rfl⟩, rfl⟩)
         | (refine kretv2 Tryz.results29 rfl rfl (L1 := [sc b45 _ 128, celP ct q C0, celsP ps q _, dev q D] ++ R) zge ?_
            exact ⟨_, .inr ⟨hse, b45, ct, ps, by simpa using hpl, rfl, by rw [Int.toNat_natCast]; simp only [stoP, openS, List.length_map, List.length_range, hC0, hIr10]; rfl⟩, rfl⟩)
      ·(try simp only [sH] at h56)
       have hd : D.dead = false := h56
       have hse : stoE D f nb = 0 := by unfold stoE; rw [if_neg (by omega), if_neg (by rw [h56]; decide)]
       refine cskip' (kbn (kthn (hK2 _ _ ?_)))
       clear hK2
       refine cseq ?_; intro K10 hK10
       refine creg ?_
       obtain ⟨n, hnn⟩ : ∃ n : Nat, nb = n := ⟨nb.toNat, by omega⟩
       subst hnn
       refine ymv ?_
       refine y (ev_build (zs := stoV nilP 0 0 rows0 zeroT) (vs := stoV nilP 0 n rows0 zeroT) rfl Tryz.underlying128 Tryz.zeroValue128 zsto (.cons Tryz.sizeOf88 (.cons Tryz.sizeOf2 (.cons Tryz.sizeOf3 (.cons Tryz.sizeOf126 (.cons Tryz.sizeOf35 .nil))))) ⟨⟨_, _, rfl, rfl, (by rw [sto_len]; decide)⟩, trivial⟩ (fill_sto n)) rfl ?_
       refine ya (ac_box (vs := stoV nilP 0 n rows0 zeroT) rfl rfl) rfl ?_
       rintro v L' ⟨b45, rfl, rfl⟩
       refine yas ?_
       refine ynil' (kthn (hK10 _ _ ?_))
       clear hK10
       refine cseq ?_; intro K11 hK11
       refine creg ?_
       refine ymv ?_
       refine ymv ?_
       refine ymv ?_
       refine ymv ?_
       refine y (ev_add rfl rfl) rfl ?_
       rw [wr (by omega) (by omega)]
       refine ycall (cOpenCz (f := f) (z := 0) hD hd (by omega) (by omega) (by omega) (by omega)) rfl Tryz.call40 ztk rfl ?_
       rintro v L' ⟨ct, rfl, rfl⟩
       obtain ⟨C0, hC0⟩ : ∃ C, cz D f 0 = C := ⟨_, rfl⟩
       have htx := cz_text (z := 0) hd (show 0 ≤ f by omega) (by omega)
       rw [hC0] at htx ⊢
       refine ymv ?_
       refine yxt ?_
       refine yxt ?_
       refine yni ?_
       refine y (ev_fieldAddr 0 rfl Tryz.underlying128 rfl Tryz.sizeOf88) rfl ?_
       refine ya0 (ac_store rfl rfl (by first | rfl | exact svVal_one _ _ | assumption) Tryz.sizeOf88 zrp rfl rfl) ?_
       rintro v L' ⟨rfl, rfl⟩
       refine ynil' (kthn (hK11 _ _ ?_))
       clear hK11
       refine cseq ?_; intro K12 hK12
       have hJr10 : ∀ x : Int, (tokOf C0.text = x) → Sk 150 K12 ([(8, ptr b45), (0, dp q), (1, i64 f), (2, i64 n)]) ([sc b45 (stoV (ptr ct) x n rows0 zeroT) 128, celP ct q C0, dev q D] ++ R) := by
        rintro ep hIr10
        refine hK12 _ _ ?_
        refine cseq ?_; intro K13 hK13
        refine cseq ?_; intro K14 hK14
        refine creg ?_
        have hz0 : celsP [] q (csTo D f 0) = [] := rfl
        refine yreP (L' := [sc b45 (stoV (ptr ct) ep n rows0 zeroT) 128, celP ct q C0, celsP [] q (csTo D f 0), dev q D] ++ R) (by simp [hz0]) ?_
        refine ymv ?_
        refine ymv ?_
        refine ynil' (kthn (hK14 _ _ ?_))
        clear hK14
        have hJ1 : ∀ x : Nat × List Nat, ((x.1 ≤ n ∧ x.2.length = x.1) ∧ (x.1 = n)) → Sk 150 K13 ([(75, i64 x.1), (74, i64 n), (8, ptr b45), (0, dp q), (1, i64 f), (2, i64 n)]) ([sc b45 (stoV (ptr ct) ep n (rowsOf x.2 (bsTo D f x.1)) (tabTo D f x.1)) 128, celP ct q C0, celsP x.2 q (csTo D f x.1), dev q D] ++ R) := by
         rintro ⟨k, ps⟩ ⟨hI1, hX1⟩
         refine hK13 _ _ ?_
         obtain ⟨hk, hpl⟩ := hI1; dsimp only at hk hpl ⊢
         dsimp only at hX1; subst hX1
         refine cseq ?_; intro K15 hK15
         refine creg ?_
         refine ymv ?_
         refine yas ?_
         refine yas ?_
         refine ynil' (kthn (hK15 _ _ ?_))
         clear hK15
         refine cret ?_
         first
           | (exfalso; omega; done)
           | (refine kretv2 Tryz.results29 rfl rfl (L1 := [dev q D] ++ R) zge ?_
              exact ⟨_, .inl ⟨by rw [hse]; decide, by rw [hse], rfl⟩, rfl⟩)
           | (refine kretv2 Tryz.results29 rfl rfl (L1 := [sc b45 _ 128, celP ct q C0, celsP ps q _, dev q D] ++ R) zge ?_
              exact ⟨_, .inr ⟨hse, b45, ct, ps, by simpa using hpl, rfl, by rw [Int.toNat_natCast]; simp only [stoP, openS, List.length_map, List.length_range, hC0, hIr10]; rfl⟩, rfl⟩)
        clear hK13
        refine cblock ?_
        refine cloop (A := Nat × List Nat) (fun x => [(75, i64 x.1), (74, i64 n), (8, ptr b45), (0, dp q), (1, i64 f), (2, i64 n)]) (fun x => [sc b45 (stoV (ptr ct) ep n (rowsOf x.2 (bsTo D f x.1)) (tabTo D f x.1)) 128, celP ct q C0, celsP x.2 q (csTo D f x.1), dev q D] ++ R) (fun x => x.1 ≤ n ∧ x.2.length = x.1) (fun x => n - x.1) ((0, [])) ?_ zsub zge ?_
        · exact ⟨Nat.zero_le _, rfl⟩
        rintro ⟨k, ps⟩ hI1 KL1 hL1
        have hI1o := hI1
        obtain ⟨hk, hpl⟩ := hI1; dsimp only at hk hpl ⊢
        refine cseq ?_; intro K16 hK16
        refine creg ?_
        refine y (ev_lss rfl rfl) rfl ?_
        refine ynil' (kthn (hK16 _ _ ?_))
        clear hK16
        refine cseq ?_; intro K17 hK17
        refine ccond rfl (fun h81 => ?_) (fun h81 => ?_)
        ·(try simp only [sH] at h81)
         refine cskip' (kthn (hK17 _ _ ?_))
         clear hK17
         refine cseq ?_; intro K18 hK18
         have hJr20 : ∀ x : Nat, (k < n) → Sk 150 K18 ([(75, i64 k), (74, i64 n), (8, ptr b45), (0, dp q), (1, i64 f), (2, i64 n)]) ([sc b45 (stoV (ptr ct) ep n (rowsOf (ps ++ [x]) (bsTo D f (k + 1))) (tabTo D f (k + 1))) 128, celP ct q C0, celP x q (cz D f (k + 1)), celsP ps q (csTo D f k), dev q D] ++ R) := by
          rintro cb hIr20
          refine hK18 _ _ ?_
          have hcl := csTo_len D f k; have hkn := hIr20
          refine creg ?_
          refine y (ev_add rfl rfl) rfl ?_
          rw [show IntKind.i64.wrap ((k:Int) + 1) = ((k+1 : Nat) : Int) by rw [wr (by omega) (by omega)]; rfl]
          refine ymv ?_
          refine ynil' (kthn ?_)
          refine kpm (L' := [sc b45 (stoV (ptr ct) ep n (rowsOf (ps ++ [cb]) (bsTo D f (k + 1))) (tabTo D f (k + 1))) 128, celP ct q C0, celsP (ps ++ [cb]) q (csTo D f (k + 1)), dev q D] ++ R) ?_ (hL1 (k + 1, ps ++ [cb]) ⟨by dsimp only; omega, by simp [hpl]⟩ (by dsimp only; omega) _ _ zsub zge)
          rw [csTo_succ, cels_snoc (by omega)]
          simp only [List.cons_append, List.nil_append, List.flatten_cons, List.append_assoc]
          refine List.Perm.append_left _ (List.Perm.append_left _ ?_)
          exact List.perm_append_comm_assoc _ _ _
         clear hK18
         refine cblock ?_
         refine cseq ?_; intro K19 hK19
         refine creg ?_
         refine ymv ?_
         refine yas ?_
         refine ynil' (kthn (hK19 _ _ ?_))
         clear hK19
         refine cseq ?_; intro K20 hK20
         refine creg ?_
         refine ymv ?_
         refine ymv ?_
         refine yni ?_
         refine y (ev_fieldAddr 3 rfl Tryz.underlying128 rfl Tryz.sizeOf126) rfl ?_
         refine y (ev_ixAddrA rfl rfl Tryz.underlying126 Tryz.sizeOf125 (by omega) (by omega)) rfl ?_
         simp only [Int.toNat_natCast]
         refine yas ?_
         refine ynil' (kthn (hK20 _ _ ?_))
         clear hK20
         refine cseq ?_; intro K21 hK21
         refine creg ?_
         refine ymv ?_
         refine ymv ?_
         refine ymv ?_
         refine y (ev_add rfl rfl) rfl ?_
         rw [wr (by omega) (by omega)]
         refine ymv ?_
         refine y (ev_mul rfl rfl) rfl ?_
         rw [wr (by omega) (by omega)]
         refine y (ev_add rfl rfl) rfl ?_
         rw [wr (by omega) (by omega)]
         refine ymv ?_
         refine y (ev_add rfl rfl) rfl ?_
         rw [wr (by omega) (by omega)]
         refine ymv ?_
         refine y (ev_mul rfl rfl) rfl ?_
         rw [wr (by omega) (by omega)]
         refine y (ev_add rfl rfl) rfl ?_
         rw [wr (by omega) (by omega)]
         refine ycall (cOpenCz (f := f) (z := k + 1) hD hd (by omega) (by omega) (by omega) (by omega)) rfl Tryz.call40 ztk rfl ?_
         rintro v L' ⟨cb, rfl, rfl⟩
         obtain ⟨C1, hC1⟩ : ∃ C, cz D f (k + 1) = C := ⟨_, rfl⟩
         have htx1 := cz_text (z := k + 1) hd (show 0 ≤ f by omega) (by omega)
         rw [hC1] at htx1 ⊢
         have hbl := bsTo_len D f k
         have hcl := csTo_len D f k
         have hrl : (rowsOf ps (bsTo D f k)).length = 32 := rowsOf_len (by omega) (by omega)
         have hr0 : (rowsOf ps (bsTo D f k))[k]? = some RowM.zero := by have := rowsOf_next (ps := ps) (bs := bsTo D f k) (by omega) (by omega); rwa [hbl] at this
         have hset : ∀ x : RowM, ((rowsOf ps (bsTo D f k)).set k x)[k]? = some x := fun x => List.getElem?_set_self (by omega)
         have hadd : (rowsOf ps (bsTo D f k)).set k ⟨ptr cb, blkOf C1.text⟩ = rowsOf (ps ++ [cb]) (bsTo D f (k + 1)) := by rw [bsTo_succ, hC1, ← rowsOf_add (by omega) (by omega), hbl]
         refine ymv ?_
         refine yxt ?_
         refine yxt ?_
         refine yni ?_
         refine y (ev_fieldAddr 0 rfl Tryz.underlying125 rfl Tryz.sizeOf88) rfl ?_
         refine ya0 (ac_store rfl rfl rfl Tryz.sizeOf88 zrp (by simp [sto_len, hrl]; omega) (sto_set (y := ⟨ptr cb, ⟨0, 0, []⟩⟩) hr0 (by decide) rfl)) ?_
         rintro v L' ⟨rfl, rfl⟩
         refine ynil' (kthn (hK21 _ _ ?_))
         clear hK21
         refine cseq ?_; intro K22 hK22
         refine creg ?_
         refine ymv ?_
         refine yni ?_
         refine y (ev_fieldAddr 3 rfl Tryz.underlying125 rfl Tryz.sizeOf9) rfl ?_
         refine ya0 (ac_store rfl rfl rfl Tryz.sizeOf9 zrp (by simp [sto_len, hrl]; omega) (sto_set (y := ⟨ptr cb, .zero⟩) (hset ⟨ptr cb, ⟨0, 0, []⟩⟩) (by decide) rfl)) ?_
         rintro v L' ⟨rfl, rfl⟩
         rw [List.set_set]
         refine ynil' (kthn (hK22 _ _ ?_))
         clear hK22
         refine cseq ?_; intro K23 hK23
         refine creg ?_
         refine ymv ?_
         refine yni ?_
         refine y (ev_fieldAddr 0 rfl Tryz.underlying125 rfl Tryz.sizeOf88) rfl ?_
         refine y (ev_load rfl Tryz.isAgg88 zin (sto_at (r := 0) (hset ⟨ptr cb, .zero⟩) (by decide))) rfl ?_
         refine ycall (cGet) rfl Tryz.call42 ztk rfl ?_
         rintro v L' ⟨rfl, rfl⟩
         refine ycall (bRead (bs := C1.text) ?rl120 ?rn120) rfl Tryz.call64 ztk rfl ?_
         case rl120 => omega
         case rn120 => decide
         rintro v L' ⟨sn110, st110, rfl, ok110, rfl⟩
         have hbk : blkOk C1.text = ((readB C1.text 30 6 1).2 && decide ((((decM C1.text).1.texts.getD 0 []).length : Int) = 8)) := rfl
         have hbo : blkOf C1.text = if blkOk C1.text = true then ⟨(decM C1.text).1.nums.getD 0 0, (decM C1.text).1.nums.getD 1 0, (decM C1.text).1.texts.getD 0 []⟩ else .zero := rfl
         have htt : tabTo D f (k + 1) = if blkOk C1.text = true then maxT (tabTo D f k) ((decM C1.text).1.nums.drop 2) else tabTo D f k := by show tabOf _ _ = _; rw [hC1]; rfl
         have hrb1 : (readB C1.text 30 6 1).2 = true → (decM C1.text).1.nums.length = 6 ∧ (decM C1.text).1.texts.length = 1 := fun h => by unfold readB at h; simp only [Bool.and_eq_true, decide_eq_true_eq] at h; omega
         generalize (readB C1.text 30 6 1).2 = ob1 at *
         generalize decM C1.text = de1 at *
         obtain ⟨rc1, er1⟩ := de1
         dsimp only at ok110 hrb1 hbk hbo htt ⊢
         have okn1 := ok110.n
         have okt1 := ok110.t
         have hvt1 : RdV [svSeg st110 9 (strsV rc1.texts)] (svVal st110 rc1.texts.length) rc1.texts.length (strsV rc1.texts) := rdV_sv .z okt1
         have hvn1 : RdV [svSeg sn110 2 (intsV rc1.nums)] (svVal sn110 rc1.nums.length) rc1.nums.length (intsV rc1.nums) := rdV_sv .z okn1
         unfold recV
         refine ymv ?_
         refine yxt ?_
         refine yxt ?_
         refine ya (ac_alloc Tryz.zeroValue100 rfl) rfl ?_
         rintro v L' ⟨b13, rfl, rfl⟩
         refine ya0 (ac_storeAll rfl rfl (by first | exact bytesV_one _ | (simp [Value.oneCell']; done) | (simp only [List.forall_mem_cons, List.not_mem_nil, false_implies, implies_true, svVal_one, and_true, true_and, and_self]; first | done | simp [Value.oneCell'])) Tryz.sizeOf100 zrp (by first | rfl | assumption | (simp [*]; done) | (simp [*]; omega)) (by first | rfl | assumption | (simp [*]; done) | (simp [*]; omega))) ?_
         rintro v L' ⟨rfl, rfl⟩
         refine yas ?_
         refine ynil' (kthn (hK23 _ _ ?_))
         clear hK23
         refine cseq ?_; intro K24 hK24
         refine creg ?_
         refine ymv ?_
         refine ymv ?_
         refine ysplit 114 rfl (fun h129 => ?_) (fun h129 => ?_)
         ·(try simp only [sH] at h129)
          obtain ⟨hn6, ht1⟩ := hrb1 h129
          rw [h129, Bool.true_and] at hbk
          refine ygo ?_
          refine y (ev_fieldAddr 2 rfl Tryz.underlying100 rfl Tryz.sizeOf98) rfl ?_
          refine ygo ?_
          refine y (ev_load rfl Tryz.isAgg98 zin rfl) rfl ?_
          refine ygo ?_
          refine y (ev_ixV hvt1 rfl rfl Tryz.underlying98 Tryz.sizeOf9 (by omega) (by omega)) rfl ?_
          refine ygo ?_
          refine y (ev_loadV 0 hvt1 zge rfl Tryz.isAgg9 rfl (strsV_get (getd_get (d := []) (by omega)))) rfl ?_
          refine ygo ?_
          first
            | refine y (ev_lenStr rfl Tryz.underlying9) rfl ?_
            | refine y (ev_lenS rfl Tryz.underlying9) rfl ?_
          refine ygo ?_
          refine y (ev_eql rfl rfl) rfl ?_
          refine ypa ?_
          refine ynil' (kthn (hK24 _ _ ?_))
          clear hK24
          refine ccond rfl (fun h137 => ?_) (fun h137 => ?_)
          ·(try simp only [sH] at h137)
           rw [if_pos (by rw [hbk]; exact decide_eq_true h137)] at hbo htt
           rw [hbo] at hadd
           obtain ⟨bn, cn, spn, rfl, hcn⟩ := sv_some okn1 (by omega)
           refine cseq ?_; intro K25 hK25
           refine cdraw 20 [(0, true), (1, true), (2, true), (3, true), (4, true), (5, true), (6, true), (7, true), (8, true), (9, true), (10, true), (11, true), (12, true), (13, true), (14, true), (15, true), (16, true), (17, false), (18, true), (19, true)] ([sc b13 _ 100, svSeg (some (bn, cn, spn)) 2 (intsV rc1.nums), svSeg st110 9 (strsV rc1.texts)] ++ R) Tryz.mixed (by kernel_rfl) zge ?_
           refine hr rfl (ev_move rfl) rfl ?_
           refine hr rfl (ev_move rfl) rfl ?_
           refine hr rfl (ev_fieldAddr 1 rfl Tryz.underlying100 rfl Tryz.sizeOf53) rfl ?_
           refine hr rfl (ev_load rfl Tryz.isAgg53 zin rfl) rfl ?_
           refine hr rfl (ev_ixV hvn1 rfl rfl Tryz.underlying53 Tryz.sizeOf2 (by omega) (by omega)) rfl ?_
           refine hr rfl (ev_loadV 0 hvn1 zge rfl Tryz.isAgg2 rfl (intsV_get (getd_get (d := 0) (by omega)))) rfl ?_
           refine hr rfl (ev_fieldAddr 1 rfl Tryz.underlying100 rfl Tryz.sizeOf53) rfl ?_
           refine hr rfl (ev_load rfl Tryz.isAgg53 zin rfl) rfl ?_
           refine hr rfl (ev_ixV hvn1 rfl rfl Tryz.underlying53 Tryz.sizeOf2 (by omega) (by omega)) rfl ?_
           refine hr rfl (ev_loadV 1 hvn1 zge rfl Tryz.isAgg2 rfl (intsV_get (getd_get (d := 0) (by omega)))) rfl ?_
           refine hr rfl (ev_build (zs := _) rfl Tryz.underlying72 Tryz.zeroValue72 rfl (.cons Tryz.sizeOf2 (.cons Tryz.sizeOf2 .nil)) ⟨⟨_, _, rfl, (by first | rfl | simp), (by first | decide | simp)⟩, ⟨⟨_, _, rfl, (by first | rfl | simp), (by first | decide | simp)⟩, trivial⟩⟩ (by dsimp [fillL, splice, vcells] <;> rfl)) rfl ?_
           refine hr rfl (ev_fieldAddr 2 rfl Tryz.underlying100 rfl Tryz.sizeOf98) rfl ?_
           refine hr rfl (ev_load rfl Tryz.isAgg98 zin rfl) rfl ?_
           refine hr rfl (ev_ixV hvt1 rfl rfl Tryz.underlying98 Tryz.sizeOf9 (by omega) (by omega)) rfl ?_
           refine hr rfl (ev_loadV 0 hvt1 zge rfl Tryz.isAgg9 rfl (strsV_get (getd_get (d := []) (by omega)))) rfl ?_
           refine hr rfl (ev_nil rfl) rfl ?_
           refine hr rfl (ev_fieldAddr 1 rfl Tryz.underlying125 rfl Tryz.sizeOf72) rfl ?_
           refine haN rfl (ac_storeN rfl rfl (by intro u hu; simp at hu; rcases hu with rfl | rfl <;> rfl) Tryz.sizeOf72 zrp rfl (by simp [sto_len, hrl]; omega) (sto_setN (y := ⟨ptr cb, ⟨rc1.nums.getD 0 0, rc1.nums.getD 1 0, noughts⟩⟩) (hset ⟨ptr cb, .zero⟩) (by simp) rfl)) ?_
           rintro v L' ⟨rfl, rfl⟩; refine ⟨zge, ?_⟩
           rw [List.set_set]
           refine hr rfl (ev_nil rfl) rfl ?_
           refine hr rfl (ev_fieldAddr 3 rfl Tryz.underlying125 rfl Tryz.sizeOf9) rfl ?_
           refine hnil ?_
           refine ya0 (ac_store rfl rfl rfl Tryz.sizeOf9 zrp (by simp [sto_len, hrl]; omega) (sto_set (y := ⟨ptr cb, ⟨rc1.nums.getD 0 0, rc1.nums.getD 1 0, rc1.texts.getD 0 []⟩⟩) (hset ⟨ptr cb, ⟨rc1.nums.getD 0 0, rc1.nums.getD 1 0, noughts⟩⟩) (by decide) rfl)) ?_
           rintro v L' ⟨rfl, rfl⟩
           rw [List.set_set, hadd]
           refine hnoP' (kthn (hK25 _ _ ?_))
           clear hK25
           refine cdraw 6 [(0, true), (1, true), (2, true), (3, true), (4, true), (5, true)] ([sc b13 _ 100, svSeg (some (bn, cn, spn)) 2 (intsV rc1.nums)] ++ R) Tryz.mixed (by kernel_rfl) zge ?_
           refine hr rfl (ev_move rfl) rfl ?_
           refine hr rfl (ev_nil rfl) rfl ?_
           refine hr rfl (ev_fieldAddr 131 rfl Tryz.underlying128 rfl Tryz.sizeOf35) rfl ?_
           refine hr rfl (ev_fieldAddr 1 rfl Tryz.underlying100 rfl Tryz.sizeOf53) rfl ?_
           refine hr rfl (ev_load rfl Tryz.isAgg53 zin rfl) rfl ?_
           refine hr rfl (ev_slL rfl rfl Tryz.underlying53 Tryz.sizeOf2 (by omega) (by omega)) rfl ?_
           rw [show rc1.nums.length - (2 : Int).toNat = 4 by rw [hn6]; rfl, if_neg (show ¬ cn = (2 : Int).toNat by show ¬ cn = 2; omega)]
           refine hnil ?_
           refine ycall (bRaiseEnd (pre := [ptr ct, .int .i64 ep, .int .i64 n] ++ rowsV (rowsOf (ps ++ [cb]) (bsTo D f (k + 1)))) (t := tabTo D f k) (l := rc1.nums.drop 2) ?rv165 ?ro165 (tabTo_ok D f k).len ?rl165) rfl Tryz.call65 ztk rfl ?_
           case rv165 => (refine rdV_in (b := bn) (o := 0 + (2 : Int).toNat * 1) (vs := intsV rc1.nums ++ spn) (k := 4) zin (by simp [intsV, hn6]) ?_; show ((intsV rc1.nums ++ spn).drop 2).take 4 = _; rw [List.drop_append_of_le_length (by simp [intsV, hn6]), List.take_append_of_le_length (by simp [intsV, hn6]), List.take_of_length_le (by simp [intsV, hn6])]; simp [intsV])
           case ro165 => exact (sto_pre (show (rowsOf (ps ++ [cb]) (bsTo D f (k + 1))).length = 32 by rw [← hadd]; simp [hrl])).symm
           case rl165 => simp [hn6]
           rintro v L' ⟨rfl, rfl⟩
           rw [← htt]
           refine hnoP' (kbn (kthn ?_))
           rw [← hC1]; exact ksub zsub zge (hJr20 cb (by omega))
          ·(try simp only [sH] at h137)
           rw [if_neg (by rw [hbk, decide_eq_false h137]; decide)] at hbo htt
           rw [hbo] at hadd
           rw [hadd, ← htt]
           refine cskip' (kbn (kthn ?_))
           rw [← hC1]; exact ksub zsub zge (hJr20 cb (by omega))
         ·(try simp only [sH] at h129)
          rw [h129, Bool.false_and] at hbk
          rw [if_neg (by rw [hbk]; decide)] at hbo htt
          rw [hbo] at hadd
          rw [hadd, ← htt]
          refine ygz ?_
          refine ygz ?_
          refine ygz ?_
          refine ygz ?_
          refine ygz ?_
          refine ygz ?_
          refine ypb ?_
          refine ynil' (kthn (hK24 _ _ ?_))
          clear hK24
          refine ccond0 rfl ?_
          refine cskip' (kbn (kthn ?_))
          rw [← hC1]; exact ksub zsub zge (hJr20 cb (by omega))
        ·(try simp only [sH] at h81)
         refine cexit (kthx (kthx (kbx (kthn ?_))))
         exact ksub zsub zge (hJ1 ⟨k, ps⟩ ⟨hI1o, by first | trivial | omega⟩)
       clear hK12
       refine cseq ?_; intro K26 hK26
       refine creg ?_
       refine ymv ?_
       refine yni ?_
       refine y (ev_fieldAddr 0 rfl Tryz.underlying128 rfl Tryz.sizeOf88) rfl ?_
       refine y (ev_load rfl Tryz.isAgg88 zin rfl) rfl ?_
       refine ycall (cGet) rfl Tryz.call42 ztk rfl ?_
       rintro v L' ⟨rfl, rfl⟩
       refine ycall (bRead (bs := C0.text) ?rl172 ?rn172) rfl Tryz.call64 ztk rfl ?_
       case rl172 => omega
       case rn172 => decide
       rintro v L' ⟨sn63, st63, rfl, ok63, rfl⟩
       have htk : tokOf C0.text = if (readB C0.text 31 1 0).2 = true then (decM C0.text).1.nums.getD 0 0 else 0 := rfl
       have hrb : (readB C0.text 31 1 0).2 = true → (decM C0.text).1.nums.length = 1 := fun h => by unfold readB at h; simp only [Bool.and_eq_true, decide_eq_true_eq] at h; omega
       generalize (readB C0.text 31 1 0).2 = ob at *
       generalize decM C0.text = de at *
       obtain ⟨rc, er⟩ := de
       dsimp only at ok63 hrb htk ⊢
       have okn := ok63.n
       have hvn : RdV [svSeg sn63 2 (intsV rc.nums)] (svVal sn63 rc.nums.length) rc.nums.length (intsV rc.nums) := rdV_sv .z okn
       unfold recV
       refine ymv ?_
       refine yxt ?_
       refine yxt ?_
       refine ya (ac_alloc Tryz.zeroValue100 rfl) rfl ?_
       rintro v L' ⟨b9, rfl, rfl⟩
       refine ya0 (ac_storeAll rfl rfl (by first | exact bytesV_one _ | (simp [Value.oneCell']; done) | (simp only [List.forall_mem_cons, List.not_mem_nil, false_implies, implies_true, svVal_one, and_true, true_and, and_self]; first | done | simp [Value.oneCell'])) Tryz.sizeOf100 zrp (by first | rfl | assumption | (simp [*]; done) | (simp [*]; omega)) (by first | rfl | assumption | (simp [*]; done) | (simp [*]; omega))) ?_
       rintro v L' ⟨rfl, rfl⟩
       refine yas ?_
       refine ynil' (kthn (hK26 _ _ ?_))
       clear hK26
       refine cseq ?_; intro K27 hK27
       refine creg ?_
       refine ymv ?_
       refine ynil' (kthn (hK27 _ _ ?_))
       clear hK27
       refine ccond rfl (fun h180 => ?_) (fun h180 => ?_)
       ·(try simp only [sH] at h180)
        have hn1 := hrb h180
        rw [if_pos h180] at htk
        refine creg ?_
        refine ymv ?_
        refine y (ev_fieldAddr 1 rfl Tryz.underlying100 rfl Tryz.sizeOf53) rfl ?_
        refine y (ev_load rfl Tryz.isAgg53 zin rfl) rfl ?_
        refine y (ev_ixV hvn rfl rfl Tryz.underlying53 Tryz.sizeOf2 (by omega) (by omega)) rfl ?_
        refine y (ev_loadV 0 hvn zge rfl Tryz.isAgg2 rfl (intsV_get (getd_get (d := 0) (by omega)))) rfl ?_
        refine yni ?_
        refine y (ev_fieldAddr 1 rfl Tryz.underlying128 rfl Tryz.sizeOf2) rfl ?_
        refine ya0 (ac_store rfl rfl (by first | rfl | exact svVal_one _ _ | assumption) Tryz.sizeOf2 zrp rfl rfl) ?_
        rintro v L' ⟨rfl, rfl⟩
        refine ynil' (kthn ?_)
        exact ksub zsub zge (hJr10 _ htk)
       ·(try simp only [sH] at h180)
        rw [if_neg (by rw [h180]; decide)] at htk
        refine cskip' (kthn ?_)
        exact ksub zsub zge (hJr10 _ htk)
end W
end Go.Proofs
