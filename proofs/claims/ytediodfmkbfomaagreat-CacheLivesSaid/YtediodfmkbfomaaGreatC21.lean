/- A part of the proof: contracts and plain lemmas, each without conditions beyond those that it names. -/
import Derived.Test.YtediodfmkbfomaaGreatC15
import Derived.Test.YtediodfmkbfomaaGreatCacP
import Derived.Test.YtediodfmkbfomaaGreatGI
set_option linter.unusedVariables false
set_option linter.unusedSimpArgs false
set_option linter.constructorNameAsVariable false
namespace Go.Proofs
open Go Go.Sl
namespace W
set_option linter.unusedVariables false
abbrev wantS (b : Nat) (W : Am EntM) (cw : Nat) : Seg := so b (.map (ents (akv entV W)) cw)
theorem want_len (W : Am EntM) : (ents (akv entV W)).size = W.length := by simp [ents, akv]
theorem tmod4 (i : Nat) : ((i : Nat) : Int).tmod 4 = (i : Int) % 4 := Int.tmod_eq_emod_of_nonneg (by omega)
theorem tmod_le' {a b : Int} (h0 : 0 ≤ a) (hb : 0 < b) : 0 ≤ a.tmod b ∧ a.tmod b < b := by
  rw [Int.tmod_eq_emod_of_nonneg h0]
  exact ⟨Int.emod_nonneg _ (by omega), Int.emod_lt_of_pos _ hb⟩
theorem bytesV_at {bs : Bytes} {i : Nat} {b : UInt8} (h : bs[i]? = some b) : (bytesV bs)[i]? = some (.int .u8 b.toNat) := by simp [bytesV, h]
set_option maxHeartbeats 8000000 in
theorem lawCLives [Env] {R : List Seg} {bv : Int} {lv cv : Value} {bs : Bytes} {cl : List Bool} (hb : 0 ≤ bv ∧ bv ≤ 255) (hl : RdV R lv bs.length (bytesV bs)) (hc : RdV R cv cl.length (boolsV cl)) :
    Con Tryz.prog 3 [.int .u8 bv, lv, cv] [] R (Is (.bool true) []) := by
  have hvl := hl.lenVal
  have hcl := hc.lenVal
  refine con_enter Tryz.func3 Tryz.ntmps3 rfl rfl ?_
  refine cseq ?_; intro K1 hK1
  refine creg ?_
  refine y (ev_assign rfl) rfl ?_
  refine ynil' (kthn (hK1 _ _ ?_))
  clear hK1
  refine cseq ?_; intro K2 hK2
  refine cseq ?_; intro K3 hK3
  refine creg ?_
  refine ycall (awake9) rfl Tryz.call11 ztk rfl ?_
  rintro v L' ⟨rfl, rfl⟩
  skip
  ·skip
   refine y (ev_not rfl) rfl ?_
   refine ynil' (kthn (hK3 _ _ ?_))
   clear hK3
   refine ccond0 rfl ?_
   refine cskip' (kthn (hK2 _ _ ?_))
   clear hK2
   refine cseq ?_; intro K4 hK4
   refine creg ?_
   refine y (ev_move rfl) rfl ?_
   refine ycall (nOpen9 ?ra5 ?rb5) rfl Tryz.call12 ztk rfl ?_
   case ra5 => exact hb.1
   case rb5 => exact hb.2
   rintro v L' ⟨q34, A34, sl34, C34, D34, rfl, hS34, hv34, ok34, rfl⟩
   obtain ⟨n8, n37⟩ := nCa_le bv
   generalize nCa bv = n at *
   generalize C34 = C0 at *
   generalize D34 = D0 at *
   have hL0 := new_lis hS34 hv34
   refine y (ev_move rfl) rfl ?_
   refine y (ev_extract rfl rfl) rfl ?_
   refine y (ev_extract rfl rfl) rfl ?_
   refine y (ev_extract rfl rfl) rfl ?_
   refine y (ev_assign rfl) rfl ?_
   refine y (ev_assign rfl) rfl ?_
   refine y (ev_assign rfl) rfl ?_
   refine ynil' (kthn (hK4 _ _ ?_))
   clear hK4
   refine cseq ?_; intro K5 hK5
   refine cseq ?_; intro K6 hK6
   refine creg ?_
   refine y (ev_move rfl) rfl ?_
   skip
   ·skip
    refine y (ev_eqlPnil rfl rfl Tryz.underlying26) rfl ?_
    refine ynil' (kthn (hK6 _ _ ?_))
    clear hK6
    refine ccond0 rfl ?_
    refine cskip' (kthn (hK5 _ _ ?_))
    clear hK5
    refine cseq ?_; intro K7 hK7
    refine creg ?_
    refine ya (ac_makeMap) rfl ?_
    rintro v L' ⟨b40, rfl, rfl⟩
    refine y (ev_assign rfl) rfl ?_
    refine ynil' (kthn (hK7 _ _ ?_))
    clear hK7
    refine cseq ?_; intro K8 hK8
    refine creg ?_
    refine y (ev_assign rfl) rfl ?_
    refine ynil' (kthn (hK8 _ _ ?_))
    clear hK8
    refine cseq ?_; intro K9 hK9
    refine cseq ?_; intro K10 hK10
    refine creg ?_
    refine y (ev_assign rfl) rfl ?_
    refine ynil' (kthn (hK10 _ _ ?_))
    clear hK10
    have hJ1 : ∀ x : Nat × CaM × Dev × Sv × Am EntM × Nat × Nat, ((LiS n x.1 (600 * x.1 + 1) x.2.1 x.2.2.1 x.2.2.2.2.1 x.2.2.2.2.2.1 x.2.2.2.2.2.2 ∧ itOk x.2.2.2.1 x.2.1.l ∧ x.1 ≤ bs.length ∧ x.1 ≤ 300) ∧ (True)) → Sk 236 K9 ([(12, i64 x.1), (11, i64 x.2.2.2.2.2.2), (10, .map (some b40)), (9, i64 n), (8, ptr A34.p), (7, dp q34), (1, lv), (2, cv)]) ([wantS b40 x.2.2.2.2.1 x.2.2.2.2.2.1, caP A34 x.2.1, enS A34 x.2.1, puS A34 x.2.1, lgS A34 q34 x.2.2.2.1 x.2.1, dev q34 x.2.2.1] ++ R) := by
     rintro ⟨i, C, D, sl, W, cw, d⟩ ⟨hI1, hX1⟩
     refine hK9 _ _ ?_
     obtain ⟨hL, hsl, hi1, hi2⟩ := hI1; dsimp only at hL hsl hi1 hi2 ⊢; have hbl := hL.s.g.bl; have hnn := hL.s.g.nn; have hWl := hL.len; have hrm := hL.s.room; have hdl : d ≤ W.length := by rw [hL.d]; exact dirtyC_le W
     refine cseq ?_; intro K11 hK11
     refine creg ?_
     obtain ⟨C3, D3, hop3, hS3, hv3⟩ := hL.s.opened (by omega)
     have hva : C3.all = C.all := all_congr (by rw [hS3.g.bl, hL.s.g.bl]) (fun j => congrFun (congrArg CaV.en hv3) j)
     have hvk : C3.k = C.k := congrArg CaV.k hv3
     have hal3 := all_le hS3.g.ok
     have hal := all_le hL.s.g.ok
     refine y (ev_move rfl) rfl ?_
     refine y (ev_move rfl) rfl ?_
     refine ycall (kOpenY hL.s.g.ok.d (by decide) (by decide) hop3) rfl Tryz.call20 ztk rfl ?_
     rintro v L' ⟨A220, sl220, rfl, ok220, rfl⟩
     refine y (ev_move rfl) rfl ?_
     refine y (ev_extract rfl rfl) rfl ?_
     refine y (ev_extract rfl rfl) rfl ?_
     refine y (ev_assign rfl) rfl ?_
     refine y (ev_assign rfl) rfl ?_
     refine ynil' (kthn (hK11 _ _ ?_))
     clear hK11
     refine cseq ?_; intro K12 hK12
     refine creg ?_
     refine y (ev_move rfl) rfl ?_
     skip
     ·skip
      refine y (ev_eql rfl rfl) rfl ?_
      refine y (ev_move rfl) rfl ?_
      refine yg1 rfl rfl ?_
      refine y (ev_move rfl) rfl ?_
      refine yg1 rfl rfl ?_
      refine y (ev_neqPnil rfl rfl Tryz.underlying26) rfl ?_
      refine y (ev_pick1 rfl rfl) rfl ?_
      refine y (ev_move rfl) rfl ?_
      refine yg1 rfl rfl ?_
      refine y (ev_move rfl) rfl ?_
      refine yg1 rfl rfl ?_
      refine ycall (nTold (A := A220) (C := C3) ?bl35) rfl Tryz.call22 ztk rfl ?_
      case bl35 => rw [hS3.g.bl]; decide
      rintro v L' ⟨s231, rfl, ok231, rfl⟩
      refine yg1 rfl rfl ?_
      refine y (ev_move rfl) rfl ?_
      refine yg1 rfl rfl ?_
      refine ycall (nTold (A := A34) (C := C) ?bl37) rfl Tryz.call22 ztk rfl ?_
      case bl37 => rw [hL.s.g.bl]; decide
      rintro v L' ⟨s233, rfl, ok233, rfl⟩
      refine yg1 rfl rfl ?_
      refine ycall (nAlike (u1 := C3.all) (u2 := C.all) (k1 := C3.k) (k2 := C.k) ?ia38 ?ib38 ?ic38 ?id38) rfl Tryz.call21 ztk rfl ?_
      case ia38 => exact rdV_sv zin ok231
      case ib38 => exact rdV_sv zin ok233
      case ic38 => omega
      case id38 => omega
      rintro v L' ⟨rfl, rfl⟩
      rw [show decide (C3.all = C.all ∧ C3.k = C.k) = true from decide_eq_true ⟨hva, hvk⟩]
      refine y (ev_pick1 rfl rfl) rfl ?_
      refine y (ev_assign rfl) rfl ?_
      refine ynil' (kthn (hK12 _ _ ?_))
      clear hK12
      refine cret ?_
      first
        | (exfalso; omega; done)
        | (refine kretv Tryz.results3 rfl (L1 := R) zge ?_
           exact ⟨_, ⟨by first | rfl | (exfalso; omega; done), rfl⟩, by first | rfl | (exfalso; omega; done)⟩)
    clear hK9
    refine cblock ?_
    refine cloop (A := Nat × CaM × Dev × Sv × Am EntM × Nat × Nat) (fun x => [(12, i64 x.1), (11, i64 x.2.2.2.2.2.2), (10, .map (some b40)), (9, i64 n), (8, ptr A34.p), (7, dp q34), (1, lv), (2, cv)]) (fun x => [wantS b40 x.2.2.2.2.1 x.2.2.2.2.2.1, caP A34 x.2.1, enS A34 x.2.1, puS A34 x.2.1, lgS A34 q34 x.2.2.2.1 x.2.1, dev q34 x.2.2.1] ++ R) (fun x => LiS n x.1 (600 * x.1 + 1) x.2.1 x.2.2.1 x.2.2.2.2.1 x.2.2.2.2.2.1 x.2.2.2.2.2.2 ∧ itOk x.2.2.2.1 x.2.1.l ∧ x.1 ≤ bs.length ∧ x.1 ≤ 300) (fun x => 300 - x.1) ((0, C0, D0, sl34, [], 0, 0)) ?_ zsub zge ?_
    · exact ⟨hL0, ok34, Nat.zero_le _, Nat.zero_le _⟩
    rintro ⟨i, C, D, sl, W, cw, d⟩ hI1 KL1 hL1
    have hI1o := hI1
    obtain ⟨hL, hsl, hi1, hi2⟩ := hI1; dsimp only at hL hsl hi1 hi2 ⊢; have hbl := hL.s.g.bl; have hnn := hL.s.g.nn; have hWl := hL.len; have hrm := hL.s.room; have hdl : d ≤ W.length := by rw [hL.d]; exact dirtyC_le W
    refine cseq ?_; intro K13 hK13
    refine cseq ?_; intro K14 hK14
    refine creg ?_
    refine y (ev_move rfl) rfl ?_
    refine y (ev_move rfl) rfl ?_
    first
      | refine y (ev_len rfl Tryz.underlying22) rfl ?_
      | refine y (ev_lenSv rfl Tryz.underlying22 (by assumption)) rfl ?_
      | refine y (ev_lenV rfl Tryz.underlying22 (RdV.lenVal (by assumption))) rfl ?_
      | refine y (ev_lenV rfl Tryz.underlying22 (RdB.lenVal (by assumption))) rfl ?_
    refine y (ev_lss rfl rfl) rfl ?_
    refine y (ev_move rfl) rfl ?_
    refine ysplit 45 rfl (fun h46 => ?_) (fun h46 => ?_)
    ·(try simp only [sH] at h46)
     refine yg1 rfl rfl ?_
     refine y (ev_move rfl) rfl ?_
     refine yg1 rfl rfl ?_
     refine y (ev_lss rfl rfl) rfl ?_
     refine y (ev_pick1 rfl rfl) rfl ?_
     refine ynil' (kthn (hK14 _ _ ?_))
     clear hK14
     refine ccond rfl (fun h50 => ?_) (fun h50 => ?_)
     ·(try simp only [sH] at h50)
      refine cskip' (kthn (hK13 _ _ ?_))
      clear hK13
      refine cseq ?_; intro K15 hK15
      refine cblock ?_
      refine cseq ?_; intro K16 hK16
      have hJr12 : ∀ z : Nat × Int × Bytes, ((0 ≤ z.2.1 ∧ z.2.1 < 32) ∧ z.2.2.length = 8) → Sk 236 K16 ([(13, ptr z.1), (12, i64 i), (11, i64 d), (10, .map (some b40)), (9, i64 n), (8, ptr A34.p), (7, dp q34), (1, lv), (2, cv)]) ([sc z.1 [i64 z.2.1, i64 1, i64 ((i : Int) + 1), str z.2.2, .bool true, i64 ((i : Int) % 4), i64 ((i : Int) + 1)] 34, wantS b40 W cw, caP A34 C, enS A34 C, puS A34 C, lgS A34 q34 sl C, dev q34 D] ++ R) := by
       rintro ⟨b13, bk, data⟩ hIr12
       refine hK16 _ _ ?_
       obtain ⟨hbk, hdata⟩ := hIr12; dsimp only at hbk hdata ⊢
       have hR := hL.put (by omega) (by omega) hi2 hbk hdata
       have hNu := hL.nums bk data
       refine cseq ?_; intro K17 hK17
       refine creg ?_
       refine y (ev_move rfl) rfl ?_
       refine y (ev_fieldAddr 0 rfl Tryz.underlying34 rfl Tryz.sizeOf3) rfl ?_
       refine y (ev_load rfl Tryz.isAgg3 zin rfl) rfl ?_
       refine y (ev_lookup2 (z := entV .zero) (kv := akv entV W) rfl rfl Tryz.underlying29 Tryz.underlying3 Tryz.zeroValue34 zin) rfl ?_
       rw [akv_get, lk_entV, Option.isSome_map]
       refine y (ev_move rfl) rfl ?_
       refine y (ev_extract rfl rfl) rfl ?_
       refine y (ev_extract rfl rfl) rfl ?_
       refine ya (ac_alloc Tryz.zeroValue34 rfl) rfl ?_
       rintro v L' ⟨b14, rfl, rfl⟩
       refine ya0 (ac_storeAll rfl rfl (ent_one _) Tryz.sizeOf34 zrp rfl rfl) ?_
       rintro v L' ⟨rfl, rfl⟩
       refine y (ev_assign rfl) rfl ?_
       refine ynil' (kthn (hK17 _ _ ?_))
       clear hK17
       refine cseq ?_; intro K18 hK18
       refine creg ?_
       refine y (ev_move rfl) rfl ?_
       refine y (ev_loadN (u := [i64 bk, i64 1, i64 ((i : Int) + 1), str data, .bool true, i64 ((i : Int) % 4), i64 ((i : Int) + 1)]) rfl Tryz.isAgg34 Tryz.sizeOf34 zin rfl rfl) rfl ?_
       refine ycall (kPut (C := C) (sl := sl) (q := q34) (D := D) (x := liX bk i data) ?cok63 ?its63) rfl Tryz.call13 ztk rfl ?_
       case cok63 => exact hL.s.g.ok
       case its63 => exact hsl
       rintro v L' ⟨sl85, rfl, ok85, rfl⟩
       generalize C.put D (liX bk i data) = r at *
       obtain ⟨er, C', D'⟩ := r
       dsimp only at *
       refine y (ev_assign rfl) rfl ?_
       refine ynil' (kthn (hK18 _ _ ?_))
       clear hK18
       refine cseq ?_; intro K19 hK19
       refine cseq ?_; intro K20 hK20
       refine creg ?_
       (have hR0 := hR; rcases hR with ⟨h0, h1, h2, hC, hs⟩ | ⟨h0, hs, en, kk⟩ | ⟨h0, h1, hs, en, kk⟩ | ⟨h0, h1, h2, hs, yg, hy, hd, en, kk⟩)
       ·skip
        refine y (ev_move rfl) rfl ?_
        first | rw [show (aget W bk).isSome = false from h0] | rw [show (aget W bk).isSome = true from h0]
        refine y (ev_not rfl) rfl ?_
        refine y (ev_move rfl) rfl ?_
        refine yg1 rfl rfl ?_
        refine y (ev_move rfl) rfl ?_
        refine yg1 rfl rfl ?_
        refine y (ev_lenM rfl Tryz.underlying29 zin) rfl ?_
        rw [want_len]
        refine yg1 rfl rfl ?_
        refine y (ev_move rfl) rfl ?_
        refine yg1 rfl rfl ?_
        refine ycall (kRoom (C := C') ?rn71) rfl Tryz.call14 ztk rfl ?_
        case rn71 => first | (have := hs.g.nn; omega) | (rw [hC]; omega)
        rintro v L' ⟨rfl, rfl⟩
        rw [show ((C'.n : Int) - 6) = (n : Int) - 6 by first | (have := hs.g.nn; omega) | (rw [hC]; omega)]
        refine yg1 rfl rfl ?_
        refine y (ev_geq rfl rfl) rfl ?_
        first | rw [decide_eq_true (room_le h1)] | rw [decide_eq_false (room_lt h1)]
        refine y (ev_pick1 rfl rfl) rfl ?_
        refine y (ev_move rfl) rfl ?_
        refine yg1 rfl rfl ?_
        refine y (ev_move rfl) rfl ?_
        refine yg1 rfl rfl ?_
        refine y (ev_move rfl) rfl ?_
        refine yg1 rfl rfl ?_
        refine y (ev_lenM rfl Tryz.underlying29 zin) rfl ?_
        rw [want_len]
        refine yg1 rfl rfl ?_
        refine y (ev_eql rfl rfl) rfl ?_
        first | rw [decide_eq_true (cast_eq h2)] | rw [decide_eq_false (cast_ne h2)]
        refine y (ev_pick1 rfl rfl) rfl ?_
        refine ynil' (kthn (hK20 _ _ ?_))
        clear hK20
        refine ccond1 rfl ?_
        refine cseq ?_; intro K21 hK21
        refine cseq ?_; intro K22 hK22
        refine creg ?_
        subst hC
        ·skip
         refine y (ev_move rfl) rfl ?_
         refine y (ev_neq rfl rfl) rfl ?_
         refine ynil' (kthn (hK22 _ _ ?_))
         clear hK22
         refine ccond0 rfl ?_
         refine cskip' (kthn (hK21 _ _ ?_))
         clear hK21
         refine cexit (kthx (kbx (kthn (hK15 _ _ ?_))))
         clear hK15
         refine creg ?_
         refine y (ev_move rfl) rfl ?_
         refine y (ev_add rfl rfl) rfl ?_
         rw [show IntKind.i64.wrap ((i:Int) + 1) = ((i+1 : Nat) : Int) by rw [wr (by omega) (by omega)]; rfl]
         refine y (ev_assign rfl) rfl ?_
         refine ynil' (kthn ?_)
         first | exact hL1 (i + 1, C', D', sl', W2, cw2, dirtyC W2) ⟨hLn.le (by dsimp only; omega), hsl', by dsimp only; omega, by dsimp only; omega⟩ (by dsimp only; omega) _ _ zsub zge | exact hL1 (i + 1, C', D', sl85, W, cw, d) ⟨hL.skip (hs.le (by dsimp only; omega)), ok85, by dsimp only; omega, by dsimp only; omega⟩ (by dsimp only; omega) _ _ zsub zge
       ·skip
        refine y (ev_move rfl) rfl ?_
        first | rw [show (aget W bk).isSome = false from h0] | rw [show (aget W bk).isSome = true from h0]
        refine y (ev_not rfl) rfl ?_
        refine y (ev_move rfl) rfl ?_
        refine yg0 rfl rfl rfl rfl ?_
        refine yg0 rfl rfl rfl rfl ?_
        refine yg0 rfl rfl rfl rfl ?_
        refine yg0 rfl rfl rfl rfl ?_
        refine yg0 rfl rfl rfl rfl ?_
        refine y (ev_pick0 rfl rfl) rfl ?_
        refine y (ev_move rfl) rfl ?_
        refine yg0 rfl rfl rfl rfl ?_
        refine yg0 rfl rfl rfl rfl ?_
        refine yg0 rfl rfl rfl rfl ?_
        refine yg0 rfl rfl rfl rfl ?_
        refine y (ev_pick0 rfl rfl) rfl ?_
        refine ynil' (kthn (hK20 _ _ ?_))
        clear hK20
        refine ccond0 rfl ?_
        refine cskip' (kthn (hK19 _ _ ?_))
        clear hK19
        refine cseq ?_; intro K23 hK23
        have hJr19 : ∀ z : CaM × Dev × Sv × Bool, (LiR n (600 * i + 1) C W d (liX bk i data) z.1 z.2.1 0 ∧ itOk z.2.2.1 z.1.l ∧ (aget W bk).isSome = z.2.2.2) → Sk 236 K23 ([(15, .bool z.2.2.2), (13, ptr b13), (12, i64 i), (11, i64 d), (10, .map (some b40)), (9, i64 n), (8, ptr A34.p), (7, dp q34), (1, lv), (2, cv)]) ([sc b13 [i64 bk, i64 1, i64 ((i : Int) + 1), str data, .bool true, i64 ((i : Int) % 4), i64 ((i : Int) + 1)] 34, wantS b40 W cw, caP A34 z.1, enS A34 z.1, puS A34 z.1, lgS A34 q34 z.2.2.1 z.1, dev q34 z.2.1] ++ R) := by
         rintro ⟨C', D', sl', hdd⟩ hIr19
         refine hK23 _ _ ?_
         obtain ⟨hR0, hsl', hhd⟩ := hIr19; dsimp only at hR0 hsl' hhd ⊢
         have hW34 : W.length ≤ 34 := by omega
         refine cseq ?_; intro K24 hK24
         refine creg ?_
         refine y (ev_assign rfl) rfl ?_
         refine ynil' (kthn (hK24 _ _ ?_))
         clear hK24
         refine cseq ?_; intro K25 hK25
         refine cseq ?_; intro K26 hK26
         refine creg ?_
         refine y (ev_move rfl) rfl ?_
         refine ya (ac_range rfl Tryz.underlying29 zin) rfl ?_
         rintro v L' ⟨i106, rfl, rfl⟩
         refine ynil' (kthn (hK26 _ _ ?_))
         clear hK26
         have hJ2 : ∀ x : List Nat × Nat, ((x.2 + (left (akv entV W) x.1).length ≤ W.length ∧ (∀ y ∈ W, y.2.2 ∈ x.1 → y.2.1.dirty = false → 1 ≤ x.2)) ∧ (∀ y ∈ W, y.2.1.dirty = false → 1 ≤ x.2)) → Sk 236 K25 ([(106, ptr i106), (17, i64 x.2), (15, .bool hdd), (13, ptr b13), (12, i64 i), (11, i64 d), (10, .map (some b40)), (9, i64 n), (8, ptr A34.p), (7, dp q34), (1, lv), (2, cv)]) ([so i106 (.mapIter (some b40) cw x.1.toArray cw), sc b13 [i64 bk, i64 1, i64 ((i : Int) + 1), str data, .bool true, i64 ((i : Int) % 4), i64 ((i : Int) + 1)] 34, wantS b40 W cw, caP A34 C', enS A34 C', puS A34 C', lgS A34 q34 sl' C', dev q34 D'] ++ R) := by
          rintro ⟨seen, o⟩ ⟨hI2, hX2⟩
          refine hK25 _ _ ?_
          obtain ⟨ho1, ho2⟩ := hI2; dsimp only at ho1 ho2 ⊢
          dsimp only at hX2
          refine cseq ?_; intro K27 hK27
          have hJr36 : ∀ z : Am EntM, (MidS n i (600 * i + 201) C' D' z cw (liX bk i data)) → Sk 236 K27 ([(13, ptr b13), (12, i64 i), (11, i64 d), (10, .map (some b40)), (9, i64 n), (8, ptr A34.p), (7, dp q34), (1, lv), (2, cv)]) ([sc b13 [i64 bk, i64 1, i64 ((i : Int) + 1), str data, .bool true, i64 ((i : Int) % 4), i64 ((i : Int) + 1)] 34, wantS b40 z cw, caP A34 C', enS A34 C', puS A34 C', lgS A34 q34 sl' C', dev q34 D'] ++ R) := by
           rintro W1 hIr36
           refine hK27 _ _ ?_
           have hM := hIr36
           refine cseq ?_; intro K28 hK28
           have hJr40 : ∀ z : Bool × CaM × Dev × Sv, (MidS n i (600 * i + 401) z.2.1 z.2.2.1 W1 cw { liX bk i data with dirty := z.1 } ∧ itOk z.2.2.2 z.2.1.l) → Sk 236 K28 ([(13, ptr b13), (12, i64 i), (11, i64 d), (10, .map (some b40)), (9, i64 n), (8, ptr A34.p), (7, dp q34), (1, lv), (2, cv)]) ([sc b13 [i64 bk, i64 1, i64 ((i : Int) + 1), str data, .bool z.1, i64 ((i : Int) % 4), i64 ((i : Int) + 1)] 34, wantS b40 W1 cw, caP A34 z.2.1, enS A34 z.2.1, puS A34 z.2.1, lgS A34 q34 z.2.2.2 z.2.1, dev q34 z.2.2.1] ++ R) := by
            rintro ⟨dy, C', D', sl'⟩ hIr40
            refine hK28 _ _ ?_
            obtain ⟨hM, hsl'⟩ := hIr40; dsimp only at hM hsl' ⊢
            have hNu := hM.nums
            have hLn : LiS n (i + 1) (600 * i + 401) C' D' (aput W1 cw bk { liX bk i data with dirty := dy }) (aclk W1 cw bk) (dirtyC (aput W1 cw bk { liX bk i data with dirty := dy })) := hM.put
            refine cseq ?_; intro K29 hK29
            refine creg ?_
            refine y (ev_move rfl) rfl ?_
            refine y (ev_fieldAddr 0 rfl Tryz.underlying34 rfl Tryz.sizeOf3) rfl ?_
            refine y (ev_load rfl Tryz.isAgg3 zin rfl) rfl ?_
            refine y (ev_loadN (u := [i64 bk, i64 1, i64 ((i : Int) + 1), str data, .bool dy, i64 ((i : Int) % 4), i64 ((i : Int) + 1)]) rfl Tryz.isAgg34 Tryz.sizeOf34 zin rfl rfl) rfl ?_
            refine ya0 (ac_mapUpdate (kv := akv entV W1) (v := entV { liX bk i data with dirty := dy }) rfl rfl rfl Tryz.underlying29 Tryz.underlying3 (akv_uniq _ hM.w) zrp) ?_
            rintro v L' ⟨rfl, rfl⟩
            rw [akv_put, akv_clk]
            generalize aput W1 cw bk { liX bk i data with dirty := dy } = W2 at *
            generalize aclk W1 cw bk = cw2 at *
            have hWn := hLn.len
            have hrn := hLn.s.room
            have hdn := dirtyC_le W2
            refine ynil' (kthn (hK29 _ _ ?_))
            clear hK29
            refine cseq ?_; intro K30 hK30
            refine creg ?_
            refine y (ev_assign rfl) rfl ?_
            refine ynil' (kthn (hK30 _ _ ?_))
            clear hK30
            refine cseq ?_; intro K31 hK31
            refine cseq ?_; intro K32 hK32
            refine creg ?_
            refine y (ev_move rfl) rfl ?_
            refine ya (ac_range rfl Tryz.underlying29 zin) rfl ?_
            rintro v L' ⟨i172, rfl, rfl⟩
            refine ynil' (kthn (hK32 _ _ ?_))
            clear hK32
            have hJ4 : ∀ x : List Nat × Nat, ((x.2 + ((leftA W2 x.1).filter fun y => y.2.1.dirty).length = dirtyC W2) ∧ (x.2 = dirtyC W2)) → Sk 236 K31 ([(172, ptr i172), (13, ptr b13), (12, i64 i), (11, i64 x.2), (10, .map (some b40)), (9, i64 n), (8, ptr A34.p), (7, dp q34), (1, lv), (2, cv)]) ([so i172 (.mapIter (some b40) cw2 x.1.toArray cw2), sc b13 [i64 bk, i64 1, i64 ((i : Int) + 1), str data, .bool dy, i64 ((i : Int) % 4), i64 ((i : Int) + 1)] 34, wantS b40 W2 cw2, caP A34 C', enS A34 C', puS A34 C', lgS A34 q34 sl' C', dev q34 D'] ++ R) := by
             rintro ⟨seen, dd⟩ ⟨hI4, hX4⟩
             refine hK31 _ _ ?_
             have hdd := hI4; dsimp only at hdd ⊢
             dsimp only at hX4; subst hX4
             refine cseq ?_; intro K33 hK33
             refine cdraw 21 [(0, true), (3, true), (1, false), (2, true), (4, true), (5, true), (6, true), (7, true), (8, true), (9, true), (11, true), (12, true), (10, false), (13, true), (14, true), (15, true), (16, true), (18, true), (19, true), (17, false), (20, true)] (_) Tryz.mixed (by kernel_rfl) .refl ?_
             skip
             ·skip
              refine hr rfl (ev_move rfl) rfl ?_
              refine hr rfl (ev_move rfl) rfl ?_
              refine hcall rfl (kAll (C := C') ?bl104) rfl Tryz.call17 ztk rfl ?_
              case bl104 => rw [hLn.s.g.bl]; decide
              rintro v L' ⟨s196, rfl, ok196, rfl⟩; refine ⟨zge, ?_⟩
              rw [hLn.allLen] at ok196 ⊢
              first
                | refine hr rfl (ev_len rfl Tryz.underlying41) rfl ?_
                | refine hr rfl (ev_lenSv rfl Tryz.underlying41 (by assumption)) rfl ?_
                | refine hr rfl (ev_lenV rfl Tryz.underlying41 (RdV.lenVal (by assumption))) rfl ?_
                | refine hr rfl (ev_lenV rfl Tryz.underlying41 (RdB.lenVal (by assumption))) rfl ?_
              refine hr rfl (ev_lenM rfl Tryz.underlying29 zin) rfl ?_
              rw [want_len]
              refine hr rfl (ev_neq rfl rfl) rfl ?_
              rw [show (!decide ((W2.length : Int) = (W2.length : Int))) = false by simp]
              refine hr rfl (ev_move rfl) rfl ?_
              refine hr1 rfl rfl rfl (ev_move rfl) rfl ?_
              refine hr1 rfl rfl rfl (ev_move rfl) rfl ?_
              refine hr1 rfl rfl rfl (ev_rem rfl rfl (by decide)) rfl ?_
              rw [tmod4]
              refine hr1 rfl rfl rfl (ev_move rfl) rfl ?_
              refine hr1 rfl rfl rfl (ev_add rfl rfl) rfl ?_
              rw [wr (by omega) (by omega)]
              refine hcall1 rfl rfl rfl (kNumber (C := C')) rfl Tryz.call18 ztk rfl ?_
              rintro v L' ⟨rfl, rfl⟩; refine ⟨zge, ?_⟩
              rw [hNu.num]
              refine hr1 rfl rfl rfl (ev_neq rfl rfl) rfl ?_
              rw [show (!decide ((i : Int) + 1 = (i : Int) + 1)) = false by simp]
              refine hr rfl (ev_pick0 rfl rfl) rfl ?_
              refine hr rfl (ev_move rfl) rfl ?_
              refine hr1 rfl rfl rfl (ev_move rfl) rfl ?_
              refine hr1 rfl rfl rfl (ev_fieldAddr 1 rfl Tryz.underlying34 rfl Tryz.sizeOf31) rfl ?_
              refine hr1 rfl rfl rfl (ev_loadN (u := [i64 1, i64 ((i : Int) + 1)]) rfl Tryz.isAgg31 Tryz.sizeOf31 zin rfl rfl) rfl ?_
              refine hcall1 rfl rfl rfl (kLast (C := C')) rfl Tryz.call19 ztk rfl ?_
              rintro v L' ⟨rfl, rfl⟩; refine ⟨zge, ?_⟩
              rw [hNu.e, hNu.s]
              refine hr1 rfl rfl rfl (ev_neqF (p := True) (xs := [i64 1, i64 ((i : Int) + 1)]) (ys := [i64 1, i64 ((i : Int) + 1)]) rfl rfl (by kernel_rfl) (by simp)) rfl ?_
              refine hnil ?_
              refine y (ev_pick0 rfl rfl) rfl ?_
              refine hnoP' (kthn (hK33 _ _ ?_))
              clear hK33
              refine ccond0 rfl ?_
              refine cskip' (kbn (kthn (hK15 _ _ ?_)))
              clear hK15
              refine creg ?_
              refine y (ev_move rfl) rfl ?_
              refine y (ev_add rfl rfl) rfl ?_
              rw [show IntKind.i64.wrap ((i:Int) + 1) = ((i+1 : Nat) : Int) by rw [wr (by omega) (by omega)]; rfl]
              refine y (ev_assign rfl) rfl ?_
              refine ynil' (kthn ?_)
              first | exact hL1 (i + 1, C', D', sl', W2, cw2, dirtyC W2) ⟨hLn.le (by dsimp only; omega), hsl', by dsimp only; omega, by dsimp only; omega⟩ (by dsimp only; omega) _ _ zsub zge | exact hL1 (i + 1, C', D', sl85, W, cw, d) ⟨hL.skip (hs.le (by dsimp only; omega)), ok85, by dsimp only; omega, by dsimp only; omega⟩ (by dsimp only; omega) _ _ zsub zge
            clear hK31
            refine cblock ?_
            refine cloop (A := List Nat × Nat) (fun x => [(172, ptr i172), (13, ptr b13), (12, i64 i), (11, i64 x.2), (10, .map (some b40)), (9, i64 n), (8, ptr A34.p), (7, dp q34), (1, lv), (2, cv)]) (fun x => [so i172 (.mapIter (some b40) cw2 x.1.toArray cw2), sc b13 [i64 bk, i64 1, i64 ((i : Int) + 1), str data, .bool dy, i64 ((i : Int) % 4), i64 ((i : Int) + 1)] 34, wantS b40 W2 cw2, caP A34 C', enS A34 C', puS A34 C', lgS A34 q34 sl' C', dev q34 D'] ++ R) (fun x => x.2 + ((leftA W2 x.1).filter fun y => y.2.1.dirty).length = dirtyC W2) (fun x => (left (akv entV W2) x.1).length) (([], 0)) ?_ zsub zge ?_
            · rw [leftA_all]; unfold dirtyC; exact Nat.zero_add _
            rintro ⟨seen, dd⟩ hI4 KL4 hL4
            have hI4o := hI4
            have hdd := hI4; dsimp only at hdd ⊢
            refine cseq ?_; intro K34 hK34
            refine creg ?_
            refine ya (ac_next rfl zin zin ?st127 (fun _ => zrp)) rfl ?_
            case st127 => first | exact akv_stamped _ hL.w | exact akv_stamped _ (hG.ok hL.w) | exact akv_stamped _ hLn.w
            rintro v L' (⟨hov173, rfl, rfl⟩ | ⟨x173, hx173, rfl, rfl⟩)
            ·skip
             refine y (ev_extract rfl rfl) rfl ?_
             refine ynil' (kthn (hK34 _ _ ?_))
             clear hK34
             refine cseq ?_; intro K35 hK35
             refine ccond0 rfl ?_
             refine cexit (kthx (kthx (kbx (kthn ?_))))
             exact ksub zsub zge (hJ4 ⟨seen, dd⟩ ⟨hI4o, by have h := hdd; rw [leftA_nil hov173] at h; simpa using h⟩)
            ·skip
             have hlt := left_lt hx173
             obtain ⟨k173, v173, b173, rfl, hm173, hs173⟩ := left_akv hx173
             dsimp only at hlt
             have hcf := cnt_filter hLn.w (p := fun y => y.2.1.dirty) hm173 hs173
             have hgv : aget C'.en k173 = some v173 := by rw [← hLn.eq]; exact aget_mem hLn.w hm173
             refine y (ev_extract rfl rfl) rfl ?_
             refine ynil' (kthn (hK34 _ _ ?_))
             clear hK34
             refine cseq ?_; intro K36 hK36
             refine ccond1 rfl ?_
             refine cskip' (kthn (hK36 _ _ ?_))
             clear hK36
             refine cblock ?_
             refine cseq ?_; intro K37 hK37
             refine creg ?_
             refine y (ev_entry rfl zin zin ?st130 ?mem130) rfl ?_
             case st130 => first | exact akv_stamped _ hL.w | exact akv_stamped _ (hG.ok hL.w) | exact akv_stamped _ hLn.w
             case mem130 => first | exact left_mem hx107 | exact left_mem hx127 | exact left_mem hx173
             refine y (ev_extract rfl rfl) rfl ?_
             refine y (ev_extract rfl rfl) rfl ?_
             refine ya (ac_alloc Tryz.zeroValue34 rfl) rfl ?_
             rintro v L' ⟨b25, rfl, rfl⟩
             refine y (ev_assign rfl) rfl ?_
             refine ya0 (ac_storeAll rfl rfl (ent_one v173) Tryz.sizeOf34 zrp rfl rfl) ?_
             rintro v L' ⟨rfl, rfl⟩
             refine ynil' (kthn (hK37 _ _ ?_))
             clear hK37
             refine cseq ?_; intro K38 hK38
             refine creg ?_
             refine y (ev_move rfl) rfl ?_
             refine y (ev_move rfl) rfl ?_
             refine ycall (kGet (C := C') (b := k173)) rfl Tryz.call15 ztk rfl ?_
             rintro v L' ⟨rfl, rfl⟩
             rw [hgv]
             refine y (ev_move rfl) rfl ?_
             refine y (ev_extract rfl rfl) rfl ?_
             refine y (ev_extract rfl rfl) rfl ?_
             refine ya (ac_alloc Tryz.zeroValue34 rfl) rfl ?_
             rintro v L' ⟨b26, rfl, rfl⟩
             refine ya0 (ac_storeAll rfl rfl (ent_one v173) Tryz.sizeOf34 zrp rfl rfl) ?_
             rintro v L' ⟨rfl, rfl⟩
             refine y (ev_assign rfl) rfl ?_
             refine ynil' (kthn (hK38 _ _ ?_))
             clear hK38
             refine cseq ?_; intro K39 hK39
             refine cseq ?_; intro K40 hK40
             refine creg ?_
             skip
             ·skip
              refine y (ev_move rfl) rfl ?_
              refine y (ev_not rfl) rfl ?_
              refine y (ev_move rfl) rfl ?_
              refine yg1 rfl rfl ?_
              refine y (ev_loadN (u := v173.cells) rfl Tryz.isAgg34 Tryz.sizeOf34 zin rfl rfl) rfl ?_
              refine yg1 rfl rfl ?_
              refine y (ev_loadN (u := v173.cells) rfl Tryz.isAgg34 Tryz.sizeOf34 zin rfl rfl) rfl ?_
              refine yg1 rfl rfl ?_
              refine y (ev_neqF (p := v173 = v173) rfl rfl (by kernel_rfl) (iff_of_eq ent_inj)) rfl ?_
              rw [show (!decide (v173 = v173)) = false by simp]
              refine y (ev_pick0 rfl rfl) rfl ?_
              refine ynil' (kthn (hK40 _ _ ?_))
              clear hK40
              refine ccond0 rfl ?_
              refine cskip' (kthn (hK39 _ _ ?_))
              clear hK39
              refine cseq ?_; intro K41 hK41
              refine creg ?_
              refine y (ev_fieldAddr 4 rfl Tryz.underlying34 rfl Tryz.sizeOf4) rfl ?_
              refine y (ev_load rfl Tryz.isAgg4 zin rfl) rfl ?_
              refine ynil' (kthn (hK41 _ _ ?_))
              clear hK41
              refine ccond rfl (fun h154 => ?_) (fun h154 => ?_)
              ·(try simp only [sH] at h154)
               have hdt173 : v173.dirty = true := h154
               dsimp only at hcf; rw [if_pos hdt173] at hcf
               refine creg ?_
               refine y (ev_move rfl) rfl ?_
               refine y (ev_add rfl rfl) rfl ?_
               rw [show IntKind.i64.wrap ((dd:Int) + 1) = ((dd+1 : Nat) : Int) by rw [wr (by omega) (by omega)]; rfl]
               refine y (ev_assign rfl) rfl ?_
               refine ynil' (kbn (kthn ?_))
               first | (have q := hdt173; exact hL4 (seen ++ [b173], dd + 1) (by dsimp only; omega) hlt _ _ zsub zge) | exact hL4 (seen ++ [b173], dd) (by dsimp only; omega) hlt _ _ zsub zge
              ·(try simp only [sH] at h154)
               have hcl173 : v173.dirty = false := h154
               dsimp only at hcf; rw [if_neg (by rw [hcl173]; simp)] at hcf
               refine cskip' (kbn (kthn ?_))
               first | (have q := hdt173; exact hL4 (seen ++ [b173], dd + 1) (by dsimp only; omega) hlt _ _ zsub zge) | exact hL4 (seen ++ [b173], dd) (by dsimp only; omega) hlt _ _ zsub zge
           clear hK28
           refine cseq ?_; intro K42 hK42
           refine creg ?_
           refine y (ev_move rfl) rfl ?_
           refine y (ev_move rfl) rfl ?_
           refine y (ev_lenV rfl Tryz.underlying23 hcl) rfl ?_
           refine y (ev_lss rfl rfl) rfl ?_
           refine y (ev_move rfl) rfl ?_
           refine ysplit 153 rfl (fun h163 => ?_) (fun h163 => ?_)
           ·(try simp only [sH] at h163)
            obtain ⟨cb, hcb⟩ : ∃ cb, cl[i]? = some cb := ⟨_, List.getElem?_eq_getElem (by omega)⟩
            refine yg1 rfl rfl ?_
            refine y (ev_move rfl) rfl ?_
            refine yg1 rfl rfl ?_
            refine y (ev_move rfl) rfl ?_
            refine yg1 rfl rfl ?_
            refine y (ev_ixV hc rfl rfl Tryz.underlying23 Tryz.sizeOf4 (by omega) (by omega)) rfl ?_
            refine yg1 rfl rfl ?_
            refine y (ev_loadV i hc zge rfl Tryz.isAgg4 (by simp) (boolsV_get hcb)) rfl ?_
            refine y (ev_pick1 rfl rfl) rfl ?_
            refine ynil' (kthn (hK42 _ _ ?_))
            clear hK42
            refine ccond rfl (fun h169 => ?_) (fun h169 => ?_)
            ·(try simp only [sH] at h169)
             refine cseq ?_; intro K43 hK43
             refine cseq ?_; intro K44 hK44
             refine creg ?_
             refine y (ev_move rfl) rfl ?_
             refine y (ev_fieldAddr 0 rfl Tryz.underlying34 rfl Tryz.sizeOf3) rfl ?_
             refine y (ev_load rfl Tryz.isAgg3 zin rfl) rfl ?_
             refine y (ev_fieldAddr 1 rfl Tryz.underlying34 rfl Tryz.sizeOf31) rfl ?_
             refine y (ev_loadN (u := [i64 1, i64 ((i : Int) + 1)]) rfl Tryz.isAgg31 Tryz.sizeOf31 zin rfl rfl) rfl ?_
             refine ycall (kClean (C := C') (sl := sl') (q := q34) (D := D') (b := bk) (e := 1) (s := (i : Int) + 1) ?cok175 ?its175) rfl Tryz.call16 ztk rfl ?_
             case cok175 => exact hM.s.g.ok
             case its175 => exact hsl'
             rintro v L' ⟨sl164, rfl, ok164, rfl⟩
             obtain ⟨e4', hS4, hen4, hk4⟩ := hM.s.clean_did (by omega) (by omega) hM.get rfl
             have hM4 : MidS n i (600 * i + 401) (C'.clean D' bk 1 ((i : Int) + 1)).2.1 (C'.clean D' bk 1 ((i : Int) + 1)).2.2 W1 cw { liX bk i data with dirty := false } := hM.did hS4 hen4 hk4
             have e4 : (C'.clean D' bk 1 ((i : Int) + 1)).1 = 0 := e4'
             clear e4' hS4 hen4 hk4
             generalize C'.clean D' bk 1 ((i : Int) + 1) = r4 at *
             obtain ⟨c4, C4, D4⟩ := r4
             dsimp only at *
             subst e4
             skip
             ·skip
              refine y (ev_neq rfl rfl) rfl ?_
              refine ynil' (kthn (hK44 _ _ ?_))
              clear hK44
              refine ccond0 rfl ?_
              refine cskip' (kthn (hK43 _ _ ?_))
              clear hK43
              refine creg ?_
              refine y (ev_fieldAddr 4 rfl Tryz.underlying34 rfl Tryz.sizeOf4) rfl ?_
              refine ya0 (ac_store rfl rfl (by first | rfl | exact svVal_one _ _ | assumption) Tryz.sizeOf4 zrp rfl rfl) ?_
              rintro v L' ⟨rfl, rfl⟩
              refine ynil' (kthn ?_)
              first | exact ksub zsub zge (hJr40 (false, C4, D4, sl164) ⟨hM4, ok164⟩) | exact ksub zsub zge (hJr40 (true, C', D', sl') ⟨hM.le (by omega), hsl'⟩)
            ·(try simp only [sH] at h169)
             refine cskip' (kthn ?_)
             first | exact ksub zsub zge (hJr40 (false, C4, D4, sl164) ⟨hM4, ok164⟩) | exact ksub zsub zge (hJr40 (true, C', D', sl') ⟨hM.le (by omega), hsl'⟩)
           ·(try simp only [sH] at h163)
            refine yg0 rfl rfl rfl rfl ?_
            refine yg0 rfl rfl rfl rfl ?_
            refine yg0 rfl rfl rfl rfl ?_
            refine yg0 rfl rfl rfl rfl ?_
            refine y (ev_pick0 rfl rfl) rfl ?_
            refine ynil' (kthn (hK42 _ _ ?_))
            clear hK42
            refine ccond0 rfl ?_
            refine cskip' (kthn ?_)
            first | exact ksub zsub zge (hJr40 (false, C4, D4, sl164) ⟨hM4, ok164⟩) | exact ksub zsub zge (hJr40 (true, C', D', sl') ⟨hM.le (by omega), hsl'⟩)
          clear hK27
          refine cseq ?_; intro K45 hK45
          refine creg ?_
          rcases hR0 with _ | ⟨h0, hs, en, kk⟩ | ⟨h0, h1, hs, en, kk⟩ | ⟨h0, h1, h2, hs, yg, hy, hd, en, kk⟩
          ·skip
           refine y (ev_move rfl) rfl ?_
           first | rw [show hdd = false from hhd.symm.trans h0] | rw [show hdd = true from hhd.symm.trans h0]
           refine y (ev_not rfl) rfl ?_
           refine y (ev_move rfl) rfl ?_
           refine yg0 rfl rfl rfl rfl ?_
           refine yg0 rfl rfl rfl rfl ?_
           refine yg0 rfl rfl rfl rfl ?_
           refine yg0 rfl rfl rfl rfl ?_
           refine yg0 rfl rfl rfl rfl ?_
           refine y (ev_pick0 rfl rfl) rfl ?_
           refine ynil' (kthn (hK45 _ _ ?_))
           clear hK45
           refine ccond0 rfl ?_
           refine cskip' (kthn ?_)
           first | exact ksub zsub zge (hJr36 (adel W yg.blk) ⟨hs.le (by omega), hL.w.del _, mid_place hL en, kk ▸ hNu⟩) | exact ksub zsub zge (hJr36 W ⟨hs.le (by omega), hL.w, mid_put hL en, kk ▸ hNu⟩)
          ·skip
           refine y (ev_move rfl) rfl ?_
           first | rw [show hdd = false from hhd.symm.trans h0] | rw [show hdd = true from hhd.symm.trans h0]
           refine y (ev_not rfl) rfl ?_
           refine y (ev_move rfl) rfl ?_
           refine yg1 rfl rfl ?_
           refine y (ev_move rfl) rfl ?_
           refine yg1 rfl rfl ?_
           refine y (ev_lenM rfl Tryz.underlying29 zin) rfl ?_
           rw [want_len]
           refine yg1 rfl rfl ?_
           refine y (ev_move rfl) rfl ?_
           refine yg1 rfl rfl ?_
           refine ycall (kRoom (C := C') ?rn190) rfl Tryz.call14 ztk rfl ?_
           case rn190 => have := hs.g.nn; omega
           rintro v L' ⟨rfl, rfl⟩
           rw [show ((C'.n : Int) - 6) = (n : Int) - 6 by have := hs.g.nn; omega]
           refine yg1 rfl rfl ?_
           refine y (ev_geq rfl rfl) rfl ?_
           first | rw [decide_eq_true (room_le h1)] | rw [decide_eq_false (room_lt h1)]
           refine y (ev_pick1 rfl rfl) rfl ?_
           refine ynil' (kthn (hK45 _ _ ?_))
           clear hK45
           refine ccond0 rfl ?_
           refine cskip' (kthn ?_)
           first | exact ksub zsub zge (hJr36 (adel W yg.blk) ⟨hs.le (by omega), hL.w.del _, mid_place hL en, kk ▸ hNu⟩) | exact ksub zsub zge (hJr36 W ⟨hs.le (by omega), hL.w, mid_put hL en, kk ▸ hNu⟩)
          ·skip
           refine y (ev_move rfl) rfl ?_
           first | rw [show hdd = false from hhd.symm.trans h0] | rw [show hdd = true from hhd.symm.trans h0]
           refine y (ev_not rfl) rfl ?_
           refine y (ev_move rfl) rfl ?_
           refine yg1 rfl rfl ?_
           refine y (ev_move rfl) rfl ?_
           refine yg1 rfl rfl ?_
           refine y (ev_lenM rfl Tryz.underlying29 zin) rfl ?_
           rw [want_len]
           refine yg1 rfl rfl ?_
           refine y (ev_move rfl) rfl ?_
           refine yg1 rfl rfl ?_
           refine ycall (kRoom (C := C') ?rn199) rfl Tryz.call14 ztk rfl ?_
           case rn199 => have := hs.g.nn; omega
           rintro v L' ⟨rfl, rfl⟩
           rw [show ((C'.n : Int) - 6) = (n : Int) - 6 by have := hs.g.nn; omega]
           refine yg1 rfl rfl ?_
           refine y (ev_geq rfl rfl) rfl ?_
           first | rw [decide_eq_true (room_le h1)] | rw [decide_eq_false (room_lt h1)]
           refine y (ev_pick1 rfl rfl) rfl ?_
           refine ynil' (kthn (hK45 _ _ ?_))
           clear hK45
           refine ccond1 rfl ?_
           refine cseq ?_; intro K46 hK46
           refine creg ?_
           have hgn := place_none en h0 hy
           refine y (ev_assign rfl) rfl ?_
           refine ynil' (kthn (hK46 _ _ ?_))
           clear hK46
           refine cseq ?_; intro K47 hK47
           refine cseq ?_; intro K48 hK48
           refine creg ?_
           refine y (ev_move rfl) rfl ?_
           refine ya (ac_range rfl Tryz.underlying29 zin) rfl ?_
           rintro v L' ⟨i126, rfl, rfl⟩
           refine ynil' (kthn (hK48 _ _ ?_))
           clear hK48
           have hJ3 : ∀ x : List Nat × Am EntM × Nat, ((GoI W x.2.1 cw yg.blk x.1 x.2.2 ∧ x.2.2 ≤ 1) ∧ (x.2.2 = 1 ∧ x.2.1 = adel W yg.blk)) → Sk 236 K47 ([(126, ptr i126), (20, i64 x.2.2), (17, i64 o), (13, ptr b13), (12, i64 i), (11, i64 d), (10, .map (some b40)), (9, i64 n), (8, ptr A34.p), (7, dp q34), (1, lv), (2, cv)]) ([so i126 (.mapIter (some b40) cw x.1.toArray cw), sc b13 [i64 bk, i64 1, i64 ((i : Int) + 1), str data, .bool true, i64 ((i : Int) % 4), i64 ((i : Int) + 1)] 34, wantS b40 x.2.1 cw, caP A34 C', enS A34 C', puS A34 C', lgS A34 q34 sl' C', dev q34 D'] ++ R) := by
            rintro ⟨seen, W1, g⟩ ⟨hI3, hX3⟩
            refine hK47 _ _ ?_
            obtain ⟨hG, hg1⟩ := hI3; dsimp only at hG hg1 ⊢
            obtain ⟨hX3a, hX3b⟩ := hX3; dsimp only at hX3a hX3b; subst hX3a; subst hX3b
            refine cseq ?_; intro K49 hK49
            refine creg ?_
            have ho9 : 1 ≤ o := by obtain ⟨q9, hq9⟩ := aget_some hy; exact hX2 _ hq9 hd
            skip
            ·skip
             have ho9 : 1 ≤ o := by obtain ⟨q9, hq9⟩ := aget_some hy; exact hX2 _ hq9 hd
             refine y (ev_move rfl) rfl ?_
             refine y (ev_neq rfl rfl) rfl ?_
             refine y (ev_move rfl) rfl ?_
             refine yg1 rfl rfl ?_
             refine y (ev_move rfl) rfl ?_
             refine yg1 rfl rfl ?_
             refine y (ev_eql rfl rfl) rfl ?_
             rw [decide_eq_false (cast_n0 ho9)]
             refine y (ev_pick0 rfl rfl) rfl ?_
             refine ynil' (kthn (hK49 _ _ ?_))
             clear hK49
             refine ccond0 rfl ?_
             refine cskip' (kthn ?_)
             first | exact ksub zsub zge (hJr36 (adel W yg.blk) ⟨hs.le (by omega), hL.w.del _, mid_place hL en, kk ▸ hNu⟩) | exact ksub zsub zge (hJr36 W ⟨hs.le (by omega), hL.w, mid_put hL en, kk ▸ hNu⟩)
           clear hK47
           refine cblock ?_
           refine cloop (A := List Nat × Am EntM × Nat) (fun x => [(126, ptr i126), (20, i64 x.2.2), (17, i64 o), (13, ptr b13), (12, i64 i), (11, i64 d), (10, .map (some b40)), (9, i64 n), (8, ptr A34.p), (7, dp q34), (1, lv), (2, cv)]) (fun x => [so i126 (.mapIter (some b40) cw x.1.toArray cw), sc b13 [i64 bk, i64 1, i64 ((i : Int) + 1), str data, .bool true, i64 ((i : Int) % 4), i64 ((i : Int) + 1)] 34, wantS b40 x.2.1 cw, caP A34 C', enS A34 C', puS A34 C', lgS A34 q34 sl' C', dev q34 D'] ++ R) (fun x => GoI W x.2.1 cw yg.blk x.1 x.2.2 ∧ x.2.2 ≤ 1) (fun x => (left (akv entV x.2.1) x.1).length) (([], W, 0)) ?_ zsub zge ?_
           · exact ⟨GoI.new _ _ _, Nat.zero_le _⟩
           rintro ⟨seen, W1, g⟩ hI3 KL3 hL3
           have hI3o := hI3
           obtain ⟨hG, hg1⟩ := hI3; dsimp only at hG hg1 ⊢
           refine cseq ?_; intro K50 hK50
           refine creg ?_
           refine ya (ac_next rfl zin zin ?st211 (fun _ => zrp)) rfl ?_
           case st211 => first | exact akv_stamped _ hL.w | exact akv_stamped _ (hG.ok hL.w) | exact akv_stamped _ hLn.w
           rintro v L' (⟨hov127, rfl, rfl⟩ | ⟨x127, hx127, rfl, rfl⟩)
           ·skip
            refine y (ev_extract rfl rfl) rfl ?_
            refine ynil' (kthn (hK50 _ _ ?_))
            clear hK50
            refine cseq ?_; intro K51 hK51
            refine ccond0 rfl ?_
            refine cexit (kthx (kthx (kbx (kthn ?_))))
            exact ksub zsub zge (hJ3 ⟨seen, W1, g⟩ ⟨hI3o, hG.over (by rw [hy]; rfl) hov127⟩)
           ·skip
            have hlt := left_lt hx127
            obtain ⟨k127, v127, b127, rfl, hm127, hs127⟩ := left_akv hx127
            dsimp only at hlt
            refine y (ev_extract rfl rfl) rfl ?_
            refine ynil' (kthn (hK50 _ _ ?_))
            clear hK50
            refine cseq ?_; intro K52 hK52
            refine ccond1 rfl ?_
            refine cskip' (kthn (hK52 _ _ ?_))
            clear hK52
            refine cblock ?_
            refine cseq ?_; intro K53 hK53
            refine creg ?_
            refine y (ev_entry rfl zin zin ?st214 ?mem214) rfl ?_
            case st214 => first | exact akv_stamped _ hL.w | exact akv_stamped _ (hG.ok hL.w) | exact akv_stamped _ hLn.w
            case mem214 => first | exact left_mem hx107 | exact left_mem hx127 | exact left_mem hx173
            refine y (ev_extract rfl rfl) rfl ?_
            refine y (ev_assign rfl) rfl ?_
            refine ynil' (kthn (hK53 _ _ ?_))
            clear hK53
            refine cseq ?_; intro K54 hK54
            refine creg ?_
            by_cases hkq : k127 = yg.blk
            ·skip
             refine y (ev_move rfl) rfl ?_
             refine y (ev_move rfl) rfl ?_
             refine ycall (kGet (C := C') (b := k127)) rfl Tryz.call15 ztk rfl ?_
             rintro v L' ⟨rfl, rfl⟩
             first | rw [show aget C'.en k127 = none from hkq ▸ hgn] | rw [show aget C'.en k127 = some v127 from place_there hL en h0 (hG.get hL.w hm127 hkq) hkq]
             refine y (ev_move rfl) rfl ?_
             refine y (ev_extract rfl rfl) rfl ?_
             refine y (ev_extract rfl rfl) rfl ?_
             refine ya (ac_alloc Tryz.zeroValue34 rfl) rfl ?_
             rintro v L' ⟨b22, rfl, rfl⟩
             refine ya0 (ac_storeAll rfl rfl (ent_one _) Tryz.sizeOf34 zrp rfl rfl) ?_
             rintro v L' ⟨rfl, rfl⟩
             refine y (ev_assign rfl) rfl ?_
             refine ynil' (kthn (hK54 _ _ ?_))
             clear hK54
             refine cseq ?_; intro K55 hK55
             refine creg ?_
             refine y (ev_move rfl) rfl ?_
             refine y (ev_not rfl) rfl ?_
             refine ynil' (kthn (hK55 _ _ ?_))
             clear hK55
             refine ccond1 rfl ?_
             refine cseq ?_; intro K56 hK56
             refine creg ?_
             refine y (ev_move rfl) rfl ?_
             refine y (ev_add rfl rfl) rfl ?_
             rw [show IntKind.i64.wrap ((g:Int) + 1) = ((g+1 : Nat) : Int) by rw [wr (by omega) (by omega)]; rfl]
             refine y (ev_assign rfl) rfl ?_
             refine ynil' (kthn (hK56 _ _ ?_))
             clear hK56
             refine creg ?_
             refine y (ev_move rfl) rfl ?_
             refine y (ev_move rfl) rfl ?_
             refine ya0 (ac_delete rfl rfl Tryz.underlying29 Tryz.underlying3 rfl zrp) ?_
             rintro v L' ⟨rfl, rfl⟩
             rw [akv_del, hkq]
             refine ynil' (kbn (kthn ?_))
             first | exact hL3 (seen ++ [b127], W1, g) ⟨hG.miss hL.w hm127 hkq, hg1⟩ hlt _ _ zsub zge | exact hL3 (seen ++ [b127], adel W1 yg.blk, g + 1) ⟨(hG.hit hL.w (hkq ▸ hm127)).2, by have := (hG.hit hL.w (hkq ▸ hm127)).1; dsimp only; omega⟩ (Nat.lt_of_le_of_lt (left_del_le _ _ _ _) hlt) _ _ zsub zge
            ·skip
             refine y (ev_move rfl) rfl ?_
             refine y (ev_move rfl) rfl ?_
             refine ycall (kGet (C := C') (b := k127)) rfl Tryz.call15 ztk rfl ?_
             rintro v L' ⟨rfl, rfl⟩
             first | rw [show aget C'.en k127 = none from hkq ▸ hgn] | rw [show aget C'.en k127 = some v127 from place_there hL en h0 (hG.get hL.w hm127 hkq) hkq]
             refine y (ev_move rfl) rfl ?_
             refine y (ev_extract rfl rfl) rfl ?_
             refine y (ev_extract rfl rfl) rfl ?_
             refine ya (ac_alloc Tryz.zeroValue34 rfl) rfl ?_
             rintro v L' ⟨b22, rfl, rfl⟩
             refine ya0 (ac_storeAll rfl rfl (ent_one _) Tryz.sizeOf34 zrp rfl rfl) ?_
             rintro v L' ⟨rfl, rfl⟩
             refine y (ev_assign rfl) rfl ?_
             refine ynil' (kthn (hK54 _ _ ?_))
             clear hK54
             refine cseq ?_; intro K57 hK57
             refine creg ?_
             refine y (ev_move rfl) rfl ?_
             refine y (ev_not rfl) rfl ?_
             refine ynil' (kthn (hK57 _ _ ?_))
             clear hK57
             refine ccond0 rfl ?_
             refine cskip' (kbn (kthn ?_))
             first | exact hL3 (seen ++ [b127], W1, g) ⟨hG.miss hL.w hm127 hkq, hg1⟩ hlt _ _ zsub zge | exact hL3 (seen ++ [b127], adel W1 yg.blk, g + 1) ⟨(hG.hit hL.w (hkq ▸ hm127)).2, by have := (hG.hit hL.w (hkq ▸ hm127)).1; dsimp only; omega⟩ (Nat.lt_of_le_of_lt (left_del_le _ _ _ _) hlt) _ _ zsub zge
         clear hK25
         refine cblock ?_
         refine cloop (A := List Nat × Nat) (fun x => [(106, ptr i106), (17, i64 x.2), (15, .bool hdd), (13, ptr b13), (12, i64 i), (11, i64 d), (10, .map (some b40)), (9, i64 n), (8, ptr A34.p), (7, dp q34), (1, lv), (2, cv)]) (fun x => [so i106 (.mapIter (some b40) cw x.1.toArray cw), sc b13 [i64 bk, i64 1, i64 ((i : Int) + 1), str data, .bool true, i64 ((i : Int) % 4), i64 ((i : Int) + 1)] 34, wantS b40 W cw, caP A34 C', enS A34 C', puS A34 C', lgS A34 q34 sl' C', dev q34 D'] ++ R) (fun x => x.2 + (left (akv entV W) x.1).length ≤ W.length ∧ (∀ y ∈ W, y.2.2 ∈ x.1 → y.2.1.dirty = false → 1 ≤ x.2)) (fun x => (left (akv entV W) x.1).length) (([], 0)) ?_ zsub zge ?_
         · exact ⟨by have h := List.length_filter_le (fun x => !([] : List Nat).contains x.2.2) (akv entV W); show 0 + (left (akv entV W) []).length ≤ W.length; rw [akv_len] at h; unfold left; omega, fun _ _ h => by cases h⟩
         rintro ⟨seen, o⟩ hI2 KL2 hL2
         have hI2o := hI2
         obtain ⟨ho1, ho2⟩ := hI2; dsimp only at ho1 ho2 ⊢
         refine cseq ?_; intro K58 hK58
         refine creg ?_
         refine ya (ac_next rfl zin zin ?st245 (fun _ => zrp)) rfl ?_
         case st245 => first | exact akv_stamped _ hL.w | exact akv_stamped _ (hG.ok hL.w) | exact akv_stamped _ hLn.w
         rintro v L' (⟨hov107, rfl, rfl⟩ | ⟨x107, hx107, rfl, rfl⟩)
         ·skip
          refine y (ev_extract rfl rfl) rfl ?_
          refine ynil' (kthn (hK58 _ _ ?_))
          clear hK58
          refine cseq ?_; intro K59 hK59
          refine ccond0 rfl ?_
          refine cexit (kthx (kthx (kbx (kthn ?_))))
          exact ksub zsub zge (hJ2 ⟨seen, o⟩ ⟨hI2o, fun y hy hd => ho2 y hy (left_none hov107 y hy) hd⟩)
         ·skip
          have hlt := left_lt hx107
          obtain ⟨k107, v107, b107, rfl, hm107, hs107⟩ := left_akv hx107
          dsimp only at hlt
          refine y (ev_extract rfl rfl) rfl ?_
          refine ynil' (kthn (hK58 _ _ ?_))
          clear hK58
          refine cseq ?_; intro K60 hK60
          refine ccond1 rfl ?_
          refine cskip' (kthn (hK60 _ _ ?_))
          clear hK60
          refine cblock ?_
          refine cseq ?_; intro K61 hK61
          refine creg ?_
          refine y (ev_entry rfl zin zin ?st248 ?mem248) rfl ?_
          case st248 => first | exact akv_stamped _ hL.w | exact akv_stamped _ (hG.ok hL.w) | exact akv_stamped _ hLn.w
          case mem248 => first | exact left_mem hx107 | exact left_mem hx127 | exact left_mem hx173
          refine y (ev_extract rfl rfl) rfl ?_
          refine ya (ac_alloc Tryz.zeroValue34 rfl) rfl ?_
          rintro v L' ⟨b19, rfl, rfl⟩
          refine ya0 (ac_storeAll rfl rfl (ent_one v107) Tryz.sizeOf34 zrp rfl rfl) ?_
          rintro v L' ⟨rfl, rfl⟩
          refine ynil' (kthn (hK61 _ _ ?_))
          clear hK61
          refine cseq ?_; intro K62 hK62
          refine creg ?_
          refine y (ev_fieldAddr 4 rfl Tryz.underlying34 rfl Tryz.sizeOf4) rfl ?_
          refine y (ev_load rfl Tryz.isAgg4 zin rfl) rfl ?_
          refine y (ev_not rfl) rfl ?_
          refine ynil' (kthn (hK62 _ _ ?_))
          clear hK62
          refine ccond rfl (fun h255 => ?_) (fun h255 => ?_)
          ·(try simp only [sH] at h255)
           have hcl107 : v107.dirty = false := h255
           refine creg ?_
           refine y (ev_move rfl) rfl ?_
           refine y (ev_add rfl rfl) rfl ?_
           rw [show IntKind.i64.wrap ((o:Int) + 1) = ((o+1 : Nat) : Int) by rw [wr (by omega) (by omega)]; rfl]
           refine y (ev_assign rfl) rfl ?_
           refine ynil' (kbn (kthn ?_))
           first | (have q := hcl107; exact hL2 (seen ++ [b107], o + 1) ⟨by dsimp only; omega, fun _ _ _ _ => by dsimp only; omega⟩ (by dsimp only; omega) _ _ zsub zge) | exact hL2 (seen ++ [b107], o) ⟨by dsimp only; omega, fun y hy hb hd => by rcases List.mem_append.1 hb with hb | hb; exact ho2 y hy hb hd; simp only [List.mem_singleton] at hb; have e := once_eq hL.w hy hm107 hb; subst e; rw [hdt107] at hd; cases hd⟩ (by dsimp only; omega) _ _ zsub zge
          ·(try simp only [sH] at h255)
           have hdt107 : v107.dirty = true := h255
           refine cskip' (kbn (kthn ?_))
           first | (have q := hcl107; exact hL2 (seen ++ [b107], o + 1) ⟨by dsimp only; omega, fun _ _ _ _ => by dsimp only; omega⟩ (by dsimp only; omega) _ _ zsub zge) | exact hL2 (seen ++ [b107], o) ⟨by dsimp only; omega, fun y hy hb hd => by rcases List.mem_append.1 hb with hb | hb; exact ho2 y hy hb hd; simp only [List.mem_singleton] at hb; have e := once_eq hL.w hy hm107 hb; subst e; rw [hdt107] at hd; cases hd⟩ (by dsimp only; omega) _ _ zsub zge
        clear hK23
        refine cseq ?_; intro K63 hK63
        refine creg ?_
        skip
        ·skip
         refine y (ev_move rfl) rfl ?_
         refine y (ev_neq rfl rfl) rfl ?_
         refine ynil' (kthn (hK63 _ _ ?_))
         clear hK63
         refine ccond0 rfl ?_
         refine cskip' (kthn ?_)
         first
           | (exfalso; omega; done)
           | exact ksub zsub zge (hJr19 (C', D', sl85, _) (⟨hR0, ok85, h0⟩))
       ·skip
        refine y (ev_move rfl) rfl ?_
        first | rw [show (aget W bk).isSome = false from h0] | rw [show (aget W bk).isSome = true from h0]
        refine y (ev_not rfl) rfl ?_
        refine y (ev_move rfl) rfl ?_
        refine yg1 rfl rfl ?_
        refine y (ev_move rfl) rfl ?_
        refine yg1 rfl rfl ?_
        refine y (ev_lenM rfl Tryz.underlying29 zin) rfl ?_
        rw [want_len]
        refine yg1 rfl rfl ?_
        refine y (ev_move rfl) rfl ?_
        refine yg1 rfl rfl ?_
        refine ycall (kRoom (C := C') ?rn267) rfl Tryz.call14 ztk rfl ?_
        case rn267 => first | (have := hs.g.nn; omega) | (rw [hC]; omega)
        rintro v L' ⟨rfl, rfl⟩
        rw [show ((C'.n : Int) - 6) = (n : Int) - 6 by first | (have := hs.g.nn; omega) | (rw [hC]; omega)]
        refine yg1 rfl rfl ?_
        refine y (ev_geq rfl rfl) rfl ?_
        first | rw [decide_eq_true (room_le h1)] | rw [decide_eq_false (room_lt h1)]
        refine y (ev_pick1 rfl rfl) rfl ?_
        refine y (ev_move rfl) rfl ?_
        refine yg0 rfl rfl rfl rfl ?_
        refine yg0 rfl rfl rfl rfl ?_
        refine yg0 rfl rfl rfl rfl ?_
        refine yg0 rfl rfl rfl rfl ?_
        refine y (ev_pick0 rfl rfl) rfl ?_
        refine ynil' (kthn (hK20 _ _ ?_))
        clear hK20
        refine ccond0 rfl ?_
        refine cskip' (kthn (hK19 _ _ ?_))
        clear hK19
        refine cseq ?_; intro K64 hK64
        have hJr19 : ∀ z : CaM × Dev × Sv × Bool, (LiR n (600 * i + 1) C W d (liX bk i data) z.1 z.2.1 0 ∧ itOk z.2.2.1 z.1.l ∧ (aget W bk).isSome = z.2.2.2) → Sk 236 K64 ([(15, .bool z.2.2.2), (13, ptr b13), (12, i64 i), (11, i64 d), (10, .map (some b40)), (9, i64 n), (8, ptr A34.p), (7, dp q34), (1, lv), (2, cv)]) ([sc b13 [i64 bk, i64 1, i64 ((i : Int) + 1), str data, .bool true, i64 ((i : Int) % 4), i64 ((i : Int) + 1)] 34, wantS b40 W cw, caP A34 z.1, enS A34 z.1, puS A34 z.1, lgS A34 q34 z.2.2.1 z.1, dev q34 z.2.1] ++ R) := by
         rintro ⟨C', D', sl', hdd⟩ hIr19
         refine hK64 _ _ ?_
         obtain ⟨hR0, hsl', hhd⟩ := hIr19; dsimp only at hR0 hsl' hhd ⊢
         have hW34 : W.length ≤ 34 := by omega
         refine cseq ?_; intro K65 hK65
         refine creg ?_
         refine y (ev_assign rfl) rfl ?_
         refine ynil' (kthn (hK65 _ _ ?_))
         clear hK65
         refine cseq ?_; intro K66 hK66
         refine cseq ?_; intro K67 hK67
         refine creg ?_
         refine y (ev_move rfl) rfl ?_
         refine ya (ac_range rfl Tryz.underlying29 zin) rfl ?_
         rintro v L' ⟨i106, rfl, rfl⟩
         refine ynil' (kthn (hK67 _ _ ?_))
         clear hK67
         have hJ2 : ∀ x : List Nat × Nat, ((x.2 + (left (akv entV W) x.1).length ≤ W.length ∧ (∀ y ∈ W, y.2.2 ∈ x.1 → y.2.1.dirty = false → 1 ≤ x.2)) ∧ (∀ y ∈ W, y.2.1.dirty = false → 1 ≤ x.2)) → Sk 236 K66 ([(106, ptr i106), (17, i64 x.2), (15, .bool hdd), (13, ptr b13), (12, i64 i), (11, i64 d), (10, .map (some b40)), (9, i64 n), (8, ptr A34.p), (7, dp q34), (1, lv), (2, cv)]) ([so i106 (.mapIter (some b40) cw x.1.toArray cw), sc b13 [i64 bk, i64 1, i64 ((i : Int) + 1), str data, .bool true, i64 ((i : Int) % 4), i64 ((i : Int) + 1)] 34, wantS b40 W cw, caP A34 C', enS A34 C', puS A34 C', lgS A34 q34 sl' C', dev q34 D'] ++ R) := by
          rintro ⟨seen, o⟩ ⟨hI2, hX2⟩
          refine hK66 _ _ ?_
          obtain ⟨ho1, ho2⟩ := hI2; dsimp only at ho1 ho2 ⊢
          dsimp only at hX2
          refine cseq ?_; intro K68 hK68
          have hJr36 : ∀ z : Am EntM, (MidS n i (600 * i + 201) C' D' z cw (liX bk i data)) → Sk 236 K68 ([(13, ptr b13), (12, i64 i), (11, i64 d), (10, .map (some b40)), (9, i64 n), (8, ptr A34.p), (7, dp q34), (1, lv), (2, cv)]) ([sc b13 [i64 bk, i64 1, i64 ((i : Int) + 1), str data, .bool true, i64 ((i : Int) % 4), i64 ((i : Int) + 1)] 34, wantS b40 z cw, caP A34 C', enS A34 C', puS A34 C', lgS A34 q34 sl' C', dev q34 D'] ++ R) := by
           rintro W1 hIr36
           refine hK68 _ _ ?_
           have hM := hIr36
           refine cseq ?_; intro K69 hK69
           have hJr40 : ∀ z : Bool × CaM × Dev × Sv, (MidS n i (600 * i + 401) z.2.1 z.2.2.1 W1 cw { liX bk i data with dirty := z.1 } ∧ itOk z.2.2.2 z.2.1.l) → Sk 236 K69 ([(13, ptr b13), (12, i64 i), (11, i64 d), (10, .map (some b40)), (9, i64 n), (8, ptr A34.p), (7, dp q34), (1, lv), (2, cv)]) ([sc b13 [i64 bk, i64 1, i64 ((i : Int) + 1), str data, .bool z.1, i64 ((i : Int) % 4), i64 ((i : Int) + 1)] 34, wantS b40 W1 cw, caP A34 z.2.1, enS A34 z.2.1, puS A34 z.2.1, lgS A34 q34 z.2.2.2 z.2.1, dev q34 z.2.2.1] ++ R) := by
            rintro ⟨dy, C', D', sl'⟩ hIr40
            refine hK69 _ _ ?_
            obtain ⟨hM, hsl'⟩ := hIr40; dsimp only at hM hsl' ⊢
            have hNu := hM.nums
            have hLn : LiS n (i + 1) (600 * i + 401) C' D' (aput W1 cw bk { liX bk i data with dirty := dy }) (aclk W1 cw bk) (dirtyC (aput W1 cw bk { liX bk i data with dirty := dy })) := hM.put
            refine cseq ?_; intro K70 hK70
            refine creg ?_
            refine y (ev_move rfl) rfl ?_
            refine y (ev_fieldAddr 0 rfl Tryz.underlying34 rfl Tryz.sizeOf3) rfl ?_
            refine y (ev_load rfl Tryz.isAgg3 zin rfl) rfl ?_
            refine y (ev_loadN (u := [i64 bk, i64 1, i64 ((i : Int) + 1), str data, .bool dy, i64 ((i : Int) % 4), i64 ((i : Int) + 1)]) rfl Tryz.isAgg34 Tryz.sizeOf34 zin rfl rfl) rfl ?_
            refine ya0 (ac_mapUpdate (kv := akv entV W1) (v := entV { liX bk i data with dirty := dy }) rfl rfl rfl Tryz.underlying29 Tryz.underlying3 (akv_uniq _ hM.w) zrp) ?_
            rintro v L' ⟨rfl, rfl⟩
            rw [akv_put, akv_clk]
            generalize aput W1 cw bk { liX bk i data with dirty := dy } = W2 at *
            generalize aclk W1 cw bk = cw2 at *
            have hWn := hLn.len
            have hrn := hLn.s.room
            have hdn := dirtyC_le W2
            refine ynil' (kthn (hK70 _ _ ?_))
            clear hK70
            refine cseq ?_; intro K71 hK71
            refine creg ?_
            refine y (ev_assign rfl) rfl ?_
            refine ynil' (kthn (hK71 _ _ ?_))
            clear hK71
            refine cseq ?_; intro K72 hK72
            refine cseq ?_; intro K73 hK73
            refine creg ?_
            refine y (ev_move rfl) rfl ?_
            refine ya (ac_range rfl Tryz.underlying29 zin) rfl ?_
            rintro v L' ⟨i172, rfl, rfl⟩
            refine ynil' (kthn (hK73 _ _ ?_))
            clear hK73
            have hJ4 : ∀ x : List Nat × Nat, ((x.2 + ((leftA W2 x.1).filter fun y => y.2.1.dirty).length = dirtyC W2) ∧ (x.2 = dirtyC W2)) → Sk 236 K72 ([(172, ptr i172), (13, ptr b13), (12, i64 i), (11, i64 x.2), (10, .map (some b40)), (9, i64 n), (8, ptr A34.p), (7, dp q34), (1, lv), (2, cv)]) ([so i172 (.mapIter (some b40) cw2 x.1.toArray cw2), sc b13 [i64 bk, i64 1, i64 ((i : Int) + 1), str data, .bool dy, i64 ((i : Int) % 4), i64 ((i : Int) + 1)] 34, wantS b40 W2 cw2, caP A34 C', enS A34 C', puS A34 C', lgS A34 q34 sl' C', dev q34 D'] ++ R) := by
             rintro ⟨seen, dd⟩ ⟨hI4, hX4⟩
             refine hK72 _ _ ?_
             have hdd := hI4; dsimp only at hdd ⊢
             dsimp only at hX4; subst hX4
             refine cseq ?_; intro K74 hK74
             refine cdraw 21 [(0, true), (3, true), (1, false), (2, true), (4, true), (5, true), (6, true), (7, true), (8, true), (9, true), (11, true), (12, true), (10, false), (13, true), (14, true), (15, true), (16, true), (18, true), (19, true), (17, false), (20, true)] (_) Tryz.mixed (by kernel_rfl) .refl ?_
             skip
             ·skip
              refine hr rfl (ev_move rfl) rfl ?_
              refine hr rfl (ev_move rfl) rfl ?_
              refine hcall rfl (kAll (C := C') ?bl285) rfl Tryz.call17 ztk rfl ?_
              case bl285 => rw [hLn.s.g.bl]; decide
              rintro v L' ⟨s196, rfl, ok196, rfl⟩; refine ⟨zge, ?_⟩
              rw [hLn.allLen] at ok196 ⊢
              first
                | refine hr rfl (ev_len rfl Tryz.underlying41) rfl ?_
                | refine hr rfl (ev_lenSv rfl Tryz.underlying41 (by assumption)) rfl ?_
                | refine hr rfl (ev_lenV rfl Tryz.underlying41 (RdV.lenVal (by assumption))) rfl ?_
                | refine hr rfl (ev_lenV rfl Tryz.underlying41 (RdB.lenVal (by assumption))) rfl ?_
              refine hr rfl (ev_lenM rfl Tryz.underlying29 zin) rfl ?_
              rw [want_len]
              refine hr rfl (ev_neq rfl rfl) rfl ?_
              rw [show (!decide ((W2.length : Int) = (W2.length : Int))) = false by simp]
              refine hr rfl (ev_move rfl) rfl ?_
              refine hr1 rfl rfl rfl (ev_move rfl) rfl ?_
              refine hr1 rfl rfl rfl (ev_move rfl) rfl ?_
              refine hr1 rfl rfl rfl (ev_rem rfl rfl (by decide)) rfl ?_
              rw [tmod4]
              refine hr1 rfl rfl rfl (ev_move rfl) rfl ?_
              refine hr1 rfl rfl rfl (ev_add rfl rfl) rfl ?_
              rw [wr (by omega) (by omega)]
              refine hcall1 rfl rfl rfl (kNumber (C := C')) rfl Tryz.call18 ztk rfl ?_
              rintro v L' ⟨rfl, rfl⟩; refine ⟨zge, ?_⟩
              rw [hNu.num]
              refine hr1 rfl rfl rfl (ev_neq rfl rfl) rfl ?_
              rw [show (!decide ((i : Int) + 1 = (i : Int) + 1)) = false by simp]
              refine hr rfl (ev_pick0 rfl rfl) rfl ?_
              refine hr rfl (ev_move rfl) rfl ?_
              refine hr1 rfl rfl rfl (ev_move rfl) rfl ?_
              refine hr1 rfl rfl rfl (ev_fieldAddr 1 rfl Tryz.underlying34 rfl Tryz.sizeOf31) rfl ?_
              refine hr1 rfl rfl rfl (ev_loadN (u := [i64 1, i64 ((i : Int) + 1)]) rfl Tryz.isAgg31 Tryz.sizeOf31 zin rfl rfl) rfl ?_
              refine hcall1 rfl rfl rfl (kLast (C := C')) rfl Tryz.call19 ztk rfl ?_
              rintro v L' ⟨rfl, rfl⟩; refine ⟨zge, ?_⟩
              rw [hNu.e, hNu.s]
              refine hr1 rfl rfl rfl (ev_neqF (p := True) (xs := [i64 1, i64 ((i : Int) + 1)]) (ys := [i64 1, i64 ((i : Int) + 1)]) rfl rfl (by kernel_rfl) (by simp)) rfl ?_
              refine hnil ?_
              refine y (ev_pick0 rfl rfl) rfl ?_
              refine hnoP' (kthn (hK74 _ _ ?_))
              clear hK74
              refine ccond0 rfl ?_
              refine cskip' (kbn (kthn (hK15 _ _ ?_)))
              clear hK15
              refine creg ?_
              refine y (ev_move rfl) rfl ?_
              refine y (ev_add rfl rfl) rfl ?_
              rw [show IntKind.i64.wrap ((i:Int) + 1) = ((i+1 : Nat) : Int) by rw [wr (by omega) (by omega)]; rfl]
              refine y (ev_assign rfl) rfl ?_
              refine ynil' (kthn ?_)
              first | exact hL1 (i + 1, C', D', sl', W2, cw2, dirtyC W2) ⟨hLn.le (by dsimp only; omega), hsl', by dsimp only; omega, by dsimp only; omega⟩ (by dsimp only; omega) _ _ zsub zge | exact hL1 (i + 1, C', D', sl85, W, cw, d) ⟨hL.skip (hs.le (by dsimp only; omega)), ok85, by dsimp only; omega, by dsimp only; omega⟩ (by dsimp only; omega) _ _ zsub zge
            clear hK72
            refine cblock ?_
            refine cloop (A := List Nat × Nat) (fun x => [(172, ptr i172), (13, ptr b13), (12, i64 i), (11, i64 x.2), (10, .map (some b40)), (9, i64 n), (8, ptr A34.p), (7, dp q34), (1, lv), (2, cv)]) (fun x => [so i172 (.mapIter (some b40) cw2 x.1.toArray cw2), sc b13 [i64 bk, i64 1, i64 ((i : Int) + 1), str data, .bool dy, i64 ((i : Int) % 4), i64 ((i : Int) + 1)] 34, wantS b40 W2 cw2, caP A34 C', enS A34 C', puS A34 C', lgS A34 q34 sl' C', dev q34 D'] ++ R) (fun x => x.2 + ((leftA W2 x.1).filter fun y => y.2.1.dirty).length = dirtyC W2) (fun x => (left (akv entV W2) x.1).length) (([], 0)) ?_ zsub zge ?_
            · rw [leftA_all]; unfold dirtyC; exact Nat.zero_add _
            rintro ⟨seen, dd⟩ hI4 KL4 hL4
            have hI4o := hI4
            have hdd := hI4; dsimp only at hdd ⊢
            refine cseq ?_; intro K75 hK75
            refine creg ?_
            refine ya (ac_next rfl zin zin ?st308 (fun _ => zrp)) rfl ?_
            case st308 => first | exact akv_stamped _ hL.w | exact akv_stamped _ (hG.ok hL.w) | exact akv_stamped _ hLn.w
            rintro v L' (⟨hov173, rfl, rfl⟩ | ⟨x173, hx173, rfl, rfl⟩)
            ·skip
             refine y (ev_extract rfl rfl) rfl ?_
             refine ynil' (kthn (hK75 _ _ ?_))
             clear hK75
             refine cseq ?_; intro K76 hK76
             refine ccond0 rfl ?_
             refine cexit (kthx (kthx (kbx (kthn ?_))))
             exact ksub zsub zge (hJ4 ⟨seen, dd⟩ ⟨hI4o, by have h := hdd; rw [leftA_nil hov173] at h; simpa using h⟩)
            ·skip
             have hlt := left_lt hx173
             obtain ⟨k173, v173, b173, rfl, hm173, hs173⟩ := left_akv hx173
             dsimp only at hlt
             have hcf := cnt_filter hLn.w (p := fun y => y.2.1.dirty) hm173 hs173
             have hgv : aget C'.en k173 = some v173 := by rw [← hLn.eq]; exact aget_mem hLn.w hm173
             refine y (ev_extract rfl rfl) rfl ?_
             refine ynil' (kthn (hK75 _ _ ?_))
             clear hK75
             refine cseq ?_; intro K77 hK77
             refine ccond1 rfl ?_
             refine cskip' (kthn (hK77 _ _ ?_))
             clear hK77
             refine cblock ?_
             refine cseq ?_; intro K78 hK78
             refine creg ?_
             refine y (ev_entry rfl zin zin ?st311 ?mem311) rfl ?_
             case st311 => first | exact akv_stamped _ hL.w | exact akv_stamped _ (hG.ok hL.w) | exact akv_stamped _ hLn.w
             case mem311 => first | exact left_mem hx107 | exact left_mem hx127 | exact left_mem hx173
             refine y (ev_extract rfl rfl) rfl ?_
             refine y (ev_extract rfl rfl) rfl ?_
             refine ya (ac_alloc Tryz.zeroValue34 rfl) rfl ?_
             rintro v L' ⟨b25, rfl, rfl⟩
             refine y (ev_assign rfl) rfl ?_
             refine ya0 (ac_storeAll rfl rfl (ent_one v173) Tryz.sizeOf34 zrp rfl rfl) ?_
             rintro v L' ⟨rfl, rfl⟩
             refine ynil' (kthn (hK78 _ _ ?_))
             clear hK78
             refine cseq ?_; intro K79 hK79
             refine creg ?_
             refine y (ev_move rfl) rfl ?_
             refine y (ev_move rfl) rfl ?_
             refine ycall (kGet (C := C') (b := k173)) rfl Tryz.call15 ztk rfl ?_
             rintro v L' ⟨rfl, rfl⟩
             rw [hgv]
             refine y (ev_move rfl) rfl ?_
             refine y (ev_extract rfl rfl) rfl ?_
             refine y (ev_extract rfl rfl) rfl ?_
             refine ya (ac_alloc Tryz.zeroValue34 rfl) rfl ?_
             rintro v L' ⟨b26, rfl, rfl⟩
             refine ya0 (ac_storeAll rfl rfl (ent_one v173) Tryz.sizeOf34 zrp rfl rfl) ?_
             rintro v L' ⟨rfl, rfl⟩
             refine y (ev_assign rfl) rfl ?_
             refine ynil' (kthn (hK79 _ _ ?_))
             clear hK79
             refine cseq ?_; intro K80 hK80
             refine cseq ?_; intro K81 hK81
             refine creg ?_
             skip
             ·skip
              refine y (ev_move rfl) rfl ?_
              refine y (ev_not rfl) rfl ?_
              refine y (ev_move rfl) rfl ?_
              refine yg1 rfl rfl ?_
              refine y (ev_loadN (u := v173.cells) rfl Tryz.isAgg34 Tryz.sizeOf34 zin rfl rfl) rfl ?_
              refine yg1 rfl rfl ?_
              refine y (ev_loadN (u := v173.cells) rfl Tryz.isAgg34 Tryz.sizeOf34 zin rfl rfl) rfl ?_
              refine yg1 rfl rfl ?_
              refine y (ev_neqF (p := v173 = v173) rfl rfl (by kernel_rfl) (iff_of_eq ent_inj)) rfl ?_
              rw [show (!decide (v173 = v173)) = false by simp]
              refine y (ev_pick0 rfl rfl) rfl ?_
              refine ynil' (kthn (hK81 _ _ ?_))
              clear hK81
              refine ccond0 rfl ?_
              refine cskip' (kthn (hK80 _ _ ?_))
              clear hK80
              refine cseq ?_; intro K82 hK82
              refine creg ?_
              refine y (ev_fieldAddr 4 rfl Tryz.underlying34 rfl Tryz.sizeOf4) rfl ?_
              refine y (ev_load rfl Tryz.isAgg4 zin rfl) rfl ?_
              refine ynil' (kthn (hK82 _ _ ?_))
              clear hK82
              refine ccond rfl (fun h335 => ?_) (fun h335 => ?_)
              ·(try simp only [sH] at h335)
               have hdt173 : v173.dirty = true := h335
               dsimp only at hcf; rw [if_pos hdt173] at hcf
               refine creg ?_
               refine y (ev_move rfl) rfl ?_
               refine y (ev_add rfl rfl) rfl ?_
               rw [show IntKind.i64.wrap ((dd:Int) + 1) = ((dd+1 : Nat) : Int) by rw [wr (by omega) (by omega)]; rfl]
               refine y (ev_assign rfl) rfl ?_
               refine ynil' (kbn (kthn ?_))
               first | (have q := hdt173; exact hL4 (seen ++ [b173], dd + 1) (by dsimp only; omega) hlt _ _ zsub zge) | exact hL4 (seen ++ [b173], dd) (by dsimp only; omega) hlt _ _ zsub zge
              ·(try simp only [sH] at h335)
               have hcl173 : v173.dirty = false := h335
               dsimp only at hcf; rw [if_neg (by rw [hcl173]; simp)] at hcf
               refine cskip' (kbn (kthn ?_))
               first | (have q := hdt173; exact hL4 (seen ++ [b173], dd + 1) (by dsimp only; omega) hlt _ _ zsub zge) | exact hL4 (seen ++ [b173], dd) (by dsimp only; omega) hlt _ _ zsub zge
           clear hK69
           refine cseq ?_; intro K83 hK83
           refine creg ?_
           refine y (ev_move rfl) rfl ?_
           refine y (ev_move rfl) rfl ?_
           refine y (ev_lenV rfl Tryz.underlying23 hcl) rfl ?_
           refine y (ev_lss rfl rfl) rfl ?_
           refine y (ev_move rfl) rfl ?_
           refine ysplit 153 rfl (fun h344 => ?_) (fun h344 => ?_)
           ·(try simp only [sH] at h344)
            obtain ⟨cb, hcb⟩ : ∃ cb, cl[i]? = some cb := ⟨_, List.getElem?_eq_getElem (by omega)⟩
            refine yg1 rfl rfl ?_
            refine y (ev_move rfl) rfl ?_
            refine yg1 rfl rfl ?_
            refine y (ev_move rfl) rfl ?_
            refine yg1 rfl rfl ?_
            refine y (ev_ixV hc rfl rfl Tryz.underlying23 Tryz.sizeOf4 (by omega) (by omega)) rfl ?_
            refine yg1 rfl rfl ?_
            refine y (ev_loadV i hc zge rfl Tryz.isAgg4 (by simp) (boolsV_get hcb)) rfl ?_
            refine y (ev_pick1 rfl rfl) rfl ?_
            refine ynil' (kthn (hK83 _ _ ?_))
            clear hK83
            refine ccond rfl (fun h350 => ?_) (fun h350 => ?_)
            ·(try simp only [sH] at h350)
             refine cseq ?_; intro K84 hK84
             refine cseq ?_; intro K85 hK85
             refine creg ?_
             refine y (ev_move rfl) rfl ?_
             refine y (ev_fieldAddr 0 rfl Tryz.underlying34 rfl Tryz.sizeOf3) rfl ?_
             refine y (ev_load rfl Tryz.isAgg3 zin rfl) rfl ?_
             refine y (ev_fieldAddr 1 rfl Tryz.underlying34 rfl Tryz.sizeOf31) rfl ?_
             refine y (ev_loadN (u := [i64 1, i64 ((i : Int) + 1)]) rfl Tryz.isAgg31 Tryz.sizeOf31 zin rfl rfl) rfl ?_
             refine ycall (kClean (C := C') (sl := sl') (q := q34) (D := D') (b := bk) (e := 1) (s := (i : Int) + 1) ?cok356 ?its356) rfl Tryz.call16 ztk rfl ?_
             case cok356 => exact hM.s.g.ok
             case its356 => exact hsl'
             rintro v L' ⟨sl164, rfl, ok164, rfl⟩
             obtain ⟨e4', hS4, hen4, hk4⟩ := hM.s.clean_did (by omega) (by omega) hM.get rfl
             have hM4 : MidS n i (600 * i + 401) (C'.clean D' bk 1 ((i : Int) + 1)).2.1 (C'.clean D' bk 1 ((i : Int) + 1)).2.2 W1 cw { liX bk i data with dirty := false } := hM.did hS4 hen4 hk4
             have e4 : (C'.clean D' bk 1 ((i : Int) + 1)).1 = 0 := e4'
             clear e4' hS4 hen4 hk4
             generalize C'.clean D' bk 1 ((i : Int) + 1) = r4 at *
             obtain ⟨c4, C4, D4⟩ := r4
             dsimp only at *
             subst e4
             skip
             ·skip
              refine y (ev_neq rfl rfl) rfl ?_
              refine ynil' (kthn (hK85 _ _ ?_))
              clear hK85
              refine ccond0 rfl ?_
              refine cskip' (kthn (hK84 _ _ ?_))
              clear hK84
              refine creg ?_
              refine y (ev_fieldAddr 4 rfl Tryz.underlying34 rfl Tryz.sizeOf4) rfl ?_
              refine ya0 (ac_store rfl rfl (by first | rfl | exact svVal_one _ _ | assumption) Tryz.sizeOf4 zrp rfl rfl) ?_
              rintro v L' ⟨rfl, rfl⟩
              refine ynil' (kthn ?_)
              first | exact ksub zsub zge (hJr40 (false, C4, D4, sl164) ⟨hM4, ok164⟩) | exact ksub zsub zge (hJr40 (true, C', D', sl') ⟨hM.le (by omega), hsl'⟩)
            ·(try simp only [sH] at h350)
             refine cskip' (kthn ?_)
             first | exact ksub zsub zge (hJr40 (false, C4, D4, sl164) ⟨hM4, ok164⟩) | exact ksub zsub zge (hJr40 (true, C', D', sl') ⟨hM.le (by omega), hsl'⟩)
           ·(try simp only [sH] at h344)
            refine yg0 rfl rfl rfl rfl ?_
            refine yg0 rfl rfl rfl rfl ?_
            refine yg0 rfl rfl rfl rfl ?_
            refine yg0 rfl rfl rfl rfl ?_
            refine y (ev_pick0 rfl rfl) rfl ?_
            refine ynil' (kthn (hK83 _ _ ?_))
            clear hK83
            refine ccond0 rfl ?_
            refine cskip' (kthn ?_)
            first | exact ksub zsub zge (hJr40 (false, C4, D4, sl164) ⟨hM4, ok164⟩) | exact ksub zsub zge (hJr40 (true, C', D', sl') ⟨hM.le (by omega), hsl'⟩)
          clear hK68
          refine cseq ?_; intro K86 hK86
          refine creg ?_
          rcases hR0 with _ | ⟨h0, hs, en, kk⟩ | ⟨h0, h1, hs, en, kk⟩ | ⟨h0, h1, h2, hs, yg, hy, hd, en, kk⟩
          ·skip
           refine y (ev_move rfl) rfl ?_
           first | rw [show hdd = false from hhd.symm.trans h0] | rw [show hdd = true from hhd.symm.trans h0]
           refine y (ev_not rfl) rfl ?_
           refine y (ev_move rfl) rfl ?_
           refine yg0 rfl rfl rfl rfl ?_
           refine yg0 rfl rfl rfl rfl ?_
           refine yg0 rfl rfl rfl rfl ?_
           refine yg0 rfl rfl rfl rfl ?_
           refine yg0 rfl rfl rfl rfl ?_
           refine y (ev_pick0 rfl rfl) rfl ?_
           refine ynil' (kthn (hK86 _ _ ?_))
           clear hK86
           refine ccond0 rfl ?_
           refine cskip' (kthn ?_)
           first | exact ksub zsub zge (hJr36 (adel W yg.blk) ⟨hs.le (by omega), hL.w.del _, mid_place hL en, kk ▸ hNu⟩) | exact ksub zsub zge (hJr36 W ⟨hs.le (by omega), hL.w, mid_put hL en, kk ▸ hNu⟩)
          ·skip
           refine y (ev_move rfl) rfl ?_
           first | rw [show hdd = false from hhd.symm.trans h0] | rw [show hdd = true from hhd.symm.trans h0]
           refine y (ev_not rfl) rfl ?_
           refine y (ev_move rfl) rfl ?_
           refine yg1 rfl rfl ?_
           refine y (ev_move rfl) rfl ?_
           refine yg1 rfl rfl ?_
           refine y (ev_lenM rfl Tryz.underlying29 zin) rfl ?_
           rw [want_len]
           refine yg1 rfl rfl ?_
           refine y (ev_move rfl) rfl ?_
           refine yg1 rfl rfl ?_
           refine ycall (kRoom (C := C') ?rn371) rfl Tryz.call14 ztk rfl ?_
           case rn371 => have := hs.g.nn; omega
           rintro v L' ⟨rfl, rfl⟩
           rw [show ((C'.n : Int) - 6) = (n : Int) - 6 by have := hs.g.nn; omega]
           refine yg1 rfl rfl ?_
           refine y (ev_geq rfl rfl) rfl ?_
           first | rw [decide_eq_true (room_le h1)] | rw [decide_eq_false (room_lt h1)]
           refine y (ev_pick1 rfl rfl) rfl ?_
           refine ynil' (kthn (hK86 _ _ ?_))
           clear hK86
           refine ccond0 rfl ?_
           refine cskip' (kthn ?_)
           first | exact ksub zsub zge (hJr36 (adel W yg.blk) ⟨hs.le (by omega), hL.w.del _, mid_place hL en, kk ▸ hNu⟩) | exact ksub zsub zge (hJr36 W ⟨hs.le (by omega), hL.w, mid_put hL en, kk ▸ hNu⟩)
          ·skip
           refine y (ev_move rfl) rfl ?_
           first | rw [show hdd = false from hhd.symm.trans h0] | rw [show hdd = true from hhd.symm.trans h0]
           refine y (ev_not rfl) rfl ?_
           refine y (ev_move rfl) rfl ?_
           refine yg1 rfl rfl ?_
           refine y (ev_move rfl) rfl ?_
           refine yg1 rfl rfl ?_
           refine y (ev_lenM rfl Tryz.underlying29 zin) rfl ?_
           rw [want_len]
           refine yg1 rfl rfl ?_
           refine y (ev_move rfl) rfl ?_
           refine yg1 rfl rfl ?_
           refine ycall (kRoom (C := C') ?rn380) rfl Tryz.call14 ztk rfl ?_
           case rn380 => have := hs.g.nn; omega
           rintro v L' ⟨rfl, rfl⟩
           rw [show ((C'.n : Int) - 6) = (n : Int) - 6 by have := hs.g.nn; omega]
           refine yg1 rfl rfl ?_
           refine y (ev_geq rfl rfl) rfl ?_
           first | rw [decide_eq_true (room_le h1)] | rw [decide_eq_false (room_lt h1)]
           refine y (ev_pick1 rfl rfl) rfl ?_
           refine ynil' (kthn (hK86 _ _ ?_))
           clear hK86
           refine ccond1 rfl ?_
           refine cseq ?_; intro K87 hK87
           refine creg ?_
           have hgn := place_none en h0 hy
           refine y (ev_assign rfl) rfl ?_
           refine ynil' (kthn (hK87 _ _ ?_))
           clear hK87
           refine cseq ?_; intro K88 hK88
           refine cseq ?_; intro K89 hK89
           refine creg ?_
           refine y (ev_move rfl) rfl ?_
           refine ya (ac_range rfl Tryz.underlying29 zin) rfl ?_
           rintro v L' ⟨i126, rfl, rfl⟩
           refine ynil' (kthn (hK89 _ _ ?_))
           clear hK89
           have hJ3 : ∀ x : List Nat × Am EntM × Nat, ((GoI W x.2.1 cw yg.blk x.1 x.2.2 ∧ x.2.2 ≤ 1) ∧ (x.2.2 = 1 ∧ x.2.1 = adel W yg.blk)) → Sk 236 K88 ([(126, ptr i126), (20, i64 x.2.2), (17, i64 o), (13, ptr b13), (12, i64 i), (11, i64 d), (10, .map (some b40)), (9, i64 n), (8, ptr A34.p), (7, dp q34), (1, lv), (2, cv)]) ([so i126 (.mapIter (some b40) cw x.1.toArray cw), sc b13 [i64 bk, i64 1, i64 ((i : Int) + 1), str data, .bool true, i64 ((i : Int) % 4), i64 ((i : Int) + 1)] 34, wantS b40 x.2.1 cw, caP A34 C', enS A34 C', puS A34 C', lgS A34 q34 sl' C', dev q34 D'] ++ R) := by
            rintro ⟨seen, W1, g⟩ ⟨hI3, hX3⟩
            refine hK88 _ _ ?_
            obtain ⟨hG, hg1⟩ := hI3; dsimp only at hG hg1 ⊢
            obtain ⟨hX3a, hX3b⟩ := hX3; dsimp only at hX3a hX3b; subst hX3a; subst hX3b
            refine cseq ?_; intro K90 hK90
            refine creg ?_
            have ho9 : 1 ≤ o := by obtain ⟨q9, hq9⟩ := aget_some hy; exact hX2 _ hq9 hd
            skip
            ·skip
             have ho9 : 1 ≤ o := by obtain ⟨q9, hq9⟩ := aget_some hy; exact hX2 _ hq9 hd
             refine y (ev_move rfl) rfl ?_
             refine y (ev_neq rfl rfl) rfl ?_
             refine y (ev_move rfl) rfl ?_
             refine yg1 rfl rfl ?_
             refine y (ev_move rfl) rfl ?_
             refine yg1 rfl rfl ?_
             refine y (ev_eql rfl rfl) rfl ?_
             rw [decide_eq_false (cast_n0 ho9)]
             refine y (ev_pick0 rfl rfl) rfl ?_
             refine ynil' (kthn (hK90 _ _ ?_))
             clear hK90
             refine ccond0 rfl ?_
             refine cskip' (kthn ?_)
             first | exact ksub zsub zge (hJr36 (adel W yg.blk) ⟨hs.le (by omega), hL.w.del _, mid_place hL en, kk ▸ hNu⟩) | exact ksub zsub zge (hJr36 W ⟨hs.le (by omega), hL.w, mid_put hL en, kk ▸ hNu⟩)
           clear hK88
           refine cblock ?_
           refine cloop (A := List Nat × Am EntM × Nat) (fun x => [(126, ptr i126), (20, i64 x.2.2), (17, i64 o), (13, ptr b13), (12, i64 i), (11, i64 d), (10, .map (some b40)), (9, i64 n), (8, ptr A34.p), (7, dp q34), (1, lv), (2, cv)]) (fun x => [so i126 (.mapIter (some b40) cw x.1.toArray cw), sc b13 [i64 bk, i64 1, i64 ((i : Int) + 1), str data, .bool true, i64 ((i : Int) % 4), i64 ((i : Int) + 1)] 34, wantS b40 x.2.1 cw, caP A34 C', enS A34 C', puS A34 C', lgS A34 q34 sl' C', dev q34 D'] ++ R) (fun x => GoI W x.2.1 cw yg.blk x.1 x.2.2 ∧ x.2.2 ≤ 1) (fun x => (left (akv entV x.2.1) x.1).length) (([], W, 0)) ?_ zsub zge ?_
           · exact ⟨GoI.new _ _ _, Nat.zero_le _⟩
           rintro ⟨seen, W1, g⟩ hI3 KL3 hL3
           have hI3o := hI3
           obtain ⟨hG, hg1⟩ := hI3; dsimp only at hG hg1 ⊢
           refine cseq ?_; intro K91 hK91
           refine creg ?_
           refine ya (ac_next rfl zin zin ?st392 (fun _ => zrp)) rfl ?_
           case st392 => first | exact akv_stamped _ hL.w | exact akv_stamped _ (hG.ok hL.w) | exact akv_stamped _ hLn.w
           rintro v L' (⟨hov127, rfl, rfl⟩ | ⟨x127, hx127, rfl, rfl⟩)
           ·skip
            refine y (ev_extract rfl rfl) rfl ?_
            refine ynil' (kthn (hK91 _ _ ?_))
            clear hK91
            refine cseq ?_; intro K92 hK92
            refine ccond0 rfl ?_
            refine cexit (kthx (kthx (kbx (kthn ?_))))
            exact ksub zsub zge (hJ3 ⟨seen, W1, g⟩ ⟨hI3o, hG.over (by rw [hy]; rfl) hov127⟩)
           ·skip
            have hlt := left_lt hx127
            obtain ⟨k127, v127, b127, rfl, hm127, hs127⟩ := left_akv hx127
            dsimp only at hlt
            refine y (ev_extract rfl rfl) rfl ?_
            refine ynil' (kthn (hK91 _ _ ?_))
            clear hK91
            refine cseq ?_; intro K93 hK93
            refine ccond1 rfl ?_
            refine cskip' (kthn (hK93 _ _ ?_))
            clear hK93
            refine cblock ?_
            refine cseq ?_; intro K94 hK94
            refine creg ?_
            refine y (ev_entry rfl zin zin ?st395 ?mem395) rfl ?_
            case st395 => first | exact akv_stamped _ hL.w | exact akv_stamped _ (hG.ok hL.w) | exact akv_stamped _ hLn.w
            case mem395 => first | exact left_mem hx107 | exact left_mem hx127 | exact left_mem hx173
            refine y (ev_extract rfl rfl) rfl ?_
            refine y (ev_assign rfl) rfl ?_
            refine ynil' (kthn (hK94 _ _ ?_))
            clear hK94
            refine cseq ?_; intro K95 hK95
            refine creg ?_
            by_cases hkq : k127 = yg.blk
            ·skip
             refine y (ev_move rfl) rfl ?_
             refine y (ev_move rfl) rfl ?_
             refine ycall (kGet (C := C') (b := k127)) rfl Tryz.call15 ztk rfl ?_
             rintro v L' ⟨rfl, rfl⟩
             first | rw [show aget C'.en k127 = none from hkq ▸ hgn] | rw [show aget C'.en k127 = some v127 from place_there hL en h0 (hG.get hL.w hm127 hkq) hkq]
             refine y (ev_move rfl) rfl ?_
             refine y (ev_extract rfl rfl) rfl ?_
             refine y (ev_extract rfl rfl) rfl ?_
             refine ya (ac_alloc Tryz.zeroValue34 rfl) rfl ?_
             rintro v L' ⟨b22, rfl, rfl⟩
             refine ya0 (ac_storeAll rfl rfl (ent_one _) Tryz.sizeOf34 zrp rfl rfl) ?_
             rintro v L' ⟨rfl, rfl⟩
             refine y (ev_assign rfl) rfl ?_
             refine ynil' (kthn (hK95 _ _ ?_))
             clear hK95
             refine cseq ?_; intro K96 hK96
             refine creg ?_
             refine y (ev_move rfl) rfl ?_
             refine y (ev_not rfl) rfl ?_
             refine ynil' (kthn (hK96 _ _ ?_))
             clear hK96
             refine ccond1 rfl ?_
             refine cseq ?_; intro K97 hK97
             refine creg ?_
             refine y (ev_move rfl) rfl ?_
             refine y (ev_add rfl rfl) rfl ?_
             rw [show IntKind.i64.wrap ((g:Int) + 1) = ((g+1 : Nat) : Int) by rw [wr (by omega) (by omega)]; rfl]
             refine y (ev_assign rfl) rfl ?_
             refine ynil' (kthn (hK97 _ _ ?_))
             clear hK97
             refine creg ?_
             refine y (ev_move rfl) rfl ?_
             refine y (ev_move rfl) rfl ?_
             refine ya0 (ac_delete rfl rfl Tryz.underlying29 Tryz.underlying3 rfl zrp) ?_
             rintro v L' ⟨rfl, rfl⟩
             rw [akv_del, hkq]
             refine ynil' (kbn (kthn ?_))
             first | exact hL3 (seen ++ [b127], W1, g) ⟨hG.miss hL.w hm127 hkq, hg1⟩ hlt _ _ zsub zge | exact hL3 (seen ++ [b127], adel W1 yg.blk, g + 1) ⟨(hG.hit hL.w (hkq ▸ hm127)).2, by have := (hG.hit hL.w (hkq ▸ hm127)).1; dsimp only; omega⟩ (Nat.lt_of_le_of_lt (left_del_le _ _ _ _) hlt) _ _ zsub zge
            ·skip
             refine y (ev_move rfl) rfl ?_
             refine y (ev_move rfl) rfl ?_
             refine ycall (kGet (C := C') (b := k127)) rfl Tryz.call15 ztk rfl ?_
             rintro v L' ⟨rfl, rfl⟩
             first | rw [show aget C'.en k127 = none from hkq ▸ hgn] | rw [show aget C'.en k127 = some v127 from place_there hL en h0 (hG.get hL.w hm127 hkq) hkq]
             refine y (ev_move rfl) rfl ?_
             refine y (ev_extract rfl rfl) rfl ?_
             refine y (ev_extract rfl rfl) rfl ?_
             refine ya (ac_alloc Tryz.zeroValue34 rfl) rfl ?_
             rintro v L' ⟨b22, rfl, rfl⟩
             refine ya0 (ac_storeAll rfl rfl (ent_one _) Tryz.sizeOf34 zrp rfl rfl) ?_
             rintro v L' ⟨rfl, rfl⟩
             refine y (ev_assign rfl) rfl ?_
             refine ynil' (kthn (hK95 _ _ ?_))
             clear hK95
             refine cseq ?_; intro K98 hK98
             refine creg ?_
             refine y (ev_move rfl) rfl ?_
             refine y (ev_not rfl) rfl ?_
             refine ynil' (kthn (hK98 _ _ ?_))
             clear hK98
             refine ccond0 rfl ?_
             refine cskip' (kbn (kthn ?_))
             first | exact hL3 (seen ++ [b127], W1, g) ⟨hG.miss hL.w hm127 hkq, hg1⟩ hlt _ _ zsub zge | exact hL3 (seen ++ [b127], adel W1 yg.blk, g + 1) ⟨(hG.hit hL.w (hkq ▸ hm127)).2, by have := (hG.hit hL.w (hkq ▸ hm127)).1; dsimp only; omega⟩ (Nat.lt_of_le_of_lt (left_del_le _ _ _ _) hlt) _ _ zsub zge
         clear hK66
         refine cblock ?_
         refine cloop (A := List Nat × Nat) (fun x => [(106, ptr i106), (17, i64 x.2), (15, .bool hdd), (13, ptr b13), (12, i64 i), (11, i64 d), (10, .map (some b40)), (9, i64 n), (8, ptr A34.p), (7, dp q34), (1, lv), (2, cv)]) (fun x => [so i106 (.mapIter (some b40) cw x.1.toArray cw), sc b13 [i64 bk, i64 1, i64 ((i : Int) + 1), str data, .bool true, i64 ((i : Int) % 4), i64 ((i : Int) + 1)] 34, wantS b40 W cw, caP A34 C', enS A34 C', puS A34 C', lgS A34 q34 sl' C', dev q34 D'] ++ R) (fun x => x.2 + (left (akv entV W) x.1).length ≤ W.length ∧ (∀ y ∈ W, y.2.2 ∈ x.1 → y.2.1.dirty = false → 1 ≤ x.2)) (fun x => (left (akv entV W) x.1).length) (([], 0)) ?_ zsub zge ?_
         · exact ⟨by have h := List.length_filter_le (fun x => !([] : List Nat).contains x.2.2) (akv entV W); show 0 + (left (akv entV W) []).length ≤ W.length; rw [akv_len] at h; unfold left; omega, fun _ _ h => by cases h⟩
         rintro ⟨seen, o⟩ hI2 KL2 hL2
         have hI2o := hI2
         obtain ⟨ho1, ho2⟩ := hI2; dsimp only at ho1 ho2 ⊢
         refine cseq ?_; intro K99 hK99
         refine creg ?_
         refine ya (ac_next rfl zin zin ?st426 (fun _ => zrp)) rfl ?_
         case st426 => first | exact akv_stamped _ hL.w | exact akv_stamped _ (hG.ok hL.w) | exact akv_stamped _ hLn.w
         rintro v L' (⟨hov107, rfl, rfl⟩ | ⟨x107, hx107, rfl, rfl⟩)
         ·skip
          refine y (ev_extract rfl rfl) rfl ?_
          refine ynil' (kthn (hK99 _ _ ?_))
          clear hK99
          refine cseq ?_; intro K100 hK100
          refine ccond0 rfl ?_
          refine cexit (kthx (kthx (kbx (kthn ?_))))
          exact ksub zsub zge (hJ2 ⟨seen, o⟩ ⟨hI2o, fun y hy hd => ho2 y hy (left_none hov107 y hy) hd⟩)
         ·skip
          have hlt := left_lt hx107
          obtain ⟨k107, v107, b107, rfl, hm107, hs107⟩ := left_akv hx107
          dsimp only at hlt
          refine y (ev_extract rfl rfl) rfl ?_
          refine ynil' (kthn (hK99 _ _ ?_))
          clear hK99
          refine cseq ?_; intro K101 hK101
          refine ccond1 rfl ?_
          refine cskip' (kthn (hK101 _ _ ?_))
          clear hK101
          refine cblock ?_
          refine cseq ?_; intro K102 hK102
          refine creg ?_
          refine y (ev_entry rfl zin zin ?st429 ?mem429) rfl ?_
          case st429 => first | exact akv_stamped _ hL.w | exact akv_stamped _ (hG.ok hL.w) | exact akv_stamped _ hLn.w
          case mem429 => first | exact left_mem hx107 | exact left_mem hx127 | exact left_mem hx173
          refine y (ev_extract rfl rfl) rfl ?_
          refine ya (ac_alloc Tryz.zeroValue34 rfl) rfl ?_
          rintro v L' ⟨b19, rfl, rfl⟩
          refine ya0 (ac_storeAll rfl rfl (ent_one v107) Tryz.sizeOf34 zrp rfl rfl) ?_
          rintro v L' ⟨rfl, rfl⟩
          refine ynil' (kthn (hK102 _ _ ?_))
          clear hK102
          refine cseq ?_; intro K103 hK103
          refine creg ?_
          refine y (ev_fieldAddr 4 rfl Tryz.underlying34 rfl Tryz.sizeOf4) rfl ?_
          refine y (ev_load rfl Tryz.isAgg4 zin rfl) rfl ?_
          refine y (ev_not rfl) rfl ?_
          refine ynil' (kthn (hK103 _ _ ?_))
          clear hK103
          refine ccond rfl (fun h436 => ?_) (fun h436 => ?_)
          ·(try simp only [sH] at h436)
           have hcl107 : v107.dirty = false := h436
           refine creg ?_
           refine y (ev_move rfl) rfl ?_
           refine y (ev_add rfl rfl) rfl ?_
           rw [show IntKind.i64.wrap ((o:Int) + 1) = ((o+1 : Nat) : Int) by rw [wr (by omega) (by omega)]; rfl]
           refine y (ev_assign rfl) rfl ?_
           refine ynil' (kbn (kthn ?_))
           first | (have q := hcl107; exact hL2 (seen ++ [b107], o + 1) ⟨by dsimp only; omega, fun _ _ _ _ => by dsimp only; omega⟩ (by dsimp only; omega) _ _ zsub zge) | exact hL2 (seen ++ [b107], o) ⟨by dsimp only; omega, fun y hy hb hd => by rcases List.mem_append.1 hb with hb | hb; exact ho2 y hy hb hd; simp only [List.mem_singleton] at hb; have e := once_eq hL.w hy hm107 hb; subst e; rw [hdt107] at hd; cases hd⟩ (by dsimp only; omega) _ _ zsub zge
          ·(try simp only [sH] at h436)
           have hdt107 : v107.dirty = true := h436
           refine cskip' (kbn (kthn ?_))
           first | (have q := hcl107; exact hL2 (seen ++ [b107], o + 1) ⟨by dsimp only; omega, fun _ _ _ _ => by dsimp only; omega⟩ (by dsimp only; omega) _ _ zsub zge) | exact hL2 (seen ++ [b107], o) ⟨by dsimp only; omega, fun y hy hb hd => by rcases List.mem_append.1 hb with hb | hb; exact ho2 y hy hb hd; simp only [List.mem_singleton] at hb; have e := once_eq hL.w hy hm107 hb; subst e; rw [hdt107] at hd; cases hd⟩ (by dsimp only; omega) _ _ zsub zge
        clear hK64
        refine cseq ?_; intro K104 hK104
        refine creg ?_
        skip
        ·skip
         refine y (ev_move rfl) rfl ?_
         refine y (ev_neq rfl rfl) rfl ?_
         refine ynil' (kthn (hK104 _ _ ?_))
         clear hK104
         refine ccond0 rfl ?_
         refine cskip' (kthn ?_)
         first
           | (exfalso; omega; done)
           | exact ksub zsub zge (hJr19 (C', D', sl85, _) (⟨hR0, ok85, h0⟩))
       ·skip
        refine y (ev_move rfl) rfl ?_
        first | rw [show (aget W bk).isSome = false from h0] | rw [show (aget W bk).isSome = true from h0]
        refine y (ev_not rfl) rfl ?_
        refine y (ev_move rfl) rfl ?_
        refine yg1 rfl rfl ?_
        refine y (ev_move rfl) rfl ?_
        refine yg1 rfl rfl ?_
        refine y (ev_lenM rfl Tryz.underlying29 zin) rfl ?_
        rw [want_len]
        refine yg1 rfl rfl ?_
        refine y (ev_move rfl) rfl ?_
        refine yg1 rfl rfl ?_
        refine ycall (kRoom (C := C') ?rn448) rfl Tryz.call14 ztk rfl ?_
        case rn448 => first | (have := hs.g.nn; omega) | (rw [hC]; omega)
        rintro v L' ⟨rfl, rfl⟩
        rw [show ((C'.n : Int) - 6) = (n : Int) - 6 by first | (have := hs.g.nn; omega) | (rw [hC]; omega)]
        refine yg1 rfl rfl ?_
        refine y (ev_geq rfl rfl) rfl ?_
        first | rw [decide_eq_true (room_le h1)] | rw [decide_eq_false (room_lt h1)]
        refine y (ev_pick1 rfl rfl) rfl ?_
        refine y (ev_move rfl) rfl ?_
        refine yg1 rfl rfl ?_
        refine y (ev_move rfl) rfl ?_
        refine yg1 rfl rfl ?_
        refine y (ev_move rfl) rfl ?_
        refine yg1 rfl rfl ?_
        refine y (ev_lenM rfl Tryz.underlying29 zin) rfl ?_
        rw [want_len]
        refine yg1 rfl rfl ?_
        refine y (ev_eql rfl rfl) rfl ?_
        first | rw [decide_eq_true (cast_eq h2)] | rw [decide_eq_false (cast_ne h2)]
        refine y (ev_pick1 rfl rfl) rfl ?_
        refine ynil' (kthn (hK20 _ _ ?_))
        clear hK20
        refine ccond0 rfl ?_
        refine cskip' (kthn (hK19 _ _ ?_))
        clear hK19
        refine cseq ?_; intro K105 hK105
        have hJr19 : ∀ z : CaM × Dev × Sv × Bool, (LiR n (600 * i + 1) C W d (liX bk i data) z.1 z.2.1 0 ∧ itOk z.2.2.1 z.1.l ∧ (aget W bk).isSome = z.2.2.2) → Sk 236 K105 ([(15, .bool z.2.2.2), (13, ptr b13), (12, i64 i), (11, i64 d), (10, .map (some b40)), (9, i64 n), (8, ptr A34.p), (7, dp q34), (1, lv), (2, cv)]) ([sc b13 [i64 bk, i64 1, i64 ((i : Int) + 1), str data, .bool true, i64 ((i : Int) % 4), i64 ((i : Int) + 1)] 34, wantS b40 W cw, caP A34 z.1, enS A34 z.1, puS A34 z.1, lgS A34 q34 z.2.2.1 z.1, dev q34 z.2.1] ++ R) := by
         rintro ⟨C', D', sl', hdd⟩ hIr19
         refine hK105 _ _ ?_
         obtain ⟨hR0, hsl', hhd⟩ := hIr19; dsimp only at hR0 hsl' hhd ⊢
         have hW34 : W.length ≤ 34 := by omega
         refine cseq ?_; intro K106 hK106
         refine creg ?_
         refine y (ev_assign rfl) rfl ?_
         refine ynil' (kthn (hK106 _ _ ?_))
         clear hK106
         refine cseq ?_; intro K107 hK107
         refine cseq ?_; intro K108 hK108
         refine creg ?_
         refine y (ev_move rfl) rfl ?_
         refine ya (ac_range rfl Tryz.underlying29 zin) rfl ?_
         rintro v L' ⟨i106, rfl, rfl⟩
         refine ynil' (kthn (hK108 _ _ ?_))
         clear hK108
         have hJ2 : ∀ x : List Nat × Nat, ((x.2 + (left (akv entV W) x.1).length ≤ W.length ∧ (∀ y ∈ W, y.2.2 ∈ x.1 → y.2.1.dirty = false → 1 ≤ x.2)) ∧ (∀ y ∈ W, y.2.1.dirty = false → 1 ≤ x.2)) → Sk 236 K107 ([(106, ptr i106), (17, i64 x.2), (15, .bool hdd), (13, ptr b13), (12, i64 i), (11, i64 d), (10, .map (some b40)), (9, i64 n), (8, ptr A34.p), (7, dp q34), (1, lv), (2, cv)]) ([so i106 (.mapIter (some b40) cw x.1.toArray cw), sc b13 [i64 bk, i64 1, i64 ((i : Int) + 1), str data, .bool true, i64 ((i : Int) % 4), i64 ((i : Int) + 1)] 34, wantS b40 W cw, caP A34 C', enS A34 C', puS A34 C', lgS A34 q34 sl' C', dev q34 D'] ++ R) := by
          rintro ⟨seen, o⟩ ⟨hI2, hX2⟩
          refine hK107 _ _ ?_
          obtain ⟨ho1, ho2⟩ := hI2; dsimp only at ho1 ho2 ⊢
          dsimp only at hX2
          refine cseq ?_; intro K109 hK109
          have hJr36 : ∀ z : Am EntM, (MidS n i (600 * i + 201) C' D' z cw (liX bk i data)) → Sk 236 K109 ([(13, ptr b13), (12, i64 i), (11, i64 d), (10, .map (some b40)), (9, i64 n), (8, ptr A34.p), (7, dp q34), (1, lv), (2, cv)]) ([sc b13 [i64 bk, i64 1, i64 ((i : Int) + 1), str data, .bool true, i64 ((i : Int) % 4), i64 ((i : Int) + 1)] 34, wantS b40 z cw, caP A34 C', enS A34 C', puS A34 C', lgS A34 q34 sl' C', dev q34 D'] ++ R) := by
           rintro W1 hIr36
           refine hK109 _ _ ?_
           have hM := hIr36
           refine cseq ?_; intro K110 hK110
           have hJr40 : ∀ z : Bool × CaM × Dev × Sv, (MidS n i (600 * i + 401) z.2.1 z.2.2.1 W1 cw { liX bk i data with dirty := z.1 } ∧ itOk z.2.2.2 z.2.1.l) → Sk 236 K110 ([(13, ptr b13), (12, i64 i), (11, i64 d), (10, .map (some b40)), (9, i64 n), (8, ptr A34.p), (7, dp q34), (1, lv), (2, cv)]) ([sc b13 [i64 bk, i64 1, i64 ((i : Int) + 1), str data, .bool z.1, i64 ((i : Int) % 4), i64 ((i : Int) + 1)] 34, wantS b40 W1 cw, caP A34 z.2.1, enS A34 z.2.1, puS A34 z.2.1, lgS A34 q34 z.2.2.2 z.2.1, dev q34 z.2.2.1] ++ R) := by
            rintro ⟨dy, C', D', sl'⟩ hIr40
            refine hK110 _ _ ?_
            obtain ⟨hM, hsl'⟩ := hIr40; dsimp only at hM hsl' ⊢
            have hNu := hM.nums
            have hLn : LiS n (i + 1) (600 * i + 401) C' D' (aput W1 cw bk { liX bk i data with dirty := dy }) (aclk W1 cw bk) (dirtyC (aput W1 cw bk { liX bk i data with dirty := dy })) := hM.put
            refine cseq ?_; intro K111 hK111
            refine creg ?_
            refine y (ev_move rfl) rfl ?_
            refine y (ev_fieldAddr 0 rfl Tryz.underlying34 rfl Tryz.sizeOf3) rfl ?_
            refine y (ev_load rfl Tryz.isAgg3 zin rfl) rfl ?_
            refine y (ev_loadN (u := [i64 bk, i64 1, i64 ((i : Int) + 1), str data, .bool dy, i64 ((i : Int) % 4), i64 ((i : Int) + 1)]) rfl Tryz.isAgg34 Tryz.sizeOf34 zin rfl rfl) rfl ?_
            refine ya0 (ac_mapUpdate (kv := akv entV W1) (v := entV { liX bk i data with dirty := dy }) rfl rfl rfl Tryz.underlying29 Tryz.underlying3 (akv_uniq _ hM.w) zrp) ?_
            rintro v L' ⟨rfl, rfl⟩
            rw [akv_put, akv_clk]
            generalize aput W1 cw bk { liX bk i data with dirty := dy } = W2 at *
            generalize aclk W1 cw bk = cw2 at *
            have hWn := hLn.len
            have hrn := hLn.s.room
            have hdn := dirtyC_le W2
            refine ynil' (kthn (hK111 _ _ ?_))
            clear hK111
            refine cseq ?_; intro K112 hK112
            refine creg ?_
            refine y (ev_assign rfl) rfl ?_
            refine ynil' (kthn (hK112 _ _ ?_))
            clear hK112
            refine cseq ?_; intro K113 hK113
            refine cseq ?_; intro K114 hK114
            refine creg ?_
            refine y (ev_move rfl) rfl ?_
            refine ya (ac_range rfl Tryz.underlying29 zin) rfl ?_
            rintro v L' ⟨i172, rfl, rfl⟩
            refine ynil' (kthn (hK114 _ _ ?_))
            clear hK114
            have hJ4 : ∀ x : List Nat × Nat, ((x.2 + ((leftA W2 x.1).filter fun y => y.2.1.dirty).length = dirtyC W2) ∧ (x.2 = dirtyC W2)) → Sk 236 K113 ([(172, ptr i172), (13, ptr b13), (12, i64 i), (11, i64 x.2), (10, .map (some b40)), (9, i64 n), (8, ptr A34.p), (7, dp q34), (1, lv), (2, cv)]) ([so i172 (.mapIter (some b40) cw2 x.1.toArray cw2), sc b13 [i64 bk, i64 1, i64 ((i : Int) + 1), str data, .bool dy, i64 ((i : Int) % 4), i64 ((i : Int) + 1)] 34, wantS b40 W2 cw2, caP A34 C', enS A34 C', puS A34 C', lgS A34 q34 sl' C', dev q34 D'] ++ R) := by
             rintro ⟨seen, dd⟩ ⟨hI4, hX4⟩
             refine hK113 _ _ ?_
             have hdd := hI4; dsimp only at hdd ⊢
             dsimp only at hX4; subst hX4
             refine cseq ?_; intro K115 hK115
             refine cdraw 21 [(0, true), (3, true), (1, false), (2, true), (4, true), (5, true), (6, true), (7, true), (8, true), (9, true), (11, true), (12, true), (10, false), (13, true), (14, true), (15, true), (16, true), (18, true), (19, true), (17, false), (20, true)] (_) Tryz.mixed (by kernel_rfl) .refl ?_
             skip
             ·skip
              refine hr rfl (ev_move rfl) rfl ?_
              refine hr rfl (ev_move rfl) rfl ?_
              refine hcall rfl (kAll (C := C') ?bl470) rfl Tryz.call17 ztk rfl ?_
              case bl470 => rw [hLn.s.g.bl]; decide
              rintro v L' ⟨s196, rfl, ok196, rfl⟩; refine ⟨zge, ?_⟩
              rw [hLn.allLen] at ok196 ⊢
              first
                | refine hr rfl (ev_len rfl Tryz.underlying41) rfl ?_
                | refine hr rfl (ev_lenSv rfl Tryz.underlying41 (by assumption)) rfl ?_
                | refine hr rfl (ev_lenV rfl Tryz.underlying41 (RdV.lenVal (by assumption))) rfl ?_
                | refine hr rfl (ev_lenV rfl Tryz.underlying41 (RdB.lenVal (by assumption))) rfl ?_
              refine hr rfl (ev_lenM rfl Tryz.underlying29 zin) rfl ?_
              rw [want_len]
              refine hr rfl (ev_neq rfl rfl) rfl ?_
              rw [show (!decide ((W2.length : Int) = (W2.length : Int))) = false by simp]
              refine hr rfl (ev_move rfl) rfl ?_
              refine hr1 rfl rfl rfl (ev_move rfl) rfl ?_
              refine hr1 rfl rfl rfl (ev_move rfl) rfl ?_
              refine hr1 rfl rfl rfl (ev_rem rfl rfl (by decide)) rfl ?_
              rw [tmod4]
              refine hr1 rfl rfl rfl (ev_move rfl) rfl ?_
              refine hr1 rfl rfl rfl (ev_add rfl rfl) rfl ?_
              rw [wr (by omega) (by omega)]
              refine hcall1 rfl rfl rfl (kNumber (C := C')) rfl Tryz.call18 ztk rfl ?_
              rintro v L' ⟨rfl, rfl⟩; refine ⟨zge, ?_⟩
              rw [hNu.num]
              refine hr1 rfl rfl rfl (ev_neq rfl rfl) rfl ?_
              rw [show (!decide ((i : Int) + 1 = (i : Int) + 1)) = false by simp]
              refine hr rfl (ev_pick0 rfl rfl) rfl ?_
              refine hr rfl (ev_move rfl) rfl ?_
              refine hr1 rfl rfl rfl (ev_move rfl) rfl ?_
              refine hr1 rfl rfl rfl (ev_fieldAddr 1 rfl Tryz.underlying34 rfl Tryz.sizeOf31) rfl ?_
              refine hr1 rfl rfl rfl (ev_loadN (u := [i64 1, i64 ((i : Int) + 1)]) rfl Tryz.isAgg31 Tryz.sizeOf31 zin rfl rfl) rfl ?_
              refine hcall1 rfl rfl rfl (kLast (C := C')) rfl Tryz.call19 ztk rfl ?_
              rintro v L' ⟨rfl, rfl⟩; refine ⟨zge, ?_⟩
              rw [hNu.e, hNu.s]
              refine hr1 rfl rfl rfl (ev_neqF (p := True) (xs := [i64 1, i64 ((i : Int) + 1)]) (ys := [i64 1, i64 ((i : Int) + 1)]) rfl rfl (by kernel_rfl) (by simp)) rfl ?_
              refine hnil ?_
              refine y (ev_pick0 rfl rfl) rfl ?_
              refine hnoP' (kthn (hK115 _ _ ?_))
              clear hK115
              refine ccond0 rfl ?_
              refine cskip' (kbn (kthn (hK15 _ _ ?_)))
              clear hK15
              refine creg ?_
              refine y (ev_move rfl) rfl ?_
              refine y (ev_add rfl rfl) rfl ?_
              rw [show IntKind.i64.wrap ((i:Int) + 1) = ((i+1 : Nat) : Int) by rw [wr (by omega) (by omega)]; rfl]
              refine y (ev_assign rfl) rfl ?_
              refine ynil' (kthn ?_)
              first | exact hL1 (i + 1, C', D', sl', W2, cw2, dirtyC W2) ⟨hLn.le (by dsimp only; omega), hsl', by dsimp only; omega, by dsimp only; omega⟩ (by dsimp only; omega) _ _ zsub zge | exact hL1 (i + 1, C', D', sl85, W, cw, d) ⟨hL.skip (hs.le (by dsimp only; omega)), ok85, by dsimp only; omega, by dsimp only; omega⟩ (by dsimp only; omega) _ _ zsub zge
            clear hK113
            refine cblock ?_
            refine cloop (A := List Nat × Nat) (fun x => [(172, ptr i172), (13, ptr b13), (12, i64 i), (11, i64 x.2), (10, .map (some b40)), (9, i64 n), (8, ptr A34.p), (7, dp q34), (1, lv), (2, cv)]) (fun x => [so i172 (.mapIter (some b40) cw2 x.1.toArray cw2), sc b13 [i64 bk, i64 1, i64 ((i : Int) + 1), str data, .bool dy, i64 ((i : Int) % 4), i64 ((i : Int) + 1)] 34, wantS b40 W2 cw2, caP A34 C', enS A34 C', puS A34 C', lgS A34 q34 sl' C', dev q34 D'] ++ R) (fun x => x.2 + ((leftA W2 x.1).filter fun y => y.2.1.dirty).length = dirtyC W2) (fun x => (left (akv entV W2) x.1).length) (([], 0)) ?_ zsub zge ?_
            · rw [leftA_all]; unfold dirtyC; exact Nat.zero_add _
            rintro ⟨seen, dd⟩ hI4 KL4 hL4
            have hI4o := hI4
            have hdd := hI4; dsimp only at hdd ⊢
            refine cseq ?_; intro K116 hK116
            refine creg ?_
            refine ya (ac_next rfl zin zin ?st493 (fun _ => zrp)) rfl ?_
            case st493 => first | exact akv_stamped _ hL.w | exact akv_stamped _ (hG.ok hL.w) | exact akv_stamped _ hLn.w
            rintro v L' (⟨hov173, rfl, rfl⟩ | ⟨x173, hx173, rfl, rfl⟩)
            ·skip
             refine y (ev_extract rfl rfl) rfl ?_
             refine ynil' (kthn (hK116 _ _ ?_))
             clear hK116
             refine cseq ?_; intro K117 hK117
             refine ccond0 rfl ?_
             refine cexit (kthx (kthx (kbx (kthn ?_))))
             exact ksub zsub zge (hJ4 ⟨seen, dd⟩ ⟨hI4o, by have h := hdd; rw [leftA_nil hov173] at h; simpa using h⟩)
            ·skip
             have hlt := left_lt hx173
             obtain ⟨k173, v173, b173, rfl, hm173, hs173⟩ := left_akv hx173
             dsimp only at hlt
             have hcf := cnt_filter hLn.w (p := fun y => y.2.1.dirty) hm173 hs173
             have hgv : aget C'.en k173 = some v173 := by rw [← hLn.eq]; exact aget_mem hLn.w hm173
             refine y (ev_extract rfl rfl) rfl ?_
             refine ynil' (kthn (hK116 _ _ ?_))
             clear hK116
             refine cseq ?_; intro K118 hK118
             refine ccond1 rfl ?_
             refine cskip' (kthn (hK118 _ _ ?_))
             clear hK118
             refine cblock ?_
             refine cseq ?_; intro K119 hK119
             refine creg ?_
             refine y (ev_entry rfl zin zin ?st496 ?mem496) rfl ?_
             case st496 => first | exact akv_stamped _ hL.w | exact akv_stamped _ (hG.ok hL.w) | exact akv_stamped _ hLn.w
             case mem496 => first | exact left_mem hx107 | exact left_mem hx127 | exact left_mem hx173
             refine y (ev_extract rfl rfl) rfl ?_
             refine y (ev_extract rfl rfl) rfl ?_
             refine ya (ac_alloc Tryz.zeroValue34 rfl) rfl ?_
             rintro v L' ⟨b25, rfl, rfl⟩
             refine y (ev_assign rfl) rfl ?_
             refine ya0 (ac_storeAll rfl rfl (ent_one v173) Tryz.sizeOf34 zrp rfl rfl) ?_
             rintro v L' ⟨rfl, rfl⟩
             refine ynil' (kthn (hK119 _ _ ?_))
             clear hK119
             refine cseq ?_; intro K120 hK120
             refine creg ?_
             refine y (ev_move rfl) rfl ?_
             refine y (ev_move rfl) rfl ?_
             refine ycall (kGet (C := C') (b := k173)) rfl Tryz.call15 ztk rfl ?_
             rintro v L' ⟨rfl, rfl⟩
             rw [hgv]
             refine y (ev_move rfl) rfl ?_
             refine y (ev_extract rfl rfl) rfl ?_
             refine y (ev_extract rfl rfl) rfl ?_
             refine ya (ac_alloc Tryz.zeroValue34 rfl) rfl ?_
             rintro v L' ⟨b26, rfl, rfl⟩
             refine ya0 (ac_storeAll rfl rfl (ent_one v173) Tryz.sizeOf34 zrp rfl rfl) ?_
             rintro v L' ⟨rfl, rfl⟩
             refine y (ev_assign rfl) rfl ?_
             refine ynil' (kthn (hK120 _ _ ?_))
             clear hK120
             refine cseq ?_; intro K121 hK121
             refine cseq ?_; intro K122 hK122
             refine creg ?_
             skip
             ·skip
              refine y (ev_move rfl) rfl ?_
              refine y (ev_not rfl) rfl ?_
              refine y (ev_move rfl) rfl ?_
              refine yg1 rfl rfl ?_
              refine y (ev_loadN (u := v173.cells) rfl Tryz.isAgg34 Tryz.sizeOf34 zin rfl rfl) rfl ?_
              refine yg1 rfl rfl ?_
              refine y (ev_loadN (u := v173.cells) rfl Tryz.isAgg34 Tryz.sizeOf34 zin rfl rfl) rfl ?_
              refine yg1 rfl rfl ?_
              refine y (ev_neqF (p := v173 = v173) rfl rfl (by kernel_rfl) (iff_of_eq ent_inj)) rfl ?_
              rw [show (!decide (v173 = v173)) = false by simp]
              refine y (ev_pick0 rfl rfl) rfl ?_
              refine ynil' (kthn (hK122 _ _ ?_))
              clear hK122
              refine ccond0 rfl ?_
              refine cskip' (kthn (hK121 _ _ ?_))
              clear hK121
              refine cseq ?_; intro K123 hK123
              refine creg ?_
              refine y (ev_fieldAddr 4 rfl Tryz.underlying34 rfl Tryz.sizeOf4) rfl ?_
              refine y (ev_load rfl Tryz.isAgg4 zin rfl) rfl ?_
              refine ynil' (kthn (hK123 _ _ ?_))
              clear hK123
              refine ccond rfl (fun h520 => ?_) (fun h520 => ?_)
              ·(try simp only [sH] at h520)
               have hdt173 : v173.dirty = true := h520
               dsimp only at hcf; rw [if_pos hdt173] at hcf
               refine creg ?_
               refine y (ev_move rfl) rfl ?_
               refine y (ev_add rfl rfl) rfl ?_
               rw [show IntKind.i64.wrap ((dd:Int) + 1) = ((dd+1 : Nat) : Int) by rw [wr (by omega) (by omega)]; rfl]
               refine y (ev_assign rfl) rfl ?_
               refine ynil' (kbn (kthn ?_))
               first | (have q := hdt173; exact hL4 (seen ++ [b173], dd + 1) (by dsimp only; omega) hlt _ _ zsub zge) | exact hL4 (seen ++ [b173], dd) (by dsimp only; omega) hlt _ _ zsub zge
              ·(try simp only [sH] at h520)
               have hcl173 : v173.dirty = false := h520
               dsimp only at hcf; rw [if_neg (by rw [hcl173]; simp)] at hcf
               refine cskip' (kbn (kthn ?_))
               first | (have q := hdt173; exact hL4 (seen ++ [b173], dd + 1) (by dsimp only; omega) hlt _ _ zsub zge) | exact hL4 (seen ++ [b173], dd) (by dsimp only; omega) hlt _ _ zsub zge
           clear hK110
           refine cseq ?_; intro K124 hK124
           refine creg ?_
           refine y (ev_move rfl) rfl ?_
           refine y (ev_move rfl) rfl ?_
           refine y (ev_lenV rfl Tryz.underlying23 hcl) rfl ?_
           refine y (ev_lss rfl rfl) rfl ?_
           refine y (ev_move rfl) rfl ?_
           refine ysplit 153 rfl (fun h529 => ?_) (fun h529 => ?_)
           ·(try simp only [sH] at h529)
            obtain ⟨cb, hcb⟩ : ∃ cb, cl[i]? = some cb := ⟨_, List.getElem?_eq_getElem (by omega)⟩
            refine yg1 rfl rfl ?_
            refine y (ev_move rfl) rfl ?_
            refine yg1 rfl rfl ?_
            refine y (ev_move rfl) rfl ?_
            refine yg1 rfl rfl ?_
            refine y (ev_ixV hc rfl rfl Tryz.underlying23 Tryz.sizeOf4 (by omega) (by omega)) rfl ?_
            refine yg1 rfl rfl ?_
            refine y (ev_loadV i hc zge rfl Tryz.isAgg4 (by simp) (boolsV_get hcb)) rfl ?_
            refine y (ev_pick1 rfl rfl) rfl ?_
            refine ynil' (kthn (hK124 _ _ ?_))
            clear hK124
            refine ccond rfl (fun h535 => ?_) (fun h535 => ?_)
            ·(try simp only [sH] at h535)
             refine cseq ?_; intro K125 hK125
             refine cseq ?_; intro K126 hK126
             refine creg ?_
             refine y (ev_move rfl) rfl ?_
             refine y (ev_fieldAddr 0 rfl Tryz.underlying34 rfl Tryz.sizeOf3) rfl ?_
             refine y (ev_load rfl Tryz.isAgg3 zin rfl) rfl ?_
             refine y (ev_fieldAddr 1 rfl Tryz.underlying34 rfl Tryz.sizeOf31) rfl ?_
             refine y (ev_loadN (u := [i64 1, i64 ((i : Int) + 1)]) rfl Tryz.isAgg31 Tryz.sizeOf31 zin rfl rfl) rfl ?_
             refine ycall (kClean (C := C') (sl := sl') (q := q34) (D := D') (b := bk) (e := 1) (s := (i : Int) + 1) ?cok541 ?its541) rfl Tryz.call16 ztk rfl ?_
             case cok541 => exact hM.s.g.ok
             case its541 => exact hsl'
             rintro v L' ⟨sl164, rfl, ok164, rfl⟩
             obtain ⟨e4', hS4, hen4, hk4⟩ := hM.s.clean_did (by omega) (by omega) hM.get rfl
             have hM4 : MidS n i (600 * i + 401) (C'.clean D' bk 1 ((i : Int) + 1)).2.1 (C'.clean D' bk 1 ((i : Int) + 1)).2.2 W1 cw { liX bk i data with dirty := false } := hM.did hS4 hen4 hk4
             have e4 : (C'.clean D' bk 1 ((i : Int) + 1)).1 = 0 := e4'
             clear e4' hS4 hen4 hk4
             generalize C'.clean D' bk 1 ((i : Int) + 1) = r4 at *
             obtain ⟨c4, C4, D4⟩ := r4
             dsimp only at *
             subst e4
             skip
             ·skip
              refine y (ev_neq rfl rfl) rfl ?_
              refine ynil' (kthn (hK126 _ _ ?_))
              clear hK126
              refine ccond0 rfl ?_
              refine cskip' (kthn (hK125 _ _ ?_))
              clear hK125
              refine creg ?_
              refine y (ev_fieldAddr 4 rfl Tryz.underlying34 rfl Tryz.sizeOf4) rfl ?_
              refine ya0 (ac_store rfl rfl (by first | rfl | exact svVal_one _ _ | assumption) Tryz.sizeOf4 zrp rfl rfl) ?_
              rintro v L' ⟨rfl, rfl⟩
              refine ynil' (kthn ?_)
              first | exact ksub zsub zge (hJr40 (false, C4, D4, sl164) ⟨hM4, ok164⟩) | exact ksub zsub zge (hJr40 (true, C', D', sl') ⟨hM.le (by omega), hsl'⟩)
            ·(try simp only [sH] at h535)
             refine cskip' (kthn ?_)
             first | exact ksub zsub zge (hJr40 (false, C4, D4, sl164) ⟨hM4, ok164⟩) | exact ksub zsub zge (hJr40 (true, C', D', sl') ⟨hM.le (by omega), hsl'⟩)
           ·(try simp only [sH] at h529)
            refine yg0 rfl rfl rfl rfl ?_
            refine yg0 rfl rfl rfl rfl ?_
            refine yg0 rfl rfl rfl rfl ?_
            refine yg0 rfl rfl rfl rfl ?_
            refine y (ev_pick0 rfl rfl) rfl ?_
            refine ynil' (kthn (hK124 _ _ ?_))
            clear hK124
            refine ccond0 rfl ?_
            refine cskip' (kthn ?_)
            first | exact ksub zsub zge (hJr40 (false, C4, D4, sl164) ⟨hM4, ok164⟩) | exact ksub zsub zge (hJr40 (true, C', D', sl') ⟨hM.le (by omega), hsl'⟩)
          clear hK109
          refine cseq ?_; intro K127 hK127
          refine creg ?_
          rcases hR0 with _ | ⟨h0, hs, en, kk⟩ | ⟨h0, h1, hs, en, kk⟩ | ⟨h0, h1, h2, hs, yg, hy, hd, en, kk⟩
          ·skip
           refine y (ev_move rfl) rfl ?_
           first | rw [show hdd = false from hhd.symm.trans h0] | rw [show hdd = true from hhd.symm.trans h0]
           refine y (ev_not rfl) rfl ?_
           refine y (ev_move rfl) rfl ?_
           refine yg0 rfl rfl rfl rfl ?_
           refine yg0 rfl rfl rfl rfl ?_
           refine yg0 rfl rfl rfl rfl ?_
           refine yg0 rfl rfl rfl rfl ?_
           refine yg0 rfl rfl rfl rfl ?_
           refine y (ev_pick0 rfl rfl) rfl ?_
           refine ynil' (kthn (hK127 _ _ ?_))
           clear hK127
           refine ccond0 rfl ?_
           refine cskip' (kthn ?_)
           first | exact ksub zsub zge (hJr36 (adel W yg.blk) ⟨hs.le (by omega), hL.w.del _, mid_place hL en, kk ▸ hNu⟩) | exact ksub zsub zge (hJr36 W ⟨hs.le (by omega), hL.w, mid_put hL en, kk ▸ hNu⟩)
          ·skip
           refine y (ev_move rfl) rfl ?_
           first | rw [show hdd = false from hhd.symm.trans h0] | rw [show hdd = true from hhd.symm.trans h0]
           refine y (ev_not rfl) rfl ?_
           refine y (ev_move rfl) rfl ?_
           refine yg1 rfl rfl ?_
           refine y (ev_move rfl) rfl ?_
           refine yg1 rfl rfl ?_
           refine y (ev_lenM rfl Tryz.underlying29 zin) rfl ?_
           rw [want_len]
           refine yg1 rfl rfl ?_
           refine y (ev_move rfl) rfl ?_
           refine yg1 rfl rfl ?_
           refine ycall (kRoom (C := C') ?rn556) rfl Tryz.call14 ztk rfl ?_
           case rn556 => have := hs.g.nn; omega
           rintro v L' ⟨rfl, rfl⟩
           rw [show ((C'.n : Int) - 6) = (n : Int) - 6 by have := hs.g.nn; omega]
           refine yg1 rfl rfl ?_
           refine y (ev_geq rfl rfl) rfl ?_
           first | rw [decide_eq_true (room_le h1)] | rw [decide_eq_false (room_lt h1)]
           refine y (ev_pick1 rfl rfl) rfl ?_
           refine ynil' (kthn (hK127 _ _ ?_))
           clear hK127
           refine ccond0 rfl ?_
           refine cskip' (kthn ?_)
           first | exact ksub zsub zge (hJr36 (adel W yg.blk) ⟨hs.le (by omega), hL.w.del _, mid_place hL en, kk ▸ hNu⟩) | exact ksub zsub zge (hJr36 W ⟨hs.le (by omega), hL.w, mid_put hL en, kk ▸ hNu⟩)
          ·skip
           refine y (ev_move rfl) rfl ?_
           first | rw [show hdd = false from hhd.symm.trans h0] | rw [show hdd = true from hhd.symm.trans h0]
           refine y (ev_not rfl) rfl ?_
           refine y (ev_move rfl) rfl ?_
           refine yg1 rfl rfl ?_
           refine y (ev_move rfl) rfl ?_
           refine yg1 rfl rfl ?_
           refine y (ev_lenM rfl Tryz.underlying29 zin) rfl ?_
           rw [want_len]
           refine yg1 rfl rfl ?_
           refine y (ev_move rfl) rfl ?_
           refine yg1 rfl rfl ?_
           refine ycall (kRoom (C := C') ?rn565) rfl Tryz.call14 ztk rfl ?_
           case rn565 => have := hs.g.nn; omega
           rintro v L' ⟨rfl, rfl⟩
           rw [show ((C'.n : Int) - 6) = (n : Int) - 6 by have := hs.g.nn; omega]
           refine yg1 rfl rfl ?_
           refine y (ev_geq rfl rfl) rfl ?_
           first | rw [decide_eq_true (room_le h1)] | rw [decide_eq_false (room_lt h1)]
           refine y (ev_pick1 rfl rfl) rfl ?_
           refine ynil' (kthn (hK127 _ _ ?_))
           clear hK127
           refine ccond1 rfl ?_
           refine cseq ?_; intro K128 hK128
           refine creg ?_
           have hgn := place_none en h0 hy
           refine y (ev_assign rfl) rfl ?_
           refine ynil' (kthn (hK128 _ _ ?_))
           clear hK128
           refine cseq ?_; intro K129 hK129
           refine cseq ?_; intro K130 hK130
           refine creg ?_
           refine y (ev_move rfl) rfl ?_
           refine ya (ac_range rfl Tryz.underlying29 zin) rfl ?_
           rintro v L' ⟨i126, rfl, rfl⟩
           refine ynil' (kthn (hK130 _ _ ?_))
           clear hK130
           have hJ3 : ∀ x : List Nat × Am EntM × Nat, ((GoI W x.2.1 cw yg.blk x.1 x.2.2 ∧ x.2.2 ≤ 1) ∧ (x.2.2 = 1 ∧ x.2.1 = adel W yg.blk)) → Sk 236 K129 ([(126, ptr i126), (20, i64 x.2.2), (17, i64 o), (13, ptr b13), (12, i64 i), (11, i64 d), (10, .map (some b40)), (9, i64 n), (8, ptr A34.p), (7, dp q34), (1, lv), (2, cv)]) ([so i126 (.mapIter (some b40) cw x.1.toArray cw), sc b13 [i64 bk, i64 1, i64 ((i : Int) + 1), str data, .bool true, i64 ((i : Int) % 4), i64 ((i : Int) + 1)] 34, wantS b40 x.2.1 cw, caP A34 C', enS A34 C', puS A34 C', lgS A34 q34 sl' C', dev q34 D'] ++ R) := by
            rintro ⟨seen, W1, g⟩ ⟨hI3, hX3⟩
            refine hK129 _ _ ?_
            obtain ⟨hG, hg1⟩ := hI3; dsimp only at hG hg1 ⊢
            obtain ⟨hX3a, hX3b⟩ := hX3; dsimp only at hX3a hX3b; subst hX3a; subst hX3b
            refine cseq ?_; intro K131 hK131
            refine creg ?_
            have ho9 : 1 ≤ o := by obtain ⟨q9, hq9⟩ := aget_some hy; exact hX2 _ hq9 hd
            skip
            ·skip
             have ho9 : 1 ≤ o := by obtain ⟨q9, hq9⟩ := aget_some hy; exact hX2 _ hq9 hd
             refine y (ev_move rfl) rfl ?_
             refine y (ev_neq rfl rfl) rfl ?_
             refine y (ev_move rfl) rfl ?_
             refine yg1 rfl rfl ?_
             refine y (ev_move rfl) rfl ?_
             refine yg1 rfl rfl ?_
             refine y (ev_eql rfl rfl) rfl ?_
             rw [decide_eq_false (cast_n0 ho9)]
             refine y (ev_pick0 rfl rfl) rfl ?_
             refine ynil' (kthn (hK131 _ _ ?_))
             clear hK131
             refine ccond0 rfl ?_
             refine cskip' (kthn ?_)
             first | exact ksub zsub zge (hJr36 (adel W yg.blk) ⟨hs.le (by omega), hL.w.del _, mid_place hL en, kk ▸ hNu⟩) | exact ksub zsub zge (hJr36 W ⟨hs.le (by omega), hL.w, mid_put hL en, kk ▸ hNu⟩)
           clear hK129
           refine cblock ?_
           refine cloop (A := List Nat × Am EntM × Nat) (fun x => [(126, ptr i126), (20, i64 x.2.2), (17, i64 o), (13, ptr b13), (12, i64 i), (11, i64 d), (10, .map (some b40)), (9, i64 n), (8, ptr A34.p), (7, dp q34), (1, lv), (2, cv)]) (fun x => [so i126 (.mapIter (some b40) cw x.1.toArray cw), sc b13 [i64 bk, i64 1, i64 ((i : Int) + 1), str data, .bool true, i64 ((i : Int) % 4), i64 ((i : Int) + 1)] 34, wantS b40 x.2.1 cw, caP A34 C', enS A34 C', puS A34 C', lgS A34 q34 sl' C', dev q34 D'] ++ R) (fun x => GoI W x.2.1 cw yg.blk x.1 x.2.2 ∧ x.2.2 ≤ 1) (fun x => (left (akv entV x.2.1) x.1).length) (([], W, 0)) ?_ zsub zge ?_
           · exact ⟨GoI.new _ _ _, Nat.zero_le _⟩
           rintro ⟨seen, W1, g⟩ hI3 KL3 hL3
           have hI3o := hI3
           obtain ⟨hG, hg1⟩ := hI3; dsimp only at hG hg1 ⊢
           refine cseq ?_; intro K132 hK132
           refine creg ?_
           refine ya (ac_next rfl zin zin ?st577 (fun _ => zrp)) rfl ?_
           case st577 => first | exact akv_stamped _ hL.w | exact akv_stamped _ (hG.ok hL.w) | exact akv_stamped _ hLn.w
           rintro v L' (⟨hov127, rfl, rfl⟩ | ⟨x127, hx127, rfl, rfl⟩)
           ·skip
            refine y (ev_extract rfl rfl) rfl ?_
            refine ynil' (kthn (hK132 _ _ ?_))
            clear hK132
            refine cseq ?_; intro K133 hK133
            refine ccond0 rfl ?_
            refine cexit (kthx (kthx (kbx (kthn ?_))))
            exact ksub zsub zge (hJ3 ⟨seen, W1, g⟩ ⟨hI3o, hG.over (by rw [hy]; rfl) hov127⟩)
           ·skip
            have hlt := left_lt hx127
            obtain ⟨k127, v127, b127, rfl, hm127, hs127⟩ := left_akv hx127
            dsimp only at hlt
            refine y (ev_extract rfl rfl) rfl ?_
            refine ynil' (kthn (hK132 _ _ ?_))
            clear hK132
            refine cseq ?_; intro K134 hK134
            refine ccond1 rfl ?_
            refine cskip' (kthn (hK134 _ _ ?_))
            clear hK134
            refine cblock ?_
            refine cseq ?_; intro K135 hK135
            refine creg ?_
            refine y (ev_entry rfl zin zin ?st580 ?mem580) rfl ?_
            case st580 => first | exact akv_stamped _ hL.w | exact akv_stamped _ (hG.ok hL.w) | exact akv_stamped _ hLn.w
            case mem580 => first | exact left_mem hx107 | exact left_mem hx127 | exact left_mem hx173
            refine y (ev_extract rfl rfl) rfl ?_
            refine y (ev_assign rfl) rfl ?_
            refine ynil' (kthn (hK135 _ _ ?_))
            clear hK135
            refine cseq ?_; intro K136 hK136
            refine creg ?_
            by_cases hkq : k127 = yg.blk
            ·skip
             refine y (ev_move rfl) rfl ?_
             refine y (ev_move rfl) rfl ?_
             refine ycall (kGet (C := C') (b := k127)) rfl Tryz.call15 ztk rfl ?_
             rintro v L' ⟨rfl, rfl⟩
             first | rw [show aget C'.en k127 = none from hkq ▸ hgn] | rw [show aget C'.en k127 = some v127 from place_there hL en h0 (hG.get hL.w hm127 hkq) hkq]
             refine y (ev_move rfl) rfl ?_
             refine y (ev_extract rfl rfl) rfl ?_
             refine y (ev_extract rfl rfl) rfl ?_
             refine ya (ac_alloc Tryz.zeroValue34 rfl) rfl ?_
             rintro v L' ⟨b22, rfl, rfl⟩
             refine ya0 (ac_storeAll rfl rfl (ent_one _) Tryz.sizeOf34 zrp rfl rfl) ?_
             rintro v L' ⟨rfl, rfl⟩
             refine y (ev_assign rfl) rfl ?_
             refine ynil' (kthn (hK136 _ _ ?_))
             clear hK136
             refine cseq ?_; intro K137 hK137
             refine creg ?_
             refine y (ev_move rfl) rfl ?_
             refine y (ev_not rfl) rfl ?_
             refine ynil' (kthn (hK137 _ _ ?_))
             clear hK137
             refine ccond1 rfl ?_
             refine cseq ?_; intro K138 hK138
             refine creg ?_
             refine y (ev_move rfl) rfl ?_
             refine y (ev_add rfl rfl) rfl ?_
             rw [show IntKind.i64.wrap ((g:Int) + 1) = ((g+1 : Nat) : Int) by rw [wr (by omega) (by omega)]; rfl]
             refine y (ev_assign rfl) rfl ?_
             refine ynil' (kthn (hK138 _ _ ?_))
             clear hK138
             refine creg ?_
             refine y (ev_move rfl) rfl ?_
             refine y (ev_move rfl) rfl ?_
             refine ya0 (ac_delete rfl rfl Tryz.underlying29 Tryz.underlying3 rfl zrp) ?_
             rintro v L' ⟨rfl, rfl⟩
             rw [akv_del, hkq]
             refine ynil' (kbn (kthn ?_))
             first | exact hL3 (seen ++ [b127], W1, g) ⟨hG.miss hL.w hm127 hkq, hg1⟩ hlt _ _ zsub zge | exact hL3 (seen ++ [b127], adel W1 yg.blk, g + 1) ⟨(hG.hit hL.w (hkq ▸ hm127)).2, by have := (hG.hit hL.w (hkq ▸ hm127)).1; dsimp only; omega⟩ (Nat.lt_of_le_of_lt (left_del_le _ _ _ _) hlt) _ _ zsub zge
            ·skip
             refine y (ev_move rfl) rfl ?_
             refine y (ev_move rfl) rfl ?_
             refine ycall (kGet (C := C') (b := k127)) rfl Tryz.call15 ztk rfl ?_
             rintro v L' ⟨rfl, rfl⟩
             first | rw [show aget C'.en k127 = none from hkq ▸ hgn] | rw [show aget C'.en k127 = some v127 from place_there hL en h0 (hG.get hL.w hm127 hkq) hkq]
             refine y (ev_move rfl) rfl ?_
             refine y (ev_extract rfl rfl) rfl ?_
             refine y (ev_extract rfl rfl) rfl ?_
             refine ya (ac_alloc Tryz.zeroValue34 rfl) rfl ?_
             rintro v L' ⟨b22, rfl, rfl⟩
             refine ya0 (ac_storeAll rfl rfl (ent_one _) Tryz.sizeOf34 zrp rfl rfl) ?_
             rintro v L' ⟨rfl, rfl⟩
             refine y (ev_assign rfl) rfl ?_
             refine ynil' (kthn (hK136 _ _ ?_))
             clear hK136
             refine cseq ?_; intro K139 hK139
             refine creg ?_
             refine y (ev_move rfl) rfl ?_
             refine y (ev_not rfl) rfl ?_
             refine ynil' (kthn (hK139 _ _ ?_))
             clear hK139
             refine ccond0 rfl ?_
             refine cskip' (kbn (kthn ?_))
             first | exact hL3 (seen ++ [b127], W1, g) ⟨hG.miss hL.w hm127 hkq, hg1⟩ hlt _ _ zsub zge | exact hL3 (seen ++ [b127], adel W1 yg.blk, g + 1) ⟨(hG.hit hL.w (hkq ▸ hm127)).2, by have := (hG.hit hL.w (hkq ▸ hm127)).1; dsimp only; omega⟩ (Nat.lt_of_le_of_lt (left_del_le _ _ _ _) hlt) _ _ zsub zge
         clear hK107
         refine cblock ?_
         refine cloop (A := List Nat × Nat) (fun x => [(106, ptr i106), (17, i64 x.2), (15, .bool hdd), (13, ptr b13), (12, i64 i), (11, i64 d), (10, .map (some b40)), (9, i64 n), (8, ptr A34.p), (7, dp q34), (1, lv), (2, cv)]) (fun x => [so i106 (.mapIter (some b40) cw x.1.toArray cw), sc b13 [i64 bk, i64 1, i64 ((i : Int) + 1), str data, .bool true, i64 ((i : Int) % 4), i64 ((i : Int) + 1)] 34, wantS b40 W cw, caP A34 C', enS A34 C', puS A34 C', lgS A34 q34 sl' C', dev q34 D'] ++ R) (fun x => x.2 + (left (akv entV W) x.1).length ≤ W.length ∧ (∀ y ∈ W, y.2.2 ∈ x.1 → y.2.1.dirty = false → 1 ≤ x.2)) (fun x => (left (akv entV W) x.1).length) (([], 0)) ?_ zsub zge ?_
         · exact ⟨by have h := List.length_filter_le (fun x => !([] : List Nat).contains x.2.2) (akv entV W); show 0 + (left (akv entV W) []).length ≤ W.length; rw [akv_len] at h; unfold left; omega, fun _ _ h => by cases h⟩
         rintro ⟨seen, o⟩ hI2 KL2 hL2
         have hI2o := hI2
         obtain ⟨ho1, ho2⟩ := hI2; dsimp only at ho1 ho2 ⊢
         refine cseq ?_; intro K140 hK140
         refine creg ?_
         refine ya (ac_next rfl zin zin ?st611 (fun _ => zrp)) rfl ?_
         case st611 => first | exact akv_stamped _ hL.w | exact akv_stamped _ (hG.ok hL.w) | exact akv_stamped _ hLn.w
         rintro v L' (⟨hov107, rfl, rfl⟩ | ⟨x107, hx107, rfl, rfl⟩)
         ·skip
          refine y (ev_extract rfl rfl) rfl ?_
          refine ynil' (kthn (hK140 _ _ ?_))
          clear hK140
          refine cseq ?_; intro K141 hK141
          refine ccond0 rfl ?_
          refine cexit (kthx (kthx (kbx (kthn ?_))))
          exact ksub zsub zge (hJ2 ⟨seen, o⟩ ⟨hI2o, fun y hy hd => ho2 y hy (left_none hov107 y hy) hd⟩)
         ·skip
          have hlt := left_lt hx107
          obtain ⟨k107, v107, b107, rfl, hm107, hs107⟩ := left_akv hx107
          dsimp only at hlt
          refine y (ev_extract rfl rfl) rfl ?_
          refine ynil' (kthn (hK140 _ _ ?_))
          clear hK140
          refine cseq ?_; intro K142 hK142
          refine ccond1 rfl ?_
          refine cskip' (kthn (hK142 _ _ ?_))
          clear hK142
          refine cblock ?_
          refine cseq ?_; intro K143 hK143
          refine creg ?_
          refine y (ev_entry rfl zin zin ?st614 ?mem614) rfl ?_
          case st614 => first | exact akv_stamped _ hL.w | exact akv_stamped _ (hG.ok hL.w) | exact akv_stamped _ hLn.w
          case mem614 => first | exact left_mem hx107 | exact left_mem hx127 | exact left_mem hx173
          refine y (ev_extract rfl rfl) rfl ?_
          refine ya (ac_alloc Tryz.zeroValue34 rfl) rfl ?_
          rintro v L' ⟨b19, rfl, rfl⟩
          refine ya0 (ac_storeAll rfl rfl (ent_one v107) Tryz.sizeOf34 zrp rfl rfl) ?_
          rintro v L' ⟨rfl, rfl⟩
          refine ynil' (kthn (hK143 _ _ ?_))
          clear hK143
          refine cseq ?_; intro K144 hK144
          refine creg ?_
          refine y (ev_fieldAddr 4 rfl Tryz.underlying34 rfl Tryz.sizeOf4) rfl ?_
          refine y (ev_load rfl Tryz.isAgg4 zin rfl) rfl ?_
          refine y (ev_not rfl) rfl ?_
          refine ynil' (kthn (hK144 _ _ ?_))
          clear hK144
          refine ccond rfl (fun h621 => ?_) (fun h621 => ?_)
          ·(try simp only [sH] at h621)
           have hcl107 : v107.dirty = false := h621
           refine creg ?_
           refine y (ev_move rfl) rfl ?_
           refine y (ev_add rfl rfl) rfl ?_
           rw [show IntKind.i64.wrap ((o:Int) + 1) = ((o+1 : Nat) : Int) by rw [wr (by omega) (by omega)]; rfl]
           refine y (ev_assign rfl) rfl ?_
           refine ynil' (kbn (kthn ?_))
           first | (have q := hcl107; exact hL2 (seen ++ [b107], o + 1) ⟨by dsimp only; omega, fun _ _ _ _ => by dsimp only; omega⟩ (by dsimp only; omega) _ _ zsub zge) | exact hL2 (seen ++ [b107], o) ⟨by dsimp only; omega, fun y hy hb hd => by rcases List.mem_append.1 hb with hb | hb; exact ho2 y hy hb hd; simp only [List.mem_singleton] at hb; have e := once_eq hL.w hy hm107 hb; subst e; rw [hdt107] at hd; cases hd⟩ (by dsimp only; omega) _ _ zsub zge
          ·(try simp only [sH] at h621)
           have hdt107 : v107.dirty = true := h621
           refine cskip' (kbn (kthn ?_))
           first | (have q := hcl107; exact hL2 (seen ++ [b107], o + 1) ⟨by dsimp only; omega, fun _ _ _ _ => by dsimp only; omega⟩ (by dsimp only; omega) _ _ zsub zge) | exact hL2 (seen ++ [b107], o) ⟨by dsimp only; omega, fun y hy hb hd => by rcases List.mem_append.1 hb with hb | hb; exact ho2 y hy hb hd; simp only [List.mem_singleton] at hb; have e := once_eq hL.w hy hm107 hb; subst e; rw [hdt107] at hd; cases hd⟩ (by dsimp only; omega) _ _ zsub zge
        clear hK105
        refine cseq ?_; intro K145 hK145
        refine creg ?_
        skip
        ·skip
         refine y (ev_move rfl) rfl ?_
         refine y (ev_neq rfl rfl) rfl ?_
         refine ynil' (kthn (hK145 _ _ ?_))
         clear hK145
         refine ccond0 rfl ?_
         refine cskip' (kthn ?_)
         first
           | (exfalso; omega; done)
           | exact ksub zsub zge (hJr19 (C', D', sl85, _) (⟨hR0, ok85, h0⟩))
      clear hK16
      refine cdrawN 26 (.op 0 0 (.op 1 0 (.op 2 0 (.op 3 1 (.op 4 1 (.op 5 0 (.op 6 0 (.op 7 0 (.op 8 0 (.op 9 0 (.op 10 1 (.op 11 0 (.op 12 0 (.op 13 1 (.op 14 0 (.op 15 0 (.op 16 0 (.op 17 1 (.op 20 0 (.op 21 0 (.op 22 0 (.op 23 0 (.fork 18 (.op 19 1 (.op 24 0 (.op 25 2 (.nil)))) 25 (.op 18 2 (.op 19 1 (.op 24 0 (.nil))))))))))))))))))))))))))) (_) Tryz.mixed (by kernel_rfl) .refl ?_
      obtain ⟨bb, hbb⟩ : ∃ bb, bs[i]? = some bb := ⟨_, List.getElem?_eq_getElem (by omega)⟩
      have hbb1 := bb.toNat_lt
      obtain ⟨hbk0, hbk1⟩ := tmod_le' (show (0 : Int) ≤ (bb.toNat : Nat) by omega) (show (0 : Int) < 32 by decide)
      obtain ⟨w1, hw1⟩ := u8ex (i : Int)
      obtain ⟨w2, hw2⟩ := u8ex ((i : Int).fdiv (2 ^ (min (8 : Int).toNat IntKind.i64.bits)))
      refine nz rfl (ev_move rfl) rfl ?_
      refine nz rfl (ev_move rfl) rfl ?_
      refine nz rfl (ev_ixV hl rfl rfl Tryz.underlying22 Tryz.sizeOf5 (by omega) (by omega)) rfl ?_
      refine nr rfl (ev_loadV i hl zge rfl Tryz.isAgg5 (by simp) (bytesV_at hbb)) rfl ?_
      refine nr rfl (ev_conv rfl Tryz.underlying5 Tryz.underlying3) rfl ?_
      rw [show IntKind.i64.wrap ((bb.toNat : Nat) : Int) = ((bb.toNat : Nat) : Int) from wr (by omega) (by omega)]
      refine nz rfl (ev_rem rfl rfl (by decide)) rfl ?_
      refine nz rfl (ev_move rfl) rfl ?_
      refine nz rfl (ev_add rfl rfl) rfl ?_
      rw [wr (by omega) (by omega)]
      refine nz rfl (ev_build (zs := _) rfl Tryz.underlying31 Tryz.zeroValue31 rfl (.cons Tryz.sizeOf2 (.cons Tryz.sizeOf2 .nil)) ⟨⟨_, _, rfl, (by first | rfl | simp), (by first | decide | simp)⟩, ⟨⟨_, _, rfl, (by first | rfl | simp), (by first | decide | simp)⟩, trivial⟩⟩ (by dsimp [fillL, splice, vcells] <;> rfl)) rfl ?_
      refine nz rfl (ev_move rfl) rfl ?_
      refine nr rfl (ev_conv rfl Tryz.underlying3 Tryz.underlying5) rfl ?_
      rw [hw1]
      refine nz rfl (ev_move rfl) rfl ?_
      refine nz rfl (ev_shr rfl rfl (by first | decide | omega)) rfl ?_
      refine nr rfl (ev_conv rfl Tryz.underlying3 Tryz.underlying5) rfl ?_
      rw [hw2]
      refine nz rfl (ev_move rfl) rfl ?_
      refine nz rfl (ev_move rfl) rfl ?_
      refine nz rfl (ev_ixV hl rfl rfl Tryz.underlying22 Tryz.sizeOf5 (by omega) (by omega)) rfl ?_
      refine nr rfl (ev_loadV i hl zge rfl Tryz.isAgg5 (by simp) (bytesV_at hbb)) rfl ?_
      refine nz rfl (ev_move rfl) rfl ?_
      refine nz rfl (ev_rem rfl rfl (by decide)) rfl ?_
      rw [tmod4]
      refine nz rfl (ev_move rfl) rfl ?_
      refine nz rfl (ev_add rfl rfl) rfl ?_
      rw [wr (by omega) (by omega)]
      refine nfork ?_ ?_
      ·skip
       refine naG rfl (ac_bsliceR (vs := bytesV [100, 97, 116, 97, w1, w2, bb, 0]) rfl Tryz.underlying22 Tryz.sizeOf5 Tryz.zeroValue5 rfl rfl rfl rfl ⟨⟨_, _, rfl, (by first | rfl | simp), (by first | decide | simp)⟩, ⟨⟨_, _, rfl, (by first | rfl | simp), (by first | decide | simp)⟩, ⟨⟨_, _, rfl, (by first | rfl | simp), (by first | decide | simp)⟩, ⟨⟨_, _, rfl, (by first | rfl | simp), (by first | decide | simp)⟩, ⟨⟨_, _, rfl, (by first | rfl | simp), (by first | decide | simp)⟩, ⟨⟨_, _, rfl, (by first | rfl | simp), (by first | decide | simp)⟩, ⟨⟨_, _, rfl, (by first | rfl | simp), (by first | decide | simp)⟩, ⟨⟨_, _, rfl, (by first | rfl | simp), (by first | decide | simp)⟩, trivial⟩⟩⟩⟩⟩⟩⟩⟩ (by dsimp [fillL, splice, vcells, reps] <;> rfl)) rfl ?_
       rintro v L' ⟨b69, rfl, rfl⟩; refine ⟨sc b69 (bytesV [100, 97, 116, 97, w1, w2, bb, 0]) 5, zge, ?_⟩
       refine nr rfl (ev_toStrB (R := [sc b69 (bytesV [100, 97, 116, 97, w1, w2, bb, 0]) 5]) (rdB_in (m := 8) (o := 0) (c := 8) (bs := [100, 97, 116, 97, w1, w2, bb, 0]) .z rfl rfl) zge rfl Tryz.underlying22 Tryz.underlying9 Tryz.underlying5) rfl ?_
       refine nz rfl (ev_build (zs := _) rfl Tryz.underlying34 Tryz.zeroValue34 rfl (.cons Tryz.sizeOf3 (.cons Tryz.sizeOf31 (.cons Tryz.sizeOf9 (.cons Tryz.sizeOf4 (.cons Tryz.sizeOf3 (.cons Tryz.sizeOf2 .nil)))))) ⟨⟨_, _, rfl, (by first | rfl | simp), (by first | decide | simp)⟩, ⟨⟨_, _, rfl, (by first | rfl | simp), (by first | decide | simp)⟩, ⟨⟨_, _, rfl, (by first | rfl | simp), (by first | decide | simp)⟩, ⟨⟨_, _, rfl, (by first | rfl | simp), (by first | decide | simp)⟩, ⟨⟨_, _, rfl, (by first | rfl | simp), (by first | decide | simp)⟩, ⟨⟨_, _, rfl, (by first | rfl | simp), (by first | decide | simp)⟩, trivial⟩⟩⟩⟩⟩⟩ (by dsimp [fillL, splice, vcells] <;> rfl)) rfl ?_
       refine na rfl (ac_alloc Tryz.zeroValue34 rfl) rfl ?_
       rintro v L' ⟨b13, rfl, rfl⟩; refine ⟨zge, ?_⟩
       refine nnil ?_
       refine ya0 (ac_storeAll (us := [i64 (((bb.toNat : Nat) : Int).tmod 32), i64 1, i64 ((i : Int) + 1), str [100, 97, 116, 97, w1, w2, bb, 0], .bool true, i64 ((i : Int) % 4), i64 ((i : Int) + 1)]) rfl rfl (by simp [Value.oneCell']) Tryz.sizeOf34 zrp rfl rfl) ?_
       rintro v L' ⟨rfl, rfl⟩
       refine hnoP' (kthn ?_)
       first
         | (exfalso; omega; done)
         | exact ksub zsub zge (hJr12 (b13, ((bb.toNat : Nat) : Int).tmod 32, [100, 97, 116, 97, w1, w2, bb, 0]) (⟨⟨hbk0, hbk1⟩, rfl⟩))
      ·skip
       refine na rfl (ac_alloc Tryz.zeroValue34 rfl) rfl ?_
       rintro v L' ⟨b13, rfl, rfl⟩; refine ⟨zge, ?_⟩
       refine naG rfl (ac_bsliceR (vs := bytesV [100, 97, 116, 97, w1, w2, bb, 0]) rfl Tryz.underlying22 Tryz.sizeOf5 Tryz.zeroValue5 rfl rfl rfl rfl ⟨⟨_, _, rfl, (by first | rfl | simp), (by first | decide | simp)⟩, ⟨⟨_, _, rfl, (by first | rfl | simp), (by first | decide | simp)⟩, ⟨⟨_, _, rfl, (by first | rfl | simp), (by first | decide | simp)⟩, ⟨⟨_, _, rfl, (by first | rfl | simp), (by first | decide | simp)⟩, ⟨⟨_, _, rfl, (by first | rfl | simp), (by first | decide | simp)⟩, ⟨⟨_, _, rfl, (by first | rfl | simp), (by first | decide | simp)⟩, ⟨⟨_, _, rfl, (by first | rfl | simp), (by first | decide | simp)⟩, ⟨⟨_, _, rfl, (by first | rfl | simp), (by first | decide | simp)⟩, trivial⟩⟩⟩⟩⟩⟩⟩⟩ (by dsimp [fillL, splice, vcells, reps] <;> rfl)) rfl ?_
       rintro v L' ⟨b69, rfl, rfl⟩; refine ⟨sc b69 (bytesV [100, 97, 116, 97, w1, w2, bb, 0]) 5, zge, ?_⟩
       refine nr rfl (ev_toStrB (R := [sc b69 (bytesV [100, 97, 116, 97, w1, w2, bb, 0]) 5]) (rdB_in (m := 8) (o := 0) (c := 8) (bs := [100, 97, 116, 97, w1, w2, bb, 0]) .z rfl rfl) zge rfl Tryz.underlying22 Tryz.underlying9 Tryz.underlying5) rfl ?_
       refine nz rfl (ev_build (zs := _) rfl Tryz.underlying34 Tryz.zeroValue34 rfl (.cons Tryz.sizeOf3 (.cons Tryz.sizeOf31 (.cons Tryz.sizeOf9 (.cons Tryz.sizeOf4 (.cons Tryz.sizeOf3 (.cons Tryz.sizeOf2 .nil)))))) ⟨⟨_, _, rfl, (by first | rfl | simp), (by first | decide | simp)⟩, ⟨⟨_, _, rfl, (by first | rfl | simp), (by first | decide | simp)⟩, ⟨⟨_, _, rfl, (by first | rfl | simp), (by first | decide | simp)⟩, ⟨⟨_, _, rfl, (by first | rfl | simp), (by first | decide | simp)⟩, ⟨⟨_, _, rfl, (by first | rfl | simp), (by first | decide | simp)⟩, ⟨⟨_, _, rfl, (by first | rfl | simp), (by first | decide | simp)⟩, trivial⟩⟩⟩⟩⟩⟩ (by dsimp [fillL, splice, vcells] <;> rfl)) rfl ?_
       refine nnil ?_
       refine ya0 (ac_storeAll (us := [i64 (((bb.toNat : Nat) : Int).tmod 32), i64 1, i64 ((i : Int) + 1), str [100, 97, 116, 97, w1, w2, bb, 0], .bool true, i64 ((i : Int) % 4), i64 ((i : Int) + 1)]) rfl rfl (by simp [Value.oneCell']) Tryz.sizeOf34 zrp rfl rfl) ?_
       rintro v L' ⟨rfl, rfl⟩
       refine hnoP' (kthn ?_)
       first
         | (exfalso; omega; done)
         | exact ksub zsub zge (hJr12 (b13, ((bb.toNat : Nat) : Int).tmod 32, [100, 97, 116, 97, w1, w2, bb, 0]) (⟨⟨hbk0, hbk1⟩, rfl⟩))
     ·(try simp only [sH] at h50)
      refine cexit (kthx (kthx (kbx (kthn ?_))))
      exact ksub zsub zge (hJ1 ⟨i, C, D, sl, W, cw, d⟩ ⟨hI1o, by first | trivial | omega⟩)
    ·(try simp only [sH] at h46)
     refine yg0 rfl rfl rfl rfl ?_
     refine yg0 rfl rfl rfl rfl ?_
     refine y (ev_pick0 rfl rfl) rfl ?_
     refine ynil' (kthn (hK14 _ _ ?_))
     clear hK14
     refine ccond0 rfl ?_
     refine cexit (kthx (kthx (kbx (kthn ?_))))
     exact ksub zsub zge (hJ1 ⟨i, C, D, sl, W, cw, d⟩ ⟨hI1o, by first | trivial | omega⟩)
end W
end Go.Proofs
