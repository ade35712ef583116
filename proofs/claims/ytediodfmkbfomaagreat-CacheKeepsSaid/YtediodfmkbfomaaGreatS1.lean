/- A part of the proof: contracts and plain lemmas, each without conditions beyond those that it names. -/
import Derived.Test.YtediodfmkbfomaaGreatGB
import Derived.Test.YtediodfmkbfomaaGreatProg
set_option linter.unusedVariables false
set_option linter.unusedSimpArgs false
set_option linter.constructorNameAsVariable false
namespace Go.Proofs
open Go Go.Sl
theorem Tryz.mixed : Tryz.prog.follows .mixedOrders = true := by kernel_rfl
theorem Tryz.zc : Tryz.zeroCells116 = (bytesV zsec).toArray := by rfl
namespace W
set_option linter.unusedVariables false
def devP (p la m : Nat) (D : Dev) : Seg := sc p [.slice (some ⟨la, 0, none⟩) D.l.length D.l.length, .map (some m), .bool D.dead, .int .i64 D.fuse] 112
def devL (la : Nat) (D : Dev) : Seg := sc la (flat D.l) 116
def devM (m : Nat) (D : Dev) : Seg := so m (.map (ents (kvs D.es)) D.clk)
abbrev devS (p la m : Nat) (D : Dev) : List Seg := [devP p la m D, devL la D, devM m D]
abbrev ptr (p : Nat) : Value := .pointer (some ⟨p, 0, none⟩)
abbrev i64 (x : Int) : Value := .int .i64 x
theorem act [Env] {R : List Seg} {p la m : Nat} {D : Dev} : Con Tryz.prog 89 [ptr p] [devP p la m D] R (Is (i64 D.act.1) [devP p la m D.act.2]) := by
 unfold devP
 refine con_enter Tryz.func89 Tryz.ntmps89 rfl rfl ?_
 refine cseq ?_; intro K1 hK1
 refine creg ?_
 refine yas ?_
 refine ynil' (kthn (hK1 _ _ ?_))
 clear hK1
 refine cseq ?_; intro K2 hK2
 refine cseq ?_; intro K3 hK3
 refine creg ?_
 refine ymv ?_
 refine yni ?_
 refine y (ev_fieldAddr 3 rfl Tryz.underlying112 rfl Tryz.sizeOf3) rfl ?_
 refine y (ev_load rfl Tryz.isAgg3 zin rfl) rfl ?_
 refine y (ev_eql rfl rfl) rfl ?_
 refine ynil' (kthn (hK3 _ _ ?_))
 clear hK3
 refine ccond rfl (fun h7 => ?_) (fun h7 => ?_)
 ·(try simp only [sH] at h7)
  refine cseq ?_; intro K4 hK4
  refine creg ?_
  refine ymv ?_
  refine yni ?_
  refine y (ev_fieldAddr 2 rfl Tryz.underlying112 rfl Tryz.sizeOf4) rfl ?_
  refine ya0 (ac_store rfl rfl (by first | rfl | exact svVal_one _ _ | assumption) Tryz.sizeOf4 zrp rfl rfl) ?_
  rintro v L' ⟨rfl, rfl⟩
  refine ynil' (kthn (hK4 _ _ ?_))
  clear hK4
  refine cseq ?_; intro K5 hK5
  refine creg ?_
  refine yas ?_
  refine ynil' (kthn (hK5 _ _ ?_))
  clear hK5
  refine cret (kthr ?_)
  first
    | (exfalso; omega; done)
    | (refine kretv Tryz.results89 rfl (L1 := _) zge ?_
       exact ⟨_, ⟨by simp [Dev.act, *], rfl⟩, by simp [Dev.act, *]⟩)
 ·(try simp only [sH] at h7)
  refine cskip' (kthn (hK2 _ _ ?_))
  clear hK2
  refine cseq ?_; intro K6 hK6
  refine cseq ?_; intro K7 hK7
  refine creg ?_
  refine ymv ?_
  refine yni ?_
  refine y (ev_fieldAddr 3 rfl Tryz.underlying112 rfl Tryz.sizeOf3) rfl ?_
  refine y (ev_load rfl Tryz.isAgg3 zin rfl) rfl ?_
  refine y (ev_gtr rfl rfl) rfl ?_
  refine ynil' (kthn (hK7 _ _ ?_))
  clear hK7
  refine ccond rfl (fun h18 => ?_) (fun h18 => ?_)
  ·(try simp only [sH] at h18)
   refine creg ?_
   refine ymv ?_
   refine yni ?_
   refine y (ev_fieldAddr 3 rfl Tryz.underlying112 rfl Tryz.sizeOf3) rfl ?_
   refine y (ev_load rfl Tryz.isAgg3 zin rfl) rfl ?_
   refine y (ev_sub rfl rfl) rfl ?_
   refine yni ?_
   refine y (ev_fieldAddr 3 rfl Tryz.underlying112 rfl Tryz.sizeOf3) rfl ?_
   refine ya0 (ac_store rfl rfl (by first | rfl | exact svVal_one _ _ | assumption) Tryz.sizeOf3 zrp rfl rfl) ?_
   rintro v L' ⟨rfl, rfl⟩
   refine ynil' (kthn (hK6 _ _ ?_))
   clear hK6
   refine cseq ?_; intro K8 hK8
   refine creg ?_
   refine yas ?_
   refine ynil' (kthn (hK8 _ _ ?_))
   clear hK8
   refine cret ?_
   first
     | (exfalso; omega; done)
     | (refine kretv Tryz.results89 rfl (L1 := _) zge ?_
        exact ⟨_, ⟨by simp [Dev.act, *], rfl⟩, by simp [Dev.act, *]⟩)
  ·(try simp only [sH] at h18)
   refine cskip' (kthn (hK6 _ _ ?_))
   clear hK6
   refine cseq ?_; intro K9 hK9
   refine creg ?_
   refine yas ?_
   refine ynil' (kthn (hK9 _ _ ?_))
   clear hK9
   refine cret ?_
   first
     | (exfalso; omega; done)
     | (refine kretv Tryz.results89 rfl (L1 := _) zge ?_
        exact ⟨_, ⟨by simp [Dev.act, *], rfl⟩, by simp [Dev.act, *]⟩)
theorem devM_act {m : Nat} {D : Dev} : devM m D.act.2 = devM m D := by unfold Dev.act devM; split <;> (try split) <;> rfl
theorem devL_act {m : Nat} {D : Dev} : devL m D.act.2 = devL m D := by unfold Dev.act devL; split <;> (try split) <;> rfl
theorem has [Env] {R : List Seg} {p la m : Nat} {D : Dev} {i : Int} : Con Tryz.prog 91 [ptr p, i64 i] [devP p la m D] R (Is (i64 (D.has i)) [devP p la m D]) := by
 unfold devP
 refine con_enter Tryz.func91 Tryz.ntmps91 rfl rfl ?_
 refine cseq ?_; intro K1 hK1
 refine creg ?_
 refine yas ?_
 refine ynil' (kthn (hK1 _ _ ?_))
 clear hK1
 refine cseq ?_; intro K2 hK2
 refine cblock ?_
 refine cseq ?_; intro K3 hK3
 refine creg ?_
 refine ymv ?_
 refine yni ?_
 refine y (ev_fieldAddr 2 rfl Tryz.underlying112 rfl Tryz.sizeOf4) rfl ?_
 refine y (ev_load rfl Tryz.isAgg4 zin rfl) rfl ?_
 refine yas ?_
 refine ynil' (kthn (hK3 _ _ ?_))
 clear hK3
 refine ccond rfl (fun h35 => ?_) (fun h35 => ?_)
 ·(try simp only [sH] at h35)
  refine cseq ?_; intro K4 hK4
  refine creg ?_
  refine yas ?_
  refine ynil' (kthn (hK4 _ _ ?_))
  clear hK4
  refine cret (kbr (kthr ?_))
  first
    | (exfalso; omega; done)
    | (refine kretv Tryz.results91 rfl (L1 := _) zge ?_
       exact ⟨_, ⟨by first | rfl | (simp [Dev.has, *]; done) | (simp [Dev.has, *]; omega), rfl⟩, by first | rfl | (simp [Dev.has, *]; done) | (simp [Dev.has, *]; omega)⟩)
 ·(try simp only [sH] at h35)
  refine cseq ?_; intro K5 hK5
  refine creg ?_
  refine ymv ?_
  refine y (ev_lss rfl rfl) rfl ?_
  refine ymv ?_
  refine ysplit 13 rfl (fun h40 => ?_) (fun h40 => ?_)
  ·(try simp only [sH] at h40)
   refine ygz ?_
   refine ygz ?_
   refine ygz ?_
   refine ygz ?_
   refine ygz ?_
   refine ygz ?_
   refine ygz ?_
   refine ypa ?_
   refine yas ?_
   refine ynil' (kthn (hK5 _ _ ?_))
   clear hK5
   refine ccond1 rfl ?_
   refine cseq ?_; intro K6 hK6
   refine creg ?_
   refine yas ?_
   refine ynil' (kthn (hK6 _ _ ?_))
   clear hK6
   refine cret (kbr (kthr ?_))
   first
     | (exfalso; omega; done)
     | (refine kretv Tryz.results91 rfl (L1 := _) zge ?_
        exact ⟨_, ⟨by first | rfl | (simp [Dev.has, *]; done) | (simp [Dev.has, *]; omega), rfl⟩, by first | rfl | (simp [Dev.has, *]; done) | (simp [Dev.has, *]; omega)⟩)
  ·(try simp only [sH] at h40)
   refine ygo ?_
   refine ymv ?_
   refine ygo ?_
   refine ymv ?_
   refine ygo ?_
   refine yni ?_
   refine ygo ?_
   refine y (ev_fieldAddr 0 rfl Tryz.underlying112 rfl Tryz.sizeOf109) rfl ?_
   refine ygo ?_
   refine y (ev_load rfl Tryz.isAgg109 zin rfl) rfl ?_
   refine ygo ?_
   first
     | refine y (ev_len rfl Tryz.underlying109) rfl ?_
     | refine y (ev_lenSv rfl Tryz.underlying109 (by assumption)) rfl ?_
     | refine y (ev_lenV rfl Tryz.underlying109 (RdV.lenVal (by assumption))) rfl ?_
     | refine y (ev_lenV rfl Tryz.underlying109 (RdB.lenVal (by assumption))) rfl ?_
   refine ygo ?_
   refine y (ev_geq rfl rfl) rfl ?_
   refine ypb ?_
   refine yas ?_
   refine ynil' (kthn (hK5 _ _ ?_))
   clear hK5
   refine ccond rfl (fun h53 => ?_) (fun h53 => ?_)
   ·(try simp only [sH] at h53)
    refine cseq ?_; intro K7 hK7
    refine creg ?_
    refine yas ?_
    refine ynil' (kthn (hK7 _ _ ?_))
    clear hK7
    refine cret (kbr (kthr ?_))
    first
      | (exfalso; omega; done)
      | (refine kretv Tryz.results91 rfl (L1 := _) zge ?_
         exact ⟨_, ⟨by first | rfl | (simp [Dev.has, *]; done) | (simp [Dev.has, *]; omega), rfl⟩, by first | rfl | (simp [Dev.has, *]; done) | (simp [Dev.has, *]; omega)⟩)
   ·(try simp only [sH] at h53)
    refine cskip' (kbn (kthn (hK2 _ _ ?_)))
    clear hK2
    refine cseq ?_; intro K8 hK8
    refine creg ?_
    refine yas ?_
    refine ynil' (kthn (hK8 _ _ ?_))
    clear hK8
    refine cret ?_
    first
      | (exfalso; omega; done)
      | (refine kretv Tryz.results91 rfl (L1 := _) zge ?_
         exact ⟨_, ⟨by first | rfl | (simp [Dev.has, *]; done) | (simp [Dev.has, *]; omega), rfl⟩, by first | rfl | (simp [Dev.has, *]; done) | (simp [Dev.has, *]; omega)⟩)
theorem setFuse [Env] {R : List Seg} {p la m : Nat} {D : Dev} {i : Int} : Con Tryz.prog 30 [ptr p, i64 i] [devP p la m D] R (Is (.tuple #[]) [devP p la m (D.setFuse i)]) := by
 unfold devP
 refine con_enter Tryz.func30 Tryz.ntmps30 rfl rfl ?_
 refine creg ?_
 refine ymv ?_
 refine ymv ?_
 refine y (ev_max rfl rfl) rfl ?_
 refine yni ?_
 refine y (ev_fieldAddr 3 rfl Tryz.underlying112 rfl Tryz.sizeOf3) rfl ?_
 refine ya0 (ac_store rfl rfl (by first | rfl | exact svVal_one _ _ | assumption) Tryz.sizeOf3 zrp rfl rfl) ?_
 rintro v L' ⟨rfl, rfl⟩
 refine ynil' ?_
 first
   | (exfalso; omega; done)
   | (refine kendv0 Tryz.results30 (L1 := _) zge ?_
      exact ⟨_, ⟨by first | rfl | simp [Dev.setFuse, *], rfl⟩, by first | rfl | simp [Dev.setFuse, *]⟩)
theorem dead [Env] {R : List Seg} {p la m : Nat} {D : Dev} : Con Tryz.prog 78 [ptr p] [devP p la m D] R (Is (.bool D.dead) [devP p la m D]) := by
 unfold devP
 refine con_enter Tryz.func78 Tryz.ntmps78 rfl rfl ?_
 refine cseq ?_; intro K1 hK1
 refine creg ?_
 refine yas ?_
 refine ynil' (kthn (hK1 _ _ ?_))
 clear hK1
 refine cseq ?_; intro K2 hK2
 refine creg ?_
 refine ymv ?_
 refine yni ?_
 refine y (ev_fieldAddr 2 rfl Tryz.underlying112 rfl Tryz.sizeOf4) rfl ?_
 refine y (ev_load rfl Tryz.isAgg4 zin rfl) rfl ?_
 refine yas ?_
 refine ynil' (kthn (hK2 _ _ ?_))
 clear hK2
 refine cret ?_
 first
   | (exfalso; omega; done)
   | (refine kretv Tryz.results78 rfl (L1 := _) zge ?_
      exact ⟨_, ⟨by first | rfl | (simp [*]; done) | (simp [*]; omega) | simp_all, rfl⟩, by first | rfl | (simp [*]; done) | (simp [*]; omega) | simp_all⟩)
theorem sectors [Env] {R : List Seg} {p la m : Nat} {D : Dev} : Con Tryz.prog 59 [ptr p] [devP p la m D] R (Is (i64 D.l.length) [devP p la m D]) := by
 unfold devP
 refine con_enter Tryz.func59 Tryz.ntmps59 rfl rfl ?_
 refine cseq ?_; intro K1 hK1
 refine creg ?_
 refine yas ?_
 refine ynil' (kthn (hK1 _ _ ?_))
 clear hK1
 refine cseq ?_; intro K2 hK2
 refine creg ?_
 refine ymv ?_
 refine yni ?_
 refine y (ev_fieldAddr 0 rfl Tryz.underlying112 rfl Tryz.sizeOf109) rfl ?_
 refine y (ev_load rfl Tryz.isAgg109 zin rfl) rfl ?_
 first
   | refine y (ev_len rfl Tryz.underlying109) rfl ?_
   | refine y (ev_lenSv rfl Tryz.underlying109 (by assumption)) rfl ?_
   | refine y (ev_lenV rfl Tryz.underlying109 (RdV.lenVal (by assumption))) rfl ?_
   | refine y (ev_lenV rfl Tryz.underlying109 (RdB.lenVal (by assumption))) rfl ?_
 refine yas ?_
 refine ynil' (kthn (hK2 _ _ ?_))
 clear hK2
 refine cret ?_
 first
   | (exfalso; omega; done)
   | (refine kretv Tryz.results59 rfl (L1 := _) zge ?_
      exact ⟨_, ⟨by first | rfl | (simp [*]; done) | (simp [*]; omega) | simp_all, rfl⟩, by first | rfl | (simp [*]; done) | (simp [*]; omega) | simp_all⟩)
theorem up [Env] {R : List Seg} {p la m : Nat} {D : Dev} : Con Tryz.prog 53 [ptr p] [devP p la m D, devM m D] R (Is (.tuple #[]) [devP p la m D.up, devM m D.up]) := by
 unfold devP devM
 refine con_enter Tryz.func53 Tryz.ntmps53 rfl rfl ?_
 refine cseq ?_; intro K1 hK1
 refine creg ?_
 refine ymv ?_
 refine yni ?_
 refine y (ev_fieldAddr 1 rfl Tryz.underlying112 rfl Tryz.sizeOf110) rfl ?_
 refine y (ev_load rfl Tryz.isAgg110 zin rfl) rfl ?_
 refine ya0 (ac_clearM rfl Tryz.underlying110 zrp) ?_
 rintro v L' ⟨rfl, rfl⟩
 refine ynil' (kthn (hK1 _ _ ?_))
 clear hK1
 refine creg ?_
 refine ymv ?_
 refine ymv ?_
 refine yni ?_
 refine y (ev_fieldAddr 2 rfl Tryz.underlying112 rfl Tryz.sizeOf4) rfl ?_
 refine ya0 (ac_store rfl rfl (by first | rfl | exact svVal_one _ _ | assumption) Tryz.sizeOf4 zrp rfl rfl) ?_
 rintro v L' ⟨rfl, rfl⟩
 refine yni ?_
 refine y (ev_fieldAddr 3 rfl Tryz.underlying112 rfl Tryz.sizeOf3) rfl ?_
 refine ya0 (ac_store rfl rfl (by first | rfl | exact svVal_one _ _ | assumption) Tryz.sizeOf3 zrp rfl rfl) ?_
 rintro v L' ⟨rfl, rfl⟩
 refine ynil' ?_
 first
   | (exfalso; omega; done)
   | (refine kendv0 Tryz.results53 (L1 := _) zge ?_
      exact ⟨_, ⟨by first | rfl | simp [Dev.up, kvs], rfl⟩, by first | rfl | simp [Dev.up, kvs]⟩)
theorem new [Env] {R : List Seg} {n : Nat} (hn : n ≤ 512) : Con Tryz.prog 34 [i64 n] [] R (fun v L' => ∃ p la m, v = ptr p ∧ L' = devS p la m (Dev.new n)) := by
 refine con_enter Tryz.func34 Tryz.ntmps34 rfl rfl ?_
 refine cseq ?_; intro K1 hK1
 refine creg ?_
 refine yas ?_
 refine ynil' (kthn (hK1 _ _ ?_))
 clear hK1
 refine cseq ?_; intro K2 hK2
 refine cseq ?_; intro K3 hK3
 refine creg ?_
 refine ymv ?_
 refine y (ev_lss rfl rfl) rfl ?_
 refine ymv ?_
 refine ysplit 5 rfl (fun h92 => ?_) (fun h92 => ?_)
 ·(try simp only [sH] at h92)
  refine ygz ?_
  refine ygz ?_
  refine ypa ?_
  refine ynil' (kthn (hK3 _ _ ?_))
  clear hK3
  refine ccond1 rfl ?_
  refine cseq ?_; intro K4 hK4
  refine creg ?_
  refine yas ?_
  refine ynil' (kthn (hK4 _ _ ?_))
  clear hK4
  refine cret (kthr ?_)
  first
    | (exfalso; omega; done)
    | (refine kretv Tryz.results34 rfl (L1 := [sc _ _ 112, sc _ _ 116, so _ (.map _ _)] ++ R) zge ?_
       exact ⟨_, ⟨b13, b10, b11, rfl, rfl⟩, by simp [devP, devL, devM, Dev.new, flat_reps, kvs]⟩)
 ·(try simp only [sH] at h92)
  refine ygo ?_
  refine ymv ?_
  refine ygo ?_
  refine y (ev_gtr rfl rfl) rfl ?_
  refine ypb ?_
  refine ynil' (kthn (hK3 _ _ ?_))
  clear hK3
  refine ccond rfl (fun h98 => ?_) (fun h98 => ?_)
  ·(try simp only [sH] at h98)
   refine cseq ?_; intro K5 hK5
   refine creg ?_
   refine yas ?_
   refine ynil' (kthn (hK5 _ _ ?_))
   clear hK5
   refine cret (kthr ?_)
   first
     | (exfalso; omega; done)
     | (refine kretv Tryz.results34 rfl (L1 := [sc _ _ 112, sc _ _ 116, so _ (.map _ _)] ++ R) zge ?_
        exact ⟨_, ⟨b13, b10, b11, rfl, rfl⟩, by simp [devP, devL, devM, Dev.new, flat_reps, kvs]⟩)
  ·(try simp only [sH] at h98)
   refine cskip' (kthn (hK2 _ _ ?_))
   clear hK2
   refine cseq ?_; intro K6 hK6
   refine creg ?_
   refine ymv ?_
   refine ya (ac_make (zs := bytesV zsec) rfl rfl Tryz.underlying109 Tryz.typeInfo116 Tryz.sizeOf116 Tryz.zeroValue116 Tryz.zc rfl (by decide) ?lt101 ?big101) rfl ?_
   case lt101 => omega
   case big101 => show 144 * n ≤ _; omega
   rintro v L' ⟨b10, rfl, rfl⟩
   refine ya (ac_makeMap) rfl ?_
   rintro v L' ⟨b11, rfl, rfl⟩
   refine y (ev_build (zs := _) rfl Tryz.underlying112 Tryz.zeroValue112 rfl (.cons Tryz.sizeOf109 (.cons Tryz.sizeOf110 (.cons Tryz.sizeOf4 (.cons Tryz.sizeOf3 .nil)))) ⟨⟨_, _, rfl, (by first | rfl | simp), (by first | decide | simp)⟩, ⟨⟨_, _, rfl, (by first | rfl | simp), (by first | decide | simp)⟩, ⟨⟨_, _, rfl, (by first | rfl | simp), (by first | decide | simp)⟩, trivial⟩⟩⟩ (by dsimp [fillL, splice, vcells] <;> rfl)) rfl ?_
   refine ya (ac_box rfl rfl) rfl ?_
   rintro v L' ⟨b13, rfl, rfl⟩
   refine yas ?_
   refine ynil' (kthn (hK6 _ _ ?_))
   clear hK6
   refine cret ?_
   first
     | (exfalso; omega; done)
     | (refine kretv Tryz.results34 rfl (L1 := [sc _ _ 112, sc _ _ 116, so _ (.map _ _)] ++ R) zge ?_
        exact ⟨_, ⟨b13, b10, b11, rfl, rfl⟩, by simp [devP, devL, devM, Dev.new, flat_reps, kvs]⟩)
theorem write [Env] {R : List Seg} {p la m : Nat} {D : Dev} {i : Int} {bv : Value} {bs : Bytes} (hD : D.ok) (hb : RdB R bv bs) :
   Con Tryz.prog 74 [ptr p, i64 i, bv] [devP p la m D, devM m D] R (Is (i64 (D.write i bs).1) [devP p la m (D.write i bs).2, devM m (D.write i bs).2]) := by
 refine con_enter Tryz.func74 Tryz.ntmps74 rfl rfl ?_
 refine cseq ?_; intro K1 hK1
 refine creg ?_
 refine yas ?_
 refine ynil' (kthn (hK1 _ _ ?_))
 clear hK1
 refine cseq ?_; intro K2 hK2
 refine cseq ?_; intro K3 hK3
 refine creg ?_
 refine ymv ?_
 refine ymv ?_
 refine ycall (has) rfl Tryz.call91 ztk rfl ?_
 rintro v L' ⟨rfl, rfl⟩
 refine yas ?_
 refine ynil' (kthn (hK3 _ _ ?_))
 clear hK3
 refine cseq ?_; intro K4 hK4
 refine creg ?_
 refine ymv ?_
 refine y (ev_neq rfl rfl) rfl ?_
 refine ynil' (kthn (hK4 _ _ ?_))
 clear hK4
 refine ccond rfl (fun h113 => ?_) (fun h113 => ?_)
 ·(try simp only [sH] at h113)
  refine cseq ?_; intro K5 hK5
  refine creg ?_
  refine ymv ?_
  refine yas ?_
  refine ynil' (kthn (hK5 _ _ ?_))
  clear hK5
  refine cret (kthr ?_)
  first
    | (exfalso; omega; done)
    | (refine kretv Tryz.results74 rfl (L1 := [devP p la m _, so m _] ++ R) zge ?_
       exact ⟨_, ⟨by first | (simp [Dev.write, devM_act, *]; done) | simp [Dev.write, devM, devP, kvs_put, kvs_clk, *], rfl⟩, by first | (simp [Dev.write, devM_act, *]; done) | simp [Dev.write, devM, devP, kvs_put, kvs_clk, *]⟩)
 ·(try simp only [sH] at h113)
  refine cskip' (kthn (hK2 _ _ ?_))
  clear hK2
  refine cseq ?_; intro K6 hK6
  refine cseq ?_; intro K7 hK7
  refine creg ?_
  refine ymv ?_
  refine y (ev_lenB rfl Tryz.underlying22 hb.lenVal) rfl ?_
  refine y (ev_gtr rfl rfl) rfl ?_
  refine ynil' (kthn (hK7 _ _ ?_))
  clear hK7
  refine ccond rfl (fun h119 => ?_) (fun h119 => ?_)
  ·(try simp only [sH] at h119)
   refine cseq ?_; intro K8 hK8
   refine creg ?_
   refine yas ?_
   refine ynil' (kthn (hK8 _ _ ?_))
   clear hK8
   refine cret (kthr ?_)
   first
     | (exfalso; omega; done)
     | (refine kretv Tryz.results74 rfl (L1 := [devP p la m _, so m _] ++ R) zge ?_
        exact ⟨_, ⟨by first | (simp [Dev.write, devM_act, *]; done) | simp [Dev.write, devM, devP, kvs_put, kvs_clk, *], rfl⟩, by first | (simp [Dev.write, devM_act, *]; done) | simp [Dev.write, devM, devP, kvs_put, kvs_clk, *]⟩)
  ·(try simp only [sH] at h119)
   refine cskip' (kthn (hK6 _ _ ?_))
   clear hK6
   refine cseq ?_; intro K9 hK9
   refine cseq ?_; intro K10 hK10
   refine creg ?_
   refine ymv ?_
   refine ycall (act) rfl Tryz.call89 ztk rfl ?_
   rintro v L' ⟨rfl, rfl⟩
   refine yas ?_
   refine ynil' (kthn (hK10 _ _ ?_))
   clear hK10
   refine cseq ?_; intro K11 hK11
   refine creg ?_
   refine ymv ?_
   refine y (ev_neq rfl rfl) rfl ?_
   refine ynil' (kthn (hK11 _ _ ?_))
   clear hK11
   refine ccond rfl (fun h126 => ?_) (fun h126 => ?_)
   ·(try simp only [sH] at h126)
    refine cseq ?_; intro K12 hK12
    refine creg ?_
    refine ymv ?_
    refine yas ?_
    refine ynil' (kthn (hK12 _ _ ?_))
    clear hK12
    refine cret (kthr ?_)
    first
      | (exfalso; omega; done)
      | (refine kretv Tryz.results74 rfl (L1 := [devP p la m _, so m _] ++ R) zge ?_
         exact ⟨_, ⟨by first | (simp [Dev.write, devM_act, *]; done) | simp [Dev.write, devM, devP, kvs_put, kvs_clk, *], rfl⟩, by first | (simp [Dev.write, devM_act, *]; done) | simp [Dev.write, devM, devP, kvs_put, kvs_clk, *]⟩)
   ·(try simp only [sH] at h126)
    refine cskip' (kthn (hK9 _ _ ?_))
    clear hK9
    refine cseq ?_; intro K13 hK13
    refine creg ?_
    refine ya (ac_alloc (vs := bytesV zsec) Tryz.zeroValue116 Tryz.zc) rfl ?_
    rintro v L' ⟨b9, rfl, rfl⟩
    refine ynil' (kthn (hK13 _ _ ?_))
    clear hK13
    refine cseq ?_; intro K14 hK14
    refine creg ?_
    refine y (ev_slA rfl Tryz.underlying116 Tryz.sizeOf5) rfl ?_
    refine ymv ?_
    refine ya (ac_copyB (bs := bs) (vs' := bytesV (pad bs)) rfl rfl Tryz.underlying22 Tryz.sizeOf5 ?rd132 rfl zrp ?fit132 ?eq132) rfl ?_
    case rd132 => exact hb.mono (by repeat first | exact .refl | refine .drop ?_)
    case fit132 => simp [zsec]; omega
    case eq132 => exact copy_pad (by omega)
    rintro v L' ⟨rfl, rfl⟩
    refine ynil' (kthn (hK14 _ _ ?_))
    clear hK14
    refine cseq ?_; intro K15 hK15
    refine cdraw 6 [(0, true), (1, true), (2, true), (3, true), (4, true), (5, true)] (_) Tryz.mixed (by kernel_rfl) .refl ?_
    refine hr rfl (ev_move rfl) rfl ?_
    refine hr rfl (ev_nil rfl) rfl ?_
    refine hr rfl (ev_fieldAddr 1 rfl Tryz.underlying112 rfl Tryz.sizeOf110) rfl ?_
    refine hr rfl (ev_load rfl Tryz.isAgg110 zin rfl) rfl ?_
    refine hr rfl (ev_move rfl) rfl ?_
    refine hr rfl (ev_loadAll rfl Tryz.isAgg116 Tryz.sizeOf116 zin (by simp [pad]; omega)) rfl ?_
    refine hnil ?_
    refine ya0 (ac_mapUpdate rfl rfl rfl Tryz.underlying110 Tryz.underlying3 ?uniq139 zrp) ?_
    case uniq139 => exact kvs_uniq hD.uniq
    rintro v L' ⟨rfl, rfl⟩
    refine hnoP' (kthn (hK15 _ _ ?_))
    clear hK15
    refine cseq ?_; intro K16 hK16
    refine creg ?_
    refine yas ?_
    refine ynil' (kthn (hK16 _ _ ?_))
    clear hK16
    refine cret ?_
    first
      | (exfalso; omega; done)
      | (refine kretv Tryz.results74 rfl (L1 := [devP p la m _, so m _] ++ R) zge ?_
         exact ⟨_, ⟨by first | (simp [Dev.write, devM_act, *]; done) | simp [Dev.write, devM, devP, kvs_put, kvs_clk, *], rfl⟩, by first | (simp [Dev.write, devM_act, *]; done) | simp [Dev.write, devM, devP, kvs_put, kvs_clk, *]⟩)
theorem barrier [Env] {R : List Seg} {p la m : Nat} {D : Dev} (hD : D.ok) :
   Con Tryz.prog 70 [ptr p] (devS p la m D) R (Is (i64 D.barrier.1) (devS p la m D.barrier.2)) := by
 refine con_enter Tryz.func70 Tryz.ntmps70 rfl rfl ?_
 show Sc _ _ _ _ _ (devP p la m D :: devL la D :: devM m D :: R)
 refine cseq ?_; intro K1 hK1
 refine creg ?_
 refine yas ?_
 refine ynil' (kthn (hK1 _ _ ?_))
 clear hK1
 refine cseq ?_; intro K2 hK2
 refine cseq ?_; intro K3 hK3
 refine creg ?_
 unfold devP
 refine ymv ?_
 refine yni ?_
 refine y (ev_fieldAddr 2 rfl Tryz.underlying112 rfl Tryz.sizeOf4) rfl ?_
 refine y (ev_load rfl Tryz.isAgg4 zin rfl) rfl ?_
 refine ynil' (kthn (hK3 _ _ ?_))
 clear hK3
 refine ccond rfl (fun h146 => ?_) (fun h146 => ?_)
 ·(try simp only [sH] at h146)
  refine cseq ?_; intro K4 hK4
  refine creg ?_
  refine yas ?_
  refine ynil' (kthn (hK4 _ _ ?_))
  clear hK4
  refine cret (kthr ?_)
  first
    | (exfalso; omega; done)
    | (refine kretv Tryz.results70 rfl (L1 := [sc p _ _, sc la _ _, so m _] ++ R) zge ?_
       exact ⟨_, ⟨by simp [Dev.barrier, devP, devL, devM, devM_act, devL_act, *], rfl⟩, by simp [Dev.barrier, devP, devL, devM, devM_act, devL_act, *]⟩)
 ·(try simp only [sH] at h146)
  refine cskip' (kthn (hK2 _ _ ?_))
  clear hK2
  refine cseq ?_; intro K5 hK5
  refine cseq ?_; intro K6 hK6
  refine creg ?_
  refine ymv ?_
  refine ycall (act) rfl Tryz.call89 ztk rfl ?_
  rintro v L' ⟨rfl, rfl⟩
  refine yas ?_
  refine ynil' (kthn (hK6 _ _ ?_))
  clear hK6
  refine cseq ?_; intro K7 hK7
  refine creg ?_
  refine ymv ?_
  refine y (ev_neq rfl rfl) rfl ?_
  refine ynil' (kthn (hK7 _ _ ?_))
  clear hK7
  refine ccond rfl (fun h153 => ?_) (fun h153 => ?_)
  ·(try simp only [sH] at h153)
   refine cseq ?_; intro K8 hK8
   refine creg ?_
   refine ymv ?_
   refine yas ?_
   refine ynil' (kthn (hK8 _ _ ?_))
   clear hK8
   refine cret (kthr ?_)
   first
     | (exfalso; omega; done)
     | (refine kretv Tryz.results70 rfl (L1 := [sc p _ _, sc la _ _, so m _] ++ R) zge ?_
        exact ⟨_, ⟨by simp [Dev.barrier, devP, devL, devM, devM_act, devL_act, *], rfl⟩, by simp [Dev.barrier, devP, devL, devM, devM_act, devL_act, *]⟩)
  ·(try simp only [sH] at h153)
   refine cskip' (kthn (hK5 _ _ ?_))
   clear hK5
   refine cseq ?_; intro K9 hK9
   refine cseq ?_; intro K10 hK10
   refine creg ?_
   unfold devP devM; simp only [act_l]
   refine ymv ?_
   refine yni ?_
   refine y (ev_fieldAddr 1 rfl Tryz.underlying112 rfl Tryz.sizeOf110) rfl ?_
   refine y (ev_load rfl Tryz.isAgg110 zin rfl) rfl ?_
   refine ya (ac_range rfl Tryz.underlying110 zin) rfl ?_
   rintro v L' ⟨i19, rfl, rfl⟩
   refine ynil' (kthn (hK10 _ _ ?_))
   clear hK10
   refine cblock ?_
   refine cloop (A := List Nat × List Bytes) (fun x => [(19, ptr i19), (0, ptr p)]) (fun x => [so i19 (.mapIter (some m) D.clk x.1.toArray D.clk), sc p [.slice (some ⟨la, 0, none⟩) D.l.length D.l.length, .map (some m), .bool D.act.2.dead, .int .i64 D.act.2.fuse] 112, sc la (flat x.2) 116, devM m D] ++ R) (fun x => (∀ s ∈ x.2, s.length = 144) ∧ x.2.length = D.l.length ∧ settleD (D.es.filter fun y => !x.1.contains y.2.2) x.2 = settleD D.es D.l) (fun x => (left (kvs D.es) x.1).length) (([], D.l)) ?_ zsub zge ?_
   · exact ⟨hD.sec, rfl, congrArg (settleD · _) (List.filter_eq_self.2 (by simp))⟩
   rintro ⟨seen, ls⟩ hI1 KL1 hL1
   obtain ⟨hls, hll, hse⟩ := hI1; dsimp only at hls hll hse ⊢; unfold devM
   refine cseq ?_; intro K11 hK11
   refine creg ?_
   refine ya (ac_next rfl zin zin ?st161 (fun _ => zrp)) rfl ?_
   case st161 => exact kvs_stamped hD.born hD.once
   rintro v L' (⟨hov20, rfl, rfl⟩ | ⟨x20, hx20, rfl, rfl⟩)
   ·have hse' := settle_done hov20 hse
    refine yxt ?_
    refine ynil' (kthn (hK11 _ _ ?_))
    clear hK11
    refine cseq ?_; intro K12 hK12
    refine ccond0 rfl ?_
    refine cexit (kthx (kthx (kbx (kthn (hK9 _ _ ?_)))))
    clear hK9
    refine cseq ?_; intro K13 hK13
    refine creg ?_
    refine ymv ?_
    refine yni ?_
    refine y (ev_fieldAddr 1 rfl Tryz.underlying112 rfl Tryz.sizeOf110) rfl ?_
    refine y (ev_load rfl Tryz.isAgg110 zin rfl) rfl ?_
    refine ya0 (ac_clearM rfl Tryz.underlying110 zrp) ?_
    rintro v L' ⟨rfl, rfl⟩
    refine ynil' (kthn (hK13 _ _ ?_))
    clear hK13
    refine cseq ?_; intro K14 hK14
    refine creg ?_
    refine yas ?_
    refine ynil' (kthn (hK14 _ _ ?_))
    clear hK14
    refine cret ?_
    first
      | (exfalso; omega; done)
      | (refine kretv Tryz.results70 rfl (L1 := [sc p _ _, sc la _ _, so m _] ++ R) zge ?_
         exact ⟨_, ⟨by simp [Dev.barrier, devP, devL, devM, devM_act, devL_act, *], rfl⟩, by simp [Dev.barrier, devP, devL, devM, devM_act, devL_act, *]⟩)
   ·obtain ⟨k20, s20, b20, rfl, hs20, hk0, hk1, hm20⟩ := left_es hD hx20
    refine yxt ?_
    refine ynil' (kthn (hK11 _ _ ?_))
    clear hK11
    refine cseq ?_; intro K15 hK15
    refine ccond1 rfl ?_
    refine cskip' (kthn (hK15 _ _ ?_))
    clear hK15
    refine cblock ?_
    refine cseq ?_; intro K16 hK16
    refine creg ?_
    refine y (ev_entry rfl zin zin ?st170 ?mem170) rfl ?_
    case st170 => exact kvs_stamped hD.born hD.once
    case mem170 => exact left_mem hx20
    refine yxt ?_
    refine yxt ?_
    refine ya (ac_alloc (vs := bytesV zsec) Tryz.zeroValue116 Tryz.zc) rfl ?_
    rintro v L' ⟨b5, rfl, rfl⟩
    refine yas ?_
    refine ya0 (ac_storeAll rfl rfl (by first | exact bytesV_one _ | (simp [Value.oneCell']; done) | (simp only [List.forall_mem_cons, List.not_mem_nil, false_implies, implies_true, svVal_one, and_true, true_and, and_self]; first | done | simp [Value.oneCell'])) Tryz.sizeOf116 zrp (by first | rfl | assumption | (simp [*]; done) | (simp [*]; omega)) (by first | rfl | assumption | (simp [*]; done) | (simp [*]; omega))) ?_
    rintro v L' ⟨rfl, rfl⟩
    refine ynil' (kthn (hK16 _ _ ?_))
    clear hK16
    refine cdraw 7 [(0, true), (1, true), (2, true), (3, true), (4, true), (5, true), (6, true)] (_) Tryz.mixed (by kernel_rfl) .refl ?_
    refine hr rfl (ev_move rfl) rfl ?_
    refine hr rfl (ev_nil rfl) rfl ?_
    refine hr rfl (ev_fieldAddr 0 rfl Tryz.underlying112 rfl Tryz.sizeOf109) rfl ?_
    refine hr rfl (ev_load rfl Tryz.isAgg109 zin rfl) rfl ?_
    refine hr rfl (ev_move rfl) rfl ?_
    refine hr rfl (ev_loadAll rfl Tryz.isAgg116 Tryz.sizeOf116 zin (by first | rfl | assumption | (simp [*]; done) | (simp [*]; omega))) rfl ?_
    first
      | refine hr rfl (ev_ixAddr rfl rfl Tryz.underlying109 Tryz.sizeOf116 (by omega) (by omega)) rfl ?_
      | refine hr rfl (ev_ixV (by assumption) rfl rfl Tryz.underlying109 Tryz.sizeOf116 (by omega) (by omega)) rfl ?_
    refine hnil ?_
    refine ya0 (ac_storeN (vs' := flat (ls.set k20.toNat s20)) rfl rfl (bytesV_one _) Tryz.sizeOf116 zrp (by simp [hs20]) (by rw [flat_length hls]; omega) (by rw [Nat.zero_add]; exact flat_set hls (by omega))) ?_; rintro v L' ⟨rfl, rfl⟩
    refine hnoP' (kbn (kthn ?_))
    exact hL1 ((seen ++ [b20], ls.set k20.toNat s20)) (⟨set_len hls hs20, by simpa using hll, settleD_step hD hx20 hm20 hse⟩) (left_lt hx20) _ _ zsub zge
theorem cloneB [Env] {R : List Seg} {a : Addr} {m c : Nat} {bs : Bytes} (hm : m = bs.length) (hb : RdB R (.slice (some a) m c) bs) (hl : m < 2 ^ 40) :
   Con Tryz.prog 96 [.slice (some a) m c] [] R (KSv 5 m 1 (bytesV bs) []) := by
 subst hm
 refine con_enter Tryz.func96 Tryz.ntmps96 rfl rfl ?_
 refine cseq ?_; intro K1 hK1
 refine creg ?_
 refine yas ?_
 refine ynil' (kthn (hK1 _ _ ?_))
 clear hK1
 refine cseq ?_; intro K2 hK2
 refine cseq ?_; intro K3 hK3
 refine creg ?_
 refine ymv ?_
 refine y (ev_eqlLnil rfl rfl Tryz.underlying22) rfl ?_
 refine ynil' (kthn (hK3 _ _ ?_))
 clear hK3
 refine ccond rfl (fun h187 => ?_) (fun h187 => ?_)
 ·(try simp only [sH] at h187)
  exact absurd h187 (by simp)
 ·(try simp only [sH] at h187)
  refine cskip' (kthn (hK2 _ _ ?_))
  clear hK2
  refine cseq ?_; intro K4 hK4
  refine creg ?_
  refine ya (ac_bslice0 Tryz.underlying22 Tryz.sizeOf5) rfl ?_
  rintro v L' ⟨b5, rfl, rfl⟩
  refine ymv ?_
  refine ya (ac_append (k := bs.length) (us := bytesV bs) (size := 1) rfl rfl (by repeat first | exact .z | apply Pk.s) Tryz.underlying22 Tryz.underlying22 (by intro q hq; cases hq) Tryz.typeInfo5 rfl rfl rfl ?ok190 ?src190 ?one190 ?big190) rfl ?_
  case ok190 => exact ⟨Nat.le_refl _, by decide, rfl, rfl⟩
  case src190 => exact (hb.mono zge).src
  case one190 => exact bytesV_one _
  case big190 => show (0 + bs.length) * 2 ≤ _; omega
  rintro v L' ⟨s7, rfl, ok7, rfl⟩
  rw [Nat.zero_add] at ok7; rw [Nat.zero_add]
  refine yas ?_
  refine ynil' (kthn (hK4 _ _ ?_))
  clear hK4
  refine cret ?_
  first
    | (exfalso; omega; done)
    | (refine kretv Tryz.results96 rfl (L1 := _) zge ?_
       exact ⟨_, ⟨s7, rfl, ok7, rfl⟩, rfl⟩)
/-- What Read hands back: nil beside an error, else a new slice. -/
def KRead (D : Dev) (i : Int) (L : List Seg) (v : Value) (L' : List Seg) : Prop :=
 (D.has i ≠ 0 ∧ v = .tuple #[.slice none 0 0, i64 (D.has i)] ∧ L' = L) ∨
 (D.has i = 0 ∧ ∃ s, v = .tuple #[svVal s 144, i64 0] ∧ svOk s 144 1 (bytesV (D.sec i)) ∧ L' = svSeg s 5 (bytesV (D.sec i)) :: L)
theorem read [Env] {R : List Seg} {p la m : Nat} {D : Dev} {i : Int} (hD : D.ok) :
   Con Tryz.prog 79 [ptr p, i64 i] (devS p la m D) R (KRead D i (devS p la m D)) := by
 have hs := sec_length hD i
 refine con_enter Tryz.func79 Tryz.ntmps79 rfl rfl ?_
 show Sc _ _ _ _ _ (devP p la m D :: devL la D :: devM m D :: R)
 refine cseq ?_; intro K1 hK1
 refine creg ?_
 refine yas ?_
 refine yas ?_
 refine ynil' (kthn (hK1 _ _ ?_))
 clear hK1
 refine cseq ?_; intro K2 hK2
 refine cseq ?_; intro K3 hK3
 refine creg ?_
 refine ymv ?_
 refine ymv ?_
 refine ycall (has) rfl Tryz.call91 ztk rfl ?_
 rintro v L' ⟨rfl, rfl⟩
 refine yas ?_
 refine ynil' (kthn (hK3 _ _ ?_))
 clear hK3
 refine cseq ?_; intro K4 hK4
 refine creg ?_
 refine ymv ?_
 refine y (ev_neq rfl rfl) rfl ?_
 refine ynil' (kthn (hK4 _ _ ?_))
 clear hK4
 refine ccond rfl (fun h200 => ?_) (fun h200 => ?_)
 ·(try simp only [sH] at h200)
  refine cseq ?_; intro K5 hK5
  refine creg ?_
  refine ymv ?_
  refine yas ?_
  refine yas ?_
  refine ynil' (kthn (hK5 _ _ ?_))
  clear hK5
  refine cret (kthr ?_)
  first
    | (exfalso; omega; done)
    | exact kret2 Tryz.results79 rfl rfl _ (.inl ⟨by assumption, rfl, rfl⟩) zge
    | exact kret2 Tryz.results79 rfl rfl _ (.inr ⟨by assumption, s34, rfl, ok34, rfl⟩) zge
 ·(try simp only [sH] at h200)
  refine cskip' (kthn (hK2 _ _ ?_))
  clear hK2
  refine cseq ?_; intro K6 hK6
  refine creg ?_
  unfold devP devM; obtain ⟨hdd, hi0, hi1⟩ := has_zero (D := D) (i := i) (by assumption); have hql := fun q => eget_len hD (k := i) (s := q)
  refine ymv ?_
  refine yni ?_
  refine y (ev_fieldAddr 1 rfl Tryz.underlying112 rfl Tryz.sizeOf110) rfl ?_
  refine y (ev_load rfl Tryz.isAgg110 zin rfl) rfl ?_
  refine ymv ?_
  rcases hg : eget D.es i with _ | q
  ·skip
   first | refine y (ev_lookup2n (by rw [kvs_get, hg]; rfl) rfl rfl Tryz.underlying110 Tryz.underlying3 Tryz.zeroValue116 zin) rfl ?_ | refine y (ev_lookup2s (by rw [kvs_get, hg]; rfl) rfl rfl Tryz.underlying110 Tryz.underlying3 Tryz.zeroValue116 zin) rfl ?_
   refine ymv ?_
   refine yxt ?_
   refine yxt ?_
   refine ya (ac_alloc (vs := bytesV zsec) Tryz.zeroValue116 Tryz.zc) rfl ?_
   rintro v L' ⟨b7, rfl, rfl⟩
   refine ya0 (ac_storeAll rfl rfl (by first | exact bytesV_one _ | (simp [Value.oneCell']; done) | (simp only [List.forall_mem_cons, List.not_mem_nil, false_implies, implies_true, svVal_one, and_true, true_and, and_self]; first | done | simp [Value.oneCell'])) Tryz.sizeOf116 zrp (by first | rfl | assumption | (simp [*]; done) | (simp [*]; omega)) (by first | rfl | assumption | (simp [*]; done) | (simp [*]; omega))) ?_
   rintro v L' ⟨rfl, rfl⟩
   refine yas ?_
   refine ynil' (kthn (hK6 _ _ ?_))
   clear hK6
   refine cseq ?_; intro K7 hK7
   refine cseq ?_; intro K8 hK8
   refine creg ?_
   refine ymv ?_
   refine y (ev_not rfl) rfl ?_
   refine ynil' (kthn (hK8 _ _ ?_))
   clear hK8
   refine ccond1 rfl ?_
   refine creg ?_
   obtain ⟨s0, hs0⟩ := at_some hi0 hi1; have hl0 : s0.length = 144 := hD.sec s0 (List.mem_of_getElem? hs0); unfold devL
   refine ymv ?_
   refine yni ?_
   refine y (ev_fieldAddr 0 rfl Tryz.underlying112 rfl Tryz.sizeOf109) rfl ?_
   refine y (ev_load rfl Tryz.isAgg109 zin rfl) rfl ?_
   refine ymv ?_
   first
     | refine y (ev_ixAddr rfl rfl Tryz.underlying109 Tryz.sizeOf116 (by omega) (by omega)) rfl ?_
     | refine y (ev_ixV (by assumption) rfl rfl Tryz.underlying109 Tryz.sizeOf116 (by omega) (by omega)) rfl ?_
   refine y (ev_loadN (u := bytesV s0) rfl Tryz.isAgg116 Tryz.sizeOf116 zin (by rw [Nat.zero_add]; exact flat_get hD.sec hs0) (by simp [hl0])) rfl ?_
   refine ya0 (ac_storeAll rfl rfl (by first | exact bytesV_one _ | (simp [Value.oneCell']; done) | (simp only [List.forall_mem_cons, List.not_mem_nil, false_implies, implies_true, svVal_one, and_true, true_and, and_self]; first | done | simp [Value.oneCell'])) Tryz.sizeOf116 zrp (by first | rfl | assumption | (simp [*]; done) | (simp [*]; omega)) (by first | rfl | assumption | (simp [*]; done) | (simp [*]; omega))) ?_
   rintro v L' ⟨rfl, rfl⟩
   refine ynil' (kthn (hK7 _ _ ?_))
   clear hK7
   refine cseq ?_; intro K9 hK9
   refine creg ?_
   refine y (ev_slA rfl Tryz.underlying116 Tryz.sizeOf5) rfl ?_
   refine ycall (cloneB (bs := D.sec i) ?m227 ?rd227 ?len227) rfl Tryz.call96 ztk rfl ?_
   case m227 => exact hs.symm
   case rd227 => exact rdB_in zin (by simp [*]) (by (first | rw [sec_none hg hs0] | rw [sec_some hg]); exact List.take_of_length_le (by simp [*]))
   case len227 => decide
   rintro v L' ⟨s34, rfl, ok34, rfl⟩
   refine yas ?_
   refine yas ?_
   refine ynil' (kthn (hK9 _ _ ?_))
   clear hK9
   refine cret ?_
   first
     | (exfalso; omega; done)
     | exact kret2 Tryz.results79 rfl rfl _ (.inl ⟨by assumption, rfl, rfl⟩) zge
     | exact kret2 Tryz.results79 rfl rfl _ (.inr ⟨by assumption, s34, rfl, ok34, rfl⟩) zge
  ·skip
   first | refine y (ev_lookup2n (by rw [kvs_get, hg]; rfl) rfl rfl Tryz.underlying110 Tryz.underlying3 Tryz.zeroValue116 zin) rfl ?_ | refine y (ev_lookup2s (by rw [kvs_get, hg]; rfl) rfl rfl Tryz.underlying110 Tryz.underlying3 Tryz.zeroValue116 zin) rfl ?_
   refine ymv ?_
   refine yxt ?_
   refine yxt ?_
   refine ya (ac_alloc (vs := bytesV zsec) Tryz.zeroValue116 Tryz.zc) rfl ?_
   rintro v L' ⟨b7, rfl, rfl⟩
   refine ya0 (ac_storeAll rfl rfl (by first | exact bytesV_one _ | (simp [Value.oneCell']; done) | (simp only [List.forall_mem_cons, List.not_mem_nil, false_implies, implies_true, svVal_one, and_true, true_and, and_self]; first | done | simp [Value.oneCell'])) Tryz.sizeOf116 zrp (by first | rfl | assumption | (simp [*]; done) | (simp [*]; omega)) (by first | rfl | assumption | (simp [*]; done) | (simp [*]; omega))) ?_
   rintro v L' ⟨rfl, rfl⟩
   refine yas ?_
   refine ynil' (kthn (hK6 _ _ ?_))
   clear hK6
   refine cseq ?_; intro K10 hK10
   refine cseq ?_; intro K11 hK11
   refine creg ?_
   refine ymv ?_
   refine y (ev_not rfl) rfl ?_
   refine ynil' (kthn (hK11 _ _ ?_))
   clear hK11
   refine ccond0 rfl ?_
   refine cskip' (kthn (hK10 _ _ ?_))
   clear hK10
   refine cseq ?_; intro K12 hK12
   refine creg ?_
   refine y (ev_slA rfl Tryz.underlying116 Tryz.sizeOf5) rfl ?_
   refine ycall (cloneB (bs := D.sec i) ?m240 ?rd240 ?len240) rfl Tryz.call96 ztk rfl ?_
   case m240 => exact hs.symm
   case rd240 => exact rdB_in zin (by simp [*]) (by (first | rw [sec_none hg hs0] | rw [sec_some hg]); exact List.take_of_length_le (by simp [*]))
   case len240 => decide
   rintro v L' ⟨s34, rfl, ok34, rfl⟩
   refine yas ?_
   refine yas ?_
   refine ynil' (kthn (hK12 _ _ ?_))
   clear hK12
   refine cret ?_
   first
     | (exfalso; omega; done)
     | exact kret2 Tryz.results79 rfl rfl _ (.inl ⟨by assumption, rfl, rfl⟩) zge
     | exact kret2 Tryz.results79 rfl rfl _ (.inr ⟨by assumption, s34, rfl, ok34, rfl⟩) zge
end W
end Go.Proofs
