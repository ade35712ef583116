/- A part of the proof. -/
import Derived.Test.YtlignadmmopdmaaGreatUn
import Derived.Test.YtlignadmmopdmaaGreatT15
import Derived.Test.YtlignadmmopdmaaGreatNodP
import Derived.Test.YtlignadmmopdmaaGreatGK
set_option linter.unusedVariables false
set_option linter.unusedSimpArgs false
set_option linter.constructorNameAsVariable false
namespace Go.Proofs
open _root_.Go.Proofs.Tryz
open Go Go.Sl
namespace W
set_option maxHeartbeats 4000000
theorem x11Within [Env]{R:List Seg}{n lo hi:Int}:Con Tryz.prog 39 [i64 n,i64 lo,i64 hi] [] R (Is (.bool (within3 n lo hi)) []):=by
 refine con_enter func39 ntmps39 rfl rfl ?_;refine gc 9 ?_;refine ysp 10 rfl (fun h6=>?_) (fun h6=>?_)
 ·refine gy 8 ?_;refine kretv results39 rfl (L1:=R) zge ?_;exact⟨_,⟨by(simp[within3];omega),rfl⟩,by rfl⟩
 refine gy 8 ?_;refine kretv results39 rfl (L1:=R) zge ?_;exact⟨_,⟨by(simp[within3];omega),rfl⟩,by rfl⟩
theorem x11May [Env]{R:List Seg}{m:MsgM}:Con Tryz.prog 40 [.agg m.cells.toArray] [] R (Is (.bool m.may) []):=by
 refine con_enter func40 ntmps40 rfl rfl ?_;refine gc 1 ?_;refine ya (ac_box (vs:=m.cells) rfl rfl) rfl ?_;rintro v L' ⟨b1,rfl,rfl⟩;refine gy 3 ?_;refine cseqT ?_;intro K2 hK2;refine gc 4 ?_
 have hJ1: ∀x:Nat,((x≤4∧nmayT m x)∧(x=4))→Sk 79 K2 ([(3,i64 x),(1,ptr b1)]) ([sc b1 m.cells 34]++R):=by
  rintro k ⟨hI1,hX1⟩;refine hK2 _ _ ?_;obtain⟨hk,hok⟩:=hI1;subst hX1;have hrest:=nmay_rest hok;refine gc 5 ?_;refine ysp 17 rfl (fun h21=>?_) (fun h21=>?_)
  ·refine gy 5 ?_;refine ysp 22 rfl (fun h27=>?_) (fun h27=>?_)
   ·refine gy 2 ?_;refine ygo ?_;refine yci (x11Within) call39 ?_;refine gy 2 ?_;refine ysp 27 rfl (fun h33=>?_) (fun h33=>?_)
    ·refine gy 2 ?_;refine ygo ?_;refine yci (x11Within) call39 ?_;refine gy 2 ?_;refine ysp 32 rfl (fun h39=>?_) (fun h39=>?_)
     ·refine gy 2 ?_;refine ygo ?_;refine yci (x11Within) call39 ?_;refine gy 2 ?_;refine ysp 37 rfl (fun h45=>?_) (fun h45=>?_)
      ·refine gy 5 ?_;refine ysp 42 rfl (fun h51=>?_) (fun h51=>?_)
       ·refine gy 5 ?_;refine ysp 47 rfl (fun h57=>?_) (fun h57=>?_)
        ·refine gy 5 ?_;refine ysp 52 rfl (fun h63=>?_) (fun h63=>?_)
         ·refine gy 5 ?_;refine ysp 57 rfl (fun h69=>?_) (fun h69=>?_)
          ·refine gy 5 ?_;refine ysp 62 rfl (fun h75=>?_) (fun h75=>?_)
           ·refine gy 5 ?_;refine ysp 67 rfl (fun h81=>?_) (fun h81=>?_)
            ·refine gy 2 ?_;refine ygo ?_;refine y (ev_lenStr rfl underlying9) rfl ?_;refine gy 3 ?_;refine ysp 73 rfl (fun h88=>?_) (fun h88=>?_)
             ·refine gy 2 ?_;refine ygo ?_;refine y (ev_lenStr rfl underlying9) rfl ?_;refine gy 6 ?_;refine kretv results40 rfl (L1:=R) zge ?_;exact⟨_,⟨by(rw[hrest];(try simp only[within3,Bool.and_eq_true,Bool.and_eq_false_iff,decide_eq_true_eq,decide_eq_false_iff_not]at*);congr 1;first|(symm;rw[decide_eq_false_iff_not];omega)|(rw[decide_eq_decide];omega)),rfl⟩,by rfl⟩
             refine gy 9 ?_;refine kretv results40 rfl (L1:=R) zge ?_;exact⟨_,⟨by(rw[hrest];(try simp only[within3,Bool.and_eq_true,Bool.and_eq_false_iff,decide_eq_true_eq,decide_eq_false_iff_not]at*);congr 1;first|(symm;rw[decide_eq_false_iff_not];omega)|(rw[decide_eq_decide];omega)),rfl⟩,by rfl⟩
            refine gy 15 ?_;refine kretv results40 rfl (L1:=R) zge ?_;exact⟨_,⟨by(rw[hrest];(try simp only[within3,Bool.and_eq_true,Bool.and_eq_false_iff,decide_eq_true_eq,decide_eq_false_iff_not]at*);congr 1;first|(symm;rw[decide_eq_false_iff_not];omega)|(rw[decide_eq_decide];omega)),rfl⟩,by rfl⟩
           refine gy 20 ?_;refine kretv results40 rfl (L1:=R) zge ?_;exact⟨_,⟨by(rw[hrest];(try simp only[within3,Bool.and_eq_true,Bool.and_eq_false_iff,decide_eq_true_eq,decide_eq_false_iff_not]at*);congr 1;first|(symm;rw[decide_eq_false_iff_not];omega)|(rw[decide_eq_decide];omega)),rfl⟩,by rfl⟩
          refine gy 25 ?_;refine kretv results40 rfl (L1:=R) zge ?_;exact⟨_,⟨by(rw[hrest];(try simp only[within3,Bool.and_eq_true,Bool.and_eq_false_iff,decide_eq_true_eq,decide_eq_false_iff_not]at*);congr 1;first|(symm;rw[decide_eq_false_iff_not];omega)|(rw[decide_eq_decide];omega)),rfl⟩,by rfl⟩
         refine gy 30 ?_;refine kretv results40 rfl (L1:=R) zge ?_;exact⟨_,⟨by(rw[hrest];(try simp only[within3,Bool.and_eq_true,Bool.and_eq_false_iff,decide_eq_true_eq,decide_eq_false_iff_not]at*);congr 1;first|(symm;rw[decide_eq_false_iff_not];omega)|(rw[decide_eq_decide];omega)),rfl⟩,by rfl⟩
        refine gy 35 ?_;refine kretv results40 rfl (L1:=R) zge ?_;exact⟨_,⟨by(rw[hrest];(try simp only[within3,Bool.and_eq_true,Bool.and_eq_false_iff,decide_eq_true_eq,decide_eq_false_iff_not]at*);congr 1;first|(symm;rw[decide_eq_false_iff_not];omega)|(rw[decide_eq_decide];omega)),rfl⟩,by rfl⟩
       refine gy 40 ?_;refine kretv results40 rfl (L1:=R) zge ?_;exact⟨_,⟨by(rw[hrest];(try simp only[within3,Bool.and_eq_true,Bool.and_eq_false_iff,decide_eq_true_eq,decide_eq_false_iff_not]at*);congr 1;first|(symm;rw[decide_eq_false_iff_not];omega)|(rw[decide_eq_decide];omega)),rfl⟩,by rfl⟩
      refine gy 45 ?_;refine kretv results40 rfl (L1:=R) zge ?_;exact⟨_,⟨by(rw[hrest];(try simp only[within3,Bool.and_eq_true,Bool.and_eq_false_iff,decide_eq_true_eq,decide_eq_false_iff_not]at*);congr 1;first|(symm;rw[decide_eq_false_iff_not];omega)|(rw[decide_eq_decide];omega)),rfl⟩,by rfl⟩
     refine gy 50 ?_;refine kretv results40 rfl (L1:=R) zge ?_;exact⟨_,⟨by(rw[hrest];(try simp only[within3,Bool.and_eq_true,Bool.and_eq_false_iff,decide_eq_true_eq,decide_eq_false_iff_not]at*);congr 1;first|(symm;rw[decide_eq_false_iff_not];omega)|(rw[decide_eq_decide];omega)),rfl⟩,by rfl⟩
    refine gy 55 ?_;refine kretv results40 rfl (L1:=R) zge ?_;exact⟨_,⟨by(rw[hrest];(try simp only[within3,Bool.and_eq_true,Bool.and_eq_false_iff,decide_eq_true_eq,decide_eq_false_iff_not]at*);congr 1;first|(symm;rw[decide_eq_false_iff_not];omega)|(rw[decide_eq_decide];omega)),rfl⟩,by rfl⟩
   refine gy 60 ?_;refine kretv results40 rfl (L1:=R) zge ?_;exact⟨_,⟨by(rw[hrest];(try simp only[within3,Bool.and_eq_true,Bool.and_eq_false_iff,decide_eq_true_eq,decide_eq_false_iff_not]at*);congr 1;first|(symm;rw[decide_eq_false_iff_not];omega)|(rw[decide_eq_decide];omega)),rfl⟩,by rfl⟩
  refine gy 65 ?_;refine kretv results40 rfl (L1:=R) zge ?_;exact⟨_,⟨by(rw[hrest];(try simp only[within3,Bool.and_eq_true,Bool.and_eq_false_iff,decide_eq_true_eq,decide_eq_false_iff_not]at*);congr 1;first|(symm;rw[decide_eq_false_iff_not];omega)|(rw[decide_eq_decide];omega)),rfl⟩,by rfl⟩
 clear hK2;refine gc 1 ?_;refine cloopT (A:=Nat) (fun x=>[(3,i64 x),(1,ptr b1)]) (fun x=>[sc b1 m.cells 34]++R) (fun x=>x≤4∧nmayT m x) (fun x=>4-x) (0) ?_ zsub zge ?_
 · exact⟨Nat.zero_le _,nmayT_zero m⟩
 rintro k hI1 KL1 hL1;have hI1o:=hI1;obtain⟨hk,hok⟩:=hI1;refine gc 6 ?_;refine cc rfl (fun h253=>?_) (fun h253=>?_)
 ·refine gc 7 ?_;refine y (ev_ixAddrA rfl rfl underlying32 sizeOf2 (by omega) (by omega)) rfl ?_;refine y (ev_load rfl isAgg2 zin (nmsg_tn m (by omega))) rfl ?_;refine yci (x11Within) call39 ?_;refine gy 3 ?_;refine cc rfl (fun h260=>?_) (fun h260=>?_)
  ·refine gc 1 ?_;have hno:m.may=false:=nmayT_no (k:=k) (by omega) (nw3f (by assumption));refine gy 9 ?_;refine kretv results40 rfl (L1:=R) zge ?_;exact⟨_,⟨by rw[hno],rfl⟩,by rfl⟩
  refine gc 4 ?_;have hok2:nmayT m (k+1):=nmayT_succ hok (within3_iff.1 (by assumption));refine gy 2 ?_;rw[show IntKind.i64.wrap ((k:Int)+1)=((k+1:Nat):Int)by rw[wr (by omega) (by omega)];rfl];refine gy 3 ?_;exact hL1 (k+1) (⟨by omega,hok2⟩) (by omega) _ _ zsub zge
 refine gc 5 ?_;exact ksub zsub zge (hJ1 k ⟨hI1o,by omega⟩)
theorem x11Encode [Env]{R:List Seg}{m:MsgM}:Con Tryz.prog 26 [.agg m.cells.toArray] [] R (Is (.tuple #[str (encMsg m),i64 (if m.may=true then 0 else 4)]) []):=by
 refine con_enter func26 ntmps26 rfl rfl ?_;refine gc 1 ?_;refine ya (ac_box (vs:=m.cells) rfl rfl) rfl ?_;rintro v L' ⟨b1,rfl,rfl⟩;refine gy 6 ?_;refine y (ev_loadAll rfl isAgg34 sizeOf34 zin (by rfl)) rfl ?_;refine yci (x11May (m:=m)) call40 ?_;refine gy 3 ?_;refine cc rfl (fun h271=>?_) (fun h271=>?_)
 ·have hno:m.may=false:=by simpa using h271
  refine gc 7 ?_;refine kretv2 results26 rfl rfl (L1:=R) zge ?_;exact⟨_,⟨by(rw[encMsg_no hno,hno];rfl),rfl⟩,by rfl⟩
 have hmay:m.may=true:=by simpa using h271
 have henc:=encMsg_may hmay;refine gc 16 ?_;refine y (ev_ixAddrA rfl rfl underlying32 sizeOf2 (by omega) (by omega)) rfl ?_;refine gy 2 ?_;refine y (ev_ixAddrA rfl rfl underlying32 sizeOf2 (by omega) (by omega)) rfl ?_;refine gy 2 ?_;refine y (ev_ixAddrA rfl rfl underlying32 sizeOf2 (by omega) (by omega)) rfl ?_;refine gy 2 ?_;refine y (ev_ixAddrA rfl rfl underlying32 sizeOf2 (by omega) (by omega)) rfl ?_;refine gy 1 ?_;refine ya (ac_bsliceR (vs:=[i64 m.epoch,i64 m.seq,i64 m.n,i64 m.block,i64 m.client,i64 m.e,i64 m.t0,i64 m.t1,i64 m.t2,i64 m.t3]) rfl underlying57 sizeOf2 zeroValue2 rfl rfl rfl rfl ⟨⟨_,_,rfl,(by rfl),(by decide)⟩,⟨⟨_,_,rfl,(by rfl),(by decide)⟩,⟨⟨_,_,rfl,(by rfl),(by decide)⟩,⟨⟨_,_,rfl,(by rfl),(by decide)⟩,⟨⟨_,_,rfl,(by rfl),(by decide)⟩,⟨⟨_,_,rfl,(by rfl),(by decide)⟩,⟨⟨_,_,rfl,(by rfl),(by decide)⟩,⟨⟨_,_,rfl,(by rfl),(by decide)⟩,⟨⟨_,_,rfl,(by rfl),(by decide)⟩,⟨⟨_,_,rfl,(by rfl),(by decide)⟩,trivial⟩⟩⟩⟩⟩⟩⟩⟩⟩⟩ (by kernel_rfl)) rfl ?_;rintro v L' ⟨b34,rfl,rfl⟩;refine gy 11 ?_;refine ya (ac_bsliceR rfl underlying86 sizeOf9 zeroValue9 rfl rfl rfl rfl ⟨⟨_,_,rfl,(by rfl),(by decide)⟩,⟨⟨_,_,rfl,(by rfl),(by decide)⟩,trivial⟩⟩ (by dsimp[fillL,splice,vcells,reps]<;>rfl)) rfl ?_;rintro v L' ⟨b43,rfl,rfl⟩;refine y (ev_be rfl) rfl ?_;refine ycall (rEncode (r:=msgR m) ?hn309 ?ht309 ?sx309) rfl call55 ztk rfl ?_
 case hn309=>exact rdV_in zin rfl rfl
 case ht309=>exact rdV_in zin rfl rfl
 case sx309=>exact(msgR_may hmay).num
 rintro v L' ⟨s45,rfl,ok45,rfl⟩;rw[henc]at ok45 ⊢;dsimp only at ok45 ⊢;generalize encMsg m=rb at*;refine gy 9 ?_;refine y (ev_toStrB (rdY_sv (L:=[svSeg s45 5 (bytesV rb)]) .z ok45).rd.bytes zge rfl underlying55 underlying9 underlying5) rfl ?_;refine gy 6 ?_;refine kretv2 results26 rfl rfl (L1:=R) zge ?_;exact⟨_,⟨by rw[if_pos hmay],rfl⟩,by rfl⟩
end W
end Go.Proofs
namespace Go.Sl
open Go.ChangeShapes Go.WideShapes Go.ChangeAt Go.RowKit Go.Deep
section
variable {H : Type} {enc : TypeId × Value → H} {P : Program} {W : World} {base : Nat} {spare : Nat → Bool} {held : Bool}
end
end Go.Sl
namespace Go.Sl
theorem encMsg_len(m:MsgM):(encMsg m).length≤1000:=by
 by_cases h:m.may=true
 · unfold encMsg;rw[if_pos h];exact recB_len (msgR_may h)
 · rw[encMsg_no (by simpa using h)];exact Nat.zero_le _
theorem nodFormat_ok{D:Dev}(hD:D.ok):(nodFormat D).2.ok:=by
 unfold nodFormat;split
 ·exact hD
 ·rename_i h
  exact(Go.Sl.put_ok (openC_ok (Classical.not_not.1 h)).1 hD _).2
end Go.Sl
namespace Go.Proofs
open Go Go.Sl
namespace W
set_option maxHeartbeats 4000000
end W
end Go.Proofs