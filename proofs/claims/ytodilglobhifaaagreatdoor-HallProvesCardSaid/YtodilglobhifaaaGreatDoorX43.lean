import Derived.Test.YtodilglobhifaaaGreatDoorX42
import Derived.Test.YtodilglobhifaaaGreatDoorX37
set_option linter.all false
set_option maxHeartbeats 0
set_option maxRecDepth 20000
open Nat renaming zero_le→aS,sub_self→lU
open List renaming replicate→aD,replicate_zero→y8,length_replicate→w6
open Go Go.Am Go.Proofs
namespace T
def aaw(m:ah)(hm:MB m):ak Tryz.prog 11 [.agg (aB m)] [] (.tree 1 (rowsOf bl (iv m))) []:=by
 have h1:=VX m hm;have pY:=hm.cls;generalize aq:iv m=res;unfold iv at aq;refine ak.aL 38 0 [.tmp 2] Tryz.func11 ?_;by_cases hv:mI m=0;rotate_left
 ·rw[if_neg hv]at aq;rw[<- aq];generalize mI m=e at *;((try revert hK K);(repeat'(first|refine Vd X0 h1 ?_|(refine V2 X0 ?_ ?_<;>try with_reducible intro hb)|(refine Xi ?_ ?_<;>try intro ht)|refine VD ?_ ?_|exact Xx|fail))<;>try with_reducible intro K hK)
  all_goals try(exfalso;omega)
  exact rp [] true aac trivial aac aac bt.nil
 rw[if_pos hv]at aq;rw[hv]at h1;have kA:=v5.1 hv;have wv:=kA.cls;((try revert hK K);(repeat'(first|refine Vd @bne_self_eq_false.{0} h1 ?_|(refine V2 @bne_self_eq_false.{0} ?_ ?_<;>try with_reducible intro hb)|(refine Xi ?_ ?_<;>try intro ht)|refine VD ?_ ?_|exact Xx|fail))<;>try with_reducible intro K hK)
 refine aW (λz:Nat×List (List Bool)=>(⟨ao [(1,.ptr 0 0 0),(3,.ref 1 1 0 z.2.length),(4,aam z.1)],[.var (aB m),.arr 1 (rowsOf bl z.2)]⟩:St))
  (λz=>z.1<=m.cls.length/\z.2=(lJ m).take z.1) (λz=>m.cls.length-z.1) (0,[]) ⟨aS _,rfl⟩ ?_ ?_
 ·refine aC.trans (aC.nil 3 1 (by simp only[Kc,simprocAttr]) aac) ?_;exact Xv X0
 rintro⟨i,xs⟩⟨hi,ef⟩Ql an aw;dsimp only at hi ef ⊢;have fS:(lJ m).length=m.cls.length:=by simp[lJ]
 by_cases hi':i<m.cls.length
 ·have qG:xs.length=i:=by rw[ef,List.length_take];omega
  have lI:(lJ m).take (i+1)=xs++[aD (m.cls.getD i default).length true]:=by
   rw[jb Bv,<- ef];unfold lJ;rw[nP _ _ _ hi']
  have Fp:=kA.opt _ (aF (d:=default) hi');generalize bC:m.cls.getD i default=c at *;((try revert hK K);(repeat'(first|refine Va (X2 @bC @bw.eq_1) ?_|(refine V2 (X2 @bC @bw.eq_1) ?_ ?_<;>try with_reducible intro hb)|(refine Xi ?_ ?_<;>try intro ht)|refine VD ?_ ?_|exact Xx|fail))<;>try with_reducible intro K hK)
  refine aW (λk:Nat=>(⟨ao [(1,.ptr 0 0 0),(3,.ref 1 1 0 xs.length),(4,aam i),(5,.ref 2 1 0 c.length),(6,aam k)],[.var (aB m),.arr 1 (rowsOf bl xs),.arr 1 (b8 (aD k true++aD (c.length-k) false))]⟩:St))
   (λk=>k<=c.length) (λk=>c.length-k) 0 (aS _) (by simp only[Nat.sub_zero,y8,List.nil_append];exact Xv X0) ?_
  rintro k hk dh bc bz;have dK:(aD k true++aD (c.length-k) false).length=c.length:=aak;by_cases aY:k<c.length
  ·have jZ:(aD k true++aD (c.length-k) false).set k true=aD (k+1) true++aD (c.length-(k+1)) false:=by
    rw[List.set_append_right _ _ Jy,w6,lU,show c.length-k=(c.length-(k+1))+1 by omega,List.replicate_succ,List.set_cons_zero,List.replicate_succ',List.append_assoc];rfl
   ((try revert hK K);(repeat'(first|refine Va (X2 @dK @zp) ?_|(refine V2 (X2 @dK @zp) ?_ ?_<;>try with_reducible intro hb)|(refine Xi ?_ ?_<;>try intro ht)|refine VD ?_ ?_|exact Xx|fail))<;>try with_reducible intro K hK)
   rw[jZ];exact bc _ (k+1) Bv Bv (Xv X0)
  ·obtain rfl:k=c.length:=Bv;((try revert hK K);(repeat'(first|refine Va X0 ?_|(refine V2 X0 ?_ ?_<;>try with_reducible intro hb)|(refine Xi ?_ ?_<;>try intro ht)|refine VD ?_ ?_|exact Xx|fail))<;>try with_reducible intro K hK)
   refine bz _ _ rfl ?_;clear bc bz dh;repeat(first|refine Xu ?_)
   rw[lU,y8,List.append_nil]at *;refine cU (σ':=⟨ao [(1,.ptr 0 0 0),(3,.ref 1 1 0 xs.length),(4,aam i),(5,.tree 1 (b8 (aD c.length true)))],[.var (aB m),.arr 1 (rowsOf bl xs)]⟩) (Xs true [0,1] @w6.{0}) ?_;((try revert hK K);(repeat'(first|refine Va @HV ?_|(refine V2 @HV ?_ ?_<;>try with_reducible intro hb)|(refine Xi ?_ ?_<;>try intro ht)|refine VD ?_ ?_|exact Xx|fail))<;>try with_reducible intro K hK)
   refine an _ (i+1,xs++[aD c.length true]) ⟨aad,lI.symm⟩ aad ?_;exact Xs false [0,3] X0
 ·rw[List.take_of_length_le Bv]at ef;((try revert hK K);(repeat'(first|refine Va X0 ?_|(refine V2 X0 ?_ ?_<;>try with_reducible intro hb)|(refine Xi ?_ ?_<;>try intro ht)|refine VD ?_ ?_|exact Xx|fail))<;>try with_reducible intro K hK)
  refine aw _ _ rfl ?_;clear an aw Ql;repeat(first|refine Xu ?_)
  ((try revert hK K);(repeat'(first|refine Vb X0 ?_|(refine V2 X0 ?_ ?_<;>try with_reducible intro hb)|(refine Xi ?_ ?_<;>try intro ht)|refine VD ?_ ?_|exact Xx|fail))<;>try with_reducible intro K hK)
  rw[ef,aq];exact Xw true [] X0
def o0:bF:=⟨0,0,0,0,0,[]⟩
def m1:ah:=⟨[[o0,o0],[o0,o0]],[⟨0,1,0,[0,2,4,3]⟩],[],1⟩
end T

