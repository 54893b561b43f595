import Derived.Test.YtfoopmojjjpapaaGreatX21
import Derived.Test.YtfoopmojjjpapaaGreatX24
set_option linter.all false
set_option maxHeartbeats 0
set_option maxRecDepth 20000
open Nat renaming zero_le→aW,sub_self→kW
open List renaming replicate→aO,replicate_zero→IY,length_replicate→nt
open Go Go.Am Go.Proofs
namespace T
def aeg(m:ah)(hm:MB m):Holds Tryz.prog 12 [.agg (aq m)] [] (.tree 1 (rowsOf ay (cg m))) []:=by
 have h1:=F8 m hm;have tz:=hm.cls;generalize an:cg m=res;unfold cg at an;refine Holds.aN 38 0 [.tmp 2] Tryz.func12 ?_;by_cases hv:iB m=0;rotate_left
 ·rw[if_neg hv]at an;rw[<- an];generalize iB m=e at *;((try revert hK K);(repeat'(first|refine Vd X0 h1 ?_|(refine V2 X0 ?_ ?_<;>try with_reducible intro hb)|(refine Xi ?_ ?_<;>try intro ht)|refine VD ?_ ?_|exact Xx|fail))<;>try with_reducible intro K hK)
  all_goals try(exfalso;omega)
  exact u9 [] true IP trivial IP IP bT.nil
 rw[if_pos hv]at an;rw[hv]at h1;have bG:=jD.1 hv;have mY:=bG.cls;((try revert hK K);(repeat'(first|refine Vd @bne_self_eq_false.{0} h1 ?_|(refine V2 @bne_self_eq_false.{0} ?_ ?_<;>try with_reducible intro hb)|(refine Xi ?_ ?_<;>try intro ht)|refine VD ?_ ?_|exact Xx|fail))<;>try with_reducible intro K hK)
 refine bb (λz:Nat×List (List Bool)=>(⟨ao [(1,.ptr 0 0 0),(3,.ref 1 1 0 z.2.length),(4,Oi z.1)],[.var (aq m),.arr 1 (rowsOf ay z.2)]⟩:St))
  (λz=>z.1<=m.cls.length/\z.2=(cu m).take z.1) (λz=>m.cls.length-z.1) (0,[]) ⟨aW _,rfl⟩ ?_ ?_
 ·refine aF.trans (aF.nil 3 1 (by simp only[Kc,simprocAttr]) IP) ?_;exact Xv X0
 rintro⟨i,xs⟩⟨hi,cO⟩Ql ak au;dsimp only at hi cO ⊢;have j5:(cu m).length=m.cls.length:=by simp[cu]
 by_cases ar:i<m.cls.length
 ·have uJ:xs.length=i:=by rw[cO,List.length_take];omega
  have eM:(cu m).take (i+1)=xs++[aO (m.cls.getD i default).length true]:=by
   rw[ei AT,<- cO];unfold cu;rw[gR _ _ _ ar]
  have qD:=bG.opt _ (aE (d:=default) ar);generalize bc:m.cls.getD i default=c at *;((try revert hK K);(repeat'(first|refine Va (X2 @bc @aV.eq_1) ?_|(refine V2 (X2 @bc @aV.eq_1) ?_ ?_<;>try with_reducible intro hb)|(refine Xi ?_ ?_<;>try intro ht)|refine VD ?_ ?_|exact Xx|fail))<;>try with_reducible intro K hK)
  refine bb (λk:Nat=>(⟨ao [(1,.ptr 0 0 0),(3,.ref 1 1 0 xs.length),(4,Oi i),(5,.ref 2 1 0 c.length),(6,Oi k)],[.var (aq m),.arr 1 (rowsOf ay xs),.arr 1 (a8 (aO k true++aO (c.length-k) false))]⟩:St))
   (λk=>k<=c.length) (λk=>c.length-k) 0 (aW _) (by simp only[Nat.sub_zero,IY,List.nil_append];exact Xv X0) ?_
  rintro k hk dL bO bQ;have cF:(aO k true++aO (c.length-k) false).length=c.length:=N0;by_cases bf:k<c.length
  ·have gQ:(aO k true++aO (c.length-k) false).set k true=aO (k+1) true++aO (c.length-(k+1)) false:=by
    rw[List.set_append_right _ _ IM,nt,kW,show c.length-k=(c.length-(k+1))+1 by omega,List.replicate_succ,List.set_cons_zero,List.replicate_succ',List.append_assoc];rfl
   ((try revert hK K);(repeat'(first|refine Va (X2 @cF @wy) ?_|(refine V2 (X2 @cF @wy) ?_ ?_<;>try with_reducible intro hb)|(refine Xi ?_ ?_<;>try intro ht)|refine VD ?_ ?_|exact Xx|fail))<;>try with_reducible intro K hK)
   rw[gQ];exact bO _ (k+1) AT AT (Xv X0)
  ·obtain rfl:k=c.length:=AT;((try revert hK K);(repeat'(first|refine Va X0 ?_|(refine V2 X0 ?_ ?_<;>try with_reducible intro hb)|(refine Xi ?_ ?_<;>try intro ht)|refine VD ?_ ?_|exact Xx|fail))<;>try with_reducible intro K hK)
   refine bQ _ _ rfl ?_;clear bO bQ dL;repeat(first|refine Xu ?_)
   rw[kW,IY,List.append_nil]at *;refine cd (σ':=⟨ao [(1,.ptr 0 0 0),(3,.ref 1 1 0 xs.length),(4,Oi i),(5,.tree 1 (a8 (aO c.length true)))],[.var (aq m),.arr 1 (rowsOf ay xs)]⟩) (Xs true [0,1] @nt.{0}) ?_;((try revert hK K);(repeat'(first|refine Va @Hy ?_|(refine V2 @Hy ?_ ?_<;>try with_reducible intro hb)|(refine Xi ?_ ?_<;>try intro ht)|refine VD ?_ ?_|exact Xx|fail))<;>try with_reducible intro K hK)
   refine ak _ (i+1,xs++[aO c.length true]) ⟨NZ,eM.symm⟩ NZ ?_;exact Xs false [0,3] X0
 ·rw[List.take_of_length_le AT]at cO;((try revert hK K);(repeat'(first|refine Va X0 ?_|(refine V2 X0 ?_ ?_<;>try with_reducible intro hb)|(refine Xi ?_ ?_<;>try intro ht)|refine VD ?_ ?_|exact Xx|fail))<;>try with_reducible intro K hK)
  refine au _ _ rfl ?_;clear ak au Ql;repeat(first|refine Xu ?_)
  ((try revert hK K);(repeat'(first|refine Vb X0 ?_|(refine V2 X0 ?_ ?_<;>try with_reducible intro hb)|(refine Xi ?_ ?_<;>try intro ht)|refine VD ?_ ?_|exact Xx|fail))<;>try with_reducible intro K hK)
  rw[cO,an];exact Xw true [] X0
def o0:cP:=⟨0,0,0,0,0,[]⟩
def m1:ah:=⟨[[o0,o0],[o0,o0]],[⟨0,1,0,[0,2,4,3]⟩],[],1⟩
end T

