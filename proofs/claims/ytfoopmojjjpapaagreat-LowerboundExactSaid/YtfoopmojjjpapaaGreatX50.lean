import Derived.Test.YtfoopmojjjpapaaGreatX48
import Derived.Test.YtfoopmojjjpapaaGreatX49
import Derived.Test.YtfoopmojjjpapaaGreatX39
set_option linter.all false
set_option maxHeartbeats 0
set_option maxRecDepth 20000
open Nat renaming zero_le→aW
open List renaming length_set→bw,replicate→aO
open Go Go.Am Go.Proofs
namespace T
def ints_set(P:List Int)(k:Nat)(v:Int):(ints P).set k [Oi v]=ints (P.set k v):=by unfold ints;rw[List.map_set]
def aei(m:ah)(left:List (List Bool))(bG:VM m)(P:List Int)(hP:P.length=m.cls.length):
  Holds Tryz.prog 50 [.agg (aq m),.tree 1 (rowsOf ay left),.ref 0 1 0 m.cls.length,Oi m.cls.length] [.arr 1 (ints P)] (Oi (b6 m (wO m P) []).1) [.arr 1 (ints P)]:=by
 have hA:=aej m bG;have mY:=bG.cls;have j5:(cu m).length=m.cls.length:=by simp[cu]
 have j7:bM (bC 2 []) (.arr 1 (jQ 1 (cu m)))=.arr 1 (jQ 3 (cu m)):=by
  rw[bM,aek (bC 2 []) (cu m) 3 1 (λj hj=>by unfold bC;simp;omega)]
 have hv:=ael m (wO m P) [] bG.mb (aem bG Dk) IP;have qn:=Holds.Kr (pre:=[.agg (aq m),.tree 1 (rowsOf ay (wO m P))]) (post:=[]) hv;have hvS:wO m P=iM (cu m) P m.cls.length:=rfl;rw[hvS]at qn ⊢;generalize (b6 m (iM (cu m) P m.cls.length) []).1=va at *;generalize (b6 m (iM (cu m) P m.cls.length) []).2=ve at *;clear hv;have hrS:∀ i,i<m.cls.length->((cu m).getD i default).length=(m.cls.getD i default).length:=λi hi=>by
  unfold cu;rw[gR _ _ _ hi,List.length_replicate]
 refine Holds.aN 86 1 [.tmp 8] Tryz.func50 ?_;repeat'(first|((fail_if_success (first|refine eO 2 ?_|refine eP 2 ?_));refine Xr X0 ?_;intro K hK)|refine Xo X0 ?_|(refine hK _ ?_;clear hK K)|(refine Xg X0 ?_ ?_<;>try intro hb)|(refine Xi ?_ ?_<;>try intro ht)|refine XY ?_|refine Xd ?_ ?_|exact Xx|fail)
 refine rI ?_;intro K hK;simp(disch:=omega)only[Ac,↓Pc,simprocAttr];refine jc [] hA IP trivial ⟨.pure rfl,trivial⟩ ?_;simp(disch:=omega)only[Ac,↓Pc,simprocAttr,j7,aep];refine hK _ ?_;clear hK K;generalize hS:cu m=S at *;((try revert hK K);(repeat'(first|refine Va X0 ?_|(refine V2 X0 ?_ ?_<;>try with_reducible intro hb)|(refine Xi ?_ ?_<;>try intro ht)|refine VD ?_ ?_|exact Xx|fail))<;>try with_reducible intro K hK)
 refine bb (λi:Nat=>(⟨ao [(2,.ref 0 1 0 m.cls.length),(4,.ptr 1 0 0),(9,.ref 2 1 0 m.cls.length),(10,Oi i)],s6 (.arr 1 (ints P)) (.var (aq m)) (jQ 3 S) (iM S P i)⟩:St))
  (λi=>i<=m.cls.length) (λi=>m.cls.length-i) 0 (aW _) (by rw[show iM S P 0=S from rfl];unfold s6 nO;exact Xv X0) ?_
 rintro i hi Ql ak au;have Rl:=Dl S P i;have Dm:=congrArg List.length Rl;simp only[List.length_map]at Dm;by_cases ar:i<m.cls.length
 ·have jE:=Dp 3 S i AT;have bn:=hrS i ar;have qD:=bG.opt _ (aE (l:=m.cls) (i:=i) (d:=default) ar);have cF:((iM S P i).getD i default).length=(S.getD i default).length:=by
   rw[F9 S P i i AT,if_neg AT]
  have qj:iM S P (i+1)=(iM S P i).set i (qE ((iM S P i).getD i default) (P.getD i 0) ((iM S P i).getD i default).length):=rfl;rw[cF]at qj;rw[bn]at jE cF qj;generalize iM S P i=Y at *;generalize vq:(m.cls.getD i default).length=w at *;((try revert hK K);(repeat'(first|refine Va (X3 @s8 @zQ @jE) ?_|(refine V2 (X3 @s8 @zQ @jE) ?_ ?_<;>try with_reducible intro hb)|(refine Xi ?_ ?_<;>try intro ht)|refine VD ?_ ?_|exact Xx|fail))<;>try with_reducible intro K hK)
  refine bb (λk:Nat=>(⟨ao [(2,.ref 0 1 0 m.cls.length),(4,.ptr 1 0 0),(9,.ref 2 1 0 m.cls.length),(10,Oi i),(11,Oi k)],s6 (.arr 1 (ints P)) (.var (aq m)) (jQ 3 S) (Y.set i (qE (Y.getD i default) (P.getD i 0) k))⟩:St))
   (λk=>k<=w) (λk=>w-k) 0 (aW _) (by rw[show qE (Y.getD i default) (P.getD i 0) 0=Y.getD i default from rfl,yi];exact Xv X0) ?_
  rintro k hk dL bO bQ;have Rm:=Ga (Y.getD i default) (P.getD i 0) k;have aeq:qE (Y.getD i default) (P.getD i 0) (k+1)=(qE (Y.getD i default) (P.getD i 0) k).set k ((k:Int)==P.getD i 0):=rfl;have aer:k=w->Y.set i (qE (Y.getD i default) (P.getD i 0) k)=iM S P (i+1):=λe=>by rw[qj,e]
  generalize qE (Y.getD i default) (P.getD i 0) k=r at *;have f2:=Rn (.arr 1 (ints P)) (.var (aq m)) (jQ 3 S) (Y:=Y.set i r) (i:=i) (by rw[bw];omega);rw[rJ _ _ _ AT]at f2;have f3:=λr2=>aes (.arr 1 (ints P)) (.var (aq m)) (jQ 3 S) (Y.set i r) i r2;simp only[List.set_set]at f3;unfold aq at f2 f3;by_cases bf:k<w
  ·((try revert hK K);(repeat'(first|refine Va (X5 @zQ @s8 @jE @f2 (X4 @f3 @wy @Rm @cF)) ?_|(refine V2 (X5 @zQ @s8 @jE @f2 (X4 @f3 @wy @Rm @cF)) ?_ ?_<;>try with_reducible intro hb)|(refine Xi ?_ ?_<;>try intro ht)|refine VD ?_ ?_|exact Xx|fail))<;>try with_reducible intro K hK)
   rw[<- aeq];exact bO _ (k+1) AT AT (Xv X0)
  ·obtain rfl:k=w:=AT;((try revert hK K);(repeat'(first|refine Va (X4 @zQ @s8 @jE @f2) ?_|(refine V2 (X4 @zQ @s8 @jE @f2) ?_ ?_<;>try with_reducible intro hb)|(refine Xi ?_ ?_<;>try intro ht)|refine VD ?_ ?_|exact Xx|fail))<;>try with_reducible intro K hK)
   refine bQ _ _ rfl ?_;clear bO bQ dL;repeat(first|refine Xu ?_)
   ((try revert hK K);(repeat'(first|refine Va @s8 ?_|(refine V2 @s8 ?_ ?_<;>try with_reducible intro hb)|(refine Xi ?_ ?_<;>try intro ht)|refine VD ?_ ?_|exact Xx|fail))<;>try with_reducible intro K hK)
   exact ak _ (i+1) AT AT (by rw[<- aer rfl];exact Xv X0)
 ·obtain rfl:i=m.cls.length:=AT;have cF:(jQ 3 S).length=(iM S P m.cls.length).length:=by rw[Dq];omega
  have sQ:jQ 3 S=jQ 3 (iM S P m.cls.length):=aet 3 Rl.symm;have aeu:(iM S P m.cls.length).length=m.cls.length:=AT;generalize iM S P m.cls.length=Y at *;rw[sQ];((try revert hK K);(repeat'(first|refine Va @s8 ?_|(refine V2 @s8 ?_ ?_<;>try with_reducible intro hb)|(refine Xi ?_ ?_<;>try intro ht)|refine VD ?_ ?_|exact Xx|fail))<;>try with_reducible intro K hK)
  refine au _ _ rfl ?_;clear ak au Ql;repeat(first|refine Xu ?_)
  repeat'(first|((fail_if_success (first|refine eO 10 ?_|refine eP 10 ?_));refine Xr X0 ?_;intro K hK)|refine Xo X0 ?_|(refine hK _ ?_;clear hK K)|(refine Xg X0 ?_ ?_<;>try intro hb)|(refine Xi ?_ ?_<;>try intro ht)|refine XY ?_|refine Xd ?_ ?_|exact Xx|fail)
  refine rI ?_;intro K hK;simp(disch:=omega)only[Ac,↓Pc,simprocAttr,aev];refine rj [] qn IP trivial ⟨.pure rfl,.snap _ _ rfl ?_,.pure rfl,trivial⟩ rfl IM ?_
  ·rw[<- aeu];exact aew (zQ _ _ _ _) IM (Dq 3 Y) λa ha=>⟨3+a,Dp 3 Y a ha,Rn _ _ _ ha,IM⟩
  simp(disch:=omega)only[Ac,↓Pc,simprocAttr];refine hK _ ?_;clear hK K;repeat(first|refine Xu ?_)
  ((try revert hK K);(repeat'(first|refine Vb @s8 ?_|(refine V2 @s8 ?_ ?_<;>try with_reducible intro hb)|(refine Xi ?_ ?_<;>try intro ht)|refine VD ?_ ?_|exact Xx|fail))<;>try with_reducible intro K hK)
  unfold s6;exact Xw false [0] @Nat.zero_lt_succ
def Ro(m:ah)(left:List (List Bool))(bG:VM m)(hf:cp m left):∀ (d c:Nat) (P:List Int),c+d=m.cls.length->P.length=m.cls.length ->
  Holds Tryz.prog 50 [.agg (aq m),.tree 1 (rowsOf ay left),.ref 0 1 0 m.cls.length,Oi c] [.arr 1 (ints P)] (Oi (eQ m left d P).1) [.arr 1 (ints (eQ m left d P).2)]
 |0,c,P,hc,hP=>by
  rw[Nat.add_zero]at hc;subst hc;exact aei m left bG P hP
 |d+1,c,P,hc,hP=>by
  have ih:=Ro m left bG hf d (c+1);have mY:=bG.cls;have bn:c<m.cls.length:=AT;have hw:eQ m left (d+1) P=iC (eQ m left d) c (left.getD c default) P (m.cls.getD c default).length:=by rw[eQ,show m.cls.length-(d+1)=c by omega]
  have gK:=hf.1;have bE:=hf.2 c AT;have qD:=bG.opt _ (aE (l:=m.cls) (i:=c) (d:=default) bn);rw[hw];have A8:iC (eQ m left d) c (left.getD c default) P 0=(1099511627776,P):=rfl;generalize an:iC (eQ m left d) c (left.getD c default) P (m.cls.getD c default).length=res;have jl:∀ k,(iC (eQ m left d) c (left.getD c default) P k).2.length=m.cls.length:=λk=>Dr (λP hP=>Gb m left d P hP) _ _ hP k;generalize dU:left.getD c default=row at *;generalize bc:m.cls.getD c default=cl at *;refine Holds.aN 86 1 [.tmp 8] Tryz.func50 ?_;((try revert hK K);(repeat'(first|refine Va X0 ?_|(refine V2 X0 ?_ ?_<;>try with_reducible intro hb)|(refine Xi ?_ ?_<;>try intro ht)|refine VD ?_ ?_|exact Xx|fail))<;>try with_reducible intro K hK)
  all_goals try(exfalso;omega)
  refine bb (λk:Nat=>(⟨ao [(1,.tree 1 (rowsOf ay left)),(2,.ref 0 1 0 m.cls.length),(3,Oi c),(4,.ptr 1 0 0),(14,Oi (iC (eQ m left d) c row P k).1),(15,Oi k)],[.arr 1 (ints (iC (eQ m left d) c row P k).2),.var (aq m)]⟩:St))
   (λk=>k<=cl.length) (λk=>cl.length-k) 0 (aW _) (by rw[A8];exact Xv X0) ?_
  rintro k hk Ql ak au;have hl:=jl k;by_cases bf:k<cl.length
  ·have hs:iC (eQ m left d) c row P (k+1)=if row.getD k false=true then(min (iC (eQ m left d) c row P k).1 (eQ m left d ((iC (eQ m left d) c row P k).2.set c (k:Int))).1,(eQ m left d ((iC (eQ m left d) c row P k).2.set c (k:Int))).2) else iC (eQ m left d) c row P k:=rfl;have Gc:=ak;have Bd:=ih ((iC (eQ m left d) c row P k).2.set c (k:Int)) AT (by rw[bw];exact hl);generalize iC (eQ m left d) c row P k=st at *;obtain⟨least,Q⟩:=st;dsimp only at hl hs Bd;have gQ:=ints_set Q c (k:Int);by_cases hb:row.getD k false=true
   ·rw[if_pos hb]at hs;generalize eQ m left d (Q.set c (k:Int))=st2 at *;obtain⟨v,Q2⟩:=st2;dsimp only at hs Bd;rw[show((c+1:Nat):Int)=(c:Int)+1 by push_cast;rfl]at Bd;((try revert hK K);(repeat'(first|refine Va (X5 @dU @bc @ay.eq_1 @aV.eq_1 (X3 @hb @gQ @hl)) ?_|(refine V2 (X5 @dU @bc @ay.eq_1 @aV.eq_1 (X3 @hb @gQ @hl)) ?_ ?_<;>try with_reducible intro hb)|(refine Xi ?_ ?_<;>try intro ht)|refine VD ?_ ?_|exact Xx|fail))<;>try with_reducible intro K hK)
    (refine Xn [0] (Bd) ?_;simp(disch:=omega)only[Ac,↓Pc,simprocAttr])
    ((try revert hK K);(repeat'(first|refine Va X0 ?_|(refine V2 X0 ?_ ?_<;>try with_reducible intro hb)|(refine Xi ?_ ?_<;>try intro ht)|refine VD ?_ ?_|exact Xx|fail))<;>try with_reducible intro K hK)
    exact ak _ (k+1) AT AT (by rw[hs];exact Xv X0)
   ·rw[if_neg hb]at hs;have oA:row.getD k false=false:=by simpa using hb
    ((try revert hK K);(repeat'(first|refine Va (X5 @dU @bc @ay.eq_1 @aV.eq_1 @oA) ?_|(refine V2 (X5 @dU @bc @ay.eq_1 @aV.eq_1 @oA) ?_ ?_<;>try with_reducible intro hb)|(refine Xi ?_ ?_<;>try intro ht)|refine VD ?_ ?_|exact Xx|fail))<;>try with_reducible intro K hK)
    exact ak _ (k+1) AT AT (by rw[hs];exact Xv X0)
  ·obtain rfl:k=cl.length:=AT;rw[an]at *;((try revert hK K);(repeat'(first|refine Va (X2 @bc @aV.eq_1) ?_|(refine V2 (X2 @bc @aV.eq_1) ?_ ?_<;>try with_reducible intro hb)|(refine Xi ?_ ?_<;>try intro ht)|refine VD ?_ ?_|exact Xx|fail))<;>try with_reducible intro K hK)
   refine au _ _ rfl ?_;clear ak au Ql;repeat(first|refine Xu ?_)
   ((try revert hK K);(repeat'(first|refine Vb X0 ?_|(refine V2 X0 ?_ ?_<;>try with_reducible intro hb)|(refine Xi ?_ ?_<;>try intro ht)|refine VD ?_ ?_|exact Xx|fail))<;>try with_reducible intro K hK)
   exact Xw false [0] X0
def aeh(m:ah)(left:List (List Bool))(bG:VM m)(hf:cp m left):Holds Tryz.prog 20 [.agg (aq m),.tree 1 (rowsOf ay left)] [] (Oi (Bx m left)) []:=by
 have hw:=Ro m left bG hf m.cls.length 0 (aO m.cls.length 0) AT IM;rw[show((0:Nat):Int)=0 from rfl]at hw;unfold Bx;generalize eQ m left m.cls.length (aO m.cls.length 0)=w at *;have mY:=bG.cls;refine Holds.aN 14 0 [.tmp 4] Tryz.func20 ?_;((try revert hK K);(repeat'(first|refine Vb X0 ?_|(refine V2 X0 ?_ ?_<;>try with_reducible intro hb)|(refine Xi ?_ ?_<;>try intro ht)|refine VD ?_ ?_|exact Xx|fail))<;>try with_reducible intro K hK)
 (refine Xn [1] (hw) ?_;simp(disch:=omega)only[Ac,↓Pc,simprocAttr])
 ((try revert hK K);(repeat'(first|refine Vb X0 ?_|(refine V2 X0 ?_ ?_<;>try with_reducible intro hb)|(refine Xi ?_ ?_<;>try intro ht)|refine VD ?_ ?_|exact Xx|fail))<;>try with_reducible intro K hK)
 exact aU rfl rfl
end T

