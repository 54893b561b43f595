import Derived.Test.YtfoopmojjjpapaaGreatX34
import Derived.Test.YtfoopmojjjpapaaGreatX35
set_option linter.all false
set_option maxHeartbeats 0
set_option maxRecDepth 20000
open Nat renaming zero_le→aT,le_refl→bc,min_eq_left→wy
open List renaming length_map→fX,map_append→dR,take→iv,drop→eC,append_assoc→bC,length_append→bE,length_set→bK,mem_append→cB,length_take→e8,take_of_length_le→c8,mem_singleton→cU,replicate→aJ,map_take→EZ,map_replicate→ID
open And renaming intro→cJ
open Bool renaming not_false→mK
open Go Go.Am Go.Proofs
namespace T
def Yh(xs:List Nm)(q:Nm):rowsOf aW xs++[[AV.lit (.int .i64 q.1),.lit (.bool q.2)]]=rowsOf aW (xs++[q]):=by simp[rowsOf,aW]
def agT{m:ah}(hm:VM m){gi ai bi:Nat}{D E:List (Nat×Nat)}{S T:List (List Nm)}{os:List Ob}(h:LO aW (GB m gi ai bi D E) D E S T os)(hg:LG m lr (S,T)){left:List (List Bool)}(hf:df m left):
  cL Tryz.prog 81 [.ptr gi 0 0,.tree 1 (rowsOf aA left)] os λr ob=>r=NX (lq m left (S,T))/\os.length<=ob.length:=by
 obtain⟨fg,fa,fb⟩:=zT h;have eg:=aM fg;have ea:=aM fa;have eb:=aM fb;have hD:=h.rD.len;have hE:=h.rE.len;have jI:S.length=m.cls.length:=hg.s;have ht1:T.length=m.ae.length:=hg.t;have qG:=hm.cls;have oL:=hm.ae;have tq:=hm.aC;have iy:=hf.1;rw[afN];refine cL.aK 80 os.length [.tmp 4] Tryz.func81 ?_;refine Vb (X3 @fg @fa @gC.eq_1) ?_;have GY:D.length=m.cls.length:=Iv;refine aU (λz:Nat×List Ob×Nat×List Nm=>(⟨an [(0,.ptr gi 0 0),(1,.tree 1 (rowsOf aA left)),(5,.ref z.2.2.1 2 0 z.2.2.2.length),(17,NX m.cls.length),(18,NX z.1)],z.2.1⟩:St))
  (λz=>z.1<=m.cls.length/\gF os z.2.1/\z.2.1[z.2.2.1]?=some (.arr 2 (rowsOf aW z.2.2.2))/\os.length<=z.2.2.1/\z.2.2.2=(PC left S z.1).map vJ)
  (λz=>m.cls.length-z.1) (0,os++[.arr 2 []],os.length,[]) ⟨aT _,(gF.refl _).app _,kq _ _ _,bc _,rfl⟩ ?_ ?_
 ·refine aF.trans (aF.nil 5 2 (by simp only[Kc,simprocAttr]) NF) ?_;exact Xv @GY
 rintro⟨i,ob,ti,ps⟩⟨hi,aX,eL,kd,fK⟩Ql ak ar;dsimp only at hi aX eL kd fK ⊢;have dD:ps.length=i:=by rw[fK,fX,BH]
 by_cases aq:i<m.cls.length
 ·have l':=agU hm (h.dV aX) hg hf i aq;have dU:(PC left S (i+1)).map vJ=ps++[sY (jD (S.getD i default) (left.getD i default))]:=by
   rw[show PC left S (i+1)=PC left S i++[dm (S.getD i default) (left.getD i default) (0,false)] from yu _ i,dR,<- fK,WG];rfl
  have BS:=Yi (jD (S.getD i default) (left.getD i default)) (by have:=KJ (S.getD i default) (left.getD i default);have:=hg.sl i aq;have:=hm.opt _ (aG (d:=default) aq);dsimp only at *;omega);generalize jD (S.getD i default) (left.getD i default)=Lf at *;generalize sY Lf=q at *;repeat'(first|((fail_if_success (first|refine ei 5 ?_|refine ej 5 ?_));refine Xr X0 ?_;intro K hK)|(refine hK _ ?_;clear hK K)|(refine Xi ?_ ?_<;>try intro ht)|refine Xy ?_|exact Xx|fail)
  refine nf 4 NF _ rfl ?_;intro K hK;simp(disch:=omega)only[Ac,↓Pc,simprocAttr,iv,eC];refine⟨rfl,(show jz Tryz.prog 115 [.ptr gi 0 0,NX i,.tree 1 (rowsOf aA left)] (some 25) _ _ from ?_)⟩;refine qx l' ?_;rintro r xg⟨bb,id,rfl,bO⟩;refine⟨bb.len,?_⟩;have z':=bb _ _ eL;have Lh:=aM z';have Li:=iN z';have eW:=(aX.trans bb).len;simp(disch:=omega)only[Ac,↓Pc,simprocAttr,eC];refine vg [] BS Iw trivial ⟨bw.fz bO (by rw[cf]) Iw,trivial⟩ rfl Iw ?_;simp(disch:=omega)only[Ac,↓Pc,simprocAttr,z',Lh,Li,aW,Yh,bF,bC,bE,bK];repeat'(first|with_reducible refine cJ ?_ ?_|omega)
  refine hK _ ?_;clear hK K;repeat(refine Xu ?_)
  refine Va X0 ?_;refine ak _ (i+1,xg.set ti .gone++[.arr 2 [aW q],.arr 2 (rowsOf aW (ps++[q]))],xg.length+1,ps++[q]) ⟨NN,((aX.trans bb).set kd).app _,oH _ _ _ _ _,NN,dU.symm⟩ NN ?_;exact Xv @aW.eq_1
 have GZ:i=m.cls.length:=Iv;rw[GZ]at fK;have kg:=aX _ _ fg;have kb:=aX _ _ fb;have agV:E.length=m.ae.length:=Iv;((repeat'(first|refine Va X0 ?_|(refine Xi ?_ ?_<;>try intro ht)|exact Xx|fail)))
 refine ar _ _ rfl ?_;clear ak ar Ql;repeat(refine Xu ?_)
 refine Va (X3 @kg @kb @gC.eq_1) ?_;refine aU (λz:Nat×List Ob×Nat×List Nm=>(⟨an [(0,.ptr gi 0 0),(1,.tree 1 (rowsOf aA left)),(5,.ref z.2.2.1 2 0 z.2.2.2.length),(34,NX m.ae.length),(35,NX z.1)],z.2.1⟩:St))
  (λz=>z.1<=m.ae.length/\gF os z.2.1/\z.2.1[z.2.2.1]?=some (.arr 2 (rowsOf aW z.2.2.2))/\os.length<=z.2.2.1/\z.2.2.2=(PC left S m.cls.length++PP m left T z.1).map vJ)
  (λz=>m.ae.length-z.1) (0,ob,ti,ps) ⟨aT _,aX,eL,kd,by rw[fK];simp[PP]⟩ (Xv @agV) ?_
 clear aX eL kd fK dD GZ kg kb hi aq ti ps;rintro⟨i,ob,ti,ps⟩⟨hi,aX,eL,kd,fK⟩Ql ak ar;dsimp only at hi aX eL kd fK ⊢;have dD:ps.length=m.cls.length+i:=by rw[fK,fX,bE,BH,Dx]
 by_cases aq:i<m.ae.length
 ·have l':=agW hm (h.dV aX) hg hf i aq;have dU:(PC left S m.cls.length++PP m left T (i+1)).map vJ=ps++[sY (jD (T.getD i default) (ik m left i))]:=by
   rw[show PP m left T (i+1)=PP m left T i++[dm (T.getD i default) (ik m left i) (0,false)] from yu _ i,<- bC,dR,<- fK,WG];rfl
  have BS:=Yi (jD (T.getD i default) (ik m left i)) (by have:=KJ (T.getD i default) (ik m left i);have:=hg.tl i aq;have:=BT (jQ hm.pr _ (aG (d:=default) aq)) hm;dsimp only at *;omega);generalize jD (T.getD i default) (ik m left i)=Lf at *;generalize sY Lf=q at *;repeat'(first|((fail_if_success (first|refine ei 10 ?_|refine ej 10 ?_));refine Xr X0 ?_;intro K hK)|(refine hK _ ?_;clear hK K)|(refine Xi ?_ ?_<;>try intro ht)|refine Xy ?_|exact Xx|fail)
  refine nf 4 NF _ rfl ?_;intro K hK;simp(disch:=omega)only[Ac,↓Pc,simprocAttr,iv,eC];refine⟨rfl,(show jz Tryz.prog 116 [.ptr gi 0 0,NX i,.tree 1 (rowsOf aA left)] (some 42) _ _ from ?_)⟩;refine qx l' ?_;rintro r xg⟨bb,id,rfl,bO⟩;refine⟨bb.len,?_⟩;have z':=bb _ _ eL;have Lh:=aM z';have Li:=iN z';have eW:=(aX.trans bb).len;simp(disch:=omega)only[Ac,↓Pc,simprocAttr,eC];refine vg [] BS Iw trivial ⟨bw.fz bO (by rw[cf]) Iw,trivial⟩ rfl Iw ?_;simp(disch:=omega)only[Ac,↓Pc,simprocAttr,z',Lh,Li,aW,Yh,bF,bC,bE,bK];repeat'(first|with_reducible refine cJ ?_ ?_|omega)
  refine hK _ ?_;clear hK K;repeat(refine Xu ?_)
  refine Va X0 ?_;refine ak _ (i+1,xg.set ti .gone++[.arr 2 [aW q],.arr 2 (rowsOf aW (ps++[q]))],xg.length+1,ps++[q]) ⟨NN,((aX.trans bb).set kd).app _,oH _ _ _ _ _,NN,dU.symm⟩ NN ?_;exact Xv @aW.eq_1
 have G0:i=m.ae.length:=Iv;rw[G0]at fK;have kg:=aX _ _ fg;((repeat'(first|refine Va X0 ?_|(refine Xi ?_ ?_<;>try intro ht)|exact Xx|fail)))
 refine ar _ _ rfl ?_;clear ak ar Ql;repeat(refine Xu ?_)
 refine Va (X2 @kg @gC.eq_1) ?_;refine aU (λz:Nat×List Ob×Nat×List Nm=>(⟨an [(1,.tree 1 (rowsOf aA left)),(5,.ref z.2.2.1 2 0 z.2.2.2.length),(51,.tree 4 (rowsOf db m.aC)),(52,NX m.aC.length),(53,NX z.1)],z.2.1⟩:St))
  (λz=>z.1<=m.aC.length/\gF os z.2.1/\z.2.1[z.2.2.1]?=some (.arr 2 (rowsOf aW z.2.2.2))/\os.length<=z.2.2.1/\z.2.2.2=(PC left S m.cls.length++PP m left T m.ae.length++PK m left z.1).map vJ)
  (λz=>m.aC.length-z.1) (0,ob,ti,ps) ⟨aT _,aX,eL,kd,by rw[fK];simp[PK]⟩ (Xv X0) ?_
 clear aX eL kd fK dD G0 kg hi aq ti ps;rintro⟨i,ob,ti,ps⟩⟨hi,aX,eL,kd,fK⟩Ql ak ar;dsimp only at hi aX eL kd fK ⊢;have dD:ps.length=m.cls.length+m.ae.length+i:=by rw[fK,fX,bE,bE,BH,Dx,GM]
 by_cases aq:i<m.aC.length
 ·have jN:=aG (d:=default) aq;obtain⟨q1,q2,q3,q4⟩:=Lj hm hf jN;have h1:=ad0 (m.aC.getD i default) left left.length (bc _) q1 Iv (λr hr=>by have:=hf.row hm r hr;omega) Iv q2 q3;have h2:=Lk (iL left (m.aC.getD i default));have dU:(PC left S m.cls.length++PP m left T m.ae.length++PK m left (i+1)).map vJ=ps++[ez (iL left (m.aC.getD i default))]:=by
   rw[show PK m left (i+1)=PK m left i++[(iL left (m.aC.getD i default),!(decide ((m.aC.getD i default).bX=1099511627776)&&decide (0<iL left (m.aC.getD i default))))] from yu _ i,<- bC,dR,<- fK];congr 1;simp only[List.map_cons,List.map_nil,vJ,ez,Bool.not_not];rw[afO hm iy jN (λx hx=>(q1 x hx).2)]
  have rJ:=aM eL;have DR:=iN eL;have nk:=(List.getElem?_eq_some_iff.1 eL).1;have eW:=aX.len;generalize iL left (m.aC.getD i default)=v at *;generalize bd:m.aC.getD i default=c at *;((repeat'(first|refine Vc (X5 @eL @rJ @DR @bd (X5 @db.eq_1 @aW.eq_1 @ez.eq_1 @Ll (X4 @bF @bC.{0} @bE.{0} @bK.{0}))) (X2 h1 h2) ?_|(refine Xi ?_ ?_<;>try intro ht)|exact Xx|fail)))
  refine ak _ (i+1,ob.set ti .gone++[.var (db c),.arr 2 [aW (ez v)],.arr 2 (rowsOf aW (ps++[ez v]))],ob.length+2,ps++[ez v]) ⟨NN,(aX.set kd).app _,oH _ _ _ _ _,NN,dU.symm⟩ NN ?_;exact Xv (X3 @aW.eq_1 @ez.eq_1 @db.eq_1)
 have Lm:i=m.aC.length:=Iv;rw[Lm]at fK dD;rw[show PC left S m.cls.length++PP m left T m.ae.length++PK m left m.aC.length=w8 m left (S,T) from rfl]at fK;have G2:(w8 m left (S,T)).length=m.cls.length+m.ae.length+m.aC.length:=by unfold w8;rw[bE,bE,BH,Dx,GM]
 have Yj:∀ p∈w8 m left (S,T),-lr<=p.1/\p.1<=lr:=λp hp=>by
  unfold w8 at hp;rw[cB,cB]at hp;rcases hp with(hp|hp)|hp
  ·exact KG (by unfold lr;decide) hg.sb _ p hp
  ·exact KH (by unfold lr;decide) hg.tb _ p hp
  ·have:=KI hm _ p hp;unfold lr;omega
 generalize w8 m left (S,T)=P at *;((repeat'(first|refine Va X0 ?_|(refine Xi ?_ ?_<;>try intro ht)|exact Xx|fail)))
 refine ar _ _ rfl ?_;clear ak ar Ql;repeat(refine Xu ?_)
 refine Va @eL ?_;refine aU (λz:Nat×List Ob=>(⟨an [(10,NX (bJ (P.take z.1) (0,false)).1),(65,.ref ti 2 0 ps.length),(66,NX ps.length),(67,NX z.1)],z.2⟩:St))
  (λz=>z.1<=P.length/\gF os z.2/\z.2[ti]?=some (.arr 2 (rowsOf aW ps))/\(bJ (P.take z.1) (0,false)).2=false)
  (λz=>P.length-z.1) (0,ob) ⟨aT _,aX,eL,rfl⟩ (Xv (X3 @List.take_zero.{0} @bJ.eq_1 @List.foldl_nil.{0,0})) ?_
 clear aX eL;rintro⟨j,ob⟩⟨hj,aX,eL,G3⟩Ql ak ar;dsimp only at hj aX eL G3 ⊢;have eW:=aX.len;have amc:ps.length=P.length:=by rw[fK,fX]
 by_cases fe:j<P.length
 ·have iA:=eZ fe;have eO:=BG (P.take j) (P.getD j default) (0,false);rw[<- iA,G3,Bool.false_or]at eO;have zu:ps.getD j default=vJ (P.getD j default):=by rw[fK,iX _ _ _ fe]
  have kz:=yv (P.take j) (0,false) (λp hp=>Yj p (List.mem_of_mem_take hp));rw[e8,wy hj]at kz;have Yk:=Yj _ (aG (d:=default) fe);have agX:=aG (l:=P) (d:=default) fe;unfold lr at kz Yk;dsimp only at kz;generalize (bJ (P.take j) (0,false)).1=s at *;generalize P.getD j default=q at *;obtain⟨v,b⟩:=q;unfold vJ at zu;dsimp only at zu eO Yk;have rJ:=aM eL;cases b
  ·have xh:(bJ P (0,false)).2=true:=(WI P 0).2 ⟨_,agX,rfl⟩;((repeat'(first|refine Va (X5 @eL @rJ @zu @aW.eq_1 (X2 @bF @mK)) ?_|(refine Xi ?_ ?_<;>try intro ht)|exact Xx|fail)))
   repeat(refine Xu ?_)
   ((skip))
   unfold eH;simp only[dx,du];simp(disch:=omega)only[Ac,↓Pc,simprocAttr];rw[if_pos xh];exact⟨_,_,⟨rfl,by rw[bE];omega⟩,ed rfl (by rw[bE];omega) rfl⟩
  ·((repeat'(first|refine Va (X5 @eL @rJ @zu @aW.eq_1 (X2 @bF @Bool.not_true)) ?_|(refine Xi ?_ ?_<;>try intro ht)|exact Xx|fail)))
   refine ak _ (j+1,_) ⟨NN,aX.app [.var (aW (v,false))],rJ _,by rw[eO];rfl⟩ NN ?_;simp only[eO];exact Xv @aW.eq_1
 ·rw[c8 Iv]at G3;have agY:¬ (bJ P (0,false)).2=true:=by rw[G3];simp
  ((repeat'(first|refine Va (c8 (show P.length<=j by omega)) ?_|(refine Xi ?_ ?_<;>try intro ht)|exact Xx|fail)))
  refine ar _ _ rfl ?_;clear ak ar Ql;repeat(refine Xu ?_)
  refine Vb X0 ?_;unfold eH;simp only[dx,du];simp(disch:=omega)only[Ac,↓Pc,simprocAttr];rw[if_neg agY];exact⟨_,ob,⟨rfl,eW⟩,ed rfl eW rfl⟩
def LG.mono{m:ah}{B C:Int}{g:Lg}(h:LG m B g)(hc:B<=C):LG m C g:=⟨h.s,h.t,h.sl,h.tl,λr hr=>(h.sb r hr).mono hc,λr hr=>(h.tb r hr).mono hc⟩
def XU(m:ah)(left:List (List Bool))(l:List Mv)(hm:VM m)(hf:df m left)(hl:l.length<9223372036854775808):Holds Tryz.prog 42 [.agg (ao m),.tree 1 (rowsOf aA left),.tree 4 (rowsOf aO l)] [] (.bu [NX (iO m left l).1,NX (iO m left l).2]) []:=by
 generalize au:iO m left l=res;unfold iO at au;refine Holds.aK 33 0 [.tmp 6,.tmp 7] Tryz.func42 ?_;by_cases hlen:2000<l.length
 ·rw[if_pos hlen]at au;subst au;((repeat'(first|refine Vb X0 ?_|(refine Xi ?_ ?_<;>try intro ht)|exact Xx|fail)))
  all_goals exact aS rfl rfl
 rw[if_neg hlen]at au;repeat'(first|((fail_if_success (first|refine ei 3 ?_|refine ej 3 ?_));refine Xr X0 ?_;intro K hK)|(refine hK _ ?_;clear hK K)|(refine Xi ?_ ?_<;>try intro ht)|refine XY ?_|exact Xx|fail)
 refine nf 1 NF _ rfl ?_;intro K hK;simp(disch:=omega)only[Ac,↓Pc,simprocAttr,iv,eC];refine⟨rfl,(show jz Tryz.prog 78 [.agg (ao m)] (some 15) _ _ from ?_)⟩;refine qx (agZ hm [.var (ao m)]) ?_;rintro r os⟨gi,ai,bi,D,E,rfl,iF,aX⟩;refine⟨aX.len,?_⟩;have f0:=aX 0 _ rfl;simp(disch:=omega)only[Ac,↓Pc,simprocAttr,eC];refine hK _ ?_;clear hK K;repeat(refine Xu ?_)
 refine Va X0 ?_;refine aU (λz:Nat×List Ob=>(⟨an [(1,.tree 1 (rowsOf aA left)),(8,.ptr gi 0 0),(16,.tree 4 (rowsOf aO l)),(17,NX l.length),(18,NX z.1)],z.2⟩:St))
  (λz=>z.1<=l.length/\LO aW (GB m gi ai bi D E) D E (iD m (l.take z.1) (S0 m,T0 m)).1 (iD m (l.take z.1) (S0 m,T0 m)).2 z.2/\∀ x∈l.take z.1,iC m x=true)
  (λz=>l.length-z.1) (0,os) ⟨aT _,iF,Iw⟩ (Xv X0) ?_
 clear iF aX f0;rintro⟨i,ob⟩⟨hi,iF,gj⟩Ql ak ar;dsimp only at hi iF gj ⊢;have kC:=(GL hm (l.take i) gj);rw[e8,wy hi]at kC;by_cases aq:i<l.length
 ·have e9:iD m (l.take (i+1)) (S0 m,T0 m)=jE m (l.getD i default) (iD m (l.take i) (S0 m,T0 m)):=by rw[eZ aq,Ww]
  have iA:=eZ aq;have cH:=aG (d:=default) aq;generalize iD m (l.take i) (S0 m,T0 m)=g at *;generalize cW:l.getD i default=x at *;have hval:=ag0 hm (iF.app [.var (aO x)]) kC x;have amd:ob.length<(ob++[Ob.var (aO x)]).length:=Iw;have hvx:(ob++[Ob.var (aO x)])[ob.length]?=some (.var (aO x)):=kq _ _ _;repeat'(first|((fail_if_success (first|refine ei 7 ?_|refine ej 7 ?_));refine Xr (X3 @cW @aO.eq_1 @bF) ?_;intro K hK)|(refine hK _ ?_;clear hK K)|(refine Xi ?_ ?_<;>try intro ht)|refine Xy ?_|refine Xd ?_ ?_|exact Xx|fail)
  refine nf 2 NF _ rfl ?_;intro K hK;simp(disch:=omega)only[Ac,↓Pc,simprocAttr,iv,eC,bF];refine⟨rfl,(show jz Tryz.prog 79 [.ptr gi 0 0,.agg (aO x)] (some 24) _ _ from ?_)⟩;refine qx hval ?_;rintro r xg⟨rfl,lx,rfl⟩;refine⟨Iw,?_⟩;simp(disch:=omega)only[Ac,↓Pc,simprocAttr,eC];refine hK _ ?_;clear hK K;repeat(refine Xu ?_)
  by_cases hx:iC m x=true
  ·rw[hx];have qF:=ag2 hm (iF.app (.var (aO x)::lx)) (B:=1099511627776+268435456*25*i) Iv kC x hx;have evx:=aM hvx;repeat'(first|(refine Xi ?_ ?_<;>try intro ht)|refine Xy ?_|exact Xx|fail)
   refine nf 2 NF _ rfl ?_;intro K hK;simp(disch:=omega)only[Ac,↓Pc,simprocAttr,iv,eC,bF,aO,bC];refine⟨rfl,(show jz Tryz.prog 80 [.ptr gi 0 0,.agg (aO x)] (some 28) _ _ from ?_)⟩;refine qx qF ?_;rintro r ke⟨rfl,l9,ov⟩;refine⟨ov,?_⟩;simp(disch:=omega)only[Ac,↓Pc,simprocAttr,eC];refine hK _ ?_;clear hK K;repeat(refine Xu ?_)
   refine Va X0 ?_;refine ak _ (i+1,ke) ⟨NN,by rw[e9];exact l9,λy hy=>by
    dsimp only at hy;rw[iA]at hy;rcases cB.1 hy with hy|hy
    ·exact gj y hy
    ·simp only[cU]at hy;subst hy;exact hx⟩ NN ?_
   exact Xv X0
  ·have bS:iC m x=false:=by simpa using hx
   rw[bS];rw[if_pos (by rw[List.all_eq_false];exact⟨x,cH,hx⟩)]at au;((repeat'(first|refine Va @mK ?_|(refine Xi ?_ ?_<;>try intro ht)|exact Xx|fail)))
   repeat(refine Xu ?_)
   refine Vb X0 ?_;exact aS rfl (by rw[<- au])
 ·rw[c8 Iv]at iF kC gj;rw[if_neg (by rw[Bool.not_eq_false];exact List.all_eq_true.2 gj)]at au;generalize iD m l (S0 m,T0 m)=g at *;obtain⟨g1,g2⟩:=g;dsimp only at iF;have hval:=agT hm iF (kC.mono (by unfold lr;omega)) hf;((repeat'(first|refine Va X0 ?_|(refine Xi ?_ ?_<;>try intro ht)|exact Xx|fail)))
  refine ar _ _ rfl ?_;clear ak ar Ql;repeat(refine Xu ?_)
  refine Xy ?_;refine nf 2 NF _ rfl ?_;intro K hK;simp(disch:=omega)only[Ac,↓Pc,simprocAttr,iv,eC];refine⟨rfl,(show jz Tryz.prog 81 [.ptr gi 0 0,.tree 1 (rowsOf aA left)] (some 32) _ _ from ?_)⟩;refine qx hval ?_;rintro r ke⟨rfl,ov⟩;refine⟨ov,?_⟩;simp(disch:=omega)only[Ac,↓Pc,simprocAttr,eC];refine hK _ ?_;clear hK K;repeat(refine Xu ?_)
  subst au;refine Vb X0 ?_;exact aS rfl rfl
def KU(m:ah)(left:List (List Bool))(l:List Mv)(hm:MB m)(hb:BB left)(hl:l.length<9223372036854775808):Holds Tryz.prog 17 [.agg (ao m),.tree 1 (rowsOf aA left),.tree 4 (rowsOf aO l)] [] (.bu [NX (bQ m left l).1,NX (bQ m left l).2]) []:=by
 have h1:=ag3 m left hm hb;generalize au:bQ m left l=res;unfold bQ at au;refine Holds.aK 21 0 [.tmp 6,.tmp 7] Tryz.func17 ?_;by_cases hs:kn m left=0
 ·obtain⟨hv,hf⟩:=GA hs;rw[if_neg (by rw[hs];simp)]at au;rw[hs]at h1;have h2:=XU m left l hv hf hl;generalize iO m left l=v at *;subst au;((try revert hK K);(repeat'(first|refine Vd @bne_self_eq_false.{0} (X2 h1 h2) ?_|(refine V2 @bne_self_eq_false.{0} ?_ ?_<;>try with_reducible intro hb)|(refine Xi ?_ ?_<;>try intro ht)|refine VD ?_ ?_|exact Xx|fail))<;>try with_reducible intro K hK)
  all_goals try(exfalso;omega)
  all_goals exact aS rfl rfl
 ·rw[if_pos hs]at au;generalize kn m left=e at *;subst au;((try revert hK K);(repeat'(first|refine Vd X0 h1 ?_|(refine V2 X0 ?_ ?_<;>try with_reducible intro hb)|(refine Xi ?_ ?_<;>try intro ht)|refine VD ?_ ?_|exact Xx|fail))<;>try with_reducible intro K hK)
  all_goals try(exfalso;omega)
  all_goals exact aS rfl rfl
def mB(b:Bool):List AV:=[.lit (.bool b)]
instance:Row mB 1:=⟨λ_=>rfl,λb v hv=>by
 simp only[mB,cU]at hv;subst hv;exact .inl ⟨_,rfl,rfl⟩⟩
def ag4(xs:List Bool):rowsOf mB xs=bm xs:=by simp[rowsOf,mB,bm]
def rK(n i:Nat)(s:Bool):List Bool:=aJ i s++aJ (n-i) false
def ag5{n i j:Nat}{s:Bool}(h:j<=i):(rowsOf mB (rK n i s)).take j=rowsOf mB (aJ j s):=by
 unfold rK rowsOf;rw[<- EZ,List.take_append_of_le_length NP,List.take_replicate,wy h]
def ag6{n i j:Nat}{s:Bool}(h:i+j<=n)(hj:j<=i):rowsOf mB (aJ i s)++iv j (rowsOf mB (aJ i s))++eC (i+j) (rowsOf mB (rK n i s))=rowsOf mB (rK n (i+j) s):=by
 unfold rK rowsOf;rw[<- EZ,<- List.map_drop,<- dR,<- dR,List.take_replicate,wy hj,List.drop_append,List.drop_eq_nil_of_le Iw,List.drop_replicate,List.nil_append,List.replicate_append_replicate];congr 3;simp;omega
def ag7{n i:Nat}{s:Bool}(h:i<=n):(rK n i s).length=n:=by simp[rK];omega
def ag8(s:Bool)(n:Nat)(hn:n<=1048576):Holds Tryz.prog 84 [.tree 1 [mB s],NX (n:Nat)] [] (.ref 0 1 0 n) [.arr 1 (rowsOf mB (aJ n s))]:=by
 have hm:=ag9 n Iv;refine Holds.aK 48 0 [.tmp 4] Tryz.func84 ?_;((repeat'(first|refine Vc (X5 @G4 @G5 @unI @unU (X4 @Yl @ahc @Option.isSome_some.{0} @Qu)) hm ?_|(refine Xi ?_ ?_<;>try intro ht)|exact Xx|fail)))
 have e0:iv (min 1 n) [mB s]++eC (min 1 n) (aJ n [AV.lit (Value.bool false)])=rowsOf mB (rK n (min 1 n) s):=by
  unfold rK rowsOf;rw[List.drop_replicate];rcases Nat.eq_zero_or_pos n with h|h
  ·subst h;rfl
  ·rw[wy h,dR,ID,ID];rfl
 have e0':iv (min 1 n) [mB s]++eC (min 1 n) (bm (aJ n false))=rowsOf mB (rK n (min 1 n) s):=by
  rw[<- e0];simp[bm]
 first|rw[e0]|rw[e0']
 refine aU (λi:Nat=>(⟨an [(7,.ref 0 1 0 n),(8,NX i)],[.arr 1 (rowsOf mB (rK n i s))]⟩:St)) (λi=>i<=n/\(i=0->n=0)) (λi=>n-i) (min 1 n) ⟨Iv,Iv⟩ (Xv X0) ?_;rintro i⟨hi,hr⟩Ql ak ar;by_cases aq:i<n
 ·have e1:i+min i (n-i)<=n:=Iv;have hl:=ag7 (s:=s) hi;have DT:=λn s=>ag5 (n:=n) (s:=s) (bc i);((repeat'(first|refine Va (X5 @Option.map_none.{0,0} @List.drop_zero.{0} @DT @cf (X3 @List.length_replicate.{0} @JU @hl)) ?_|(refine Xi ?_ ?_<;>try intro ht)|exact Xx|fail)))
  rw[ag6 e1 (Nat.min_le_left _ _)];exact ak _ (i+min i (n-i)) ⟨Iv,Iv⟩ Iv (Xv X0)
 ·obtain rfl:i=n:=Iv;((repeat'(first|refine Va X0 ?_|(refine Xi ?_ ?_<;>try intro ht)|exact Xx|fail)))
  refine ar _ _ rfl ?_;clear ak ar Ql;repeat(refine Xu ?_)
  refine Vb X0 ?_;have e2:rK i i s=aJ i s:=by simp[rK]
  rw[e2];exact Xw false [0] X0
def dO(m:ah):List (List Bool):=m.cls.map λl=>aJ l.length true
def eS(m:ah):List (List Bool):=if jP m=0 then dO m else []
def DU(xs:List (List Bool))(b:List Bool):rowsOf aA xs++[[AV.tree 1 (bm b)]]=rowsOf aA (xs++[b]):=by simp[rowsOf,aA]
def Ya(m:ah)(hm:MB m):Holds Tryz.prog 51 [.agg (ao m)] [] (.tree 1 (rowsOf aA (eS m))) []:=by
 have h1:=J9 m hm;have sQ:=hm.cls;generalize au:eS m=res;unfold eS at au;refine Holds.aK 25 0 [.tmp 2] Tryz.func51 ?_;by_cases hv:jP m=0;rotate_left
 ·rw[if_neg hv]at au;rw[<- au];generalize jP m=e at *;((repeat'(first|refine Vd X0 h1 ?_|(refine Xi ?_ ?_<;>try intro ht)|exact Xx|fail)))
  exact j2 [] true NF trivial NF NF bw.nil
 rw[if_pos hv]at au;rw[hv]at h1;have cA:=rz.1 hv;have qD:=cA.cls;((repeat'(first|refine Vd @bne_self_eq_false.{0} h1 ?_|(refine Xi ?_ ?_<;>try intro ht)|exact Xx|fail)))
 refine aU (λz:Nat×List (List Bool)=>(⟨an [(1,.ptr 0 0 0),(3,.ref 1 1 0 z.2.length),(10,.tree 1 (rowsOf aQ m.cls)),(11,NX m.cls.length),(12,NX z.1)],[.var (ao m),.arr 1 (rowsOf aA z.2)]⟩:St))
  (λz=>z.1<=m.cls.length/\z.2=(dO m).take z.1) (λz=>m.cls.length-z.1) (0,[]) ⟨aT _,rfl⟩ ?_ ?_
 ·refine aF.trans (aF.nil 3 1 (by simp only[Kc,simprocAttr]) NF) ?_;exact Xv X0
 rintro⟨i,xs⟩⟨hi,dp⟩Ql ak ar;dsimp only at hi dp ⊢;have kM:(dO m).length=m.cls.length:=by simp[dO]
 by_cases aq:i<m.cls.length
 ·have qE:xs.length=i:=by rw[dp,e8];omega
  have e9:(dO m).take (i+1)=xs++[aJ (m.cls.getD i default).length true]:=by
   rw[eZ Iv,<- dp];unfold dO;rw[iX _ _ _ aq]
  have uH:=cA.opt _ (aG (d:=default) aq);generalize bd:m.cls.getD i default=c at *;have Ln:=ag8 true c.length Iv;repeat'(first|((fail_if_success (first|refine ei 7 ?_|refine ej 7 ?_));refine Xr (X2 @bd @aQ.eq_1) ?_;intro K hK)|(refine hK _ ?_;clear hK K)|(refine Xi ?_ ?_<;>try intro ht)|refine Xy ?_|refine Xd ?_ ?_|exact Xx|fail)
  refine Kj 5 NF ?_;intro K K1 hK yE;simp(disch:=omega)only[Ac,↓Pc,simprocAttr,iv];refine vg [] Ln NF trivial ⟨bw.fz (rows:=rowsOf mB [true]) rfl rfl Iw,.pure rfl,trivial⟩ rfl (by simp[Cz,mB,rowsOf,flat]) ?_;simp(disch:=omega)only[Ac,↓Pc,simprocAttr];refine yE _ ⟨an [(1,.ptr 0 0 0),(3,.ref 1 1 0 xs.length),(10,.tree 1 (rowsOf aQ m.cls)),(11,NX m.cls.length),(12,NX i),(16,.ref 1 1 0 xs.length),(20,.tree 1 (bm (aJ c.length true)))],[.var (ao m),.arr 1 (rowsOf aA xs)]⟩ ?_ ?_
  ·rw[<- ag4];exact Xs true [0,1] X0
  clear yE K1;simp(disch:=omega)only[Ac,↓Pc,simprocAttr,eC,DU];repeat'(first|with_reducible refine cJ ?_ ?_|omega)
  refine hK _ ?_;clear hK K;repeat(refine Xu ?_)
  refine Va X0 ?_;refine ak _ (i+1,xs++[aJ c.length true]) ⟨NN,e9.symm⟩ NN ?_;exact Xs false [0,3] X0
 ·rw[c8 Iv]at dp;((repeat'(first|refine Va X0 ?_|(refine Xi ?_ ?_<;>try intro ht)|exact Xx|fail)))
  refine ar _ _ rfl ?_;clear ak ar Ql;repeat(refine Xu ?_)
  refine Vb X0 ?_;rw[dp,au];exact Xw true [] X0
end T

