import Derived.Test.YtfoopmojjjpapaaGreatX34
import Derived.Test.YtfoopmojjjpapaaGreatX35
set_option linter.all false
set_option maxHeartbeats 0
set_option maxRecDepth 20000
open Nat renaming zero_le→aT,le_refl→bb,min_eq_left→wA
open List renaming length_map→fW,map_append→dS,take→iv,drop→eC,append_assoc→bC,length_append→bF,length_set→bK,mem_append→cC,length_take→e8,take_of_length_le→c8,mem_singleton→cU,replicate→aJ,map_take→E2,map_replicate→IF
open And renaming intro→cK
open Bool renaming not_false→mK
open Go Go.Am Go.Proofs
namespace T
def Yl(xs:List Nm)(q:Nm):rowsOf aW xs++[[AV.lit (.int .i64 q.1),.lit (.bool q.2)]]=rowsOf aW (xs++[q]):=by simp[rowsOf,aW]
def agX{m:ah}(hm:VM m){gi ai bi:Nat}{D E:List (Nat×Nat)}{S T:List (List Nm)}{os:List Ob}(h:LO aW (GB m gi ai bi D E) D E S T os)(hg:LG m lr (S,T)){left:List (List Bool)}(hf:df m left):
  cQ Tryz.prog 81 [.ptr gi 0 0,.tree 1 (rowsOf aA left)] os λr ob=>r=N0 (lq m left (S,T))/\os.length<=ob.length:=by
 obtain⟨fg,fa,fb⟩:=zV h;have eg:=aL fg;have ea:=aL fa;have eb:=aL fb;have hD:=h.rD.len;have hE:=h.rE.len;have jH:S.length=m.cls.length:=hg.s;have ht1:T.length=m.ae.length:=hg.t;have qH:=hm.cls;have oL:=hm.ae;have tu:=hm.aC;have iy:=hf.1;rw[afR];refine cQ.aK 80 os.length [.tmp 4] Tryz.func81 ?_;refine Vb (X3 @fg @fa @gC.eq_1) ?_;have G2:D.length=m.cls.length:=Ix;refine aU (λz:Nat×List Ob×Nat×List Nm=>(⟨an [(0,.ptr gi 0 0),(1,.tree 1 (rowsOf aA left)),(5,.ref z.2.2.1 2 0 z.2.2.2.length),(17,N0 m.cls.length),(18,N0 z.1)],z.2.1⟩:St))
  (λz=>z.1<=m.cls.length/\gF os z.2.1/\z.2.1[z.2.2.1]?=some (.arr 2 (rowsOf aW z.2.2.2))/\os.length<=z.2.2.1/\z.2.2.2=(PC left S z.1).map vK)
  (λz=>m.cls.length-z.1) (0,os++[.arr 2 []],os.length,[]) ⟨aT _,(gF.refl _).app _,kq _ _ _,bb _,rfl⟩ ?_ ?_
 ·refine aF.trans (aF.nil 5 2 (by simp only[Kc,simprocAttr]) NI) ?_;exact Xv @G2
 rintro⟨i,ob,ti,ps⟩⟨hi,aX,eL,ka,fK⟩Ql ak ar;dsimp only at hi aX eL ka fK ⊢;have dD:ps.length=i:=by rw[fK,fW,BK]
 by_cases aq:i<m.cls.length
 ·have l':=agY hm (h.dV aX) hg hf i aq;have dU:(PC left S (i+1)).map vK=ps++[sZ (jD (S.getD i default) (left.getD i default))]:=by
   rw[show PC left S (i+1)=PC left S i++[dp (S.getD i default) (left.getD i default) (0,false)] from yw _ i,dS,<- fK,WJ];rfl
  have BV:=Ym (jD (S.getD i default) (left.getD i default)) (by have:=KL (S.getD i default) (left.getD i default);have:=hg.sl i aq;have:=hm.opt _ (aG (d:=default) aq);dsimp only at *;omega);generalize jD (S.getD i default) (left.getD i default)=Lj at *;generalize sZ Lj=q at *;repeat'(first|((fail_if_success (first|refine ei 5 ?_|refine ej 5 ?_));refine Xr X0 ?_;intro K hK)|(refine hK _ ?_;clear hK K)|(refine Xi ?_ ?_<;>try intro ht)|refine Xy ?_|exact Xx|fail)
  refine nf 4 NI _ rfl ?_;intro K hK;simp(disch:=omega)only[Ac,↓Pc,simprocAttr,iv,eC];refine⟨rfl,(show jz Tryz.prog 115 [.ptr gi 0 0,N0 i,.tree 1 (rowsOf aA left)] (some 25) _ _ from ?_)⟩;refine qy l' ?_;rintro r xk⟨bd,id,rfl,bO⟩;refine⟨bd.len,?_⟩;have Ab:=bd _ _ eL;have Lk:=aL Ab;have Ll:=iD Ab;have eW:=(aX.trans bd).len;simp(disch:=omega)only[Ac,↓Pc,simprocAttr,eC];refine vh [] BV Iy trivial ⟨bw.fz bO (by rw[cf]) Iy,trivial⟩ rfl Iy ?_;simp(disch:=omega)only[Ac,↓Pc,simprocAttr,Ab,Lk,Ll,aW,Yl,bE,bC,bF,bK];repeat'(first|with_reducible refine cK ?_ ?_|omega)
  refine hK _ ?_;clear hK K;repeat(refine Xu ?_)
  refine Va X0 ?_;refine ak _ (i+1,xk.set ti .gone++[.arr 2 [aW q],.arr 2 (rowsOf aW (ps++[q]))],xk.length+1,ps++[q]) ⟨NQ,((aX.trans bd).set ka).app _,oH _ _ _ _ _,NQ,dU.symm⟩ NQ ?_;exact Xv @aW.eq_1
 have G3:i=m.cls.length:=Ix;rw[G3]at fK;have kg:=aX _ _ fg;have kb:=aX _ _ fb;have agZ:E.length=m.ae.length:=Ix;((repeat'(first|refine Va X0 ?_|(refine Xi ?_ ?_<;>try intro ht)|exact Xx|fail)))
 refine ar _ _ rfl ?_;clear ak ar Ql;repeat(refine Xu ?_)
 refine Va (X3 @kg @kb @gC.eq_1) ?_;refine aU (λz:Nat×List Ob×Nat×List Nm=>(⟨an [(0,.ptr gi 0 0),(1,.tree 1 (rowsOf aA left)),(5,.ref z.2.2.1 2 0 z.2.2.2.length),(34,N0 m.ae.length),(35,N0 z.1)],z.2.1⟩:St))
  (λz=>z.1<=m.ae.length/\gF os z.2.1/\z.2.1[z.2.2.1]?=some (.arr 2 (rowsOf aW z.2.2.2))/\os.length<=z.2.2.1/\z.2.2.2=(PC left S m.cls.length++PP m left T z.1).map vK)
  (λz=>m.ae.length-z.1) (0,ob,ti,ps) ⟨aT _,aX,eL,ka,by rw[fK];simp[PP]⟩ (Xv @agZ) ?_
 clear aX eL ka fK dD G3 kg kb hi aq ti ps;rintro⟨i,ob,ti,ps⟩⟨hi,aX,eL,ka,fK⟩Ql ak ar;dsimp only at hi aX eL ka fK ⊢;have dD:ps.length=m.cls.length+i:=by rw[fK,fW,bF,BK,Dz]
 by_cases aq:i<m.ae.length
 ·have l':=ag0 hm (h.dV aX) hg hf i aq;have dU:(PC left S m.cls.length++PP m left T (i+1)).map vK=ps++[sZ (jD (T.getD i default) (ik m left i))]:=by
   rw[show PP m left T (i+1)=PP m left T i++[dp (T.getD i default) (ik m left i) (0,false)] from yw _ i,<- bC,dS,<- fK,WJ];rfl
  have BV:=Ym (jD (T.getD i default) (ik m left i)) (by have:=KL (T.getD i default) (ik m left i);have:=hg.tl i aq;have:=BX (jP hm.pr _ (aG (d:=default) aq)) hm;dsimp only at *;omega);generalize jD (T.getD i default) (ik m left i)=Lj at *;generalize sZ Lj=q at *;repeat'(first|((fail_if_success (first|refine ei 10 ?_|refine ej 10 ?_));refine Xr X0 ?_;intro K hK)|(refine hK _ ?_;clear hK K)|(refine Xi ?_ ?_<;>try intro ht)|refine Xy ?_|exact Xx|fail)
  refine nf 4 NI _ rfl ?_;intro K hK;simp(disch:=omega)only[Ac,↓Pc,simprocAttr,iv,eC];refine⟨rfl,(show jz Tryz.prog 116 [.ptr gi 0 0,N0 i,.tree 1 (rowsOf aA left)] (some 42) _ _ from ?_)⟩;refine qy l' ?_;rintro r xk⟨bd,id,rfl,bO⟩;refine⟨bd.len,?_⟩;have Ab:=bd _ _ eL;have Lk:=aL Ab;have Ll:=iD Ab;have eW:=(aX.trans bd).len;simp(disch:=omega)only[Ac,↓Pc,simprocAttr,eC];refine vh [] BV Iy trivial ⟨bw.fz bO (by rw[cf]) Iy,trivial⟩ rfl Iy ?_;simp(disch:=omega)only[Ac,↓Pc,simprocAttr,Ab,Lk,Ll,aW,Yl,bE,bC,bF,bK];repeat'(first|with_reducible refine cK ?_ ?_|omega)
  refine hK _ ?_;clear hK K;repeat(refine Xu ?_)
  refine Va X0 ?_;refine ak _ (i+1,xk.set ti .gone++[.arr 2 [aW q],.arr 2 (rowsOf aW (ps++[q]))],xk.length+1,ps++[q]) ⟨NQ,((aX.trans bd).set ka).app _,oH _ _ _ _ _,NQ,dU.symm⟩ NQ ?_;exact Xv @aW.eq_1
 have G4:i=m.ae.length:=Ix;rw[G4]at fK;have kg:=aX _ _ fg;((repeat'(first|refine Va X0 ?_|(refine Xi ?_ ?_<;>try intro ht)|exact Xx|fail)))
 refine ar _ _ rfl ?_;clear ak ar Ql;repeat(refine Xu ?_)
 refine Va (X2 @kg @gC.eq_1) ?_;refine aU (λz:Nat×List Ob×Nat×List Nm=>(⟨an [(1,.tree 1 (rowsOf aA left)),(5,.ref z.2.2.1 2 0 z.2.2.2.length),(51,.tree 4 (rowsOf db m.aC)),(52,N0 m.aC.length),(53,N0 z.1)],z.2.1⟩:St))
  (λz=>z.1<=m.aC.length/\gF os z.2.1/\z.2.1[z.2.2.1]?=some (.arr 2 (rowsOf aW z.2.2.2))/\os.length<=z.2.2.1/\z.2.2.2=(PC left S m.cls.length++PP m left T m.ae.length++PK m left z.1).map vK)
  (λz=>m.aC.length-z.1) (0,ob,ti,ps) ⟨aT _,aX,eL,ka,by rw[fK];simp[PK]⟩ (Xv X0) ?_
 clear aX eL ka fK dD G4 kg hi aq ti ps;rintro⟨i,ob,ti,ps⟩⟨hi,aX,eL,ka,fK⟩Ql ak ar;dsimp only at hi aX eL ka fK ⊢;have dD:ps.length=m.cls.length+m.ae.length+i:=by rw[fK,fW,bF,bF,BK,Dz,GP]
 by_cases aq:i<m.aC.length
 ·have jM:=aG (d:=default) aq;obtain⟨q1,q2,q3,q4⟩:=Lm hm hf jM;have h1:=ad4 (m.aC.getD i default) left left.length (bb _) q1 Ix (λr hr=>by have:=hf.row hm r hr;omega) Ix q2 q3;have h2:=Ln (iM left (m.aC.getD i default));have dU:(PC left S m.cls.length++PP m left T m.ae.length++PK m left (i+1)).map vK=ps++[ez (iM left (m.aC.getD i default))]:=by
   rw[show PK m left (i+1)=PK m left i++[(iM left (m.aC.getD i default),!(decide ((m.aC.getD i default).bX=1099511627776)&&decide (0<iM left (m.aC.getD i default))))] from yw _ i,<- bC,dS,<- fK];congr 1;simp only[List.map_cons,List.map_nil,vK,ez,Bool.not_not];rw[afS hm iy jM (λx hx=>(q1 x hx).2)]
  have rJ:=aL eL;have DV:=iD eL;have nk:=(List.getElem?_eq_some_iff.1 eL).1;have eW:=aX.len;generalize iM left (m.aC.getD i default)=v at *;generalize bc:m.aC.getD i default=c at *;((repeat'(first|refine Vc (X5 @eL @rJ @DV @bc (X5 @db.eq_1 @aW.eq_1 @ez.eq_1 @Lo (X4 @bE @bC.{0} @bF.{0} @bK.{0}))) (X2 h1 h2) ?_|(refine Xi ?_ ?_<;>try intro ht)|exact Xx|fail)))
  refine ak _ (i+1,ob.set ti .gone++[.var (db c),.arr 2 [aW (ez v)],.arr 2 (rowsOf aW (ps++[ez v]))],ob.length+2,ps++[ez v]) ⟨NQ,(aX.set ka).app _,oH _ _ _ _ _,NQ,dU.symm⟩ NQ ?_;exact Xv (X3 @aW.eq_1 @ez.eq_1 @db.eq_1)
 have Lp:i=m.aC.length:=Ix;rw[Lp]at fK dD;rw[show PC left S m.cls.length++PP m left T m.ae.length++PK m left m.aC.length=xd m left (S,T) from rfl]at fK;have G5:(xd m left (S,T)).length=m.cls.length+m.ae.length+m.aC.length:=by unfold xd;rw[bF,bF,BK,Dz,GP]
 have Yn:∀ p∈xd m left (S,T),-lr<=p.1/\p.1<=lr:=λp hp=>by
  unfold xd at hp;rw[cC,cC]at hp;rcases hp with(hp|hp)|hp
  ·exact KI (by unfold lr;decide) hg.sb _ p hp
  ·exact KJ (by unfold lr;decide) hg.tb _ p hp
  ·have:=KK hm _ p hp;unfold lr;omega
 generalize xd m left (S,T)=P at *;((repeat'(first|refine Va X0 ?_|(refine Xi ?_ ?_<;>try intro ht)|exact Xx|fail)))
 refine ar _ _ rfl ?_;clear ak ar Ql;repeat(refine Xu ?_)
 refine Va @eL ?_;refine aU (λz:Nat×List Ob=>(⟨an [(10,N0 (bJ (P.take z.1) (0,false)).1),(65,.ref ti 2 0 ps.length),(66,N0 ps.length),(67,N0 z.1)],z.2⟩:St))
  (λz=>z.1<=P.length/\gF os z.2/\z.2[ti]?=some (.arr 2 (rowsOf aW ps))/\(bJ (P.take z.1) (0,false)).2=false)
  (λz=>P.length-z.1) (0,ob) ⟨aT _,aX,eL,rfl⟩ (Xv (X3 @List.take_zero.{0} @bJ.eq_1 @List.foldl_nil.{0,0})) ?_
 clear aX eL;rintro⟨j,ob⟩⟨hj,aX,eL,G6⟩Ql ak ar;dsimp only at hj aX eL G6 ⊢;have eW:=aX.len;have ame:ps.length=P.length:=by rw[fK,fW]
 by_cases fe:j<P.length
 ·have iA:=eZ fe;have eO:=BJ (P.take j) (P.getD j default) (0,false);rw[<- iA,G6,Bool.false_or]at eO;have zx:ps.getD j default=vK (P.getD j default):=by rw[fK,iX _ _ _ fe]
  have kz:=yx (P.take j) (0,false) (λp hp=>Yn p (List.mem_of_mem_take hp));rw[e8,wA hj]at kz;have Yo:=Yn _ (aG (d:=default) fe);have ag1:=aG (l:=P) (d:=default) fe;unfold lr at kz Yo;dsimp only at kz;generalize (bJ (P.take j) (0,false)).1=s at *;generalize P.getD j default=q at *;obtain⟨v,b⟩:=q;unfold vK at zx;dsimp only at zx eO Yo;have rJ:=aL eL;cases b
  ·have xl:(bJ P (0,false)).2=true:=(WL P 0).2 ⟨_,ag1,rfl⟩;((repeat'(first|refine Va (X5 @eL @rJ @zx @aW.eq_1 (X2 @bE @mK)) ?_|(refine Xi ?_ ?_<;>try intro ht)|exact Xx|fail)))
   repeat(refine Xu ?_)
   ((skip))
   unfold eH;simp only[dx,dv];simp(disch:=omega)only[Ac,↓Pc,simprocAttr];rw[if_pos xl];exact⟨_,_,⟨rfl,by rw[bF];omega⟩,ed rfl (by rw[bF];omega) rfl⟩
  ·((repeat'(first|refine Va (X5 @eL @rJ @zx @aW.eq_1 (X2 @bE @Bool.not_true)) ?_|(refine Xi ?_ ?_<;>try intro ht)|exact Xx|fail)))
   refine ak _ (j+1,_) ⟨NQ,aX.app [.var (aW (v,false))],rJ _,by rw[eO];rfl⟩ NQ ?_;simp only[eO];exact Xv @aW.eq_1
 ·rw[c8 Ix]at G6;have ag2:¬ (bJ P (0,false)).2=true:=by rw[G6];simp
  ((repeat'(first|refine Va (c8 (show P.length<=j by omega)) ?_|(refine Xi ?_ ?_<;>try intro ht)|exact Xx|fail)))
  refine ar _ _ rfl ?_;clear ak ar Ql;repeat(refine Xu ?_)
  refine Vb X0 ?_;unfold eH;simp only[dx,dv];simp(disch:=omega)only[Ac,↓Pc,simprocAttr];rw[if_neg ag2];exact⟨_,ob,⟨rfl,eW⟩,ed rfl eW rfl⟩
def LG.mono{m:ah}{B C:Int}{g:Lg}(h:LG m B g)(hc:B<=C):LG m C g:=⟨h.s,h.t,h.sl,h.tl,λr hr=>(h.sb r hr).mono hc,λr hr=>(h.tb r hr).mono hc⟩
def XZ(m:ah)(left:List (List Bool))(l:List Mv)(hm:VM m)(hf:df m left)(hl:l.length<9223372036854775808):Holds Tryz.prog 42 [.agg (ao m),.tree 1 (rowsOf aA left),.tree 4 (rowsOf aO l)] [] (.bu [N0 (iO m left l).1,N0 (iO m left l).2]) []:=by
 generalize au:iO m left l=res;unfold iO at au;refine Holds.aK 33 0 [.tmp 6,.tmp 7] Tryz.func42 ?_;by_cases hlen:2000<l.length
 ·rw[if_pos hlen]at au;subst au;((repeat'(first|refine Vb X0 ?_|(refine Xi ?_ ?_<;>try intro ht)|exact Xx|fail)))
  all_goals exact aS rfl rfl
 rw[if_neg hlen]at au;repeat'(first|((fail_if_success (first|refine ei 3 ?_|refine ej 3 ?_));refine Xr X0 ?_;intro K hK)|(refine hK _ ?_;clear hK K)|(refine Xi ?_ ?_<;>try intro ht)|refine XY ?_|exact Xx|fail)
 refine nf 1 NI _ rfl ?_;intro K hK;simp(disch:=omega)only[Ac,↓Pc,simprocAttr,iv,eC];refine⟨rfl,(show jz Tryz.prog 78 [.agg (ao m)] (some 15) _ _ from ?_)⟩;refine qy (ag3 hm [.var (ao m)]) ?_;rintro r os⟨gi,ai,bi,D,E,rfl,iG,aX⟩;refine⟨aX.len,?_⟩;have f0:=aX 0 _ rfl;simp(disch:=omega)only[Ac,↓Pc,simprocAttr,eC];refine hK _ ?_;clear hK K;repeat(refine Xu ?_)
 refine Va X0 ?_;refine aU (λz:Nat×List Ob=>(⟨an [(1,.tree 1 (rowsOf aA left)),(8,.ptr gi 0 0),(16,.tree 4 (rowsOf aO l)),(17,N0 l.length),(18,N0 z.1)],z.2⟩:St))
  (λz=>z.1<=l.length/\LO aW (GB m gi ai bi D E) D E (iF m (l.take z.1) (S0 m,T0 m)).1 (iF m (l.take z.1) (S0 m,T0 m)).2 z.2/\∀ x∈l.take z.1,iC m x=true)
  (λz=>l.length-z.1) (0,os) ⟨aT _,iG,Iy⟩ (Xv X0) ?_
 clear iG aX f0;rintro⟨i,ob⟩⟨hi,iG,gf⟩Ql ak ar;dsimp only at hi iG gf ⊢;have kC:=(GO hm (l.take i) gf);rw[e8,wA hi]at kC;by_cases aq:i<l.length
 ·have e9:iF m (l.take (i+1)) (S0 m,T0 m)=jE m (l.getD i default) (iF m (l.take i) (S0 m,T0 m)):=by rw[eZ aq,WC]
  have iA:=eZ aq;have cH:=aG (d:=default) aq;generalize iF m (l.take i) (S0 m,T0 m)=g at *;generalize cW:l.getD i default=x at *;have hval:=ag4 hm (iG.app [.var (aO x)]) kC x;have amf:ob.length<(ob++[Ob.var (aO x)]).length:=Iy;have hvx:(ob++[Ob.var (aO x)])[ob.length]?=some (.var (aO x)):=kq _ _ _;repeat'(first|((fail_if_success (first|refine ei 7 ?_|refine ej 7 ?_));refine Xr (X3 @cW @aO.eq_1 @bE) ?_;intro K hK)|(refine hK _ ?_;clear hK K)|(refine Xi ?_ ?_<;>try intro ht)|refine Xy ?_|refine Xd ?_ ?_|exact Xx|fail)
  refine nf 2 NI _ rfl ?_;intro K hK;simp(disch:=omega)only[Ac,↓Pc,simprocAttr,iv,eC,bE];refine⟨rfl,(show jz Tryz.prog 79 [.ptr gi 0 0,.agg (aO x)] (some 24) _ _ from ?_)⟩;refine qy hval ?_;rintro r xk⟨rfl,lx,rfl⟩;refine⟨Iy,?_⟩;simp(disch:=omega)only[Ac,↓Pc,simprocAttr,eC];refine hK _ ?_;clear hK K;repeat(refine Xu ?_)
  by_cases hx:iC m x=true
  ·rw[hx];have qG:=ag6 hm (iG.app (.var (aO x)::lx)) (B:=1099511627776+268435456*25*i) Ix kC x hx;have evx:=aL hvx;repeat'(first|(refine Xi ?_ ?_<;>try intro ht)|refine Xy ?_|exact Xx|fail)
   refine nf 2 NI _ rfl ?_;intro K hK;simp(disch:=omega)only[Ac,↓Pc,simprocAttr,iv,eC,bE,aO,bC];refine⟨rfl,(show jz Tryz.prog 80 [.ptr gi 0 0,.agg (aO x)] (some 28) _ _ from ?_)⟩;refine qy qG ?_;rintro r kd⟨rfl,l9,ov⟩;refine⟨ov,?_⟩;simp(disch:=omega)only[Ac,↓Pc,simprocAttr,eC];refine hK _ ?_;clear hK K;repeat(refine Xu ?_)
   refine Va X0 ?_;refine ak _ (i+1,kd) ⟨NQ,by rw[e9];exact l9,λy hy=>by
    dsimp only at hy;rw[iA]at hy;rcases cC.1 hy with hy|hy
    ·exact gf y hy
    ·simp only[cU]at hy;subst hy;exact hx⟩ NQ ?_
   exact Xv X0
  ·have bS:iC m x=false:=by simpa using hx
   rw[bS];rw[if_pos (by rw[List.all_eq_false];exact⟨x,cH,hx⟩)]at au;((repeat'(first|refine Va @mK ?_|(refine Xi ?_ ?_<;>try intro ht)|exact Xx|fail)))
   repeat(refine Xu ?_)
   refine Vb X0 ?_;exact aS rfl (by rw[<- au])
 ·rw[c8 Ix]at iG kC gf;rw[if_neg (by rw[Bool.not_eq_false];exact List.all_eq_true.2 gf)]at au;generalize iF m l (S0 m,T0 m)=g at *;obtain⟨g1,g2⟩:=g;dsimp only at iG;have hval:=agX hm iG (kC.mono (by unfold lr;omega)) hf;((repeat'(first|refine Va X0 ?_|(refine Xi ?_ ?_<;>try intro ht)|exact Xx|fail)))
  refine ar _ _ rfl ?_;clear ak ar Ql;repeat(refine Xu ?_)
  refine Xy ?_;refine nf 2 NI _ rfl ?_;intro K hK;simp(disch:=omega)only[Ac,↓Pc,simprocAttr,iv,eC];refine⟨rfl,(show jz Tryz.prog 81 [.ptr gi 0 0,.tree 1 (rowsOf aA left)] (some 32) _ _ from ?_)⟩;refine qy hval ?_;rintro r kd⟨rfl,ov⟩;refine⟨ov,?_⟩;simp(disch:=omega)only[Ac,↓Pc,simprocAttr,eC];refine hK _ ?_;clear hK K;repeat(refine Xu ?_)
  subst au;refine Vb X0 ?_;exact aS rfl rfl
def KX(m:ah)(left:List (List Bool))(l:List Mv)(hm:MB m)(hb:BB left)(hl:l.length<9223372036854775808):Holds Tryz.prog 17 [.agg (ao m),.tree 1 (rowsOf aA left),.tree 4 (rowsOf aO l)] [] (.bu [N0 (bQ m left l).1,N0 (bQ m left l).2]) []:=by
 have h1:=ag7 m left hm hb;generalize au:bQ m left l=res;unfold bQ at au;refine Holds.aK 21 0 [.tmp 6,.tmp 7] Tryz.func17 ?_;by_cases hs:kn m left=0
 ·obtain⟨hv,hf⟩:=GF hs;rw[if_neg (by rw[hs];simp)]at au;rw[hs]at h1;have h2:=XZ m left l hv hf hl;generalize iO m left l=v at *;subst au;((try revert hK K);(repeat'(first|refine Vd @bne_self_eq_false.{0} (X2 h1 h2) ?_|(refine V2 @bne_self_eq_false.{0} ?_ ?_<;>try with_reducible intro hb)|(refine Xi ?_ ?_<;>try intro ht)|refine VD ?_ ?_|exact Xx|fail))<;>try with_reducible intro K hK)
  all_goals try(exfalso;omega)
  all_goals exact aS rfl rfl
 ·rw[if_pos hs]at au;generalize kn m left=e at *;subst au;((try revert hK K);(repeat'(first|refine Vd X0 h1 ?_|(refine V2 X0 ?_ ?_<;>try with_reducible intro hb)|(refine Xi ?_ ?_<;>try intro ht)|refine VD ?_ ?_|exact Xx|fail))<;>try with_reducible intro K hK)
  all_goals try(exfalso;omega)
  all_goals exact aS rfl rfl
def mB(b:Bool):List AV:=[.lit (.bool b)]
instance:Row mB 1:=⟨λ_=>rfl,λb v hv=>by
 simp only[mB,cU]at hv;subst hv;exact .inl ⟨_,rfl,rfl⟩⟩
def ag8(xs:List Bool):rowsOf mB xs=bm xs:=by simp[rowsOf,mB,bm]
def rK(n i:Nat)(s:Bool):List Bool:=aJ i s++aJ (n-i) false
def ag9{n i j:Nat}{s:Bool}(h:j<=i):(rowsOf mB (rK n i s)).take j=rowsOf mB (aJ j s):=by
 unfold rK rowsOf;rw[<- E2,List.take_append_of_le_length NS,List.take_replicate,wA h]
def aha{n i j:Nat}{s:Bool}(h:i+j<=n)(hj:j<=i):rowsOf mB (aJ i s)++iv j (rowsOf mB (aJ i s))++eC (i+j) (rowsOf mB (rK n i s))=rowsOf mB (rK n (i+j) s):=by
 unfold rK rowsOf;rw[<- E2,<- List.map_drop,<- dS,<- dS,List.take_replicate,wA hj,List.drop_append,List.drop_eq_nil_of_le Iy,List.drop_replicate,List.nil_append,List.replicate_append_replicate];congr 3;simp;omega
def ahb{n i:Nat}{s:Bool}(h:i<=n):(rK n i s).length=n:=by simp[rK];omega
def ahc(s:Bool)(n:Nat)(hn:n<=1048576):Holds Tryz.prog 84 [.tree 1 [mB s],N0 (n:Nat)] [] (.ref 0 1 0 n) [.arr 1 (rowsOf mB (aJ n s))]:=by
 have hm:=ahd n Ix;refine Holds.aK 48 0 [.tmp 4] Tryz.func84 ?_;((repeat'(first|refine Vc (X5 @G7 @G8 @unI @unU (X4 @Yp @ahg @Option.isSome_some.{0} @Qx)) hm ?_|(refine Xi ?_ ?_<;>try intro ht)|exact Xx|fail)))
 have e0:iv (min 1 n) [mB s]++eC (min 1 n) (aJ n [AV.lit (Value.bool false)])=rowsOf mB (rK n (min 1 n) s):=by
  unfold rK rowsOf;rw[List.drop_replicate];rcases Nat.eq_zero_or_pos n with h|h
  ·subst h;rfl
  ·rw[wA h,dS,IF,IF];rfl
 have e0':iv (min 1 n) [mB s]++eC (min 1 n) (bm (aJ n false))=rowsOf mB (rK n (min 1 n) s):=by
  rw[<- e0];simp[bm]
 first|rw[e0]|rw[e0']
 refine aU (λi:Nat=>(⟨an [(7,.ref 0 1 0 n),(8,N0 i)],[.arr 1 (rowsOf mB (rK n i s))]⟩:St)) (λi=>i<=n/\(i=0->n=0)) (λi=>n-i) (min 1 n) ⟨Ix,Ix⟩ (Xv X0) ?_;rintro i⟨hi,hr⟩Ql ak ar;by_cases aq:i<n
 ·have e1:i+min i (n-i)<=n:=Ix;have hl:=ahb (s:=s) hi;have DW:=λn s=>ag9 (n:=n) (s:=s) (bb i);((repeat'(first|refine Va (X5 @Option.map_none.{0,0} @List.drop_zero.{0} @DW @cf (X3 @List.length_replicate.{0} @JW @hl)) ?_|(refine Xi ?_ ?_<;>try intro ht)|exact Xx|fail)))
  rw[aha e1 (Nat.min_le_left _ _)];exact ak _ (i+min i (n-i)) ⟨Ix,Ix⟩ Ix (Xv X0)
 ·obtain rfl:i=n:=Ix;((repeat'(first|refine Va X0 ?_|(refine Xi ?_ ?_<;>try intro ht)|exact Xx|fail)))
  refine ar _ _ rfl ?_;clear ak ar Ql;repeat(refine Xu ?_)
  refine Vb X0 ?_;have e2:rK i i s=aJ i s:=by simp[rK]
  rw[e2];exact Xw false [0] X0
def dP(m:ah):List (List Bool):=m.cls.map λl=>aJ l.length true
def eS(m:ah):List (List Bool):=if jO m=0 then dP m else []
def DX(xs:List (List Bool))(b:List Bool):rowsOf aA xs++[[AV.tree 1 (bm b)]]=rowsOf aA (xs++[b]):=by simp[rowsOf,aA]
def Ye(m:ah)(hm:MB m):Holds Tryz.prog 51 [.agg (ao m)] [] (.tree 1 (rowsOf aA (eS m))) []:=by
 have h1:=Ka m hm;have sR:=hm.cls;generalize au:eS m=res;unfold eS at au;refine Holds.aK 25 0 [.tmp 2] Tryz.func51 ?_;by_cases hv:jO m=0;rotate_left
 ·rw[if_neg hv]at au;rw[<- au];generalize jO m=e at *;((repeat'(first|refine Vd X0 h1 ?_|(refine Xi ?_ ?_<;>try intro ht)|exact Xx|fail)))
  exact j1 [] true NI trivial NI NI bw.nil
 rw[if_pos hv]at au;rw[hv]at h1;have cB:=rA.1 hv;have qE:=cB.cls;((repeat'(first|refine Vd @bne_self_eq_false.{0} h1 ?_|(refine Xi ?_ ?_<;>try intro ht)|exact Xx|fail)))
 refine aU (λz:Nat×List (List Bool)=>(⟨an [(1,.ptr 0 0 0),(3,.ref 1 1 0 z.2.length),(10,.tree 1 (rowsOf aQ m.cls)),(11,N0 m.cls.length),(12,N0 z.1)],[.var (ao m),.arr 1 (rowsOf aA z.2)]⟩:St))
  (λz=>z.1<=m.cls.length/\z.2=(dP m).take z.1) (λz=>m.cls.length-z.1) (0,[]) ⟨aT _,rfl⟩ ?_ ?_
 ·refine aF.trans (aF.nil 3 1 (by simp only[Kc,simprocAttr]) NI) ?_;exact Xv X0
 rintro⟨i,xs⟩⟨hi,dq⟩Ql ak ar;dsimp only at hi dq ⊢;have kM:(dP m).length=m.cls.length:=by simp[dP]
 by_cases aq:i<m.cls.length
 ·have qF:xs.length=i:=by rw[dq,e8];omega
  have e9:(dP m).take (i+1)=xs++[aJ (m.cls.getD i default).length true]:=by
   rw[eZ Ix,<- dq];unfold dP;rw[iX _ _ _ aq]
  have uH:=cB.opt _ (aG (d:=default) aq);generalize bc:m.cls.getD i default=c at *;have Lr:=ahc true c.length Ix;repeat'(first|((fail_if_success (first|refine ei 7 ?_|refine ej 7 ?_));refine Xr (X2 @bc @aQ.eq_1) ?_;intro K hK)|(refine hK _ ?_;clear hK K)|(refine Xi ?_ ?_<;>try intro ht)|refine Xy ?_|refine Xd ?_ ?_|exact Xx|fail)
  refine Kl 5 NI ?_;intro K K1 hK yG;simp(disch:=omega)only[Ac,↓Pc,simprocAttr,iv];refine vh [] Lr NI trivial ⟨bw.fz (rows:=rowsOf mB [true]) rfl rfl Iy,.pure rfl,trivial⟩ rfl (by simp[CB,mB,rowsOf,flat]) ?_;simp(disch:=omega)only[Ac,↓Pc,simprocAttr];refine yG _ ⟨an [(1,.ptr 0 0 0),(3,.ref 1 1 0 xs.length),(10,.tree 1 (rowsOf aQ m.cls)),(11,N0 m.cls.length),(12,N0 i),(16,.ref 1 1 0 xs.length),(20,.tree 1 (bm (aJ c.length true)))],[.var (ao m),.arr 1 (rowsOf aA xs)]⟩ ?_ ?_
  ·rw[<- ag8];exact Xs true [0,1] X0
  clear yG K1;simp(disch:=omega)only[Ac,↓Pc,simprocAttr,eC,DX];repeat'(first|with_reducible refine cK ?_ ?_|omega)
  refine hK _ ?_;clear hK K;repeat(refine Xu ?_)
  refine Va X0 ?_;refine ak _ (i+1,xs++[aJ c.length true]) ⟨NQ,e9.symm⟩ NQ ?_;exact Xs false [0,3] X0
 ·rw[c8 Ix]at dq;((repeat'(first|refine Va X0 ?_|(refine Xi ?_ ?_<;>try intro ht)|exact Xx|fail)))
  refine ar _ _ rfl ?_;clear ak ar Ql;repeat(refine Xu ?_)
  refine Vb X0 ?_;rw[dq,au];exact Xw true [] X0
end T

