import Derived.Test.YtjadfapldkfbpaaGreatX23
import Derived.Test.YtjadfapldkfbpaaGreatX25
set_option linter.all false
set_option maxHeartbeats 0
set_option maxRecDepth 20000
open Nat renaming zero_le→aF,le_refl→aR,min_eq_left→vO,eq_zero_or_pos→n7,strongRecOn→BS
open List renaming length_map→eO,map_append→gG,take→mS,drop→kC,append_assoc→cY,length_append→bQ,length_set→bw,map_cons→dK,mem_append→cz,length_take→fy,take_of_length_le→ej,mem_singleton→ec,all_eq_true→gV,replicate→bG,map_take→xy,length_replicate→ri,mem_cons→cu,mem_map→cC,mem_reverse→vX,flatMap_cons→sE,length→rq,getElem?_map→b6,getElem?_eq_getElem→bT,getD_eq_getElem?_getD→aG,getElem?_eq_none→ei,count_cons→DU,count_append→tv,count_eq_zero→P4,mem_flatMap→BZ
open And renaming intro→cI
open Bool renaming not_false→jP
open Option renaming map_some→fE
open Go Go.Am Go.Proofs
namespace T
def Z6(xs:List Nm)(q:Nm):rowsOf bq xs++[[AV.lit (.int .i64 q.1),.lit (.bool q.2)]]=rowsOf bq (xs++[q]):=by simp[rowsOf,bq]
def aiI{m:ah}(hm:VM m){gi ai bi:Nat}{D E:List (Nat×Nat)}{S T:List (List Nm)}{os:List Ob}(h:LO bq (GB m gi ai bi D E) D E S T os)(hg:LG m mH (S,T)){left:List (List Bool)}(hf:fD m left):
  fG Tryz.prog 112 [.ptr gi 0 0,.tree 1 (rowsOf aT left)] os λr ob=>r=aaa (r8 m left (S,T))/\os.length<=ob.length:=by
 obtain⟨fg,fa,fb⟩:=A6 h;have eg:=bf fg;have ea:=bf fa;have eb:=bf fb;have hD:=h.rD.len;have hE:=h.rE.len;have jk:S.length=m.cls.length:=hg.s;have ht1:T.length=m.ae.length:=hg.t;have yp:=hm.cls;have s7:=hm.ae;have w0:=hm.ax;have fK:=hf.1;rw[ahj];refine fG.aC 80 os.length [.tmp 4] Tryz.func112 ?_;refine Vb (X3 @fg @fa @gC.eq_1) ?_;have Bo:D.length=m.cls.length:=G3;refine aO (λz:Nat×List Ob×Nat×List Nm=>(⟨au [(0,.ptr gi 0 0),(1,.tree 1 (rowsOf aT left)),(5,.ref z.2.2.1 2 0 z.2.2.2.length),(17,aaa m.cls.length),(18,aaa z.1)],z.2.1⟩:St))
  (λz=>z.1<=m.cls.length/\iL os z.2.1/\z.2.1[z.2.2.1]?=some (.arr 2 (rowsOf bq z.2.2.2))/\os.length<=z.2.2.1/\z.2.2.2=(PC left S z.1).map wH)
  (λz=>m.cls.length-z.1) (0,os++[.arr 2 []],os.length,[]) ⟨aF _,(iL.refl _).app _,kj _ _ _,aR _,rfl⟩ ?_ ?_
 ·refine ay.trans (ay.nil 5 2 (by simp only[Kc,simprocAttr]) Kq) ?_;exact Xv @Bo
 rintro⟨i,ob,ti,ps⟩⟨hi,bS,fS,lC,gF⟩Ql ak ar;dsimp only at hi bS fS lC gF ⊢;have dh:ps.length=i:=by rw[gF,eO,CT]
 by_cases hi':i<m.cls.length
 ·have l5:=aiJ hm (h.aH bS) hg hf i hi';have dX:(PC left S (i+1)).map wH=ps++[uf (ki (S.getD i default) (left.getD i default))]:=by
   rw[show PC left S (i+1)=PC left S i++[eV (S.getD i default) (left.getD i default) (0,false)] from zy _ i,gG,<- gF,YX];rfl
  have Da:=Z7 (ki (S.getD i default) (left.getD i default)) (by have:=M9 (S.getD i default) (left.getD i default);have:=hg.sl i hi';have:=hm.opt _ (aB (d:=default) hi');dsimp only at *;omega);generalize ki (S.getD i default) (left.getD i default)=NI at *;generalize uf NI=q at *;repeat'(first|((fail_if_success (first|refine dE 5 ?_|refine dF 5 ?_));refine Xr X0 ?_;intro K hK)|(refine hK _ ?_;clear hK K)|(refine Xi ?_ ?_<;>try intro ht)|refine Xy ?_|exact Xx|fail)
  refine sR 4 Kq _ rfl ?_;intro K hK;simp(disch:=omega)only[Ac,↓Pc,simprocAttr,mS,kC];refine⟨rfl,(show nF Tryz.prog 148 [.ptr gi 0 0,aaa i,.tree 1 (rowsOf aT left)] (some 25) _ _ from ?_)⟩;refine wA l5 ?_;rintro r Db⟨bW,id,rfl,cT⟩;refine⟨bW.len,?_⟩;have Bp:=bW _ _ fS;have NJ:=bf Bp;have NK:=gz Bp;have cF:=(bS.trans bW).len;simp(disch:=omega)only[Ac,↓Pc,simprocAttr,kC];refine pI [] Da G9 trivial ⟨aI.fz cT (by rw[bX]) G9,trivial⟩ rfl G9 ?_;simp(disch:=omega)only[Ac,↓Pc,simprocAttr,Bp,NJ,NK,bq,Z6,cD,cY,bQ,bw];repeat'(first|with_reducible refine cI ?_ ?_|omega)
  refine hK _ ?_;clear hK K;repeat(refine Xu ?_)
  refine Va X0 ?_;refine ak _ (i+1,Db.set ti .gone++[.arr 2 [bq q],.arr 2 (rowsOf bq (ps++[q]))],Db.length+1,ps++[q]) ⟨Kw,((bS.trans bW).set lC).app _,yb _ _ _ _ _,Kw,dX.symm⟩ Kw ?_;exact Xv @bq.eq_1
 have Jl:i=m.cls.length:=G3;rw[Jl]at gF;have kg:=bS _ _ fg;have kb:=bS _ _ fb;have aiK:E.length=m.ae.length:=G3;((repeat'(first|refine Va X0 ?_|(refine Xi ?_ ?_<;>try intro ht)|exact Xx|fail)))
 refine ar _ _ rfl ?_;clear ak ar Ql;repeat(refine Xu ?_)
 refine Va (X3 @kg @kb @gC.eq_1) ?_;refine aO (λz:Nat×List Ob×Nat×List Nm=>(⟨au [(0,.ptr gi 0 0),(1,.tree 1 (rowsOf aT left)),(5,.ref z.2.2.1 2 0 z.2.2.2.length),(34,aaa m.ae.length),(35,aaa z.1)],z.2.1⟩:St))
  (λz=>z.1<=m.ae.length/\iL os z.2.1/\z.2.1[z.2.2.1]?=some (.arr 2 (rowsOf bq z.2.2.2))/\os.length<=z.2.2.1/\z.2.2.2=(PC left S m.cls.length++PP m left T z.1).map wH)
  (λz=>m.ae.length-z.1) (0,ob,ti,ps) ⟨aF _,bS,fS,lC,by rw[gF];simp[PP]⟩ (Xv @aiK) ?_
 clear bS fS lC gF dh Jl kg kb hi hi' ti ps;rintro⟨i,ob,ti,ps⟩⟨hi,bS,fS,lC,gF⟩Ql ak ar;dsimp only at hi bS fS lC gF ⊢;have dh:ps.length=m.cls.length+i:=by rw[gF,eO,bQ,CT,Fq]
 by_cases hi':i<m.ae.length
 ·have l5:=aiL hm (h.aH bS) hg hf i hi';have dX:(PC left S m.cls.length++PP m left T (i+1)).map wH=ps++[uf (ki (T.getD i default) (jK m left i))]:=by
   rw[show PP m left T (i+1)=PP m left T i++[eV (T.getD i default) (jK m left i) (0,false)] from zy _ i,<- cY,gG,<- gF,YX];rfl
  have Da:=Z7 (ki (T.getD i default) (jK m left i)) (by have:=M9 (T.getD i default) (jK m left i);have:=hg.tl i hi';have:=Dc (jy hm.pr _ (aB (d:=default) hi')) hm;dsimp only at *;omega);generalize ki (T.getD i default) (jK m left i)=NI at *;generalize uf NI=q at *;repeat'(first|((fail_if_success (first|refine dE 10 ?_|refine dF 10 ?_));refine Xr X0 ?_;intro K hK)|(refine hK _ ?_;clear hK K)|(refine Xi ?_ ?_<;>try intro ht)|refine Xy ?_|exact Xx|fail)
  refine sR 4 Kq _ rfl ?_;intro K hK;simp(disch:=omega)only[Ac,↓Pc,simprocAttr,mS,kC];refine⟨rfl,(show nF Tryz.prog 149 [.ptr gi 0 0,aaa i,.tree 1 (rowsOf aT left)] (some 42) _ _ from ?_)⟩;refine wA l5 ?_;rintro r Db⟨bW,id,rfl,cT⟩;refine⟨bW.len,?_⟩;have Bp:=bW _ _ fS;have NJ:=bf Bp;have NK:=gz Bp;have cF:=(bS.trans bW).len;simp(disch:=omega)only[Ac,↓Pc,simprocAttr,kC];refine pI [] Da G9 trivial ⟨aI.fz cT (by rw[bX]) G9,trivial⟩ rfl G9 ?_;simp(disch:=omega)only[Ac,↓Pc,simprocAttr,Bp,NJ,NK,bq,Z6,cD,cY,bQ,bw];repeat'(first|with_reducible refine cI ?_ ?_|omega)
  refine hK _ ?_;clear hK K;repeat(refine Xu ?_)
  refine Va X0 ?_;refine ak _ (i+1,Db.set ti .gone++[.arr 2 [bq q],.arr 2 (rowsOf bq (ps++[q]))],Db.length+1,ps++[q]) ⟨Kw,((bS.trans bW).set lC).app _,yb _ _ _ _ _,Kw,dX.symm⟩ Kw ?_;exact Xv @bq.eq_1
 have Jm:i=m.ae.length:=G3;rw[Jm]at gF;have kg:=bS _ _ fg;((repeat'(first|refine Va X0 ?_|(refine Xi ?_ ?_<;>try intro ht)|exact Xx|fail)))
 refine ar _ _ rfl ?_;clear ak ar Ql;repeat(refine Xu ?_)
 refine Va (X2 @kg @gC.eq_1) ?_;refine aO (λz:Nat×List Ob×Nat×List Nm=>(⟨au [(1,.tree 1 (rowsOf aT left)),(5,.ref z.2.2.1 2 0 z.2.2.2.length),(51,.tree 4 (rowsOf aV m.ax)),(52,aaa m.ax.length),(53,aaa z.1)],z.2.1⟩:St))
  (λz=>z.1<=m.ax.length/\iL os z.2.1/\z.2.1[z.2.2.1]?=some (.arr 2 (rowsOf bq z.2.2.2))/\os.length<=z.2.2.1/\z.2.2.2=(PC left S m.cls.length++PP m left T m.ae.length++PK m left z.1).map wH)
  (λz=>m.ax.length-z.1) (0,ob,ti,ps) ⟨aF _,bS,fS,lC,by rw[gF];simp[PK]⟩ (Xv X0) ?_
 clear bS fS lC gF dh Jm kg hi hi' ti ps;rintro⟨i,ob,ti,ps⟩⟨hi,bS,fS,lC,gF⟩Ql ak ar;dsimp only at hi bS fS lC gF ⊢;have dh:ps.length=m.cls.length+m.ae.length+i:=by rw[gF,eO,bQ,bQ,CT,Fq,I3]
 by_cases hi':i<m.ax.length
 ·have eT:=aB (d:=default) hi';obtain⟨q1,q2,q3,q4⟩:=NL hm hf eT;have h1:=agA (m.ax.getD i default) left left.length (aR _) q1 G3 (λr hr=>by have:=hf.row hm r hr;omega) G3 q2 q3;have h2:=NM (jZ left (m.ax.getD i default));have dX:(PC left S m.cls.length++PP m left T m.ae.length++PK m left (i+1)).map wH=ps++[fL (jZ left (m.ax.getD i default))]:=by
   rw[show PK m left (i+1)=PK m left i++[(jZ left (m.ax.getD i default),!(decide ((m.ax.getD i default).b8=1099511627776)&&decide (0<jZ left (m.ax.getD i default))))] from zy _ i,<- cY,gG,<- gF];congr 1;simp only[dK,List.map_nil,wH,fL,Bool.not_not];rw[ahk hm fK eT (λx hx=>(q1 x hx).2)]
  have ta:=bf fS;have F2:=gz fS;have mJ:=(List.getElem?_eq_some_iff.1 fS).1;have cF:=bS.len;generalize jZ left (m.ax.getD i default)=v at *;generalize aM:m.ax.getD i default=c at *;((repeat'(first|refine Vc (X5 @fS @ta @F2 @aM (X5 @aV.eq_1 @bq.eq_1 @fL.eq_1 @NN (X4 @cD @cY.{0} @bQ.{0} @bw.{0}))) (X2 h1 h2) ?_|(refine Xi ?_ ?_<;>try intro ht)|exact Xx|fail)))
  refine ak _ (i+1,ob.set ti .gone++[.var (aV c),.arr 2 [bq (fL v)],.arr 2 (rowsOf bq (ps++[fL v]))],ob.length+2,ps++[fL v]) ⟨Kw,(bS.set lC).app _,yb _ _ _ _ _,Kw,dX.symm⟩ Kw ?_;exact Xv (X3 @bq.eq_1 @fL.eq_1 @aV.eq_1)
 have NO:i=m.ax.length:=G3;rw[NO]at gF dh;rw[show PC left S m.cls.length++PP m left T m.ae.length++PK m left m.ax.length=ye m left (S,T) from rfl]at gF;have Jn:(ye m left (S,T)).length=m.cls.length+m.ae.length+m.ax.length:=by unfold ye;rw[bQ,bQ,CT,Fq,I3]
 have Z8:∀ p∈ye m left (S,T),-mH<=p.1/\p.1<=mH:=λp hp=>by
  unfold ye at hp;rw[cz,cz]at hp;rcases hp with(hp|hp)|hp
  ·exact M5 (by unfold mH;decide) hg.sb _ p hp
  ·exact M6 (by unfold mH;decide) hg.tb _ p hp
  ·have:=M7 hm _ p hp;unfold mH;omega
 generalize ye m left (S,T)=P at *;((repeat'(first|refine Va X0 ?_|(refine Xi ?_ ?_<;>try intro ht)|exact Xx|fail)))
 refine ar _ _ rfl ?_;clear ak ar Ql;repeat(refine Xu ?_)
 refine Va @fS ?_;refine aO (λz:Nat×List Ob=>(⟨au [(10,aaa (ca (P.take z.1) (0,false)).1),(65,.ref ti 2 0 ps.length),(66,aaa ps.length),(67,aaa z.1)],z.2⟩:St))
  (λz=>z.1<=P.length/\iL os z.2/\z.2[ti]?=some (.arr 2 (rowsOf bq ps))/\(ca (P.take z.1) (0,false)).2=false)
  (λz=>P.length-z.1) (0,ob) ⟨aF _,bS,fS,rfl⟩ (Xv (X3 @List.take_zero.{0} @ca.eq_1 @List.foldl_nil.{0,0})) ?_
 clear bS fS;rintro⟨j,ob⟩⟨hj,bS,fS,Jo⟩Ql ak ar;dsimp only at hj bS fS Jo ⊢;have cF:=bS.len;have an8:ps.length=P.length:=by rw[gF,eO]
 by_cases dx:j<P.length
 ·have jg:=eJ dx;have oV:=CS (P.take j) (P.getD j default) (0,false);rw[<- jg,Jo,Bool.false_or]at oV;have Ey:ps.getD j default=wH (P.getD j default):=by rw[gF,kU _ _ _ dx]
  have jN:=zz (P.take j) (0,false) (λp hp=>Z8 p (List.mem_of_mem_take hp));rw[fy,vO hj]at jN;have Z9:=Z8 _ (aB (d:=default) dx);have aiM:=aB (l:=P) (d:=default) dx;unfold mH at jN Z9;dsimp only at jN;generalize (ca (P.take j) (0,false)).1=s at *;generalize P.getD j default=q at *;obtain⟨v,b⟩:=q;unfold wH at Ey;dsimp only at Ey oV Z9;have ta:=bf fS;cases b
  ·have yq:(ca P (0,false)).2=true:=(YZ P 0).2 ⟨_,aiM,rfl⟩;((repeat'(first|refine Va (X5 @fS @ta @Ey @bq.eq_1 (X2 @cD @jP)) ?_|(refine Xi ?_ ?_<;>try intro ht)|exact Xx|fail)))
   repeat(refine Xu ?_)
   ((skip))
   unfold gR;simp only[eQ,eG];simp(disch:=omega)only[Ac,↓Pc,simprocAttr];rw[if_pos yq];exact⟨_,_,⟨rfl,by rw[bQ];omega⟩,ey rfl (by rw[bQ];omega) rfl⟩
  ·((repeat'(first|refine Va (X5 @fS @ta @Ey @bq.eq_1 (X2 @cD @Bool.not_true)) ?_|(refine Xi ?_ ?_<;>try intro ht)|exact Xx|fail)))
   refine ak _ (j+1,_) ⟨Kw,bS.app [.var (bq (v,false))],ta _,by rw[oV];rfl⟩ Kw ?_;simp only[oV];exact Xv @bq.eq_1
 ·rw[ej G3]at Jo;have aiN:¬ (ca P (0,false)).2=true:=by rw[Jo];simp
  ((repeat'(first|refine Va (ej (show P.length<=j by omega)) ?_|(refine Xi ?_ ?_<;>try intro ht)|exact Xx|fail)))
  refine ar _ _ rfl ?_;clear ak ar Ql;repeat(refine Xu ?_)
  refine Vb X0 ?_;unfold gR;simp only[eQ,eG];simp(disch:=omega)only[Ac,↓Pc,simprocAttr];rw[if_neg aiN];exact⟨_,ob,⟨rfl,cF⟩,ey rfl cF rfl⟩
def LG.mono{m:ah}{B C:Int}{g:Lg}(h:LG m B g)(hc:B<=C):LG m C g:=⟨h.s,h.t,h.sl,h.tl,λr hr=>(h.sb r hr).mono hc,λr hr=>(h.tb r hr).mono hc⟩
def aiC(m:ah)(left:List (List Bool))(l:List Mv)(hm:VM m)(hf:fD m left)(hl:l.length<9223372036854775808):an Tryz.prog 70 [.agg (ao m),.tree 1 (rowsOf aT left),.tree 4 (rowsOf bN l)] [] (.bH [aaa (jL m left l).1,aaa (jL m left l).2]) []:=by
 generalize aj:jL m left l=res;unfold jL at aj;refine an.aC 33 0 [.tmp 6,.tmp 7] Tryz.func70 ?_;by_cases hlen:2000<l.length
 ·rw[if_pos hlen]at aj;subst aj;((repeat'(first|refine Vb X0 ?_|(refine Xi ?_ ?_<;>try intro ht)|exact Xx|fail)))
  all_goals exact aE rfl rfl
 rw[if_neg hlen]at aj;repeat'(first|((fail_if_success (first|refine dE 3 ?_|refine dF 3 ?_));refine Xr X0 ?_;intro K hK)|(refine hK _ ?_;clear hK K)|(refine Xi ?_ ?_<;>try intro ht)|refine XY ?_|exact Xx|fail)
 refine sR 1 Kq _ rfl ?_;intro K hK;simp(disch:=omega)only[Ac,↓Pc,simprocAttr,mS,kC];refine⟨rfl,(show nF Tryz.prog 109 [.agg (ao m)] (some 15) _ _ from ?_)⟩;refine wA (aiO hm [.var (ao m)]) ?_;rintro r os⟨gi,ai,bi,D,E,rfl,jq,bS⟩;refine⟨bS.len,?_⟩;have f0:=bS 0 _ rfl;simp(disch:=omega)only[Ac,↓Pc,simprocAttr,kC];refine hK _ ?_;clear hK K;repeat(refine Xu ?_)
 refine Va X0 ?_;refine aO (λz:Nat×List Ob=>(⟨au [(1,.tree 1 (rowsOf aT left)),(8,.ptr gi 0 0),(16,.tree 4 (rowsOf bN l)),(17,aaa l.length),(18,aaa z.1)],z.2⟩:St))
  (λz=>z.1<=l.length/\LO bq (GB m gi ai bi D E) D E (j7 m (l.take z.1) (S0 m,T0 m)).1 (j7 m (l.take z.1) (S0 m,T0 m)).2 z.2/\∀ x∈l.take z.1,j5 m x=true)
  (λz=>l.length-z.1) (0,os) ⟨aF _,jq,G9⟩ (Xv X0) ?_
 clear jq bS f0;rintro⟨i,ob⟩⟨hi,jq,eB⟩Ql ak ar;dsimp only at hi jq eB ⊢;have jO:=(I2 hm (l.take i) eB);rw[fy,vO hi]at jO;by_cases hi':i<l.length
 ·have cq:j7 m (l.take (i+1)) (S0 m,T0 m)=kl m (l.getD i default) (j7 m (l.take i) (S0 m,T0 m)):=by rw[eJ hi',YR]
  have jg:=eJ hi';have bJ:=aB (d:=default) hi';generalize j7 m (l.take i) (S0 m,T0 m)=g at *;generalize aS:l.getD i default=x at *;have hval:=aiP hm (jq.app [.var (bN x)]) jO x;have an9:ob.length<(ob++[Ob.var (bN x)]).length:=G9;have hvx:(ob++[Ob.var (bN x)])[ob.length]?=some (.var (bN x)):=kj _ _ _;repeat'(first|((fail_if_success (first|refine dE 7 ?_|refine dF 7 ?_));refine Xr (X3 @aS @bN.eq_1 @cD) ?_;intro K hK)|(refine hK _ ?_;clear hK K)|(refine Xi ?_ ?_<;>try intro ht)|refine Xy ?_|refine Xd ?_ ?_|exact Xx|fail)
  refine sR 2 Kq _ rfl ?_;intro K hK;simp(disch:=omega)only[Ac,↓Pc,simprocAttr,mS,kC,cD];refine⟨rfl,(show nF Tryz.prog 110 [.ptr gi 0 0,.agg (bN x)] (some 24) _ _ from ?_)⟩;refine wA hval ?_;rintro r Db⟨rfl,lx,rfl⟩;refine⟨G9,?_⟩;simp(disch:=omega)only[Ac,↓Pc,simprocAttr,kC];refine hK _ ?_;clear hK K;repeat(refine Xu ?_)
  by_cases hx:j5 m x=true
  ·rw[hx];have qQ:=aiR hm (jq.app (.var (bN x)::lx)) (B:=1099511627776+268435456*25*i) G3 jO x hx;have evx:=bf hvx;repeat'(first|(refine Xi ?_ ?_<;>try intro ht)|refine Xy ?_|exact Xx|fail)
   refine sR 2 Kq _ rfl ?_;intro K hK;simp(disch:=omega)only[Ac,↓Pc,simprocAttr,mS,kC,cD,bN,cY];refine⟨rfl,(show nF Tryz.prog 111 [.ptr gi 0 0,.agg (bN x)] (some 28) _ _ from ?_)⟩;refine wA qQ ?_;rintro r ob3⟨rfl,yn,tP⟩;refine⟨tP,?_⟩;simp(disch:=omega)only[Ac,↓Pc,simprocAttr,kC];refine hK _ ?_;clear hK K;repeat(refine Xu ?_)
   refine Va X0 ?_;refine ak _ (i+1,ob3) ⟨Kw,by rw[cq];exact yn,λy hy=>by
    dsimp only at hy;rw[jg]at hy;rcases cz.1 hy with hy|hy
    ·exact eB y hy
    ·simp only[ec]at hy;subst hy;exact hx⟩ Kw ?_
   exact Xv X0
  ·have cV:j5 m x=false:=by simpa using hx
   rw[cV];rw[if_pos (by rw[List.all_eq_false];exact⟨x,bJ,hx⟩)]at aj;((repeat'(first|refine Va @jP ?_|(refine Xi ?_ ?_<;>try intro ht)|exact Xx|fail)))
   repeat(refine Xu ?_)
   refine Vb X0 ?_;exact aE rfl (by rw[<- aj])
 ·rw[ej G3]at jq jO eB;rw[if_neg (by rw[Bool.not_eq_false];exact gV.2 eB)]at aj;generalize j7 m l (S0 m,T0 m)=g at *;obtain⟨g1,g2⟩:=g;dsimp only at jq;have hval:=aiI hm jq (jO.mono (by unfold mH;omega)) hf;((repeat'(first|refine Va X0 ?_|(refine Xi ?_ ?_<;>try intro ht)|exact Xx|fail)))
  refine ar _ _ rfl ?_;clear ak ar Ql;repeat(refine Xu ?_)
  refine Xy ?_;refine sR 2 Kq _ rfl ?_;intro K hK;simp(disch:=omega)only[Ac,↓Pc,simprocAttr,mS,kC];refine⟨rfl,(show nF Tryz.prog 112 [.ptr gi 0 0,.tree 1 (rowsOf aT left)] (some 32) _ _ from ?_)⟩;refine wA hval ?_;rintro r ob3⟨rfl,tP⟩;refine⟨tP,?_⟩;simp(disch:=omega)only[Ac,↓Pc,simprocAttr,kC];refine hK _ ?_;clear hK K;repeat(refine Xu ?_)
  subst aj;refine Vb X0 ?_;exact aE rfl rfl
def mM(b:Bool):List AV:=[.lit (.bool b)]
instance:Row mM 1:=⟨λ_=>rfl,λb v hv=>by
 simp only[mM,ec]at hv;subst hv;exact .inl ⟨_,rfl,rfl⟩⟩
def aab(xs:List Bool):rowsOf mM xs=aX xs:=by simp[rowsOf,mM,aX]
def tc(n i:Nat)(s:Bool):List Bool:=bG i s++bG (n-i) false
def aiS{n i j:Nat}{s:Bool}(h:j<=i):(rowsOf mM (tc n i s)).take j=rowsOf mM (bG j s):=by
 unfold tc rowsOf;rw[<- xy,List.take_append_of_le_length PX,List.take_replicate,vO h]
def aiT{n i j:Nat}{s:Bool}(h:i+j<=n)(hj:j<=i):rowsOf mM (bG i s)++mS j (rowsOf mM (bG i s))++kC (i+j) (rowsOf mM (tc n i s))=rowsOf mM (tc n (i+j) s):=by
 unfold tc rowsOf;rw[<- xy,<- List.map_drop,<- gG,<- gG,List.take_replicate,vO hj,List.drop_append,List.drop_eq_nil_of_le G9,List.drop_replicate,List.nil_append,List.replicate_append_replicate];congr 3;simp;omega
def aiU{n i:Nat}{s:Bool}(h:i<=n):(tc n i s).length=n:=by simp[tc];omega
def aac(s:Bool)(n:Nat)(hn:n<=1048576):an Tryz.prog 139 [.tree 1 [mM s],aaa (n:Nat)] [] (.ref 0 1 0 n) [.arr 1 (rowsOf mM (bG n s))]:=by
 have hm:=aiV n G3;refine an.aC 48 0 [.tmp 4] Tryz.func139 ?_;((repeat'(first|refine Vc (X5 @Jp @Jq @unI @unU (X4 @aad @aiY @Option.isSome_some.{0} @Sk)) hm ?_|(refine Xi ?_ ?_<;>try intro ht)|exact Xx|fail)))
 have e0:mS (min 1 n) [mM s]++kC (min 1 n) (bG n [AV.lit (Value.bool false)])=rowsOf mM (tc n (min 1 n) s):=by
  unfold tc rowsOf;rw[List.drop_replicate];rcases n7 n with h|h
  ·subst h;rfl
  ·rw[vO h,gG,List.map_replicate,List.map_replicate];rfl
 have e0':mS (min 1 n) [mM s]++kC (min 1 n) (aX (bG n false))=rowsOf mM (tc n (min 1 n) s):=by
  rw[<- e0];simp[aX]
 first|rw[e0]|rw[e0']
 refine aO (λi:Nat=>(⟨au [(7,.ref 0 1 0 n),(8,aaa i)],[.arr 1 (rowsOf mM (tc n i s))]⟩:St)) (λi=>i<=n/\(i=0->n=0)) (λi=>n-i) (min 1 n) ⟨G3,G3⟩ (Xv X0) ?_;rintro i⟨hi,hr⟩Ql ak ar;by_cases hi':i<n
 ·have e1:i+min i (n-i)<=n:=G3;have hl:=aiU (s:=s) hi;have sk:=λn s=>aiS (n:=n) (s:=s) (aR i);((repeat'(first|refine Va (X5 @Option.map_none.{0,0} @List.drop_zero.{0} @sk @bX (X3 @ri.{0} @EG @hl)) ?_|(refine Xi ?_ ?_<;>try intro ht)|exact Xx|fail)))
  rw[aiT e1 (Nat.min_le_left _ _)];exact ak _ (i+min i (n-i)) ⟨G3,G3⟩ G3 (Xv X0)
 ·obtain rfl:i=n:=G3;((repeat'(first|refine Va X0 ?_|(refine Xi ?_ ?_<;>try intro ht)|exact Xx|fail)))
  refine ar _ _ rfl ?_;clear ak ar Ql;repeat(refine Xu ?_)
  refine Vb X0 ?_;have e2:tc i i s=bG i s:=by simp[tc]
  rw[e2];exact Xw false [0] X0
def mK(m:ah):List (List Bool):=m.cls.map λl=>bG l.length true
def fM(m:ah):List (List Bool):=if ek m=0 then mK m else []
def aae(xs:List (List Bool))(b:List Bool):rowsOf aT xs++[[AV.tree 1 (aX b)]]=rowsOf aT (xs++[b]):=by simp[rowsOf,aT]
def air(m:ah)(hm:MB m):an Tryz.prog 102 [.agg (ao m)] [] (.tree 1 (rowsOf aT (fM m))) []:=by
 have h1:=ud m hm;have rX:=hm.cls;generalize aj:fM m=res;unfold fM at aj;refine an.aC 25 0 [.tmp 2] Tryz.func102 ?_;by_cases hv:ek m=0;rotate_left
 ·rw[if_neg hv]at aj;rw[<- aj];generalize ek m=e at *;((repeat'(first|refine Vd X0 h1 ?_|(refine Xi ?_ ?_<;>try intro ht)|exact Xx|fail)))
  exact dr [] true Kq trivial Kq Kq aI.nil
 rw[if_pos hv]at aj;rw[hv]at h1;have bP:=iu.1 hv;have nL:=bP.cls;((repeat'(first|refine Vd @bne_self_eq_false.{0} h1 ?_|(refine Xi ?_ ?_<;>try intro ht)|exact Xx|fail)))
 refine aO (λz:Nat×List (List Bool)=>(⟨au [(1,.ptr 0 0 0),(3,.ref 1 1 0 z.2.length),(10,.tree 1 (rowsOf a9 m.cls)),(11,aaa m.cls.length),(12,aaa z.1)],[.var (ao m),.arr 1 (rowsOf aT z.2)]⟩:St))
  (λz=>z.1<=m.cls.length/\z.2=(mK m).take z.1) (λz=>m.cls.length-z.1) (0,[]) ⟨aF _,rfl⟩ ?_ ?_
 ·refine ay.trans (ay.nil 3 1 (by simp only[Kc,simprocAttr]) Kq) ?_;exact Xv X0
 rintro⟨i,xs⟩⟨hi,dj⟩Ql ak ar;dsimp only at hi dj ⊢;have gJ:(mK m).length=m.cls.length:=by simp[mK]
 by_cases hi':i<m.cls.length
 ·have qU:xs.length=i:=by rw[dj,fy];omega
  have cq:(mK m).take (i+1)=xs++[bG (m.cls.getD i default).length true]:=by
   rw[eJ G3,<- dj];unfold mK;rw[kU _ _ _ hi']
  have sh:=bP.opt _ (aB (d:=default) hi');generalize aM:m.cls.getD i default=c at *;have F3:=aac true c.length G3;repeat'(first|((fail_if_success (first|refine dE 7 ?_|refine dF 7 ?_));refine Xr (X2 @aM @a9.eq_1) ?_;intro K hK)|(refine hK _ ?_;clear hK K)|(refine Xi ?_ ?_<;>try intro ht)|refine Xy ?_|refine Xd ?_ ?_|exact Xx|fail)
  refine MC 5 Kq ?_;intro K K1 hK zE;simp(disch:=omega)only[Ac,↓Pc,simprocAttr,mS];refine pI [] F3 Kq trivial ⟨aI.fz (rows:=rowsOf mM [true]) rfl rfl G9,.pure rfl,trivial⟩ rfl (by simp[xC,mM,rowsOf,flat]) ?_;simp(disch:=omega)only[Ac,↓Pc,simprocAttr];refine zE _ ⟨au [(1,.ptr 0 0 0),(3,.ref 1 1 0 xs.length),(10,.tree 1 (rowsOf a9 m.cls)),(11,aaa m.cls.length),(12,aaa i),(16,.ref 1 1 0 xs.length),(20,.tree 1 (aX (bG c.length true)))],[.var (ao m),.arr 1 (rowsOf aT xs)]⟩ ?_ ?_
  ·rw[<- aab];exact Xs true [0,1] X0
  clear zE K1;simp(disch:=omega)only[Ac,↓Pc,simprocAttr,kC,aae];repeat'(first|with_reducible refine cI ?_ ?_|omega)
  refine hK _ ?_;clear hK K;repeat(refine Xu ?_)
  refine Va X0 ?_;refine ak _ (i+1,xs++[bG c.length true]) ⟨Kw,cq.symm⟩ Kw ?_;exact Xs false [0,3] X0
 ·rw[ej G3]at dj;((repeat'(first|refine Va X0 ?_|(refine Xi ?_ ?_<;>try intro ht)|exact Xx|fail)))
  refine ar _ _ rfl ?_;clear ak ar Ql;repeat(refine Xu ?_)
  refine Vb X0 ?_;rw[dj,aj];exact Xw true [] X0
abbrev ee:=Nat×List (List Bool)×List Int
def s9:List Int->AV
 |[]=>.lit (.slice none 0 0)
 |x::r=>.tree 1 (ints (x::r))
def ni(s:ee):List AV:=[aaa s.1,.tree 1 (rowsOf aT s.2.1),s9 s.2.2]
def ZW(l:List Int):(∃ y,s9 l=AV.lit y/\y.oneCell'=true)\/∃ s r,s9 l=.tree s r:=by
 cases l with
 |nil=>exact .inl ⟨_,rfl,rfl⟩
 |cons x r=>exact .inr ⟨_,_,rfl⟩
def ZX(l:List Int)(x:Value):jl [s9 l,.lit x]=true:=by cases l<;>rfl
def ait(l:List Int):cJ (s9 l)=true:=by cases l<;>rfl
instance:Row ni 3:=⟨λ_=>rfl,λx v hv=>by
 simp only[ni,cu,List.not_mem_nil,or_false]at hv;rcases hv with rfl|rfl|rfl
 ·exact .inl ⟨_,rfl,rfl⟩
 ·exact .inr ⟨_,_,rfl⟩
 ·exact ZW _⟩
def nd(P:List Nd)(i:Nat):Nd:=P.getD i default
def nT(P:List Nd)(s:ee)(o:Nat):ee:=(((nd P s.1).kids.getD o 0).toNat,cf s.2.1 (nd P s.1).cls.toNat o,s.2.2++[(nd P s.1).cls])
def jD(P:List Nd)(s:ee)(n:Nat):List ee:=(List.range n).map (nT P s)
def qP(P:List Nd)(s:ee):List ee:=jD P s (nd P s.1).kids.length
def ZZ(P:List Nd)(s:ee)(n:Nat):jD P s (n+1)=jD P s n++[nT P s n]:=by unfold jD;rw[List.range_succ,gG];rfl
def l6(P:List Nd):Nat->ee->List ee
 |0,_=>[]
 |f+1,s=>s::((qP P s).reverse.flatMap (l6 P f))
def vs(P:List Nd)(s:ee):List ee:=l6 P (P.length-s.1) s
def Down(P:List Nd):Prop:=∀ i,i<P.length->∀ k∈(nd P i).kids,(i:Int)<k/\k<P.length
def FV{m:ah}{P:List Nd}(h:j4 m P=true){i:Nat}(hi:i<P.length):lL m P.length i (nd P i)=true:=by
 cases hb:lL m P.length i (nd P i) with
 |true=>rfl
 |false=>rw[Yl hi hb]at h;cases h
def wW{m:ah}{P:List Nd}(h:j4 m P=true):Down P:=λi hi k hk=>by
 have:=FV h hi;unfold lL at this;rw[Bool.and_eq_true,gV]at this;have h2:=this.2 k hk;unfold lX at h2;exact of_decide_eq_true h2
def wY{m:ah}{P:List Nd}(h:j4 m P=true):1<=P.length/\P.length<=20000:=by
 by_cases hs:1<=P.length/\P.length<=20000
 ·exact hs
 ·rw[Yk hs]at h;cases h
def wV{P:List Nd}{s t:ee}(h:t∈qP P s):∃o,o<(nd P s.1).kids.length/\t=nT P s o:=by
 unfold qP jD at h;obtain⟨o,ho,rfl⟩:=cC.1 h;exact⟨o,List.mem_range.1 ho,rfl⟩
def yl{P:List Nd}(hd:Down P){s:ee}(hs:s.1<P.length){o:Nat}(ho:o<(nd P s.1).kids.length):s.1<(nT P s o).1/\(nT P s o).1<P.length/\(((nT P s o).1:Nat):Int)=(nd P s.1).kids.getD o 0:=by
 have:=hd s.1 hs _ (aB (l:=(nd P s.1).kids) (i:=o) (d:=0) ho);unfold nT;dsimp only;omega
def ai0{P:List Nd}(hd:Down P):∀ (f:Nat) (s:ee),s.1<P.length->P.length-s.1<=f->l6 P f s=l6 P (P.length-s.1) s:=by
 intro f
 induction f using BS with
 |_ f ih =>
  intro s hs hf;cases f with
  |zero=>omega
  |succ f =>
   obtain⟨g,hg⟩:∃g,P.length-s.1=g+1:=⟨P.length-s.1-1,G3⟩;rw[hg,l6,l6];refine congrArg _ ?_;have key:∀ t∈(qP P s).reverse,l6 P f t=l6 P g t:=λt ht=>by
    obtain⟨o,ho,rfl⟩:=wV (vX.1 ht);obtain⟨h1,h2,_⟩:=yl hd hs ho;rw[ih f G3 _ h2 G3,ih g G3 _ h2 G3]
   generalize (qP P s).reverse=L at key
   induction L with
   |nil=>rfl
   |cons t L FZ=>rw[sE,sE,key t G9,FZ λu hu=>key u (by simp[hu])]
def FT{P:List Nd}(hd:Down P){s:ee}(hs:s.1<P.length):vs P s=s::(qP P s).reverse.flatMap (vs P):=by
 unfold vs;obtain⟨g,hg⟩:∃g,P.length-s.1=g+1:=⟨P.length-s.1-1,G3⟩;rw[hg,l6];refine congrArg _ ?_;have key:∀ t∈(qP P s).reverse,l6 P g t=l6 P (P.length-t.1) t:=λt ht=>by
  obtain⟨o,ho,rfl⟩:=wV (vX.1 ht);obtain⟨h1,h2,_⟩:=yl hd hs ho;exact ai0 hd g _ h2 G3
 generalize (qP P s).reverse=L at key
 induction L with
 |nil=>rfl
 |cons t L FZ=>rw[sE,sE,key t G9,FZ λu hu=>key u (by simp[hu])]
def kx{α:Type}(P:List Nd)(step:α->ee->α×Bool):List ee->α->α×Bool
 |[],a=>(a,true)
 |s::L,a=>if s.2.2.contains (nd P s.1).cls=true then(a,false) else if(step a s).2=true then kx P step L (step a s).1 else((step a s).1,false)
def root(m:ah):ee:=(0,fM m,[])
def sj{α:Type}(m:ah)(P:List Nd)(step:α->ee->α×Bool)(a:α):α×Bool :=
 if ek m=0/\j4 m P=true then kx P step (vs P (root m)) a else(a,false)
def Bl(m:ah)(P:List Nd)(s:ee):Prop:=s.1<P.length/\fD m s.2.1/\s.2.2.length<=s.1
def FN{m:ah}{x y:List (List Bool)}(h:fD m x)(he:y.map rq=x.map rq):fD m y:=by
 have hl:=congrArg rq he;rw[eO,eO]at hl;refine⟨by rw[hl];exact h.1,λi hi=>?_⟩;have h2:=congrArg (λz=>z[i]?) he;simp only[b6]at h2;rw[bT hi,bT G3]at h2;simp only[fE,Option.some.injEq]at h2;rw[<- h.2 i G3,aG,aG,bT hi,bT G3];exact h2
def aiv {m:ah} {P:List Nd} (hd:Down P) {s:ee} (h:Bl m P s) {o:Nat} (ho:o<(nd P s.1).kids.length):Bl m P (nT P s o) :=
  ⟨(yl hd h.1 ho).2.1,FN h.2.1 (Jf _ _ _),by
    have h1:=(yl hd h.1 ho).1
    have h2:=h.2.2
    show (s.2.2++[_]).length<=_
    rw[bQ,List.length_singleton];omega⟩
def C7{m:ah}(h:VM m):fD m (fM m):=by
 unfold fM;rw[if_pos (iu.2 h)];refine⟨by simp[mK],λi hi=>?_⟩;have hi':i<m.cls.length:=by simpa [mK] using hi
 unfold mK;rw[kU _ _ _ hi',ri]
def Bm:List ee->Prop
 |[]=>True
 |t::T=>T.length<=24*t.1/\Bm T
def Bm.push{T:List ee}{i:Nat}(h:Bm T)(hT:T.length<=24*i):∀ (L:List ee),(∀ t∈L,i<t.1)->L.length<=24->Bm (L++T)
 |[],_,_=>h
 |t::L,hl,hn=>by
  have h1:=hl t G9;have h2:=Bm.push h hT L (λu hu=>hl u (by simp[hu])) (by simp at hn;omega);refine⟨?_,h2⟩;simp only[List.length_cons]at hn;show(L++T).length<=_;rw[bQ];omega
def kN(P:List Nd)(i:Nat):List Nat:=(nd P i).kids.map Int.toNat
def ai1(P:List Nd)(s:ee):(qP P s).map (·.1)=kN P s.1:=by
 unfold qP jD kN;rw[List.map_map];apply List.ext_getElem?;intro j;rw[b6,b6];by_cases hj:j<(nd P s.1).kids.length
 ·rw[List.getElem?_range hj,bT hj];simp only[fE,Function.comp];unfold nT;dsimp only;rw[aG,bT hj];rfl
 ·rw[ei (by simpa using hj),ei G3];rfl
def ai2{P:List Nd}(hd:Down P)(i:Nat):∀ (f:Nat) (s:ee),s.1<P.length->P.length-s.1<=f ->
  ((l6 P f s).map (·.1)).count i=(if s.1=i then 1 else 0)+((l6 P f s).flatMap λv=>kN P v.1).count i:=by
 intro f
 induction f with
 |zero=>intro s hs hf;omega
 |succ f ih =>
  intro s hs hf;rw[l6,dK,DU,sE,tv,<- ai1];have key:∀ (K:List ee),(∀ t∈K,t.1<P.length/\P.length-t.1<=f)->((K.flatMap (l6 P f)).map (·.1)).count i=(K.map (·.1)).count i+((K.flatMap (l6 P f)).flatMap λv=>kN P v.1).count i:=by
   intro K
   induction K with
   |nil=>intro _;rfl
   |cons t K ihK =>
    intro hK;rw[sE,gG,tv,ih t (hK t G9).1 (hK t G9).2,ihK λu hu=>hK u (by simp[hu]),dK,DU,List.flatMap_append,tv];by_cases e:t.1=i<;>simp[e]<;>omega
  have h1:=key (qP P s).reverse λt ht=>by
   obtain⟨o,ho,rfl⟩:=wV (vX.1 ht);obtain⟨h1,h2,_⟩:=yl hd hs ho;omega
  rw[h1,List.map_reverse,List.count_reverse];by_cases e:s.1=i<;>simp[e]<;>omega
def aaf{m:ah}{P:List Nd}(h:j4 m P=true){j:Nat}(h1:1<=j)(h2:j<P.length):(gw P).count (j:Int)=1:=by
 have hl:=wY h;rw[IQ hl λi hi=>FV h hi]at h;rw[Bool.not_eq_true',List.any_eq_false]at h;have hm:(kf P.length (gw P)).getD j 0∈(kf P.length (gw P)).drop 1:=by
  have dh:=A0 P.length (gw P);rw[List.mem_iff_getElem];refine⟨j-1,by rw[List.length_drop];omega,?_⟩;rw[List.getElem_drop,aG,bT G3];simp only[Option.getD_some];congr 1;omega
 have:=h _ hm;rw[IS _ h2]at this;simp only[bne_iff_ne,ne_eq,Decidable.not_not]at this;omega
def ai4{l:List Int}(h:∀ k∈l,0<=k)(j:Nat):(l.map Int.toNat).count j=l.count (j:Int):=by
 induction l with
 |nil=>rfl
 |cons k l ih =>
  have hk:=h k G9;rw[dK,DU,DU,ih λx hx=>h x (by simp[hx])];have:(k.toNat==j)=(k==(j:Int)):=by rw[Bool.eq_iff_iff,beq_iff_eq,beq_iff_eq];omega
  rw[this]
def aag{m:ah}{P:List Nd}(h:j4 m P=true){j:Nat}(h1:1<=j)(h2:j<P.length):
  ∃ p,p<j/\(kN P p).count j=1/\∀ q,q<P.length->q≠p->(kN P q).count j=0:=by
 have lu:=aaf h h1 h2;have hd:=wW h;have CW:∀ q,q<P.length->(kN P q).count j=(nd P q).kids.count (j:Int):=λq hq=>ai4 (λk hk=>by have:=hd q hq k hk;omega) j;have key:∀ (L:List Nd),(L.flatMap (·.kids)).count (j:Int)=1->∃ p,p<L.length/\((L.getD p default).kids).count (j:Int)=1/\∀ q,q<L.length->q≠p->((L.getD q default).kids).count (j:Int)=0:=by
  intro L
  induction L with
  |nil=>intro h;simp at h
  |cons x L ih =>
   intro h;rw[sE,tv]at h;have hz:(L.flatMap (·.kids)).count (j:Int)=0->∀ q,q<L.length->((L.getD q default).kids).count (j:Int)=0:=λh0 q hq=>by
    rw[P4]at h0 ⊢;exact λhh=>h0 (BZ.2 ⟨_,aB hq,hh⟩)
   by_cases hx:x.kids.count (j:Int)=0
   ·obtain⟨p,p1,p2,p3⟩:=ih G3;refine⟨p+1,by simpa using p1,by simpa using p2,λq hq ew=>?_⟩;cases q with
    |zero=>simpa using hx
    |succ q=>simpa using p3 q (by simpa using hq) G3
   ·refine⟨0,G9,PX,λq hq ew=>?_⟩;cases q with
    |zero=>omega
    |succ q=>simpa using hz G3 q (by simpa using hq)
 obtain⟨p,p1,p2,p3⟩:=key P lu;have hpj:p<j:=by
  have bJ:(j:Int)∈(nd P p).kids:=by
   have:0<((nd P p).kids).count (j:Int):=by show 0<((P.getD p default).kids).count _;omega
   exact List.count_pos_iff.1 this
  have:=hd p p1 _ bJ;omega
 exact⟨p,hpj,(CW p p1).trans p2,λq hq ew=>(CW q hq).trans (p3 q hq ew)⟩
def Jr{P:List Nd}(hd:Down P):∀ (f:Nat) (s:ee),s.1<P.length->∀ v∈l6 P f s,v.1<P.length:=by
 intro f
 induction f with
 |zero=>intro s _ v hv;simp[l6]at hv
 |succ f ih =>
  intro s hs v hv;rw[l6,cu]at hv;rcases hv with rfl|hv
  ·exact hs
  ·obtain⟨t,ht,hv⟩:=BZ.1 hv;obtain⟨o,ho,rfl⟩:=wV (vX.1 ht);exact ih _ (yl hd hs ho).2.1 v hv
def aah{P:List Nd}{j p:Nat}(h1:(kN P p).count j=1)(h2:∀ q,q<P.length->q≠p->(kN P q).count j=0):∀ (L:List ee),(∀ v∈L,v.1<P.length)->(L.flatMap λv=>kN P v.1).count j=(L.map (·.1)).count p
 |[],_=>rfl
 |v::L,h=>by
  rw[sE,tv,dK,DU,aah h1 h2 L λu hu=>h u (by simp[hu])];by_cases e:v.1=p
  ·rw[e,h1];simp;omega
  ·rw[h2 v.1 (h v G9) e];simp[e]
def aai{m:ah}{P:List Nd}(h:j4 m P=true){s:ee}(hs:s.1=0):∀ (j:Nat),j<P.length->((vs P s).map (·.1)).count j=1:=by
 have hd:=wW h;have hl:=wY h;have hc:∀ j,((vs P s).map (·.1)).count j=(if s.1=j then 1 else 0)+((vs P s).flatMap λv=>kN P v.1).count j:=λj=>ai2 hd j _ s G3 (aR _);have hr:=Jr hd (P.length-s.1) s G3;intro j
 induction j using BS with
 |_ j ih =>
  intro hj;rcases n7 j with h0|h0
  ·subst h0;rw[hc 0,if_pos hs];have:((vs P s).flatMap λv=>kN P v.1).count 0=0:=by
    rw[P4];intro hh;obtain⟨v,hv,hk⟩:=BZ.1 hh;unfold kN at hk;obtain⟨k,hk,e⟩:=cC.1 hk;have:=hd v.1 (hr v hv) k hk;omega
   omega
  ·obtain⟨p,p1,p2,p3⟩:=aag h h0 hj;rw[hc j,if_neg G3,aah p2 p3 (vs P s) hr,ih p p1 G3]
end T

