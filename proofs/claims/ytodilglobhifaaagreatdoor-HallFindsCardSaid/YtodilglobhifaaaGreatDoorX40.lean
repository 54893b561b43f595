import Derived.Test.YtodilglobhifaaaGreatDoorX31
import Derived.Test.YtodilglobhifaaaGreatDoorX26
import Derived.Test.YtodilglobhifaaaGreatDoorX33
import Derived.Test.YtodilglobhifaaaGreatDoorX34
import Derived.Test.YtodilglobhifaaaGreatDoorX39
set_option linter.all false
set_option maxHeartbeats 0
set_option maxRecDepth 20000
open List renaming append_assoc→bN,length_append→aJ,cons_append→fR,nil_append→dT,length_cons→cK,length_nil→g8,getElem?_eq_getElem→bc,getD_eq_getElem?_getD→aw,take_length→xX,append_nil→fF,length_set→bt,set_set→nT,set_comm→Du,length_pos_iff→qX,getElem?_append_left→cr,drop_eq_nil_of_le→dw,getElem?_eq_some_iff→ba,mem_append→bj,filter_append→vX,length_take→j9,replicate→ax
open Nat renaming zero_le→aN,le_refl→aM,zero_add→gM
open Option renaming map_some→g9,getD_some→dK,map_none→jn,getD_none→sG,isSome_some→m5,isNone_none→Ht,isNone_some→xW
open Int renaming toNat_natCast→dz,ofNat_lt→xN
open Bool renaming not_false→sA,not_true→tZ
open Go Go.Am Go.Proofs
namespace T
abbrev Cz:=List Ob×(Nat×Nat)×List (Nat×Nat)×List (List (Int×Int))×List (Ml (Int×Int))×List (List Int)
def XQ(m:ah)(left:List (List Bool))(os:List Ob):AV->List Ob->Prop:=λr ob=>eX os ob/\∃ to D,r=.ref to 1 0 D.length/\ob[to]?=some (.arr 1 (rowsOf gy D))/\RI aj ob D (iR m (cZ m left))
def WN{m:ah}(hm:VM m)(hw:∀ x,(fh m x).wk<=3){left:List (List Bool)}(hf:jd m left){p q:Nat}{M:List (Ml Pr)}{os:List Ob}(hF:vB m p q M os)(hS:CD m M):
  eM Tryz.prog 26 [.ptr p 0 0,.tree 1 (rowsOf bE left)] os (XQ m left os):=by
 have f1:=hF.fin;have e1:=aD f1;have Cm:=hm.cls;have fV:=hf.1;refine eM.aO 131 os.length [.tmp 4] Tryz.func26 ?_;((try revert hK K);(repeat'(first|refine Vb (X5 @f1 @e1 @aA.eq_1 @bz (X3 @bN.{0} @aJ.{0} @nG)) ?_|(refine V2 (X5 @f1 @e1 @aA.eq_1 @bz (X3 @bN.{0} @aJ.{0} @nG)) ?_ ?_<;>try with_reducible intro hb)|(refine Xi ?_ ?_<;>try intro ht)|refine VD ?_ ?_|exact Xx|fail))<;>try with_reducible intro K hK)
 refine aX (λz:Nat×Cz=>(⟨au [(0,.ptr p 0 0),(1,.tree 1 (rowsOf bE left)),(5,.ref z.2.2.1.1 1 0 z.2.2.2.1.length),(6,.dx os.length),(7,.ref z.2.2.1.2 4 0 z.2.2.2.2.2.2.length),(24,.tree 1 (rowsOf bk m.cls)),(25,aah m.cls.length),(26,aah z.1)],z.2.1⟩:St))
  (λz=>z.1<=m.cls.length/\CB os os.length z.2.2.1.1 z.2.2.1.2 z.2.2.2.1 z.2.2.2.2.1 z.2.2.2.2.2.1 z.2.2.2.2.2.2 z.2.1/\ky m (XP m left z.1 0) z.2.2.2.2.1 z.2.2.2.2.2.1 z.2.2.2.2.2.2)
  (λz=>m.cls.length-z.1) (0,os++[.mp 4 [],.arr 1 [],.arr 4 []],(os.length+1,os.length+2),[],[],[],[]) ⟨aN _,CB.start os,ky.nil m⟩ ?_ ?_
 ·refine aC.trans (aC.nil 5 1 (by simp only[Kc,simprocAttr]) Ha) (aC.trans (aC.nil 7 4 (by simp only[Kc,simprocAttr]) Ha) ?_);simp only[bN,fR,dT,aJ,cK,g8];exact Xv X0
 rintro⟨c,ob,⟨to,tk⟩,D,S,G,ks⟩⟨hc,hC,hG⟩Ql an ay;dsimp only at hc hC hG ⊢;by_cases jr:c<m.cls.length;rotate_left
 ·have bJ:c=m.cls.length:=Ay;subst bJ;rw[pR]at hG;have Qu:=hC.cq;have pQ:(cZ m left).length<=600:=by
   have:=xe hm.opt (left:=left) m.cls.length 0 (aM _) Ay;rw[pR]at this;omega
  have j4:∀ x∈cZ m left,iB m x:=by
   have:=zJ (m:=m) (left:=left) (c:=m.cls.length) (i:=0) (.inr ⟨rfl,aM _⟩) (aN _);rw[pR]at this;exact this
  have eT:ks.length<=600:=by rw[hG.keys];have:=CE m (cZ m left) [];simp only[g8]at this;omega
  have Qj:S.length<=600:=by rw[hG.lone];have:=Gj m (cZ m left);omega
  have hall:=XR hG;clear hC;((try revert hK K);(repeat'(first|refine Va X0 ?_|(refine V2 X0 ?_ ?_<;>try with_reducible intro hb)|(refine Xi ?_ ?_<;>try intro ht)|refine VD ?_ ?_|exact Xx|fail))<;>try with_reducible intro K hK)
  refine ay _ _ rfl ?_;clear an ay Ql;repeat(first|refine Xu ?_)
  have fk:=Qu.mj;((try revert hK K);(repeat'(first|refine Va @fk ?_|(refine V2 @fk ?_ ?_<;>try with_reducible intro hb)|(refine Xi ?_ ?_<;>try intro ht)|refine VD ?_ ?_|exact Xx|fail))<;>try with_reducible intro K hK)
  refine aX (λz:Nat×List Ob×Nat×List (Nat×Nat)×List (List (Int×Int))=>(⟨au [(0,.ptr p 0 0),(5,.ref z.2.2.1 1 0 z.2.2.2.1.length),(6,.dx os.length),(98,.ref tk 4 0 ks.length),(99,aah ks.length),(100,aah z.1)],z.2.1⟩:St))
   (λz=>z.1<=ks.length/\CQ os os.length tk G ks z.2.2.1 z.2.2.2.1 z.2.2.2.2 z.2.1/\z.2.2.2.2.length<=600+z.1*601/\z.2.2.2.2=S++(ks.take z.1).flatMap (kn m (cZ m left))) (λz=>ks.length-z.1) (0,ob,to,D,S)
   ⟨aN _,Qu,aaa,Dg⟩ ?_ ?_
  ·exact Xv X0
  rintro⟨n,o2,Qv,D2,S2⟩⟨hn,hQ,iK,zS⟩Ql an ay;dsimp only at hn hQ iK zS ⊢;have zT:=hQ.mj;have Gk:=hQ.mp;have CF:=hQ.out;have CG:=aD zT;have pP:=aD Gk;have XS:=aD CF;have XT:=iq CF;have mU:D2.length<=600+n*601:=by rw[hQ.ri.len];exact iK
  by_cases fC:n<ks.length;rotate_left
  ·have zU:n=ks.length:=Ay;((try revert hK K);(repeat'(first|refine Va X0 ?_|(refine V2 X0 ?_ ?_<;>try with_reducible intro hb)|(refine Xi ?_ ?_<;>try intro ht)|refine VD ?_ ?_|exact Xx|fail))<;>try with_reducible intro K hK)
   subst zU;refine ay _ _ rfl ?_;clear an ay Ql;repeat(first|refine Xu ?_)
   ((try revert hK K);(repeat'(first|refine Vb X0 ?_|(refine V2 X0 ?_ ?_<;>try with_reducible intro hb)|(refine Xi ?_ ?_<;>try intro ht)|refine VD ?_ ?_|exact Xx|fail))<;>try with_reducible intro K hK)
   unfold gd;simp only[dN,dO];simp(disch:=omega)only[Ac,↓Pc,simprocAttr];rw[hall]at zS;subst zS;exact⟨_,_,⟨hQ.kp,Qv,D2,rfl,CF,hQ.ri⟩,iy rfl hQ.kp.len rfl⟩
  obtain⟨g,dG,cI⟩:=hG.key fC;obtain⟨ka,kb,kc,kd,xl⟩:=XU hG fC;have gT:(rowsOf sq ks)[n]?=some [aah ka,aah kb,aah kc,aah kd]:=by
   unfold rowsOf;rw[List.getElem?_map,bc fC];have:ks[n]=ks.getD n default:=by rw[aw,bc fC];rfl
   rw[this,xl];rfl
  have Gl:(rowsOf sq ks).length=ks.length:=by simp[rowsOf]
  have fL:=Cn 2 [ka,kb,kc,kd] G;rw[xl]at dG;rw[dG]at fL;simp only[g9]at fL;have sr:=hQ.gr _ g dG;have tN:=aD sr;have pO:=CH m (cZ m left) (ks.getD n default);rw[<- cI]at pO;have bX:∀ x∈g.l,iB m x:=λx hx=>j4 x (by rw[cI]at hx;exact(l9.1 hx).1);have kj:=XV (m:=m) (X:=cZ m left) fC;have ze:=λh=>XW (m:=m) (X:=cZ m left) (k:=ks.getD n default) h;have nv:=λh=>XX (m:=m) (X:=cZ m left) (k:=ks.getD n default) h;rw[<- cI]at ze nv;repeat'(first|((fail_if_success (first|refine gP 23 ?_|refine gQ 23 ?_));refine Xr (X5 @zT @CG @gT @Gl (X3 @bz @bN.{0} @aJ.{0})) ?_;intro K hK)|refine Xo (X5 @zT @CG @gT @Gl (X3 @bz @bN.{0} @aJ.{0})) ?_|(refine hK _ ?_;clear hK K)|(refine Xg (X5 @zT @CG @gT @Gl (X3 @bz @bN.{0} @aJ.{0})) ?_ ?_<;>try intro hb)|(refine Xi ?_ ?_<;>try intro ht)|refine Xy ?_|refine Xd ?_ ?_|exact Xx|fail)
  refine uA 4 Ha _ rfl ?_;intro K hK;have zV:=XZ hm (hF.cO ((hQ.kp).app [.var [aah ka,aah kb,aah kc,aah kd]])) hS g.l bX Ay g.at_ (tN _);generalize Qw:mO m g.l=wb at *;simp(disch:=omega)only[Ac,↓Pc,simprocAttr,List.take,List.drop,Gk,pP,fL,nG,dK,bz];refine⟨rfl,(show lL Tryz.prog 67 [.ptr p 0 0,.ref g.at_ 2 0 g.l.length] (some 108) _ _ from ?_)⟩;refine BO zV ?_;rintro r o3⟨rfl,eL⟩;refine⟨eL.len,?_⟩;have xn:=(hQ.app [.var [aah ka,aah kb,aah kc,aah kd]]).cO eL;have CJ:=eL _ _ (pG o2 (.var [aah ka,aah kb,aah kc,aah kd]) []);have CK:=xn.mp;have zW:=xn.out;have CL:=xn.gr _ g dG;have Gm:=aD CJ;have Gn:=aD CK;have Gp:=aD zW;have Gq:=iq zW;have Gr:=aD CL;refine hK _ ?_;clear hK K zV;((try revert hK K);(repeat'(first|refine Va (X5 @CJ @Gm @CK @Gn (X5 @zW @Gp @Gq @CL (X5 @Gr @fL @nG @dK.{0} (X3 @bz @bN.{0} @aJ.{0})))) ?_|(refine V2 (X5 @CJ @Gm @CK @Gn (X5 @zW @Gp @Gq @CL (X5 @Gr @fL @nG @dK.{0} (X3 @bz @bN.{0} @aJ.{0})))) ?_ ?_<;>try with_reducible intro hb)|(refine Xi ?_ ?_<;>try intro ht)|refine VD ?_ ?_|exact Xx|fail))<;>try with_reducible intro K hK)
  ·refine an _ (n+1,_,o3.length+1,D2++[(g.at_,g.l.length)],S2++[g.l]) ⟨aaa,xn.nu dG (b:=1) (l:=[.arr 1 [[.ref g.at_ 2 0 g.l.length]],.arr 1 (rowsOf gy D2++[[.ref g.at_ 2 0 g.l.length]])]) (by rw[<- Fy];rfl),by simp only[aJ,cK,g8];omega,?_⟩ aaa ?_
   ·dsimp only;rw[kj,ze ht,zS,bN]
   ·exact Xv (X3 @aJ.{0} @cK.{0} @g8.{0})
  have Qx:(rowsOf aj g.l).length=g.l.length:=by simp[rowsOf]
  refine aX (λz:Nat×List Ob×Nat×List (Nat×Nat)×List (List (Int×Int))=>(⟨au [(0,.ptr p 0 0),(5,.ref z.2.2.1 1 0 z.2.2.2.1.length),(6,.dx os.length),(98,.ref tk 4 0 ks.length),(99,aah ks.length),(100,aah n),(117,.ref g.at_ 2 0 g.l.length),(118,aah g.l.length),(119,aah z.1)],z.2.1⟩:St))
   (λz=>z.1<=g.l.length/\CQ os os.length tk G ks z.2.2.1 z.2.2.2.1 z.2.2.2.2 z.2.1/\z.2.2.2.2.length<=600+n*601+z.1/\z.2.2.2.2=S2++(g.l.take z.1).map λc=>[c]) (λz=>g.l.length-z.1) (0,o3,Qv,D2,S2)
   ⟨aN _,xn,aaa,Dg⟩ ?_ ?_
  ·exact Xv X0
  clear hQ xn CJ CK zW CL Gm Gn Gp Gq Gr zT Gk CF CG pP XS XT sr tN eL;rintro⟨j,o4,X1,D4,S4⟩⟨hj,hQ,Qy,Gs⟩cC aS bf;dsimp only at hj hQ Qy Gs ⊢;have CM:=hQ.out;have Gt:=hQ.gr _ g dG;have Qz:=aD CM;have QA:=iq CM;have QB:=aD Gt;have aap:D4.length<=600+n*601+j:=by rw[hQ.ri.len];exact Qy
  by_cases fW:j<g.l.length
  ·have kS:=nC g.l fW;have oI:=X6 fW;generalize bK:g.l.getD j default=x at *;((try revert hK K);(repeat'(first|refine Va (X5 @CM @Qz @QA @Gt (X5 @QB @kS @Qx @aj.eq_1 (X3 @bz @bN.{0} @aJ.{0}))) ?_|(refine V2 (X5 @CM @Qz @QA @Gt (X5 @QB @kS @Qx @aj.eq_1 (X3 @bz @bN.{0} @aJ.{0}))) ?_ ?_<;>try with_reducible intro hb)|(refine Xi ?_ ?_<;>try intro ht)|refine VD ?_ ?_|exact Xx|fail))<;>try with_reducible intro K hK)
   refine aS _ (j+1,_,o4.length+3,D4++[(o4.length+1,1)],S4++[[x]]) ⟨aaa,hQ.lone (a:=1) (b:=3) (x:=x) (l:=[.var (aj x),.arr 2 [aj x],.arr 1 [[.ref (o4.length+1) 2 0 1]],.arr 1 (rowsOf gy D4++[[.ref (o4.length+1) 2 0 1]])]) rfl (by rw[<- Fy];rfl),by simp only[aJ,cK,g8];omega,?_⟩ aaa ?_
   ·dsimp only;rw[oI,Gs,bN]
   ·exact Xv (X4 @aj.eq_1 @aJ.{0} @cK.{0} @g8.{0})
  ·((try revert hK K);(repeat'(first|refine Va X0 ?_|(refine V2 X0 ?_ ?_<;>try with_reducible intro hb)|(refine Xi ?_ ?_<;>try intro ht)|refine VD ?_ ?_|exact Xx|fail))<;>try with_reducible intro K hK)
   refine bf _ _ rfl ?_;clear aS bf cC;repeat(first|refine Xu ?_)
   ((try revert hK K);(repeat'(first|refine Va X0 ?_|(refine V2 X0 ?_ ?_<;>try with_reducible intro hb)|(refine Xi ?_ ?_<;>try intro ht)|refine VD ?_ ?_|exact Xx|fail))<;>try with_reducible intro K hK)
   have X7:j=g.l.length:=Ay;refine an _ (n+1,o4,X1,D4,S4) ⟨aaa,hQ,aaa,?_⟩ aaa (Xv X0);dsimp only;rw[kj,nv (by assumption),Gs,zS,X7,xX,bN]
 have QC:=hm.opt _ (aG (l:=m.cls) (i:=c) (d:=default) jr);have bl:=hf.2 c Ay;generalize aP:m.cls.getD c default=row at *;generalize dt:left.getD c default=lc at *;((try revert hK K);(repeat'(first|refine Va (X2 @aP @bk.eq_1) ?_|(refine V2 (X2 @aP @bk.eq_1) ?_ ?_<;>try with_reducible intro hb)|(refine Xi ?_ ?_<;>try intro ht)|refine VD ?_ ?_|exact Xx|fail))<;>try with_reducible intro K hK)
 refine aX (λz:Nat×Cz=>(⟨au [(0,.ptr p 0 0),(1,.tree 1 (rowsOf bE left)),(5,.ref z.2.2.1.1 1 0 z.2.2.2.1.length),(6,.dx os.length),(7,.ref z.2.2.1.2 4 0 z.2.2.2.2.2.2.length),(8,aah c),(24,.tree 1 (rowsOf bk m.cls)),(25,aah m.cls.length),(26,aah c),(31,.tree 6 (rowsOf bA row)),(32,aah row.length),(33,aah z.1)],z.2.1⟩:St))
  (λz=>z.1<=row.length/\CB os os.length z.2.2.1.1 z.2.2.1.2 z.2.2.2.1 z.2.2.2.2.1 z.2.2.2.2.2.1 z.2.2.2.2.2.2 z.2.1/\ky m (XP m left c z.1) z.2.2.2.2.1 z.2.2.2.2.2.1 z.2.2.2.2.2.2)
  (λz=>row.length-z.1) (0,ob,(to,tk),D,S,G,ks) ⟨aN _,hC,hG⟩ ?_ ?_
 ·exact Xv X0
 clear hC hG;rintro⟨i,ob,⟨to,tk⟩,D,S,G,ks⟩⟨hi,hC,hG⟩cC aS bf;dsimp only at hi hC hG ⊢;have eC:=λl=>(hC.app l);have fo:=hC.out;have fk:=hC.mj;have fm:=hC.mp;have eo:=aD fo;have ek:=aD fk;have em:=aD fm;have so:=iq fo;have sk:=iq fk;have sm:=iq fm;by_cases hi':i<row.length;rotate_left
 ·((try revert hK K);(repeat'(first|refine Va X0 ?_|(refine V2 X0 ?_ ?_<;>try with_reducible intro hb)|(refine Xi ?_ ?_<;>try intro ht)|refine VD ?_ ?_|exact Xx|fail))<;>try with_reducible intro K hK)
  refine bf _ _ rfl ?_;clear aS bf cC;repeat(first|refine Xu ?_)
  ((try revert hK K);(repeat'(first|refine Va X0 ?_|(refine V2 X0 ?_ ?_<;>try with_reducible intro hb)|(refine Xi ?_ ?_<;>try intro ht)|refine VD ?_ ?_|exact Xx|fail))<;>try with_reducible intro K hK)
  have nB:i=row.length:=Ay;refine an _ (c+1,ob,(to,tk),D,S,G,ks) ⟨aaa,hC,by dsimp only;rw[CN,aP,<- nB];exact hG⟩ aaa (Xv X0)
 have eb:=Gu m left c i;rw[dt]at eb;have kL:lc.getD i default=lc.getD i false:=rfl;have xo:fh m ((c:Int),(i:Int))=row.getD i default:=by
  unfold fh;dsimp only;rw[dz,dz,aP]
 have X8:=hw ((c:Int),(i:Int));have QD:fY m ((c:Int),(i:Int))=decide (0<=(row.getD i default).room/\0<(row.getD i default).wk):=by unfold fY;rw[xo]
 have pt:du m ((c:Int),(i:Int))=[(row.getD i default).room,(row.getD i default).day,(row.getD i default).st,nU (row.getD i default).wk]:=by unfold du;rw[xo]
 rw[xo]at X8;generalize cg:row.getD i default=o at *;generalize pW:lc.getD i false=is at *;cases is
 ·rw[if_neg Dg,fF]at eb;((try revert hK K);(repeat'(first|refine Va (X5 @cg @dt @pW @bE.eq_1 (X4 @bA.eq_1 @bz @bN.{0} @aJ.{0})) ?_|(refine V2 (X5 @cg @dt @pW @bE.eq_1 (X4 @bA.eq_1 @bz @bN.{0} @aJ.{0})) ?_ ?_<;>try with_reducible intro hb)|(refine Xi ?_ ?_<;>try intro ht)|refine VD ?_ ?_|exact Xx|fail))<;>try with_reducible intro K hK)
  refine aS _ (i+1,_,(to,tk),D,S,G,ks) ⟨aaa,eC _,by dsimp only;rw[eb];exact hG⟩ aaa (Xv X0)
 rw[if_pos rfl]at eb;have pQ:=xe hm.opt (left:=left) c i Ay Ay;have mU:D.length<=600:=by rw[hC.ri.len,hG.lone];have:=Gj m (XP m left c i);omega
 have eT:ks.length<=600:=by rw[hG.keys];have:=CE m (XP m left c i) [];simp only[g8]at this;omega
 by_cases wA:0<=o.room/\0<o.wk;rotate_left
 ·have X9:fY m ((c:Int),(i:Int))=false:=by rw[QD,decide_eq_false wA]
  have tO:=hG.none X9;rw[<- eb]at tO;((try revert hK K);(repeat'(first|refine Va (X5 @fo @eo @so @cg (X5 @dt @pW @bE.eq_1 @bA.eq_1 (X3 @bz @bN.{0} @aJ.{0}))) ?_|(refine V2 (X5 @fo @eo @so @cg (X5 @dt @pW @bE.eq_1 @bA.eq_1 (X3 @bz @bN.{0} @aJ.{0}))) ?_ ?_<;>try with_reducible intro hb)|(refine Xi ?_ ?_<;>try intro ht)|refine VD ?_ ?_|exact Xx|fail))<;>try with_reducible intro K hK)
  all_goals
   refine aS _ (i+1,ob.set to .gone++[.var (bA o),.var [aah o.wk,aah o.day,aah o.st,aah o.len],.var (aj (c,i)),.arr 2 [aj (c,i)],.arr 1 [[.ref (ob.length+3) 2 0 1]],.arr 1 (rowsOf gy D++[[.ref (ob.length+3) 2 0 1]])],
    (ob.length+5,tk),D++[(ob.length+3,1)],S++[[((c:Int),(i:Int))]],G,ks) ⟨aaa,hC.lone (a:=3) (b:=5) rfl (by rw[<- Fy];rfl),tO⟩ aaa ?_
   exact Xv (X3 @bA.eq_1 @aj.eq_1 @aJ.{0})
 have QE:fY m ((c:Int),(i:Int))=true:=by rw[QD,decide_eq_true wA]
 have Gv:IntKind.u64.wrap o.wk=o.wk:=by
  rcases(show o.wk=1\/o.wk=2\/o.wk=3 by omega) with h|h|h<;>rw[h]<;>rfl
 have zA:=R2 (IntKind.u64.wrap o.wk) (by rw[Gv];omega);rw[show nU (IntKind.u64.wrap o.wk)=nU o.wk by rw[Gv]]at zA;have pO:=CH m (XP m left c i) (du m ((c:Int),(i:Int)));rw[pt]at pO;have fL:=Cn 2 [o.room,o.day,o.st,nU o.wk] G;generalize nU o.wk=tz at *;have QF:rowsOf sq ks++[[aah o.room,aah o.day,aah o.st,aah tz]]=rowsOf sq (ks++[[o.room,o.day,o.st,tz]]):=by simp[rowsOf,sq]
 cases iJ:ee G [o.room,o.day,o.st,tz] with
 |none =>
  rw[iJ]at fL;simp only[jn]at fL;have tO:=hG.first QE (by rw[pt];exact iJ) (ob.length+7);rw[pt,<- eb]at tO;have mS:Am.cB [o.room,o.day,o.st,tz] (.ref (ob.length+7) 2 0 1) (dy 2 G)=dy 2 (gz [o.room,o.day,o.st,tz] (ob.length+7) [((c:Int),(i:Int))] G):=zG [o.room,o.day,o.st,tz] (ob.length+7) [((c:Int),(i:Int))] G;have pu:=λu v=>F0 [o.room,o.day,o.st,tz] u v (dy 2 G);have il:=λu=>F1 [o.room,o.day,o.st,tz] u (dy 2 G);have pL:=cP (y:=.gone) fm fk (by intro e;cases e);have QG:=aD pL;have Gw:=iq pL;have vw:=λy l=>aD (jB (y:=y) pL) l;have zF:=λy y' l=>iq (y:=y') (jB (y:=y) pL) l;have jD:=λ(l:List Ob) (k:Nat)=>mg ob l tk k .gone;have QH:∀ (Y:Ob) (l:List Ob) (k:Nat),((ob.set tk .gone).set os.length Y++l)[ob.length+k]?=l[k]?:=λY l k=>by
   rw[List.getElem?_append_right Dg,bt,bt,Nat.add_sub_cancel_left]
  ((try revert hK K);(repeat'(first|refine Vc (X5 @fo @eo @so @fk (X5 @ek @sk @fm @em (X5 @sm @pL @QG @Gw (X5 @vw @zF @jD @QH (X5 @pu @mS @QF @cg (X5 @dt @pW @fL @bE.eq_1 (X5 @bA.eq_1 @bz @nG @nT.{0} (X5 @bN.{0} @aJ.{0} @bt.{0} @sG.{0} (X2 @m5.{0} @Ht.{0}))))))))) zA ?_|(refine V2 (X5 @fo @eo @so @fk (X5 @ek @sk @fm @em (X5 @sm @pL @QG @Gw (X5 @vw @zF @jD @QH (X5 @pu @mS @QF @cg (X5 @dt @pW @fL @bE.eq_1 (X5 @bA.eq_1 @bz @nG @nT.{0} (X5 @bN.{0} @aJ.{0} @bt.{0} @sG.{0} (X2 @m5.{0} @Ht.{0}))))))))) ?_ ?_<;>try with_reducible intro hb)|(refine Xi ?_ ?_<;>try intro ht)|refine VD ?_ ?_|exact Xx|fail))<;>try with_reducible intro K hK)
  ·exact xN.2 (il _)
  have CO:=(hC.key (k:=[o.room,o.day,o.st,tz]) (b:=5) (l:=[.var (bA o),.var [aah o.wk,aah o.day,aah o.st,aah o.len],.var (aj (c,i)),.var [aah o.room,aah o.day,aah o.st,aah tz],.arr 4 [[aah o.room,aah o.day,aah o.st,aah tz]],.arr 4 (rowsOf sq (ks++[[o.room,o.day,o.st,tz]]))]) rfl).first (k:=[o.room,o.day,o.st,tz]) (x:=((c:Int),(i:Int))) (b:=1) (l:=[.arr 2 [aj (c,i)],.arr 2 [aj (c,i)]]) rfl;simp only[Gw,aJ,bt,cK,g8,bN,fR,dT,gM,Nat.add_assoc,Nat.reduceAdd]at CO;refine aS _ (i+1,_,(to,ob.length+5),D,S,_,_) ⟨aaa,CO,tO⟩ aaa ?_;exact Xv (X5 @bA.eq_1 @aj.eq_1 @aJ.{0} @cK.{0} @g8.{0})
 |some g =>
  have tP:=hG.nu [o.room,o.day,o.st,tz];rw[iJ]at fL tP;simp only[g9]at fL;dsimp only at tP;rw[<- tP.1]at pO;have cT:=hC.gr _ g iJ;have eg:=aD cT;have sg:=iq cT;have mT:=λy:Ob=>cP (y:=y) cT fm (by intro e;cases e);have tH:=λy l=>aD (mT y) l;have tI:=λy l z=>iq (mT y) l z;have ln:∀ L,((ob.set os.length (.mp 4 L)).set g.at_ .gone)[os.length]?=some (.mp 4 L):=λL=>cP (jB fm) (mT _) (by intro e;cases e);have pP:=λL l=>aD (ln L) l;have zI:g.at_≠os.length:=λe=>by rw[e,fm]at cT;cases cT
  have tJ:∀ L Y l,(((ob.set os.length (.mp 4 L)).set g.at_ .gone)++l).set os.length Y=(ob.set g.at_ .gone).set os.length Y++l:=λL Y l=>by
   rw[iq (ln L) l Y,Du _ _ zI,nT,Du _ _ zI.symm]
  have mS:Am.cB [o.room,o.day,o.st,tz] (.ref (ob.length+5) 2 0 (g.l.length+1)) (dy 2 G)=dy 2 (gz [o.room,o.day,o.st,tz] (ob.length+5) (g.l++[((c:Int),(i:Int))]) G):=by rw[<- zG,aJ];rfl
  have gT:rowsOf aj g.l++[[aah c,aah i]]=rowsOf aj (g.l++[((c:Int),(i:Int))]):=by simp[rowsOf,aj]
  have pu:=λu v=>F0 [o.room,o.day,o.st,tz] u v (dy 2 G);have il:=λu=>F1 [o.room,o.day,o.st,tz] u (dy 2 G);have jD:=λ(y:Ob) (l:List Ob) (k:Nat)=>mg ob l os.length k y;have tO:=hG.more QE (show ee G (du m ((c:Int),(i:Int)))=some g by rw[pt];exact iJ) (ob.length+5);rw[pt,<- eb]at tO;repeat'(first|((fail_if_success (first|refine gP 12 ?_|refine gQ 12 ?_));refine Xq (X5 @fo @eo @so @fk (X5 @ek @sk @fm @em (X5 @sm @cT @eg @sg (X5 @mT @tH @tI @ln (X5 @pP @tJ @jD @pu (X5 @mS @gT @cg @dt (X5 @pW @fL @bE.eq_1 @bA.eq_1 (X5 @bz @nG @nT.{0} @bN.{0} (X5 @aJ.{0} @bt.{0} @dK.{0} @m5.{0} @xW.{0}))))))))) ?_;intro K hK)|refine Xo (X5 @fo @eo @so @fk (X5 @ek @sk @fm @em (X5 @sm @cT @eg @sg (X5 @mT @tH @tI @ln (X5 @pP @tJ @jD @pu (X5 @mS @gT @cg @dt (X5 @pW @fL @bE.eq_1 @bA.eq_1 (X5 @bz @nG @nT.{0} @bN.{0} (X5 @aJ.{0} @bt.{0} @dK.{0} @m5.{0} @xW.{0}))))))))) ?_|refine Xc (zA) ?_|(refine hK _ ?_;clear hK K)|(refine Xg (X5 @fo @eo @so @fk (X5 @ek @sk @fm @em (X5 @sm @cT @eg @sg (X5 @mT @tH @tI @ln (X5 @pP @tJ @jD @pu (X5 @mS @gT @cg @dt (X5 @pW @fL @bE.eq_1 @bA.eq_1 (X5 @bz @nG @nT.{0} @bN.{0} (X5 @aJ.{0} @bt.{0} @dK.{0} @m5.{0} @xW.{0}))))))))) ?_ ?_<;>try intro hb)|(refine Xi ?_ ?_<;>try intro ht)|refine Xy ?_|refine Xd ?_ ?_|exact Xx|fail)
  refine X' 3 Ha _ rfl ?_;intro K hK;simp(disch:=omega)only[Ac,↓Pc,simprocAttr,List.take,List.drop,fm,em,fL,nG,CP,bz];refine⟨g.at_,2,0,g.l.length,2,_,rfl,?_,eg _,?_⟩
  ·rw[tP.1];exact qX.2 tP.2
  refine hK _ ?_;clear hK K;((try revert hK K);(repeat'(first|refine Va (X5 @fo @eo @so @fk (X5 @ek @sk @fm @em (X5 @sm @cT @eg @sg (X5 @mT @tH @tI @ln (X5 @pP @tJ @jD @pu (X5 @mS @gT @cg @dt (X5 @pW @fL @bE.eq_1 @bA.eq_1 (X5 @bz @nG @nT.{0} @bN.{0} (X5 @aJ.{0} @bt.{0} @dK.{0} @m5.{0} @xW.{0}))))))))) ?_|(refine V2 (X5 @fo @eo @so @fk (X5 @ek @sk @fm @em (X5 @sm @cT @eg @sg (X5 @mT @tH @tI @ln (X5 @pP @tJ @jD @pu (X5 @mS @gT @cg @dt (X5 @pW @fL @bE.eq_1 @bA.eq_1 (X5 @bz @nG @nT.{0} @bN.{0} (X5 @aJ.{0} @bt.{0} @dK.{0} @m5.{0} @xW.{0}))))))))) ?_ ?_<;>try with_reducible intro hb)|(refine Xi ?_ ?_<;>try intro ht)|refine VD ?_ ?_|exact Xx|fail))<;>try with_reducible intro K hK)
  ·exact xN.2 (il _)
  have CO:=hC.more iJ (x:=((c:Int),(i:Int))) (b:=5) (l:=[.var (bA o),.var [aah o.wk,aah o.day,aah o.st,aah o.len],.var (aj (c,i)),.var [aah o.room,aah o.day,aah o.st,aah tz],.arr 2 [aj (c,i)],.arr 2 (rowsOf aj (g.l++[((c:Int),(i:Int))]))]) rfl;refine aS _ (i+1,_,(to,tk),D,S,_,_) ⟨aaa,CO,tO⟩ aaa ?_;exact Xv (X5 @bA.eq_1 @aj.eq_1 @aJ.{0} @cK.{0} @g8.{0})
def Ya(a:List bh)(b:List Bool):ao Tryz.prog 65 [.tree 6 (rowsOf bA a),.tree 1 (b8 b)] [] (.lit (.bool (decide (a.length=b.length)))) []:=by
 refine ao.aO 10 0 [.tmp 4] Tryz.func65 ?_;refine Vb X0 ?_;rw[show((a.length:Int)==(b.length:Int))=decide (a.length=b.length) by rw[Bool.eq_iff_iff,beq_iff_eq,decide_eq_true_eq];omega];exact oT rfl
def W2(G:List Int)(hG:G.length<1000000)(x:Int×Int):ao Tryz.prog 28 [.agg (aj x),.ptr 0 0 0] [.var [.tree 1 (ints G)]] (.lit (.bool (!eG G x))) [.var [.tree 1 (ints G)]]:=by
 have h1:=WL G x.1 Ay;rw[show G.contains x.1=eG G x from rfl]at h1;generalize eG G x=b at *;refine ao.aO 9 1 [.tmp 3] Tryz.func28 ?_;((try revert hK K);(repeat'(first|refine Vd @aj.eq_1 h1 ?_|(refine V2 @aj.eq_1 ?_ ?_<;>try with_reducible intro hb)|(refine Xi ?_ ?_<;>try intro ht)|refine VD ?_ ?_|exact Xx|fail))<;>try with_reducible intro K hK)
 exact Xw false [0] X0
def Yb(a b:List (Int×Int))(Yc:a≠[])(vC:b≠[]):ao Tryz.prog 31 [.tree 2 (rowsOf aj a),.tree 2 (rowsOf aj b)] [] (aah (l4 [gk (bM a).1 (bM b).1,gk (bM a).2 (bM b).2])) []:=by
 have h1:=Ck (bM a).1 (bM b).1;have h2:=Ck (bM a).2 (bM b).2;have h3:=FR [gk (bM a).1 (bM b).1,gk (bM a).2 (bM b).2] Dg;have la:(rowsOf aj a).length=a.length:=by simp[rowsOf]
 have lb:(rowsOf aj b).length=b.length:=by simp[rowsOf]
 have pa:=qX.2 Yc;have pb:=qX.2 vC;generalize l4 [gk (bM a).1 (bM b).1,gk (bM a).2 (bM b).2]=z at *;generalize gk (bM a).1 (bM b).1=u at *;generalize gk (bM a).2 (bM b).2=v at *;unfold bM at h1 h2;generalize QI:a.getD 0 default=x at *;generalize QJ:b.getD 0 default=y at *;refine ao.aO 25 0 [.tmp 4] Tryz.func31 ?_;((try revert hK K);(repeat'(first|refine Vd (X5 @QI @QJ @la @lb @aj.eq_1) (X2 h1 h2) ?_|(refine V2 (X5 @QI @QJ @la @lb @aj.eq_1) ?_ ?_<;>try with_reducible intro hb)|(refine Xi ?_ ?_<;>try intro ht)|refine VD ?_ ?_|exact Xx|fail))<;>try with_reducible intro K hK)
 refine wh [] h3 Ha trivial ⟨a9.bO rfl (kF _) rfl Ha (n9 _),trivial⟩ rfl Dg ?_;((try revert hK K);(repeat'(first|refine Vb X0 ?_|(refine V2 X0 ?_ ?_<;>try with_reducible intro hb)|(refine Xi ?_ ?_<;>try intro ht)|refine VD ?_ ?_|exact Xx|fail))<;>try with_reducible intro K hK)
 exact oT rfl
def Yd(cls:List (List bh))(left:List (List Bool))(hl:cls.length<1000000):ao Tryz.prog 64 [.tree 1 (rowsOf bk cls),.tree 1 (rowsOf bE left),.fn 65 []] [] (.lit (.bool (decide (left.length=cls.length/\∀ i,i<left.length->(left.getD i default).length=(cls.getD i default).length)))) []:=by
 generalize az:decide (left.length=cls.length/\∀ i,i<left.length->(left.getD i default).length=(cls.getD i default).length)=res;refine ao.aO 32 0 [.tmp 6] Tryz.func64 ?_;repeat'(first|(refine Xr X0 ?_;intro K hK)|refine Xo X0 ?_|(refine hK _ ?_;clear hK K)|(refine Xg X0 ?_ ?_<;>try intro hb)|(refine Xi ?_ ?_<;>try intro ht)|refine Xz ?_|refine Xh ?_|(refine Xe ?_;first|refine aT rfl ?_|refine Xl ?_ ?_)|refine Xd ?_ ?_|exact Xx|fail)
 ·rw[<- az,decide_eq_false (λh=>Ay)]
 refine aX (λk:Nat=>(⟨au [(1,.tree 1 (rowsOf bE left)),(2,.fn 65 []),(15,.tree 1 (rowsOf bk cls)),(16,aah cls.length),(17,aah k)],[]⟩:St)) (λk=>k<=cls.length/\∀ i,i<k->(left.getD i default).length=(cls.getD i default).length) (λk=>cls.length-k) 0 ⟨aN _,by intro i hi;exact absurd hi (Nat.not_lt_zero _)⟩ (Xv X0) ?_;rintro k⟨hk,jv⟩Ql an ay;by_cases aQ:k<cls.length
 ·have h1:=Ya (cls.getD k default) (left.getD k default);generalize pM:decide ((cls.getD k default).length=(left.getD k default).length)=b1 at *;generalize bK:cls.getD k default=x at *;generalize gJ:left.getD k default=y at *;((try revert hK K);(repeat'(first|refine Vd (X4 @bK @gJ @bk.eq_1 @bE.eq_1) h1 ?_|(refine V2 (X4 @bK @gJ @bk.eq_1 @bE.eq_1) ?_ ?_<;>try with_reducible intro hb)|(refine Xi ?_ ?_<;>try intro ht)|refine VD ?_ ?_|exact Xx|fail))<;>try with_reducible intro K hK)
  ·have hlen:left.length=cls.length:=Ay;have:res=false:=by
    rw[<- az];refine decide_eq_false λh=>?_;have h2:=h.2 k Ay;rw[bK,gJ]at h2;rw[ht]at pM;exact of_decide_eq_false pM h2.symm
   rw[this];exact oT rfl
  ·refine an _ (k+1) ⟨Ay,λi hi=>?_⟩ Ay (Xv X0);by_cases Pv:i=k
   ·rw[ht]at pM;rw[Pv,bK,gJ];exact(of_decide_eq_true pM).symm
   ·exact jv i Ay
 ·((try revert hK K);(repeat'(first|refine Vb X0 ?_|(refine V2 X0 ?_ ?_<;>try with_reducible intro hb)|(refine Xi ?_ ?_<;>try intro ht)|refine VD ?_ ?_|exact Xx|fail))<;>try with_reducible intro K hK)
  have hlen:left.length=cls.length:=Ay;have:res=true:=by rw[<- az];exact decide_eq_true ⟨hlen,λi hi=>jv i Ay⟩
  rw[this];exact oT rfl
def P6(m:ah)(left:List (List Bool))(hl:m.cls.length<1000000):ao Tryz.prog 25 [.agg (aA m),.tree 1 (rowsOf bE left)] [] (.lit (.bool (decide (jd m left)))) []:=by
 have h1:=Yd m.cls left hl;rw[show decide (left.length=m.cls.length/\∀ i,i<left.length->(left.getD i default).length=(m.cls.getD i default).length)=decide (jd m left) from by congr 1]at h1;generalize decide (jd m left)=b at *;refine ao.aO 9 0 [.tmp 4] Tryz.func25 ?_;((try revert hK K);(repeat'(first|refine Vd @aA.eq_1 h1 ?_|(refine V2 @aA.eq_1 ?_ ?_<;>try with_reducible intro hb)|(refine Xi ?_ ?_<;>try intro ht)|refine VD ?_ ?_|exact Xx|fail))<;>try with_reducible intro K hK)
 exact oT rfl
def Ye(xs:List (Int×Int))(rest:List (List AV))(g:FuncId)(gv:AV)(p:(Int×Int)->Bool)(hl:xs.length<1000000)(cT:∀ ρ,aU ρ gv=gv)(hg:∀ x∈xs,ao Tryz.prog g [.agg (aj x),.ptr 0 0 0] [.var [gv]] (.lit (.bool (p x))) [.var [gv]]):
  ao Tryz.prog 68 [.ref 1 2 0 xs.length,.fn g [.ptr 0 0 0]] [.var [gv],.arr 2 (rowsOf aj xs++rest)] (aah (eQ p 0 xs)) [.var [gv],.arr 2 (rowsOf aj xs++rest)]:=by
 generalize az:eQ p 0 xs=res;have j6:(rowsOf aj xs++rest).length=xs.length+rest.length:=by rw[aJ,cH]
 have aP:∀ k,k<xs.length->(rowsOf aj xs++rest)[k]?=some (aj (xs.getD k default)):=λk hk=>by
  rw[cr (by rw[cH];omega),nc _ _ Ay]
 generalize QK:rowsOf aj xs++rest=R at *;refine ao.aO 19 2 [.tmp 4] Tryz.func68 ?_;((try revert hK K);(repeat'(first|refine Vb @j6 ?_|(refine V2 @j6 ?_ ?_<;>try with_reducible intro hb)|(refine Xi ?_ ?_<;>try intro ht)|refine VD ?_ ?_|exact Xx|fail))<;>try with_reducible intro K hK)
 refine aX (λk:Nat=>(⟨au [(0,.ref 1 2 0 xs.length),(1,.fn g [.ptr 0 0 0]),(7,aah xs.length),(8,aah k)],[.var [gv],.arr 2 R]⟩:St)) (λk=>k<=xs.length/\eQ p k (xs.drop k)=res) (λk=>xs.length-k) 0 ⟨aN _,az⟩ (Xv @cT) ?_;rintro k⟨hk,hr⟩Ql an ay;by_cases aQ:k<xs.length
 ·have hx:=hg _ (aG (d:=default) aQ);have hd:=cF xs k default aQ;have QL:=aP k aQ;generalize bK:xs.getD k default=x at *;rw[hd,eQ]at hr;simp only[aj]at hx;((try revert hK K);(repeat'(first|refine Vb (X3 @j6 @QL @aj.eq_1) ?_|(refine V2 (X3 @j6 @QL @aj.eq_1) ?_ ?_<;>try with_reducible intro hb)|(refine Xi ?_ ?_<;>try intro ht)|refine VD ?_ ?_|exact Xx|fail))<;>try with_reducible intro K hK)
  refine fD [0] hx Ha ⟨by show some (Ob.var [gv])=some (Ob.var [aU _ gv]);rw[cT],trivial⟩ ⟨.pure rfl,.eq rfl,trivial⟩ ?_;((try revert hK K);(repeat'(first|refine Vb @cT ?_|(refine V2 @cT ?_ ?_<;>try with_reducible intro hb)|(refine Xi ?_ ?_<;>try intro ht)|refine VD ?_ ?_|exact Xx|fail))<;>try with_reducible intro K hK)
  ·rw[if_pos (by assumption)]at hr;rw[<- hr];exact iy rfl (aM _) rfl
  ·rw[if_neg (by simp_all)]at hr;exact an _ (k+1) ⟨Ay,hr⟩ Ay (Xv @cT)
 ·((try revert hK K);(repeat'(first|refine Vb @j6 ?_|(refine V2 @j6 ?_ ?_<;>try with_reducible intro hb)|(refine Xi ?_ ?_<;>try intro ht)|refine VD ?_ ?_|exact Xx|fail))<;>try with_reducible intro K hK)
  rw[dw Ay,eQ]at hr;rw[<- hr];exact iy rfl (aM _) rfl
def Gx{l:List Ob}{i:Nat}{x:Ob}(h:l[i]?=some x):l.set i x=l:=by
 apply List.ext_getElem?;intro j;rw[List.getElem?_set];split
 ·rename_i e;subst e;rw[if_pos (ba.1 h).1,h]
 ·rfl
def W1(xs:List (Int×Int))(rest:List (List AV))(g:FuncId)(gv:AV)(v:Nat)(p:(Int×Int)->Bool)(os:List Ob)(b:Nat)(hv:os[v]?=some (.var [gv]))(hb:os[b]?=some (.arr 2 (rowsOf aj xs++rest)))(hw:∀ row∈rest,row.length=2)(hl:xs.length<1000000)(cT:∀ ρ,aU ρ gv=gv)(qH:∀ ρ,bu ρ (Ob.arr 2 (rowsOf aj xs++rest))=Ob.arr 2 (rowsOf aj xs++rest))(hg:∀ x∈xs,ao Tryz.prog g [.agg (aj x),.ptr 0 0 0] [.var [gv]] (.lit (.bool (p x))) [.var [gv]]):
  eM Tryz.prog 27 [.ref b 2 0 xs.length,.fn g [.ptr v 0 0]] os (λr ob=>r=.ref b 2 0 (xs.filter λx=>!p x).length/\nH b os ob/\∃ CA,ob[b]?=some (.arr 2 (rowsOf aj (xs.filter λx=>!p x)++CA))/\∀ row∈CA,row.length=2):=by
 have tD:=Ye xs rest g gv p hl cT hg;have Yf:=(ba.1 hv).1;have qn:=(ba.1 hb).1;have Gv:∀ row∈rowsOf aj xs++rest,row.length=2:=λrow hr=>by
  rcases bj.1 hr with h|h
  ·exact gb _ row h
  ·exact hw row h
 have QM:v≠b:=λe=>by rw[e,hb]at hv;cases hv
 have zX:∀ ρ,(os.set v (Ob.var [aU ρ gv])).set b (bu ρ (Ob.arr 2 (rowsOf aj xs++rest)))=os:=λρ=>by rw[cT,qH,Gx hv,Gx hb]
 refine eM.aO 42 os.length [.tmp 4] Tryz.func27 ?_;((try revert hK K);(repeat'(first|refine Va X0 ?_|(refine V2 X0 ?_ ?_<;>try with_reducible intro hb)|(refine Xi ?_ ?_<;>try intro ht)|refine VD ?_ ?_|exact Xx|fail))<;>try with_reducible intro K hK)
 refine fD [v,b] tD (by simp[QM]) ⟨by show os[v]?=some (Ob.var [aU _ gv]);rw[cT];exact hv,by show os[b]?=some (bu _ _);rw[qH];exact hb,trivial⟩ ⟨.eq rfl,.eq rfl,trivial⟩ ?_;simp(disch:=omega)only[Ac,↓Pc,simprocAttr,zX];by_cases wO:eQ p 0 xs = -1
 ·have fV:=QN p xs 0 wO;rw[wO];((try revert hK K);(repeat'(first|refine Va X0 ?_|(refine V2 X0 ?_ ?_<;>try with_reducible intro hb)|(refine Xi ?_ ?_<;>try intro ht)|refine VD ?_ ?_|exact Xx|fail))<;>try with_reducible intro K hK)
  unfold gd;simp only[dN,dO];simp(disch:=omega)only[Ac,↓Pc,simprocAttr];exact⟨_,_,⟨by rw[fV],nH.refl _ _,rest,by rw[fV];exact hb,hw⟩,iy rfl (aM _) rfl⟩
 ·obtain⟨i0,h1,h2,h3⟩:=QO p xs 0 wO;rw[gM]at h1;rw[h1];clear tD;((try revert hK K);(repeat'(first|refine Va X0 ?_|(refine V2 X0 ?_ ?_<;>try with_reducible intro hb)|(refine Xi ?_ ?_<;>try intro ht)|refine VD ?_ ?_|exact Xx|fail))<;>try with_reducible intro K hK)
  all_goals try(exfalso;omega)
  refine aX (λz:Nat×Nat×List (Int×Int)×List Ob=>(⟨au [(0,.ref b 2 0 xs.length),(1,.fn g [.ptr v 0 0]),(5,aah z.2.1),(6,aah z.1)],z.2.2.2⟩:St))
   (λz=>z.1<=xs.length/\z.2.1<z.1/\z.2.2.1.length=xs.length/\(xs.take z.1).filter (λx=>!p x)=z.2.2.1.take z.2.1/\(∀ k,z.1<=k->z.2.2.1.getD k default=xs.getD k default)/\nH b os z.2.2.2/\z.2.2.2[b]?=some (.arr 2 (rowsOf aj z.2.2.1++rest)))
   (λz=>xs.length-z.1) (i0+1,i0,xs,os) ⟨h2,Nat.lt_succ_self _,rfl,h3,λ_ _=>rfl,nH.refl _ _,hb⟩ (Xv X0) ?_
  rintro⟨j,i,Y,ob⟩⟨hj,mM,hY,nk,vD,xp,bb⟩Ql an ay;dsimp only at hj mM hY nk vD xp bb ⊢;have j6:(rowsOf aj Y++rest).length=xs.length+rest.length:=by rw[aJ,cH,hY]
  have jv:=aD bb;have jy:=λl y=>iq bb l (y:=y);by_cases fW:j<xs.length
  ·have oN:=aG (l:=xs) (d:=default) fW;have hx:=hg _ oN;have aP:(rowsOf aj Y++rest)[j]?=some (aj (xs.getD j default)):=by
    rw[cr (by rw[cH];omega),nc _ _ Ay,vD j (aM _)]
   have Gy:(rowsOf aj Y++rest).getD j []=aj (xs.getD j default):=by rw[aw,aP];rfl
   have QP:(rowsOf aj Y++rest)[i]?=some (aj (Y.getD i default)):=by
    rw[cr (by rw[cH];omega),nc _ _ Ay]
   generalize Y.getD i default=y0 at *;have je:=tE fW;generalize bK:xs.getD j default=x at *;simp only[aj]at hx;have Yg:ob[v]?=some (.var [gv]):=by rw[xp.2 v QM Yf];exact hv
   have QQ:=aD Yg;have Yh:∀ ρ (l:List Ob),(ob++l).set v (Ob.var [aU ρ gv])=ob++l:=λρ l=>by rw[cT];exact Gx (QQ l)
   have km:(rowsOf aj Y++rest).set i [aah x.1,aah x.2]=rowsOf aj (Y.set i x)++rest:=by
    rw[List.set_append_left _ _ (by rw[cH];omega),<- sS];rfl
   generalize QK:rowsOf aj Y++rest=R at *;repeat'(first|((fail_if_success (first|refine gP 8 ?_|refine gQ 8 ?_));refine Xr (X5 @bb @j6 @aP @Gy (X2 @aj.eq_1 @bz)) ?_;intro K hK)|refine Xo (X5 @bb @j6 @aP @Gy (X2 @aj.eq_1 @bz)) ?_|(refine hK _ ?_;clear hK K)|(refine Xg (X5 @bb @j6 @aP @Gy (X2 @aj.eq_1 @bz)) ?_ ?_<;>try intro hb)|(refine Xi ?_ ?_<;>try intro ht)|refine Xy ?_|refine Xd ?_ ?_|exact Xx|fail)
   ((try revert hK K);(repeat'(first|refine Va @bz ?_|(refine V2 @bz ?_ ?_<;>try with_reducible intro hb)|(refine Xi ?_ ?_<;>try intro ht)|refine VD ?_ ?_|exact Xx|fail))<;>try with_reducible intro K hK)
   refine fD [v] hx Dg ⟨by show(ob++_)[v]?=some (Ob.var [aU _ gv]);rw[cT];exact QQ _,trivial⟩ ⟨.pure rfl,.eq rfl,trivial⟩ ?_;simp(disch:=omega)only[Ac,↓Pc,simprocAttr,bz,Yh];have pX:=(ba.1 bb).1;cases xq:p x
   ·((try revert hK K);(repeat'(first|refine Va (X5 @bb @jv @jy @j6 (X5 @QP @aj.eq_1 @km @xq (X2 @bz @sA))) ?_|(refine V2 (X5 @bb @jv @jy @j6 (X5 @QP @aj.eq_1 @km @xq (X2 @bz @sA))) ?_ ?_<;>try with_reducible intro hb)|(refine Xi ?_ ?_<;>try intro ht)|refine VD ?_ ?_|exact Xx|fail))<;>try with_reducible intro K hK)
    all_goals try(exfalso;simp_all;done)
    all_goals
     exact an _ (j+1,i+1,Y.set i x,ob.set b (.arr 2 (rowsOf aj (Y.set i x)++rest))++[.var (aj x)]) ⟨aaa,aaa,by simpa using hY,by
      dsimp only;rw[je,vX,nk,Yi Ay];simp[xq],λk hk=>by
      dsimp only at hk ⊢;rw[aw,List.getElem?_set_ne Ay,<- aw];exact vD k Ay,xp.step _ _,aD (jB bb) _⟩ aaa (Xv @aj.eq_1)
   ·((try revert hK K);(repeat'(first|refine Va (X5 @bb @jv @jy @j6 (X3 @xq @bz @tZ)) ?_|(refine V2 (X5 @bb @jv @jy @j6 (X3 @xq @bz @tZ)) ?_ ?_<;>try with_reducible intro hb)|(refine Xi ?_ ?_<;>try intro ht)|refine VD ?_ ?_|exact Xx|fail))<;>try with_reducible intro K hK)
    all_goals try(exfalso;simp_all;done)
    all_goals
     exact an _ (j+1,i,Y,ob++[.var (aj x)]) ⟨aaa,aaa,hY,by
      dsimp only;rw[je,vX,nk];simp[xq],λk hk=>vD k (by dsimp only at hk;omega),xp.app _,by dsimp only;rw[QK];exact aD bb _⟩ aaa (Xv @aj.eq_1)
  ·obtain rfl:j=xs.length:=Ay;rw[xX]at nk;((try revert hK K);(repeat'(first|refine Va (X2 @bb @j6) ?_|(refine V2 (X2 @bb @j6) ?_ ?_<;>try with_reducible intro hb)|(refine Xi ?_ ?_<;>try intro ht)|refine VD ?_ ?_|exact Xx|fail))<;>try with_reducible intro K hK)
   refine ay _ _ rfl ?_;clear an ay Ql;repeat(first|refine Xu ?_)
   have ru:=λy=>jB (y:=y) bb;have Qw:∀ row∈(rowsOf aj Y++rest).drop (i+(xs.length-i)),row.length=2:=λrow hr=>by
    rcases bj.1 (List.mem_of_mem_drop hr) with h|h
    ·exact gb _ row h
    ·exact hw row h
   ((try revert hK K);(repeat'(first|refine Va (X5 @bb @j6 @ru @jn.{0,0} @g9.{0,0}) ?_|(refine V2 (X5 @bb @j6 @ru @jn.{0,0} @g9.{0,0}) ?_ ?_<;>try with_reducible intro hb)|(refine Xi ?_ ?_<;>try intro ht)|refine VD ?_ ?_|exact Xx|fail))<;>try with_reducible intro K hK)
   unfold gd;simp only[dN,dO];simp(disch:=omega)only[Ac,↓Pc,simprocAttr];have pd:(xs.filter λx=>!p x).length=i:=by rw[nk,j9];omega
   refine⟨_,_,⟨by rw[pd],by have:=xp.step (.arr 2 ((rowsOf aj Y++rest).take i++ax (xs.length-i) [aah 0,aah 0]++(rowsOf aj Y++rest).drop (i+(xs.length-i)))) [];rwa [fF]at this,ax (xs.length-i) [aah 0,aah 0]++(rowsOf aj Y++rest).drop (i+(xs.length-i)),?_,λrow hr=>?_⟩,iy rfl (by rw[bt];exact xp.1) rfl⟩
   ·rw[ru,<- bN,nk];congr 4;unfold rowsOf;rw[List.map_take,List.take_append_of_le_length (by rw[List.length_map];omega)]
   ·rcases bj.1 hr with h|h
    ·rw[List.eq_of_mem_replicate h];rfl
    ·exact Qw row h
def Yj(xs:List (List (Int×Int)))(hx:∀ x∈xs,x≠[])(hl:xs.length<1000000):
  ao Tryz.prog 105 [.ref 0 1 0 xs.length,aah 0,aah xs.length,.fn 31 []] [.arr 1 (rowsOf aH xs)] (.bP []) [.arr 1 (rowsOf aH (eF dR xs []))]:=by
 have Yk:∀ a b:List (Int×Int),a≠[]->b≠[]->ao Tryz.prog 31 [.tree 2 (rowsOf aj a),.tree 2 (rowsOf aj b)] [] (aah (B9 a b)) []:=λa b ha vC=>Yb a b ha vC;generalize hR:eF dR xs []=R;obtain⟨N,hN⟩:∃N,xs.length=N:=⟨_,rfl⟩;have h1:eF dR (xs.take 1) []++xs.drop 1=xs:=by
  cases xs with
  |nil=>rfl
  |cons y r=>rfl
 have aaq:(eF dR (xs.take 1) []++xs.drop 1).length=N:=by rw[h1,hN]
 rw[hN]at hl;refine ao.aO 53 1 [] Tryz.func105 ?_;((try revert hK K);(repeat'(first|refine Vb @hN ?_|(refine V2 @hN ?_ ?_<;>try with_reducible intro hb)|(refine Xi ?_ ?_<;>try intro ht)|refine VD ?_ ?_|exact Xx|fail))<;>try with_reducible intro K hK)
 refine aX (λz:Nat×Int×List (List (Int×Int))=>(⟨au [(0,.ref 0 1 0 N),(1,aah 0),(2,aah N),(3,.fn 31 []),(8,aah z.2.1)],[.arr 1 (rowsOf aH z.2.2)]⟩:St))
  (λz=>(z.1<=N\/z.1=1)/\z.2.1=z.1/\0<z.1/\z.2.2=eF dR (xs.take z.1) []++xs.drop z.1) (λz=>N-z.1) (1,1,xs) ⟨.inr rfl,rfl,Nat.one_pos,h1.symm⟩ (by dsimp only;exact Xv @hN) ?_
 rintro⟨i,ix,ar⟩⟨hi,tD,wO,zY⟩Ql an ay;dsimp only at hi tD wO zY ⊢;by_cases hi':i<N
 ·have K6:(eF dR (xs.take i) []).length=i:=by rw[B8,j9];simp;omega
  have kj:=Vu (lt:=dR) (xs:=xs) (i:=i) Ay;have eh:∀ y∈eF dR (xs.take i) [],y≠[]:=λy hy=>hx y (List.mem_of_mem_take ((wQ _ _ _).mem_iff.1 hy));have bK:=hx _ (aG (l:=xs) (i:=i) (d:=default) Ay);rw[cF xs i default Ay]at zY;unfold oJ at kj;generalize eF dR (xs.take i) []=out at *;generalize xs.getD i default=x at *;have dH:(xs.drop (i+1)).length=N-(i+1):=by rw[List.length_drop,hN]
  generalize vv:xs.drop (i+1)=rest at *;have aar:=B3 dR x out out.length;generalize hq:j3 dR x out out.length=q at *;obtain rfl:ar=im out x out.length++rest:=by rw[zY,Vq,bN];rfl
  have jy:∀ j,(im out x j++rest).length=N:=λj=>by rw[aJ,zo];omega
  ((try revert hK K);(repeat'(first|refine Va X0 ?_|(refine V2 X0 ?_ ?_<;>try with_reducible intro hb)|(refine Xi ?_ ?_<;>try intro ht)|refine VD ?_ ?_|exact Xx|fail))<;>try with_reducible intro K hK)
  all_goals try(exfalso;omega)
  refine aX (λz:Nat×Int=>(⟨au [(0,.ref 0 1 0 N),(1,aah 0),(2,aah N),(3,.fn 31 []),(8,aah ix),(9,aah z.2)],[.arr 1 (rowsOf aH (im out x z.1++rest))]⟩:St))
   (λz=>z.1<=out.length/\z.2=z.1/\j3 dR x out z.1=q) (λz=>z.1) (out.length,ix) ⟨aM _,aaa,hq⟩ (Xv X0) ?_
  clear hq;rintro⟨j,jx⟩⟨hj,Yl,kS⟩cC aS bf;dsimp only at hj Yl kS ⊢;cases j with
  |zero =>
   rw[j3]at kS;((try revert hK K);(repeat'(first|refine Va X0 ?_|(refine V2 X0 ?_ ?_<;>try with_reducible intro hb)|(refine Xi ?_ ?_<;>try intro ht)|refine VD ?_ ?_|exact Xx|fail))<;>try with_reducible intro K hK)
   all_goals try(exfalso;omega)
   refine bf _ _ rfl ?_;clear aS bf;repeat(first|refine Xu ?_)
   ((try revert hK K);(repeat'(first|refine Va X0 ?_|(refine V2 X0 ?_ ?_<;>try with_reducible intro hb)|(refine Xi ?_ ?_<;>try intro ht)|refine VD ?_ ?_|exact Xx|fail))<;>try with_reducible intro K hK)
   exact an _ (i+1,ix+1,im out x 0++rest) ⟨aaa,aaa,aaa,by dsimp only;rw[kj,vv,kS];rfl⟩ aaa (Xv X0)
  |succ j =>
   have r0:∀ C,(aH C)[0]?=some (.tree 2 (rowsOf aj C)):=λ_=>rfl;have r1:∀ C,(aH C).length=1:=λ_=>rfl;have r2:∀ C v,(aH C).set 0 v=[v]:=λ_ _=>rfl;have r3:∀ u v:AV,[u].set 0 v=[v]:=λ_ _=>rfl;have r4:∀ u:AV,[u].length=1:=λ_=>rfl;have e1:=Vr (rest:=rest) (x:=x) hj;have e2:=Vs (rest:=rest) (x:=x) hj;have e3:=OT (rest:=rest) (x:=x) hj;have e4:=Vt (rest:=rest) (x:=x) hj;have e5:=jy (j+1);have e6:=OV (l:=im out x (j+1)++rest) (j:=j) (k:=j+1) (by rw[e5];omega) Ay;have e7:=OV (l:=im out x (j+1)++rest) (j:=j+1) (k:=j) (by rw[e5];omega) Ay;rw[e2]at e6;rw[e1]at e7;have vC:=eh _ (aG (l:=out) (i:=j) (d:=default) Ay);have hc:=Yk x (out.getD j default) bK vC;have bw:=Vv x (out.getD j default);rw[j3,bw]at kS;generalize out.getD j default=b at *;generalize B9 x b=v at *;have pw:jx-1=(j:Int):=Ay;have mo:jx.toNat=j+1:=Ay;by_cases hv:v<0
   ·rw[if_pos (decide_eq_true hv)]at kS;((try revert hK K);(repeat'(first|refine Vc (X5 @r0 @r1 @r2 @r3 (X5 @r4 @e1 @e2 @e3 (X5 @e4 @e5 @e6 @e7 (X3 @pw @mo @OU)))) hc ?_|(refine V2 (X5 @r0 @r1 @r2 @r3 (X5 @r4 @e1 @e2 @e3 (X5 @e4 @e5 @e6 @e7 (X3 @pw @mo @OU)))) ?_ ?_<;>try with_reducible intro hb)|(refine Xi ?_ ?_<;>try intro ht)|refine VD ?_ ?_|exact Xx|fail))<;>try with_reducible intro K hK)
    all_goals try(exfalso;omega)
    all_goals exact aS _ (j,(j:Int)) ⟨aaa,rfl,kS⟩ aaa (Xv X0)
   ·rw[if_neg (by rw[decide_eq_true_iff];exact hv)]at kS;((try revert hK K);(repeat'(first|refine Vc (X5 @r0 @e1 @e2 @e5 (X2 @pw @mo)) hc ?_|(refine V2 (X5 @r0 @e1 @e2 @e5 (X2 @pw @mo)) ?_ ?_<;>try with_reducible intro hb)|(refine Xi ?_ ?_<;>try intro ht)|refine VD ?_ ?_|exact Xx|fail))<;>try with_reducible intro K hK)
    all_goals try(exfalso;omega)
    all_goals
     refine bf _ _ rfl ?_;clear aS bf;repeat(first|refine Xu ?_)
     ((try revert hK K);(repeat'(first|refine Va X0 ?_|(refine V2 X0 ?_ ?_<;>try with_reducible intro hb)|(refine Xi ?_ ?_<;>try intro ht)|refine VD ?_ ?_|exact Xx|fail))<;>try with_reducible intro K hK)
     exact an _ (i+1,ix+1,im out x (j+1)++rest) ⟨aaa,aaa,aaa,by dsimp only;rw[kj,vv,<- kS];rfl⟩ aaa (Xv X0)
 ·have he:eF dR (xs.take i) []++xs.drop i=R:=by
   rw[List.take_of_length_le Ay,dw Ay,fF,hR]
  rw[he]at zY;subst zY;((try revert hK K);(repeat'(first|refine Va X0 ?_|(refine V2 X0 ?_ ?_<;>try with_reducible intro hb)|(refine Xi ?_ ?_<;>try intro ht)|refine VD ?_ ?_|exact Xx|fail))<;>try with_reducible intro K hK)
  all_goals try(exfalso;omega)
  refine ay _ _ rfl ?_;clear an ay Ql;repeat(first|refine Xu ?_)
  ((try revert hK K);(repeat'(first|refine Vb X0 ?_|(refine V2 X0 ?_ ?_<;>try with_reducible intro hb)|(refine Xi ?_ ?_<;>try intro ht)|refine VD ?_ ?_|exact Xx|fail))<;>try with_reducible intro K hK)
  exact iy rfl (aM _) rfl
def Ym(xs:List (List (Int×Int)))(k:Int)(hx:∀ x∈xs,x≠[])(hl:xs.length<=12):
  ao Tryz.prog 70 [.ref 0 1 0 xs.length,aah 0,aah xs.length,aah k,.fn 31 []] [.arr 1 (rowsOf aH xs)] (.bP []) [.arr 1 (rowsOf aH (eF dR xs []))]:=by
 have h1:=Yj xs hx Ay;have j6:=B8 dR xs [];generalize eF dR xs []=R at *;refine ao.aO 148 1 [] Tryz.func70 ?_;((try revert hK K);(repeat'(first|refine Vb X0 ?_|(refine V2 X0 ?_ ?_<;>try with_reducible intro hb)|(refine Xi ?_ ?_<;>try intro ht)|refine VD ?_ ?_|exact Xx|fail))<;>try with_reducible intro K hK)
 refine aX (λ_:Unit=>(⟨au [(0,.ref 0 1 0 xs.length),(1,aah 0),(2,aah xs.length),(4,.fn 31 [])],[.arr 1 (rowsOf aH xs)]⟩:St)) (λ_=>True) (λ_=>0) () trivial (Xv X0) ?_;rintro⟨⟩_ Ql an ay;((try revert hK K);(repeat'(first|refine Va X0 ?_|(refine V2 X0 ?_ ?_<;>try with_reducible intro hb)|(refine Xi ?_ ?_<;>try intro ht)|refine VD ?_ ?_|exact Xx|fail))<;>try with_reducible intro K hK)
 all_goals try(exfalso;omega)
 refine jU h1 (aM _) ?_;((try revert hK K);(repeat'(first|refine Va X0 ?_|(refine V2 X0 ?_ ?_<;>try with_reducible intro hb)|(refine Xi ?_ ?_<;>try intro ht)|refine VD ?_ ?_|exact Xx|fail))<;>try with_reducible intro K hK)
 all_goals try(exfalso;omega)
 repeat(first|refine Xu ?_|(refine bf _ _ rfl ?_;clear aS bf;try clear cC)|(refine dJ _ _ rfl ?_;clear eH dJ;try clear jC)|(refine ja _ _ rfl ?_;clear pY ja;try clear tQ))
 ((try revert hK K);(repeat'(first|refine Vb X0 ?_|(refine V2 X0 ?_ ?_<;>try with_reducible intro hb)|(refine Xi ?_ ?_<;>try intro ht)|refine VD ?_ ?_|exact Xx|fail))<;>try with_reducible intro K hK)
 exact iy rfl (aM _) rfl
def Xa(xs:List (List (Int×Int)))(hx:∀ x∈xs,x≠[])(hl:xs.length<=12):
  ao Tryz.prog 30 [.ref 0 1 0 xs.length,.fn 31 []] [.arr 1 (rowsOf aH xs)] (.bP []) [.arr 1 (rowsOf aH (eF dR xs []))]:=by
 obtain⟨k,hk⟩:=Yn xs.length Ay;have h1:=Ym xs k hx hl;refine ao.aO 14 1 [] Tryz.func30 ?_;have hw:=wrap64 (n:=xs.length) Ay;((try revert hK K);(repeat'(first|refine Vd (X2 @hw @m5.{0}) hk ?_|(refine V2 (X2 @hw @m5.{0}) ?_ ?_<;>try with_reducible intro hb)|(refine Xi ?_ ?_<;>try intro ht)|refine VD ?_ ?_|exact Xx|fail))<;>try with_reducible intro K hK)
 refine jU h1 (aM _) ?_;((try revert hK K);(repeat'(first|refine Vb X0 ?_|(refine V2 X0 ?_ ?_<;>try with_reducible intro hb)|(refine Xi ?_ ?_<;>try intro ht)|refine VD ?_ ?_|exact Xx|fail))<;>try with_reducible intro K hK)
 exact iy rfl (aM _) rfl
end T

