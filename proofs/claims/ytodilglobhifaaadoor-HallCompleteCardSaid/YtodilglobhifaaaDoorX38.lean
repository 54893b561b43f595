import Derived.Test.YtodilglobhifaaaDoorX29
import Derived.Test.YtodilglobhifaaaDoorX20
import Derived.Test.YtodilglobhifaaaDoorX30
set_option linter.all false
set_option maxHeartbeats 0
set_option maxRecDepth 20000
open List renaming append_assoc→br,length_append→aJ,cons_append→kR,nil_append→g9,length_cons→b8,length_nil→eZ,getElem?_eq_getElem→aN,length_set→bm,set_set→lK,set_comm→An
open Nat renaming zero_le→bk,le_refl→aH
open Option renaming map_some→fV,getD_some→dg,getD_none→pH,isSome_some→kU,isNone_none→Ei,isNone_some→uI
open Int renaming toNat_natCast→bY,ofNat_lt→uC
open Go Go.Am Go.Proofs
namespace T
abbrev Cz:=List Ob×(Nat×Nat)×List (Nat×Nat)×List (List (Int×Int))×List (Ml (Int×Int))×List (List Int)
def Ts(m:ae)(left:List (List Bool))(os:List Ob):AV->List Ob->Prop:=λr ob=>dM os ob/\∃ to D,r=.ref to 1 0 D.length/\ob[to]?=some (.arr 1 (rowsOf eT D))/\RI au ob D (jc m (eJ m left))
def SP{m:ae}(hm:VM m)(hw:∀ x,(eR m x).wk<=3){left:List (List Bool)}(hf:mX m left){p q:Nat}{M:List (Ml Pr)}{os:List Ob}(hF:sr m p q M os)(hS:zl m M):
  fX Tryd.prog 17 [.ptr p 0 0,.tree 1 (rowsOf dN left)] os (Ts m left os):=by
 have f1:=hF.fin;have e1:=aA f1;have Kz:=hm.cls;have fh:=hf.1;refine fX.aX 131 os.length [.tmp 4] Tryd.func17 ?_;((try revert hK K);(repeat'(first|refine Vb (X5 @f1 @e1 @aP.eq_1 @bl (X3 @br.{0} @aJ.{0} @lh)) ?_|(refine V2 (X5 @f1 @e1 @aP.eq_1 @bl (X3 @br.{0} @aJ.{0} @lh)) ?_ ?_<;>try with_reducible intro hb)|(refine Xi ?_ ?_<;>try intro ht)|refine VD ?_ ?_|exact Xx|fail))<;>try with_reducible intro K hK)
 refine bu (λz:Nat×Cz=>(⟨ax [(0,.ptr p 0 0),(1,.tree 1 (rowsOf dN left)),(5,.ref z.2.2.1.1 1 0 z.2.2.2.1.length),(6,.cJ os.length),(7,.ref z.2.2.1.2 4 0 z.2.2.2.2.2.2.length),(24,.tree 1 (rowsOf cu m.cls)),(25,UX m.cls.length),(26,UX z.1)],z.2.1⟩:St))
  (λz=>z.1<=m.cls.length/\CB os os.length z.2.2.1.1 z.2.2.1.2 z.2.2.2.1 z.2.2.2.2.1 z.2.2.2.2.2.1 z.2.2.2.2.2.2 z.2.1/\iO m (XP m left z.1 0) z.2.2.2.2.1 z.2.2.2.2.2.1 z.2.2.2.2.2.2)
  (λz=>m.cls.length-z.1) (0,os++[.mp 4 [],.arr 1 [],.arr 4 []],(os.length+1,os.length+2),[],[],[],[]) ⟨bk _,CB.start os,iO.nil m⟩ ?_ ?_
 ·refine aR.trans (aR.nil 5 1 (by simp only[Kc,simprocAttr]) US) (aR.trans (aR.nil 7 4 (by simp only[Kc,simprocAttr]) US) ?_);simp only[br,kR,g9,aJ,b8,eZ];exact Xv X0
 rintro⟨c,ob,⟨to,tk⟩,D,S,G,ks⟩⟨hc,hC,hG⟩Ql aq aC;dsimp only at hc hC hG ⊢;by_cases rl:c<m.cls.length;rotate_left
 ·have bN:c=m.cls.length:=z8;subst bN;rw[ua]at hG;have Mh:=hC.cq;have nZ:(eJ m left).length<=600:=by
   have:=zb hm.opt (left:=left) m.cls.length 0 (aH _) z8;rw[ua]at this;omega
  have kN:∀ x∈eJ m left,jI m x:=by
   have:=CU (m:=m) (left:=left) (c:=m.cls.length) (i:=0) (.inr ⟨rfl,aH _⟩) (bk _);rw[ua]at this;exact this
  have im:ks.length<=600:=by rw[hG.keys];have:=zq m (eJ m left) [];simp only[eZ]at this;omega
  have L7:S.length<=600:=by rw[hG.lone];have:=Dc m (eJ m left);omega
  have hall:=R3 hG;clear hC;((try revert hK K);(repeat'(first|refine Va X0 ?_|(refine V2 X0 ?_ ?_<;>try with_reducible intro hb)|(refine Xi ?_ ?_<;>try intro ht)|refine VD ?_ ?_|exact Xx|fail))<;>try with_reducible intro K hK)
  refine aC _ _ rfl ?_;clear aq aC Ql;repeat(first|refine Xu ?_)
  have fk:=Mh.kl;((try revert hK K);(repeat'(first|refine Va @fk ?_|(refine V2 @fk ?_ ?_<;>try with_reducible intro hb)|(refine Xi ?_ ?_<;>try intro ht)|refine VD ?_ ?_|exact Xx|fail))<;>try with_reducible intro K hK)
  refine bu (λz:Nat×List Ob×Nat×List (Nat×Nat)×List (List (Int×Int))=>(⟨ax [(0,.ptr p 0 0),(5,.ref z.2.2.1 1 0 z.2.2.2.1.length),(6,.cJ os.length),(98,.ref tk 4 0 ks.length),(99,UX ks.length),(100,UX z.1)],z.2.1⟩:St))
   (λz=>z.1<=ks.length/\CQ os os.length tk G ks z.2.2.1 z.2.2.2.1 z.2.2.2.2 z.2.1/\z.2.2.2.2.length<=600+z.1*601/\z.2.2.2.2=S++(ks.take z.1).flatMap (iM m (eJ m left))) (λz=>ks.length-z.1) (0,ob,to,D,S)
   ⟨bk _,Mh,UT,Eb⟩ ?_ ?_
  ·exact Xv X0
  rintro⟨n,o2,Mi,D2,S2⟩⟨hn,hQ,lS,wN⟩Ql aq aC;dsimp only at hn hQ lS wN ⊢;have wO:=hQ.kl;have DB:=hQ.mp;have zJ:=hQ.out;have zK:=aA wO;have nc:=aA DB;have Tt:=aA zJ;have Tu:=gZ zJ;have ui:D2.length<=600+n*601:=by rw[hQ.ri.len];exact lS
  by_cases fK:n<ks.length;rotate_left
  ·have wy:n=ks.length:=z8;((try revert hK K);(repeat'(first|refine Va X0 ?_|(refine V2 X0 ?_ ?_<;>try with_reducible intro hb)|(refine Xi ?_ ?_<;>try intro ht)|refine VD ?_ ?_|exact Xx|fail))<;>try with_reducible intro K hK)
   subst wy;refine aC _ _ rfl ?_;clear aq aC Ql;repeat(first|refine Xu ?_)
   ((try revert hK K);(repeat'(first|refine Vb X0 ?_|(refine V2 X0 ?_ ?_<;>try with_reducible intro hb)|(refine Xi ?_ ?_<;>try intro ht)|refine VD ?_ ?_|exact Xx|fail))<;>try with_reducible intro K hK)
   unfold pO;simp only[gL,ic];simp(disch:=omega)only[Ac,↓Pc,simprocAttr];rw[hall]at wN;subst wN;exact⟨_,_,⟨hQ.kp,Mi,D2,rfl,zJ,hQ.ri⟩,fZ rfl hQ.kp.len rfl⟩
  obtain⟨g,cP,b9⟩:=hG.key fK;obtain⟨ka,kb,kc,kd,ze⟩:=RX hG fK;have ik:(rowsOf py ks)[n]?=some [UX ka,UX kb,UX kc,UX kd]:=by
   unfold rowsOf;rw[List.getElem?_map,aN fK];have:ks[n]=ks.getD n default:=by rw[List.getD_eq_getElem?_getD,aN fK];rfl
   rw[this,ze];rfl
  have DC:(rowsOf py ks).length=ks.length:=by simp[rowsOf]
  have eB:=zk 2 [ka,kb,kc,kd] G;rw[ze]at cP;rw[cP]at eB;simp only[fV]at eB;have pA:=hQ.gr _ g cP;have qz:=aA pA;have wG:=zr m (eJ m left) (ks.getD n default);rw[<- b9]at wG;have bK:∀ x∈g.l,jI m x:=λx hx=>kN x (by rw[b9]at hx;exact(kf.1 hx).1);have iH:=RY (m:=m) (X:=eJ m left) fK;have vN:=λh=>R0 (m:=m) (X:=eJ m left) (k:=ks.getD n default) h;have lr:=λh=>R2 (m:=m) (X:=eJ m left) (k:=ks.getD n default) h;rw[<- b9]at vN lr;repeat'(first|((fail_if_success (first|refine nj 23 ?_|refine nk 23 ?_));refine Xr (X5 @wO @zK @ik @DC (X3 @bl @br.{0} @aJ.{0})) ?_;intro K hK)|refine Xo (X5 @wO @zK @ik @DC (X3 @bl @br.{0} @aJ.{0})) ?_|(refine hK _ ?_;clear hK K)|(refine Xg (X5 @wO @zK @ik @DC (X3 @bl @br.{0} @aJ.{0})) ?_ ?_<;>try intro hb)|(refine Xi ?_ ?_<;>try intro ht)|refine Xy ?_|refine Xd ?_ ?_|exact Xx|fail)
  refine Aw 4 US _ rfl ?_;intro K hK;have Mj:=Sk hm (hF.cg ((hQ.kp).app [.var [UX ka,UX kb,UX kc,UX kd]])) hS g.l bK z8 g.at_ (qz _);generalize Mg:mW m g.l=wb at *;simp(disch:=omega)only[Ac,↓Pc,simprocAttr,List.take,List.drop,DB,nc,eB,lh,dg,bl];refine⟨rfl,(show my Tryd.prog 43 [.ptr p 0 0,.ref g.at_ 2 0 g.l.length] (some 108) _ _ from ?_)⟩;refine yA Mj ?_;rintro r o3⟨rfl,fW⟩;refine⟨fW.len,?_⟩;have uq:=(hQ.app [.var [UX ka,UX kb,UX kc,UX kd]]).cg fW;have zL:=fW _ _ (nW o2 (.var [UX ka,UX kb,UX kc,UX kd]) []);have zM:=uq.mp;have wP:=uq.out;have zN:=uq.gr _ g cP;have DD:=aA zL;have DE:=aA zM;have DF:=aA wP;have DG:=gZ wP;have DH:=aA zN;refine hK _ ?_;clear hK K Mj;((try revert hK K);(repeat'(first|refine Va (X5 @zL @DD @zM @DE (X5 @wP @DF @DG @zN (X5 @DH @eB @lh @dg.{0} (X3 @bl @br.{0} @aJ.{0})))) ?_|(refine V2 (X5 @zL @DD @zM @DE (X5 @wP @DF @DG @zN (X5 @DH @eB @lh @dg.{0} (X3 @bl @br.{0} @aJ.{0})))) ?_ ?_<;>try with_reducible intro hb)|(refine Xi ?_ ?_<;>try intro ht)|refine VD ?_ ?_|exact Xx|fail))<;>try with_reducible intro K hK)
  ·refine aq _ (n+1,_,o3.length+1,D2++[(g.at_,g.l.length)],S2++[g.l]) ⟨UT,uq.lq cP (b:=1) (l:=[.arr 1 [[.ref g.at_ 2 0 g.l.length]],.arr 1 (rowsOf eT D2++[[.ref g.at_ 2 0 g.l.length]])]) (by rw[<- CD];rfl),by simp only[aJ,b8,eZ];omega,?_⟩ UT ?_
   ·dsimp only;rw[iH,vN ht,wN,br]
   ·exact Xv (X3 @aJ.{0} @b8.{0} @eZ.{0})
  have Mk:(rowsOf au g.l).length=g.l.length:=by simp[rowsOf]
  refine bu (λz:Nat×List Ob×Nat×List (Nat×Nat)×List (List (Int×Int))=>(⟨ax [(0,.ptr p 0 0),(5,.ref z.2.2.1 1 0 z.2.2.2.1.length),(6,.cJ os.length),(98,.ref tk 4 0 ks.length),(99,UX ks.length),(100,UX n),(117,.ref g.at_ 2 0 g.l.length),(118,UX g.l.length),(119,UX z.1)],z.2.1⟩:St))
   (λz=>z.1<=g.l.length/\CQ os os.length tk G ks z.2.2.1 z.2.2.2.1 z.2.2.2.2 z.2.1/\z.2.2.2.2.length<=600+n*601+z.1/\z.2.2.2.2=S2++(g.l.take z.1).map λc=>[c]) (λz=>g.l.length-z.1) (0,o3,Mi,D2,S2)
   ⟨bk _,uq,UT,Eb⟩ ?_ ?_
  ·exact Xv X0
  clear hQ uq zL zM wP zN DD DE DF DG DH wO DB zJ zK nc Tt Tu pA qz fW;rintro⟨j,o4,Tv,D4,S4⟩⟨hj,hQ,Mm,DI⟩gu cr cy;dsimp only at hj hQ Mm DI ⊢;have zO:=hQ.out;have DJ:=hQ.gr _ g cP;have Mn:=aA zO;have Mo:=gZ zO;have Mp:=aA DJ;have UG:D4.length<=600+n*601+j:=by rw[hQ.ri.len];exact Mm
  by_cases iZ:j<g.l.length
  ·have jg:=zu g.l iZ;have l9:=RZ iZ;generalize bX:g.l.getD j default=x at *;((try revert hK K);(repeat'(first|refine Va (X5 @zO @Mn @Mo @DJ (X5 @Mp @jg @Mk @au.eq_1 (X3 @bl @br.{0} @aJ.{0}))) ?_|(refine V2 (X5 @zO @Mn @Mo @DJ (X5 @Mp @jg @Mk @au.eq_1 (X3 @bl @br.{0} @aJ.{0}))) ?_ ?_<;>try with_reducible intro hb)|(refine Xi ?_ ?_<;>try intro ht)|refine VD ?_ ?_|exact Xx|fail))<;>try with_reducible intro K hK)
   refine cr _ (j+1,_,o4.length+3,D4++[(o4.length+1,1)],S4++[[x]]) ⟨UT,hQ.lone (a:=1) (b:=3) (x:=x) (l:=[.var (au x),.arr 2 [au x],.arr 1 [[.ref (o4.length+1) 2 0 1]],.arr 1 (rowsOf eT D4++[[.ref (o4.length+1) 2 0 1]])]) rfl (by rw[<- CD];rfl),by simp only[aJ,b8,eZ];omega,?_⟩ UT ?_
   ·dsimp only;rw[l9,DI,br]
   ·exact Xv (X4 @au.eq_1 @aJ.{0} @b8.{0} @eZ.{0})
  ·((try revert hK K);(repeat'(first|refine Va X0 ?_|(refine V2 X0 ?_ ?_<;>try with_reducible intro hb)|(refine Xi ?_ ?_<;>try intro ht)|refine VD ?_ ?_|exact Xx|fail))<;>try with_reducible intro K hK)
   refine cy _ _ rfl ?_;clear cr cy gu;repeat(first|refine Xu ?_)
   ((try revert hK K);(repeat'(first|refine Va X0 ?_|(refine V2 X0 ?_ ?_<;>try with_reducible intro hb)|(refine Xi ?_ ?_<;>try intro ht)|refine VD ?_ ?_|exact Xx|fail))<;>try with_reducible intro K hK)
   have Tx:j=g.l.length:=z8;refine aq _ (n+1,o4,Tv,D4,S4) ⟨UT,hQ,UT,?_⟩ UT (Xv X0);dsimp only;rw[iH,lr (by assumption),DI,wN,Tx,List.take_length,br]
 have UH:=hm.opt _ (aO (l:=m.cls) (i:=c) (d:=default) rl);have cS:=hf.2 c z8;generalize aM:m.cls.getD c default=row at *;generalize ed:left.getD c default=lc at *;((try revert hK K);(repeat'(first|refine Va (X2 @aM @cu.eq_1) ?_|(refine V2 (X2 @aM @cu.eq_1) ?_ ?_<;>try with_reducible intro hb)|(refine Xi ?_ ?_<;>try intro ht)|refine VD ?_ ?_|exact Xx|fail))<;>try with_reducible intro K hK)
 refine bu (λz:Nat×Cz=>(⟨ax [(0,.ptr p 0 0),(1,.tree 1 (rowsOf dN left)),(5,.ref z.2.2.1.1 1 0 z.2.2.2.1.length),(6,.cJ os.length),(7,.ref z.2.2.1.2 4 0 z.2.2.2.2.2.2.length),(8,UX c),(24,.tree 1 (rowsOf cu m.cls)),(25,UX m.cls.length),(26,UX c),(31,.tree 6 (rowsOf cf row)),(32,UX row.length),(33,UX z.1)],z.2.1⟩:St))
  (λz=>z.1<=row.length/\CB os os.length z.2.2.1.1 z.2.2.1.2 z.2.2.2.1 z.2.2.2.2.1 z.2.2.2.2.2.1 z.2.2.2.2.2.2 z.2.1/\iO m (XP m left c z.1) z.2.2.2.2.1 z.2.2.2.2.2.1 z.2.2.2.2.2.2)
  (λz=>row.length-z.1) (0,ob,(to,tk),D,S,G,ks) ⟨bk _,hC,hG⟩ ?_ ?_
 ·exact Xv X0
 clear hC hG;rintro⟨i,ob,⟨to,tk⟩,D,S,G,ks⟩⟨hi,hC,hG⟩gu cr cy;dsimp only at hi hC hG ⊢;have eC:=λl=>(hC.app l);have fo:=hC.out;have fk:=hC.kl;have fm:=hC.mp;have eo:=aA fo;have ek:=aA fk;have em:=aA fm;have so:=gZ fo;have sk:=gZ fk;have sm:=gZ fm;by_cases hi':i<row.length;rotate_left
 ·((try revert hK K);(repeat'(first|refine Va X0 ?_|(refine V2 X0 ?_ ?_<;>try with_reducible intro hb)|(refine Xi ?_ ?_<;>try intro ht)|refine VD ?_ ?_|exact Xx|fail))<;>try with_reducible intro K hK)
  refine cy _ _ rfl ?_;clear cr cy gu;repeat(first|refine Xu ?_)
  ((try revert hK K);(repeat'(first|refine Va X0 ?_|(refine V2 X0 ?_ ?_<;>try with_reducible intro hb)|(refine Xi ?_ ?_<;>try intro ht)|refine VD ?_ ?_|exact Xx|fail))<;>try with_reducible intro K hK)
  have fS:i=row.length:=z8;refine aq _ (c+1,ob,(to,tk),D,S,G,ks) ⟨UT,hC,by dsimp only;rw[Lu,aM,<- fS];exact hG⟩ UT (Xv X0)
 have eI:=RV m left c i;rw[ed]at eI;have oS:lc.getD i default=lc.getD i false:=rfl;have DK:eR m ((c:Int),(i:Int))=row.getD i default:=by
  unfold eR;dsimp only;rw[bY,bY,aM]
 have Tz:=hw ((c:Int),(i:Int));have Mq:ef m ((c:Int),(i:Int))=decide (0<=(row.getD i default).room/\0<(row.getD i default).wk):=by unfold ef;rw[DK]
 have mM:cp m ((c:Int),(i:Int))=[(row.getD i default).room,(row.getD i default).day,(row.getD i default).st,lL (row.getD i default).wk]:=by unfold cp;rw[DK]
 rw[DK]at Tz;generalize du:row.getD i default=o at *;generalize ng:lc.getD i false=is at *;cases is
 ·rw[if_neg Eb,List.append_nil]at eI;((try revert hK K);(repeat'(first|refine Va (X5 @du @ed @ng @dN.eq_1 (X4 @cf.eq_1 @bl @br.{0} @aJ.{0})) ?_|(refine V2 (X5 @du @ed @ng @dN.eq_1 (X4 @cf.eq_1 @bl @br.{0} @aJ.{0})) ?_ ?_<;>try with_reducible intro hb)|(refine Xi ?_ ?_<;>try intro ht)|refine VD ?_ ?_|exact Xx|fail))<;>try with_reducible intro K hK)
  refine cr _ (i+1,_,(to,tk),D,S,G,ks) ⟨UT,eC _,by dsimp only;rw[eI];exact hG⟩ UT (Xv X0)
 rw[if_pos rfl]at eI;have nZ:=zb hm.opt (left:=left) c i z8 z8;have ui:D.length<=600:=by rw[hC.ri.len,hG.lone];have:=Dc m (XP m left c i);omega
 have im:ks.length<=600:=by rw[hG.keys];have:=zq m (XP m left c i) [];simp only[eZ]at this;omega
 by_cases tv:0<=o.room/\0<o.wk;rotate_left
 ·have TA:ef m ((c:Int),(i:Int))=false:=by rw[Mq,decide_eq_false tv]
  have qI:=hG.none TA;rw[<- eI]at qI;((try revert hK K);(repeat'(first|refine Va (X5 @fo @eo @so @du (X5 @ed @ng @dN.eq_1 @cf.eq_1 (X3 @bl @br.{0} @aJ.{0}))) ?_|(refine V2 (X5 @fo @eo @so @du (X5 @ed @ng @dN.eq_1 @cf.eq_1 (X3 @bl @br.{0} @aJ.{0}))) ?_ ?_<;>try with_reducible intro hb)|(refine Xi ?_ ?_<;>try intro ht)|refine VD ?_ ?_|exact Xx|fail))<;>try with_reducible intro K hK)
  all_goals
   refine cr _ (i+1,ob.set to .gone++[.var (cf o),.var [UX o.wk,UX o.day,UX o.st,UX o.len],.var (au (c,i)),.arr 2 [au (c,i)],.arr 1 [[.ref (ob.length+3) 2 0 1]],.arr 1 (rowsOf eT D++[[.ref (ob.length+3) 2 0 1]])],
    (ob.length+5,tk),D++[(ob.length+3,1)],S++[[((c:Int),(i:Int))]],G,ks) ⟨UT,hC.lone (a:=3) (b:=5) rfl (by rw[<- CD];rfl),qI⟩ UT ?_
   exact Xv (X3 @cf.eq_1 @au.eq_1 @aJ.{0})
 have Mr:ef m ((c:Int),(i:Int))=true:=by rw[Mq,decide_eq_true tv]
 have Dz:IntKind.u64.wrap o.wk=o.wk:=by
  rcases(show o.wk=1\/o.wk=2\/o.wk=3 by omega) with h|h|h<;>rw[h]<;>rfl
 have v7:=MO (IntKind.u64.wrap o.wk) (by rw[Dz];omega);rw[show lL (IntKind.u64.wrap o.wk)=lL o.wk by rw[Dz]]at v7;have wG:=zr m (XP m left c i) (cp m ((c:Int),(i:Int)));rw[mM]at wG;have eB:=zk 2 [o.room,o.day,o.st,lL o.wk] G;generalize lL o.wk=tz at *;have Ms:rowsOf py ks++[[UX o.room,UX o.day,UX o.st,UX tz]]=rowsOf py (ks++[[o.room,o.day,o.st,tz]]):=by simp[rowsOf,py]
 cases gk:df G [o.room,o.day,o.st,tz] with
 |none =>
  rw[gk]at eB;simp only[Option.map_none]at eB;have qI:=hG.first Mr (by rw[mM];exact gk) (ob.length+7);rw[mM,<- eI]at qI;have kO:Am.bT [o.room,o.day,o.st,tz] (.ref (ob.length+7) 2 0 1) (cH 2 G)=cH 2 (eW [o.room,o.day,o.st,tz] (ob.length+7) [((c:Int),(i:Int))] G):=wu [o.room,o.day,o.st,tz] (ob.length+7) [((c:Int),(i:Int))] G;have pu:=λu v=>C5 [o.room,o.day,o.st,tz] u v (cH 2 G);have il:=λu=>C6 [o.room,o.day,o.st,tz] u (cH 2 G);have nY:=cj (y:=.gone) fm fk (by intro e;cases e);have Mt:=aA nY;have DL:=gZ nY;have sx:=λy l=>aA (g6 (y:=y) nY) l;have wE:=λy y' l=>gZ (y:=y') (g6 (y:=y) nY) l;have jl:=λ(l:List Ob) (k:Nat)=>lv ob l tk k .gone;have Mu:∀ (Y:Ob) (l:List Ob) (k:Nat),((ob.set tk .gone).set os.length Y++l)[ob.length+k]?=l[k]?:=λY l k=>by
   rw[List.getElem?_append_right Eb,bm,bm,Nat.add_sub_cancel_left]
  ((try revert hK K);(repeat'(first|refine Vc (X5 @fo @eo @so @fk (X5 @ek @sk @fm @em (X5 @sm @nY @Mt @DL (X5 @sx @wE @jl @Mu (X5 @pu @kO @Ms @du (X5 @ed @ng @eB @dN.eq_1 (X5 @cf.eq_1 @bl @lh @lK.{0} (X5 @br.{0} @aJ.{0} @bm.{0} @pH.{0} (X2 @kU.{0} @Ei.{0}))))))))) v7 ?_|(refine V2 (X5 @fo @eo @so @fk (X5 @ek @sk @fm @em (X5 @sm @nY @Mt @DL (X5 @sx @wE @jl @Mu (X5 @pu @kO @Ms @du (X5 @ed @ng @eB @dN.eq_1 (X5 @cf.eq_1 @bl @lh @lK.{0} (X5 @br.{0} @aJ.{0} @bm.{0} @pH.{0} (X2 @kU.{0} @Ei.{0}))))))))) ?_ ?_<;>try with_reducible intro hb)|(refine Xi ?_ ?_<;>try intro ht)|refine VD ?_ ?_|exact Xx|fail))<;>try with_reducible intro K hK)
  ·exact uC.2 (il _)
  have zP:=(hC.key (k:=[o.room,o.day,o.st,tz]) (b:=5) (l:=[.var (cf o),.var [UX o.wk,UX o.day,UX o.st,UX o.len],.var (au (c,i)),.var [UX o.room,UX o.day,UX o.st,UX tz],.arr 4 [[UX o.room,UX o.day,UX o.st,UX tz]],.arr 4 (rowsOf py (ks++[[o.room,o.day,o.st,tz]]))]) rfl).first (k:=[o.room,o.day,o.st,tz]) (x:=((c:Int),(i:Int))) (b:=1) (l:=[.arr 2 [au (c,i)],.arr 2 [au (c,i)]]) rfl;simp only[DL,aJ,bm,b8,eZ,br,kR,g9,Nat.zero_add,Nat.add_assoc,Nat.reduceAdd]at zP;refine cr _ (i+1,_,(to,ob.length+5),D,S,_,_) ⟨UT,zP,qI⟩ UT ?_;exact Xv (X5 @cf.eq_1 @au.eq_1 @aJ.{0} @b8.{0} @eZ.{0})
 |some g =>
  have wQ:=hG.lq [o.room,o.day,o.st,tz];rw[gk]at eB wQ;simp only[fV]at eB;dsimp only at wQ;rw[<- wQ.1]at wG;have cG:=hC.gr _ g gk;have eg:=aA cG;have sg:=gZ cG;have kP:=λy:Ob=>cj (y:=y) cG fm (by intro e;cases e);have qD:=λy l=>aA (kP y) l;have qE:=λy l z=>gZ (kP y) l z;have ki:∀ L,((ob.set os.length (.mp 4 L)).set g.at_ .gone)[os.length]?=some (.mp 4 L):=λL=>cj (g6 fm) (kP _) (by intro e;cases e);have nc:=λL l=>aA (ki L) l;have wH:g.at_≠os.length:=λe=>by rw[e,fm]at cG;cases cG
  have qF:∀ L Y l,(((ob.set os.length (.mp 4 L)).set g.at_ .gone)++l).set os.length Y=(ob.set g.at_ .gone).set os.length Y++l:=λL Y l=>by
   rw[gZ (ki L) l Y,An _ _ wH,lK,An _ _ wH.symm]
  have kO:Am.bT [o.room,o.day,o.st,tz] (.ref (ob.length+5) 2 0 (g.l.length+1)) (cH 2 G)=cH 2 (eW [o.room,o.day,o.st,tz] (ob.length+5) (g.l++[((c:Int),(i:Int))]) G):=by rw[<- wu,aJ];rfl
  have ik:rowsOf au g.l++[[UX c,UX i]]=rowsOf au (g.l++[((c:Int),(i:Int))]):=by simp[rowsOf,au]
  have pu:=λu v=>C5 [o.room,o.day,o.st,tz] u v (cH 2 G);have il:=λu=>C6 [o.room,o.day,o.st,tz] u (cH 2 G);have jl:=λ(y:Ob) (l:List Ob) (k:Nat)=>lv ob l os.length k y;have qI:=hG.more Mr (show df G (cp m ((c:Int),(i:Int)))=some g by rw[mM];exact gk) (ob.length+5);rw[mM,<- eI]at qI;repeat'(first|((fail_if_success (first|refine nj 12 ?_|refine nk 12 ?_));refine Xq (X5 @fo @eo @so @fk (X5 @ek @sk @fm @em (X5 @sm @cG @eg @sg (X5 @kP @qD @qE @ki (X5 @nc @qF @jl @pu (X5 @kO @ik @du @ed (X5 @ng @eB @dN.eq_1 @cf.eq_1 (X5 @bl @lh @lK.{0} @br.{0} (X5 @aJ.{0} @bm.{0} @dg.{0} @kU.{0} @uI.{0}))))))))) ?_;intro K hK)|refine Xo (X5 @fo @eo @so @fk (X5 @ek @sk @fm @em (X5 @sm @cG @eg @sg (X5 @kP @qD @qE @ki (X5 @nc @qF @jl @pu (X5 @kO @ik @du @ed (X5 @ng @eB @dN.eq_1 @cf.eq_1 (X5 @bl @lh @lK.{0} @br.{0} (X5 @aJ.{0} @bm.{0} @dg.{0} @kU.{0} @uI.{0}))))))))) ?_|refine Xc (v7) ?_|(refine hK _ ?_;clear hK K)|(refine Xg (X5 @fo @eo @so @fk (X5 @ek @sk @fm @em (X5 @sm @cG @eg @sg (X5 @kP @qD @qE @ki (X5 @nc @qF @jl @pu (X5 @kO @ik @du @ed (X5 @ng @eB @dN.eq_1 @cf.eq_1 (X5 @bl @lh @lK.{0} @br.{0} (X5 @aJ.{0} @bm.{0} @dg.{0} @kU.{0} @uI.{0}))))))))) ?_ ?_<;>try intro hb)|(refine Xi ?_ ?_<;>try intro ht)|refine Xy ?_|refine Xd ?_ ?_|exact Xx|fail)
  refine Rs 3 US _ rfl ?_;intro K hK;simp(disch:=omega)only[Ac,↓Pc,simprocAttr,List.take,List.drop,fm,em,eB,lh,zh,bl];refine⟨g.at_,2,0,g.l.length,2,_,rfl,?_,eg _,?_⟩
  ·rw[wQ.1];exact List.length_pos_iff.2 wQ.2
  refine hK _ ?_;clear hK K;((try revert hK K);(repeat'(first|refine Va (X5 @fo @eo @so @fk (X5 @ek @sk @fm @em (X5 @sm @cG @eg @sg (X5 @kP @qD @qE @ki (X5 @nc @qF @jl @pu (X5 @kO @ik @du @ed (X5 @ng @eB @dN.eq_1 @cf.eq_1 (X5 @bl @lh @lK.{0} @br.{0} (X5 @aJ.{0} @bm.{0} @dg.{0} @kU.{0} @uI.{0}))))))))) ?_|(refine V2 (X5 @fo @eo @so @fk (X5 @ek @sk @fm @em (X5 @sm @cG @eg @sg (X5 @kP @qD @qE @ki (X5 @nc @qF @jl @pu (X5 @kO @ik @du @ed (X5 @ng @eB @dN.eq_1 @cf.eq_1 (X5 @bl @lh @lK.{0} @br.{0} (X5 @aJ.{0} @bm.{0} @dg.{0} @kU.{0} @uI.{0}))))))))) ?_ ?_<;>try with_reducible intro hb)|(refine Xi ?_ ?_<;>try intro ht)|refine VD ?_ ?_|exact Xx|fail))<;>try with_reducible intro K hK)
  ·exact uC.2 (il _)
  have zP:=hC.more gk (x:=((c:Int),(i:Int))) (b:=5) (l:=[.var (cf o),.var [UX o.wk,UX o.day,UX o.st,UX o.len],.var (au (c,i)),.var [UX o.room,UX o.day,UX o.st,UX tz],.arr 2 [au (c,i)],.arr 2 (rowsOf au (g.l++[((c:Int),(i:Int))]))]) rfl;refine cr _ (i+1,_,(to,tk),D,S,_,_) ⟨UT,zP,qI⟩ UT ?_;exact Xv (X5 @cf.eq_1 @au.eq_1 @aJ.{0} @b8.{0} @eZ.{0})
end T

