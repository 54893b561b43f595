import Derived.Test.YtdipcmigdbnheaaGreatX11
set_option linter.all false
set_option maxHeartbeats 0
set_option maxRecDepth 20000
open List renaming replicate→b6,drop_eq_nil_of_le→cU,cons_append→cW,nil_append→da,mem_append→cj,mem_singleton→ew
open Nat renaming zero_le→aQ
open Go Go.Am Go.Proofs
namespace T
def abt(m:aj)(plan:List Int)(hm:VM m)(hp:PM m plan):an Tryz.prog 123 [.agg (av m),.tree 1 (ints plan)] [] (.bO [aa3 (Au m plan).1,.tree 1 (ints (Au m plan).2)]) []:=by
 have vc:=hm.cls;have vd:=hm.ae;have Ra:=hm.ar;have SR:=hm.iS;have cE:=hp.len;unfold Au iC;generalize h1:oC m 0 plan (b6 m.rules.toNat 0)=o1;generalize h2:nM m plan m.ae o1=o2;generalize h3:oD plan m.ar o2=o3;have F2:=iV.rep SR.1;refine an.aF 155 0 [.tmp 4,.tmp 5] Tryz.func123 ?_;refine Vb X0 ?_;refine aW (λz:Nat×List Int=>(⟨ax [(1,.tree 1 (ints plan)),(2,.ptr 0 0 0),(6,.ptr 2 0 0),(28,.tree 1 (ints plan)),(29,aa3 plan.length),(30,aa3 z.1)],[.var (av m),.arr 1 (ints z.2),.var [.ref 1 1 0 m.rules.toNat]]⟩:St))
  (λz=>z.1<=plan.length/\iV m.rules z.2/\oC m z.1 (plan.drop z.1) z.2=o1) (λz=>plan.length-z.1) (0,b6 m.rules.toNat 0) ⟨aQ _,F2,h1⟩ (Xv X0) ?_
 rintro⟨k,out⟩⟨hk,aR,hr⟩Ql aq au;dsimp only at hk aR hr ⊢;have iz:out.length=m.rules.toNat:=by have:=aR.1;omega
 by_cases aJ:k<plan.length
 ·have hd:=cS plan k 0 aJ;have fD:=hp.get k aJ;generalize bb:plan.getD k 0=o at *;rw[hd,oC]at hr;by_cases ho:o<0
  ·rw[if_pos ho]at hr;((repeat'(first|refine Va @bb ?_|(refine Xi ?_ ?_<;>try intro ht)|exact Xx|fail)))
   exact aq _ (k+1,out) ⟨aaK,aR,hr⟩ aaK (Xv X0)
  ·rw[if_neg ho]at hr;obtain⟨b1,b2,b3,b4⟩:=gV.1 (fD.resolve_left I6);have hl:=aC (l:=m.cls) (i:=k) (d:=default) I6;generalize iT:m.cls.getD k default=l at *;rw[Int.toNat_natCast,iT]at b4;have abu:=aC (l:=l) (i:=o.toNat) (d:=default) I6;have eC:=hm.kQ l hl _ abu;generalize me:l.getD o.toNat default=op at *;((repeat'(first|refine Va (X3 @bb @iT @me) ?_|(refine Xi ?_ ?_<;>try intro ht)|exact Xx|fail)))
   generalize mg:qb op.ch out=abv at hr;have cy:=C5 SR.1 eC;refine aW (λz:Nat×List Int=>(⟨ax [(1,.tree 1 (ints plan)),(2,.ptr 0 0 0),(6,.ptr 2 0 0),(28,.tree 1 (ints plan)),(29,aa3 plan.length),(30,aa3 k),(45,.tree 2 (rowsOf bz op.ch)),(46,aa3 op.ch.length),(47,aa3 z.1)],[.var (av m),.arr 1 (ints z.2),.var [.ref 1 1 0 m.rules.toNat]]⟩:St))
    (λz=>z.1<=op.ch.length/\iV m.rules z.2/\qb (op.ch.drop z.1) z.2=abv) (λz=>op.ch.length-z.1) (0,out) ⟨aQ _,aR,mg⟩ (Xv X0) ?_
   rintro⟨j,DT⟩⟨hj,qX,kR⟩eR bX bQ;dsimp only at hj qX kR ⊢;have abw:DT.length=m.rules.toNat:=by have:=qX.1;omega
   by_cases dG:j<op.ch.length
   ·have tF:=cS op.ch j default dG;have gK:=u9 eC _ (aC (d:=default) dG);generalize wU:op.ch.getD j default=c at *;rw[tF,qb]at kR;obtain⟨qL,u4⟩:=gK;rw[ij,decide_eq_true_eq]at qL;have jf:=GM DT c.1 c.2 I6 (lN u4) (qX.get _);rw[abw]at jf;((repeat'(first|refine Va @wU ?_|(refine Xi ?_ ?_<;>try intro ht)|exact Xx|fail))<;>try with_reducible intro K hK)
    refine g9 [2,1] jf aab ⟨rfl,by rw[uA];rfl,trivial⟩ ⟨.eq rfl,.pure rfl,.pure rfl,trivial⟩ ?_;((try revert hK K);(refine Va X0 ?_))
    refine bX _ (j+1,eU DT c.1 c.2) ⟨aaK,qX.add (lN u4),kR⟩ aaK ?_;unfold eU;exact Xs false [0,1,2] X0
   ·((repeat'(first|refine Va X0 ?_|(refine Xi ?_ ?_<;>try intro ht)|exact Xx|fail)))
    rw[cU I6,qb]at kR;subst kR;refine bQ _ _ rfl ?_;clear bX bQ eR;repeat(refine Xu ?_)
    refine Va X0 ?_;exact aq _ (k+1,DT) ⟨aaK,qX,hr⟩ aaK (Xv X0)
 ·((repeat'(first|refine Va X0 ?_|(refine Xi ?_ ?_<;>try intro ht)|exact Xx|fail)))
  rw[cU I6,oC]at hr;subst hr;refine au _ _ rfl ?_;clear aq au Ql;repeat(refine Xu ?_)
  refine Vb X0 ?_;refine aW (λz:Nat×List Int=>(⟨ax [(1,.tree 1 (ints plan)),(2,.ptr 0 0 0),(6,.ptr 2 0 0),(60,.tree 4 (rowsOf bu m.ae)),(61,aa3 m.ae.length),(62,aa3 z.1)],[.var (av m),.arr 1 (ints z.2),.var [.ref 1 1 0 m.rules.toNat]]⟩:St))
   (λz=>z.1<=m.ae.length/\iV m.rules z.2/\nM m plan (m.ae.drop z.1) z.2=o2) (λz=>m.ae.length-z.1) (0,out) ⟨aQ _,aR,h2⟩ (Xv X0) ?_
  clear hk aR iz aJ h2;rintro⟨k,out⟩⟨hk,aR,hr⟩Ql aq au;dsimp only at hk aR hr ⊢;have iz:out.length=m.rules.toNat:=by have:=aR.1;omega
  by_cases aJ:k<m.ae.length
  ·have hd:=cS m.ae k default aJ;have ef:=jo hm.pr _ (aC (d:=default) aJ);generalize bb:m.ae.getD k default=p at *;rw[hd,nM]at hr;obtain⟨q1,q2,q3,q4,q5⟩:=lr ef;have g1:=hp.get p.fst.toNat I6;have g2:=hp.get p.snd.toNat I6;rw[Int.toNat_of_nonneg I6]at g1 g2;have yo:=Ax ef (plan.getD p.fst.toNat 0) (plan.getD p.snd.toNat 0);unfold mP at yo hr;generalize hx:plan.getD p.fst.toNat 0=x at *;generalize hy:plan.getD p.snd.toNat 0=y at *;generalize gJ:m.cls.getD p.snd.toNat default=lb at *;have wM:lb.length<=24:=by rw[<- gJ];exact hm.opt _ (aC I6)
   have Dd:=hm.opt _ (aC (l:=m.cls) (i:=p.fst.toNat) (d:=default) I6);have NR:0<=x->0<=y->0<=x*lb.length/\x*lb.length<=576/\x*lb.length+y<p.ay.length/\y<24:=λh0 h0'=>by
    have a1:=(gV.1 (g1.resolve_left I6));have a2:=(gV.1 (g2.resolve_left I6));rw[gJ]at a2;have:=u5 (x:=x) (y:=y) (a:=(m.cls.getD p.fst.toNat default).length) (b:=lb.length) ⟨I6,I6⟩ ⟨I6,I6⟩ I6 I6;rw[q5];omega
   generalize SS:p.ay.getD (x*(lb.length:Int)+y).toNat 0=en at *;generalize sE:x*(lb.length:Int)=xm at *;have jf:=GM out p.aV en I6 yo (aR.get _);rw[iz]at jf;((repeat'(first|refine Va (X5 @bb @hx @hy @gJ (X2 @sE @SS)) ?_|(refine V2 (X5 @bb @hx @hy @gJ (X2 @sE @SS)) ?_ ?_<;>try with_reducible intro hb)|(refine Xi ?_ ?_<;>try intro ht)|exact Xx|fail))<;>try with_reducible intro K hK)
   ·rw[if_pos ⟨by assumption,I6⟩]at hr;refine g9 [2,1] jf aab ⟨rfl,by rw[uA];rfl,trivial⟩ ⟨.eq rfl,.pure rfl,.pure rfl,trivial⟩ ?_;((try revert hK K);(refine Va X0 ?_))
    refine aq _ (k+1,eU out p.aV en) ⟨aaK,aR.add yo,hr⟩ aaK ?_;unfold eU;exact Xs false [0,1,2] X0
   ·rw[if_neg I6]at hr;exact aq _ (k+1,out) ⟨aaK,aR,hr⟩ aaK (Xs false [0,1,2] X0)
   ·rw[if_neg I6]at hr;exact aq _ (k+1,out) ⟨aaK,aR,hr⟩ aaK (Xs false [0,1,2] X0)
  ·((repeat'(first|refine Va X0 ?_|(refine V2 X0 ?_ ?_<;>try with_reducible intro hb)|(refine Xi ?_ ?_<;>try intro ht)|exact Xx|fail)))
   rw[cU I6,nM]at hr;subst hr;refine au _ _ rfl ?_;clear aq au Ql;repeat(refine Xu ?_)
   refine Vb X0 ?_;refine aW (λz:Nat×List Int=>(⟨ax [(1,.tree 1 (ints plan)),(2,.ptr 0 0 0),(6,.ptr 2 0 0),(103,.tree 4 (rowsOf aK m.ar)),(104,aa3 m.ar.length),(105,aa3 z.1)],[.var (av m),.arr 1 (ints z.2),.var [.ref 1 1 0 m.rules.toNat]]⟩:St))
    (λz=>z.1<=m.ar.length/\iV m.rules z.2/\oD plan (m.ar.drop z.1) z.2=o3) (λz=>m.ar.length-z.1) (0,out) ⟨aQ _,aR,h3⟩ (Xv X0) ?_
   clear hk aR iz aJ h3;rintro⟨k,out⟩⟨hk,aR,hr⟩Ql aq au;dsimp only at hk aR hr ⊢;have iz:out.length=m.rules.toNat:=by have:=aR.1;omega
   by_cases aJ:k<m.ar.length
   ·have hd:=cS m.ar k default aJ;have tG:=hm.ct _ (aC (d:=default) aJ);generalize bb:m.ar.getD k default=c at *;rw[hd,oD]at hr;obtain⟨q1,q2,q3,q4⟩:=lp tG;have hlen:=Al hm q4;have aeY:=QO (m:=m) (plan:=plan) (λx hx=>(o8 q4 x hx).2) 0;have SU:=Aw (most:=c.most) (sum:=kv plan c.aS 0) (lN q3);have abx:=ZY c (kv plan c.aS 0) I6 I6 I6 (lN q3);generalize aby:kv plan c.aS 0=sum at *;generalize hev:jP c.most c.bM sum=SV at *;have jf:=GM out c.aV SV I6 SU (aR.get _);rw[iz]at jf;((repeat'(first|refine Va @bb ?_|(refine Xi ?_ ?_<;>try intro ht)|exact Xx|fail)))
    refine aW (λz:Nat×Int=>(⟨ax [(1,.tree 1 (ints plan)),(2,.ptr 0 0 0),(6,.ptr 2 0 0),(103,.tree 4 (rowsOf aK m.ar)),(104,aa3 m.ar.length),(105,aa3 k),(16,.ptr 3 0 0),(17,aa3 z.2),(110,.tree 3 (rowsOf gL c.aS)),(111,aa3 c.aS.length),(112,aa3 z.1)],[.var (av m),.arr 1 (ints out),.var [.ref 1 1 0 m.rules.toNat],.var (aK c)]⟩:St))
     (λz=>z.1<=c.aS.length/\0<=z.2/\z.2<=1000*z.1/\kv plan (c.aS.drop z.1) z.2=sum) (λz=>c.aS.length-z.1) (0,0) ⟨aQ _,Int.le_refl _,aaK,aby⟩ (Xv X0) ?_
    rintro⟨j,n⟩⟨hj,e9,fV,kR⟩eR bX bQ;dsimp only at hj e9 fV kR ⊢;by_cases dG:j<c.aS.length
    ·have tF:=cS c.aS j default dG;have qd:=o8 q4 _ (aC (d:=default) dG);generalize wU:c.aS.getD j default=x at *;rw[tF,kv]at kR;obtain⟨b1,b2,b3,b4⟩:=gV.1 qd.1;have wH:=qd.2;generalize kC:plan.getD x.cls.toNat 0=px at *;((repeat'(first|refine Va (X2 @wU @kC) ?_|(refine Xi ?_ ?_<;>try intro ht)|exact Xx|fail)))
     ·rw[if_pos (by assumption)]at kR;exact bX _ (j+1,n+x.wt) ⟨aaK,aaK,aaK,kR⟩ aaK (Xs false [0,1,2,3] X0)
     ·rw[if_neg (by assumption)]at kR;exact bX _ (j+1,n) ⟨aaK,aaK,aaK,kR⟩ aaK (Xs false [0,1,2,3] X0)
    ·((repeat'(first|refine Va X0 ?_|(refine Xi ?_ ?_<;>try intro ht)|exact Xx|fail)))
     rw[cU I6,kv]at kR;subst kR;refine bQ _ _ rfl ?_;clear bX bQ eR;repeat(refine Xu ?_)
     ((skip))
     (try(refine x9 [5] rfl aab (by decide +kernel) ?_);intro K hK;simp(disch:=omega)only[Ac,↓Pc,simprocAttr])
     ((try revert hK K);(refine Vc X0 abx ?_)<;>try with_reducible intro K hK)
     refine g9 [2,1] jf aab ⟨rfl,by rw[uA];rfl,trivial⟩ ⟨.eq rfl,.pure rfl,.pure rfl,trivial⟩ ?_;((try revert hK K);(refine Va X0 ?_))
     refine aq _ (k+1,eU out c.aV SV) ⟨aaK,aR.add SU,hr⟩ aaK ?_;unfold eU;exact Xs false [0,1,2] X0
   ·((repeat'(first|refine Va X0 ?_|(refine Xi ?_ ?_<;>try intro ht)|exact Xx|fail)))
    rw[cU I6,oD]at hr;subst hr;refine au _ _ rfl ?_;clear aq au Ql;repeat(refine Xu ?_)
    refine Vb X0 ?_;refine aW (λz:Nat×Int=>(⟨ax [(6,.ptr 2 0 0),(20,aa3 z.2),(140,.ref 1 1 0 m.rules.toNat),(141,aa3 m.rules.toNat),(142,aa3 z.1)],[.var (av m),.arr 1 (ints out),.var [.ref 1 1 0 m.rules.toNat]]⟩:St))
     (λz=>z.1<=out.length/\bL z.2/\jO (out.drop z.1) z.2=jO out 0) (λz=>out.length-z.1) (0,0) ⟨aQ _,by unfold bL;decide,rfl⟩ (Xv X0) ?_
    rintro⟨j,n⟩⟨hj,e9,kR⟩Ql aq au;dsimp only at hj e9 kR ⊢;by_cases dG:j<out.length
    ·have tF:=cS out j 0 dG;have SW:=aR.get j;generalize wU:out.getD j 0=x at *;rw[tF,jO]at kR;((repeat'(first|refine Vc @wU (GG n x e9 SW) ?_|(refine Xi ?_ ?_<;>try intro ht)|exact Xx|fail)))
     exact aq _ (j+1,dx n x) ⟨aaK,yu e9 SW,kR⟩ aaK (Xv X0)
    ·((repeat'(first|refine Va X0 ?_|(refine Xi ?_ ?_<;>try intro ht)|exact Xx|fail)))
     rw[cU I6,jO]at kR;refine au _ _ rfl ?_;clear aq au Ql;repeat(refine Xu ?_)
     refine Vb X0 ?_;subst kR;refine du [] true aab trivial aab aab (aE.qF (.pure rfl) ?_);rw[<- iz];first|exact .pure rfl|exact .eq rfl|exact .fz rfl (by simp only[Bc,Rc])
def NC(m:aj)(plan:List Int)(hb:MB m)(cE:plan.length<9223372036854775808):an Tryz.prog 72 [.agg (av m),.tree 1 (ints plan)] [] (.bO [aa3 (sx m plan).1,.tree 1 (ints (sx m plan).2.1),aa3 (sx m plan).2.2]) []:=by
 generalize ao:sx m plan=res;unfold sx at ao;refine an.aF 25 0 [.tmp 4,.tmp 5,.tmp 6] Tryz.func72 ?_;((repeat'(first|refine Vd X0 (p5 m hb) ?_|(refine Xi ?_ ?_<;>try intro ht)|fail))<;>try with_reducible intro K hK)
 ·rw[if_pos ht]at ao;rw[<- ao];exact du [] true aab trivial aab aab (QI (.pure rfl) aE.nil (.pure rfl))
 rw[if_neg I6]at ao;((try revert hK K);(repeat'(first|refine Vd X0 (Rh m plan cE) ?_|(refine Xi ?_ ?_<;>try intro ht)|fail))<;>try with_reducible intro K hK)
 ·rw[if_pos ht]at ao;rw[<- ao];exact du [] true aab trivial aab aab (QI (.pure rfl) aE.nil (.pure rfl))
 rw[if_neg (by simp[*])]at ao;rename_i hv;have jX:=abt m plan (fc.1 hv) (Z0 ht);((try revert hK K);(refine Vd X0 jX ?_))
 rw[<- ao];exact BW rfl
def jm(L:List Int)(k:Nat):Ob:=.var [.tree 1 (ints L),aa3 k]
def tX(m:aj):List AV:=[.tree 1 (rowsOf bD m.cls),.ref 1 4 0 m.ae.length,.tree 4 (rowsOf aK m.ar),aa3 m.rules]
def abz{P:Program}{f:FuncId}{args:List AV}{aa:List Ob}{gk SX:AV->List Ob->Prop}(h:ez P f args aa gk)(ht:∀ r os,gk r os->∃ r2 dD,SX r2 dD/\aB aa.length ⟨λk=>[r].getD k .undef,os⟩ ⟨λk=>[r2].getD k .undef,dD⟩):ez P f args aa SX:=by
 refine⟨h.1,λγ kf jc=>Calls.mono (h.2 γ kf jc) ?_⟩;rintro e w'⟨res,bg,cv,aD,h0,h1,h2,h3,h4,h5⟩;obtain⟨r2,dD,hp,ht⟩:=ht res bg h0;obtain⟨Fu,a1,a2,a3,a4⟩:=ht aa γ aD rfl h4 h5;exact⟨r2,dD,cv,Fu,hp,h1,a1.trans h2,a2.trans h3,a3,a4⟩
def abA(m:aj)(o:Ob)(ho:∀ ρ,bH ρ o=o):aB 1 ⟨λk=>[AV.agg (tX m)].getD k .undef,[o,.arr 4 (rowsOf bu m.ae)]⟩ ⟨λk=>[AV.agg (av m)].getD k .undef,[o]⟩:=by
 have e:∀ x:AV,(λk=>[x].getD k AV.undef)=ax [(0,x)]:=λx=>by
  funext k;cases k<;>rfl
 rw[e (.agg (av m))];refine aB.ak [0] true _ _ aab ⟨⟨Jd,.inr (by rw[ho];rfl)⟩,trivial⟩ aab (λi hi=>by
  obtain rfl:i=0:=I6;rfl) ⟨?_,trivial⟩
 refine(aE.agg _ _ rfl (dS.spec (R:=aE _ _ _ _) (cs:=av m) (ds:=tX m) ⟨.pure rfl,aE.bS rfl (eF _) (by rw[bW]) (gG aab) (jh _),.pure rfl,.pure rfl,trivial⟩).2)
def SY (L:List Int) (k:Nat) (nN options:Nat) (hk:k<=L.length) (hL:L.length<1000000) (hc:nN<=24) (ho:options<=24) (SZ:1<=options) :
    ez Tryz.prog 26 [.ptr 0 0 0,aa3 nN,aa3 options] [jm L k] (λr os=>∃ m k',MM m nN options/\k'<=L.length/\r=.agg (tX m)/\os=[jm L k',.arr 4 (rowsOf bu m.ae)]):=by
  unfold jm
  refine ez.aF 199 1 [.cell 6 29] Tryz.func26 ?_
  ((refine Vb X0 ?_)<;>try with_reducible intro K hK)
  refine g9 [0] (jq L k 4 (by unfold fx;omega) hk hL) aab ⟨rfl,trivial⟩ ⟨.eq rfl,.pure rfl,trivial⟩ ?_
  have hv:=lQ (L:=L) (k:=k) (n:=4) I6
  have bK:=fY hk
  generalize ek L k 4=v at *
  generalize cO L k=k2 at *
  clear hk
  ((try revert hK K);(refine Vb X0 ?_)<;>try with_reducible intro K hK)
  refine g9 [0] (jq L k2 (nN+1) (by unfold fx;omega) bK hL) aab ⟨rfl,trivial⟩ ⟨.eq rfl,.pure rfl,trivial⟩ ?_
  have HB:=lQ (L:=L) (k:=k2) (n:=nN+1) I6
  have kq:=fY bK
  generalize ek L k2 (nN+1)=n at *
  generalize cO L k2=k3 at *
  clear bK
  obtain ⟨c0,rfl⟩ :∃c0:Nat,n=c0:=⟨n.toNat,I6⟩
  generalize hR:1+v=R
  have xV:1<=R/\R<=4:=I6
  ((try revert hK K);(refine Vb X0 ?_))
  refine aW (λz:Nat×Nat×List (List br)=>(⟨ax [(0,.ptr 0 0 0),(2,aa3 options),(6,.ptr 1 0 0),(7,.ptr 2 0 0),(8,aa3 z.1)],cB L z.2.1 z.2.2 [] [] R⟩:St))
    (λz=>z.1+z.2.2.length<=nN/\z.2.1<=L.length/\∀ l∈z.2.2,(1<=l.length/\l.length<=options)/\QX R l) (λz=>z.1) (c0,k3,[]) ⟨aaZ,kq,Jd⟩ ?_ ?_
  · refine aB.trans (aB.kN 2 0 1 rfl rfl aab) ?_
    refine aB.trans (aB.kN 2 1 4 rfl rfl aab) ?_
    refine aB.trans (aB.kN 2 2 4 rfl rfl aab) ?_
    exact Xv X0
  clear HB kq
  rintro ⟨c,k,cls⟩ ⟨bb,hk,sN⟩ Ql aq au
  dsimp only at bb hk sN ⊢
  unfold cB
  by_cases nB:0<c
  · obtain ⟨c',rfl⟩ :∃c',c=c'+1:=⟨c - 1,I6⟩
    have og:((c'+1:Nat):Int) - 1=c':=I6
    ((repeat' (first|refine Va X0 ?_|(refine Xi ?_ ?_<;>try intro ht)|exact Xx|fail))<;>try with_reducible intro K hK)
    refine g9 [0] (jq L k options (by unfold fx;omega) hk hL) aab ⟨rfl,trivial⟩ ⟨.eq rfl,.pure rfl,trivial⟩ ?_
    have HB:=lQ (L:=L) (k:=k) (n:=options) I6
    have bK:=fY hk
    generalize ek L k options=n at *
    generalize cO L k=k2 at *
    clear hk
    obtain ⟨e0,od⟩ :∃e0:Nat,1+n=e0:=⟨(1+n).toNat,I6⟩
    ((try revert hK K);(refine Va @od ?_))
    refine aW (λz:Nat×Nat×List br=>(⟨ax [(0,.ptr 0 0 0),(2,aa3 options),(6,.ptr 1 0 0),(7,.ptr 2 0 0),(8,aa3 (c'+1:Nat)),(9,.ref 6 6 0 z.2.2.length),(10,aa3 z.1)],cB L z.2.1 cls [] [] R++[.arr 6 (rowsOf cw z.2.2)]⟩:St))
      (λz=>z.1+z.2.2.length=e0/\z.2.1<=L.length/\QX R z.2.2) (λz=>z.1) (e0,k2,[]) ⟨Jd,bK,by intro o ho;simp at ho⟩ ?_ ?_
    · refine aB.trans (aB.nil 9 6 (by simp only[Kc,simprocAttr]) aab) ?_
      unfold cB
      exact Xv X0
    clear bK
    rintro ⟨e,k,l⟩ ⟨tK,hk,hl⟩ eR bX bQ
    dsimp only at tK hk hl ⊢
    unfold cB
    simp only[cW,da]
    by_cases Lp:0<e
    · obtain ⟨e',rfl⟩ :∃e',e=e'+1:=⟨e - 1,I6⟩
      have sg:((e'+1:Nat):Int) - 1=e':=I6
      ((repeat' (first|refine Va X0 ?_|(refine Xi ?_ ?_<;>try intro ht)|exact Xx|fail))<;>try with_reducible intro K hK)
      refine g9 [0] (jq L k 3 (by unfold fx;omega) hk hL) aab ⟨rfl,trivial⟩ ⟨.eq rfl,.pure rfl,trivial⟩ ?_
      have fV:=lQ (L:=L) (k:=k) (n:=3) I6
      have bK:=fY hk
      generalize ek L k 3=n1 at *
      generalize cO L k=k2 at *
      clear hk
      ((try revert hK K);(refine Va X0 ?_)<;>try with_reducible intro K hK)
      refine g9 [0] (jq L k2 2 (by unfold fx;omega) bK hL) aab ⟨rfl,trivial⟩ ⟨.eq rfl,.pure rfl,trivial⟩ ?_
      have hk:=fY bK
      generalize ek L k2 2=n2 at *
      generalize cO L k2=k at *
      clear bK
      ((try revert hK K);(refine Va X0 ?_)<;>try with_reducible intro K hK)
      refine g9 [0] (jq L k 3 (by unfold fx;omega) hk hL) aab ⟨rfl,trivial⟩ ⟨.eq rfl,.pure rfl,trivial⟩ ?_
      have bK:=fY hk
      generalize ek L k 3=n3 at *
      generalize cO L k=k2 at *
      clear hk
      ((try revert hK K);(refine Va X0 ?_)<;>try with_reducible intro K hK)
      refine g9 [0] (jq L k2 3 (by unfold fx;omega) bK hL) aab ⟨rfl,trivial⟩ ⟨.eq rfl,.pure rfl,trivial⟩ ?_
      have hn4:=lQ (L:=L) (k:=k2) (n:=3) I6
      have hk:=fY bK
      generalize ek L k2 3=n4 at *
      generalize cO L k2=k at *
      clear bK
      ((try revert hK K);(refine Va X0 ?_))
      generalize S1:1+n1=w1
      generalize hw4:n4 - 1=w4
      refine aW (λz:Nat×Nat×List (Int×Int)=>(⟨ax [(0,.ptr 0 0 0),(2,aa3 options),(6,.ptr 1 0 0),(7,.ptr 2 0 0),(8,aa3 (c'+1:Nat)),(9,.ref 6 6 0 l.length),(10,aa3 (e'+1:Nat)),(11,.ptr 7 0 0),(12,aa3 z.1)],
          cB L z.2.1 cls [] [] R++[.arr 6 (rowsOf cw l),.var [aa3 w1,aa3 n2,aa3 n3,aa3 1,aa3 w4,.ref 8 2 0 z.2.2.length],.arr 2 (rowsOf bz z.2.2)]⟩:St))
        (λz=>(z.1:Int)<=R/\z.2.1<=L.length/\z.2.2.length<=z.1/\db R none z.2.2=true/\∀ x∈z.2.2,x.1<z.1) (λz=>R.toNat - z.1) (0,k,[]) ⟨aaK,hk,Nat.le_refl _,rfl,Jd⟩ ?_ ?_
      · refine aB.trans (aB.kN 7 5 2 rfl rfl aab) ?_
        unfold cB
        exact Xv X0
      clear hk
      rintro ⟨u,k,ch⟩ ⟨hu,hk,cy,eC,bq⟩ lM gw eK
      dsimp only at hu hk cy eC bq ⊢
      unfold cB
      simp only[cW,da]
      by_cases HC:(u:Int)<R
      · ((repeat' (first|refine Va X0 ?_|(refine Xi ?_ ?_<;>try intro ht)|exact Xx|fail))<;>try with_reducible intro K hK)
        refine g9 [0] (GF L k hk hL) aab ⟨rfl,trivial⟩ ⟨.eq rfl,trivial⟩ ?_
        obtain ⟨sd,oW,AT⟩:=GO L k
        have bK:=GP hk
        generalize nL L k=cv at *
        generalize sF L k=k2 at *
        clear hk
        ((try revert hK K);(repeat' (first|refine Va X0 ?_|(refine V2 X0 ?_ ?_<;>try with_reducible intro hb)|(refine Xi ?_ ?_<;>try intro ht)|exact Xx|fail))<;>try with_reducible intro K hK)
        · refine g9 [0] (yq L k2 2 (by unfold fx;omega) aab bK hL) aab ⟨rfl,trivial⟩ ⟨.eq rfl,.pure rfl,trivial⟩ ?_
          have hk:=fY bK
          generalize wO L k2 2=b at *
          generalize cO L k2=k at *
          clear bK
          ((try revert hK K);(repeat' (first|refine Va X0 ?_|(refine Xi ?_ ?_<;>try intro ht)|fail)))
          · refine gw _ (u+1,k,ch++[((u:Int),cv)]) ⟨aaK,hk,aaZ,QR eC (by rw[ij,decide_eq_true_eq];omega) (AT I6) (λx hx=>bq x hx) Jd,λx hx=>?_⟩ aaK ?_
            · rcases cj.1 hx with hx | hx
              · have:=bq x hx;dsimp only;omega
              · simp only[ew] at hx;subst hx;dsimp only;omega
            · unfold cB
              simp only[cW,da]
              rw[show rowsOf bz ch++[[AV.lit (.int .i64 u),AV.lit (.int .i64 cv)]]=rowsOf bz (ch++[((u:Int),cv)]) from jM (enc:=bz) ch ((u:Int),cv)]
              exact Xs false [0,1,2,3,4,5,6,7,10] X0
          · exact gw _ (u+1,k,ch) ⟨aaK,hk,aaK,eC,λx hx=>by have:=bq x hx;dsimp only;omega⟩ aaK (by unfold cB;exact Xv X0)
        · exact gw _ (u+1,k2,ch) ⟨aaK,bK,aaK,eC,λx hx=>by have:=bq x hx;dsimp only;omega⟩ aaK (by unfold cB;exact Xv X0)
      · ((repeat' (first|refine Va X0 ?_|(refine Xi ?_ ?_<;>try intro ht)|exact Xx|fail)))
        refine eK _ _ rfl ?_
        clear gw eK lM
        repeat (refine Xu ?_)
        refine bP (aB.sk 8 7 5 2 rfl rfl (by rw[bW];rfl) (eF _) (jh _)) ?_
        refine bP (σ':=⟨ax [(0,.ptr 0 0 0),(2,aa3 options),(6,.ptr 1 0 0),(7,.ptr 2 0 0),(8,aa3 (c'+1:Nat)),(9,.ref 6 6 0 l.length),(10,aa3 (e'+1:Nat)),(11,.ptr 7 0 0)],
            cB L k cls [] [] R++[.arr 6 (rowsOf cw l),.var (cw ⟨w1,n2,n3,1,w4,ch⟩),.gone]⟩) (by unfold cB;exact Xv X0) ?_
        unfold cB
        simp only[cW,da]
        have sg:((e'+1:Nat):Int) - 1=e':=I6
        refine Va @sg ?_
        refine bX _ (e',k,l++[⟨w1,n2,n3,1,w4,ch⟩]) ⟨aaZ,hk,?_⟩ aaK ?_
        · intro o ho
          rcases cj.1 ho with ho | ho
          · exact hl o ho
          · simp only[ew] at ho;subst ho;exact eC
        · unfold cB
          simp only[cW,da]
          rw[show rowsOf cw l++[[AV.lit (.int .i64 w1),AV.lit (.int .i64 n2),AV.lit (.int .i64 n3),AV.lit (.int .i64 1),AV.lit (.int .i64 w4),AV.tree 2 (rowsOf bz ch)]]=rowsOf cw (l++[⟨w1,n2,n3,1,w4,ch⟩]) from jM (enc:=cw) l ⟨w1,n2,n3,1,w4,ch⟩]
          exact Xs false [0,1,2,3,4,5,10] X0
    · obtain rfl:e=0:=I6
      ((repeat' (first|refine Va X0 ?_|(refine Xi ?_ ?_<;>try intro ht)|exact Xx|fail)))
      refine bQ _ _ rfl ?_
      clear bX bQ eR
      repeat (refine Xu ?_)
      refine bP (σ':=⟨ax [(0,.ptr 0 0 0),(2,aa3 options),(6,.ptr 1 0 0),(7,.ptr 2 0 0),(8,aa3 (c'+1:Nat)),(9,.tree 6 (rowsOf cw l))],cB L k cls [] [] R⟩) ?_ ?_
      · unfold cB
        exact Xs true [0,1,2,3,4,5] X0
      unfold cB
      refine Va @og ?_
      refine aq _ (c',k,cls++[l]) ⟨aaZ,hk,?_⟩ aaK ?_
      · intro x hx
        rcases cj.1 hx with hx | hx
        · exact sN x hx
        · simp only[ew] at hx;subst hx;exact⟨⟨I6,I6⟩,hl⟩
      · unfold cB
        rw[show rowsOf bD cls++[[AV.tree 6 (rowsOf cw l)]]=rowsOf bD (cls++[l]) from jM (enc:=bD) cls l]
        exact Xs false [0,1,2,7,4,5] X0
  obtain rfl:c=0:=I6
  ((repeat' (first|refine Va X0 ?_|(refine Xi ?_ ?_<;>try intro ht)|exact Xx|fail)))
  refine au _ _ rfl ?_;clear aq au Ql
  repeat (refine Xu ?_)
  clear nB
  refine bP (σ':=⟨ax [(0,.ptr 0 0 0),(6,.ptr 1 0 0),(7,.ptr 2 0 0)],cB L k cls [] [] R⟩) (by unfold cB;exact Xv X0) ?_
  unfold cB
  refine Va X0 ?_
  have cy:cls.length<=24:=I6
  have HD:∀ i,(cls.getD i default).length<=24:=λi=>by
    rcases Nat.lt_or_ge i cls.length with h | h
    · have:=(sN _ (aC (d:=default) h)).1;omega
    · rw[List.getD_eq_getElem?_getD,List.getElem?_eq_none h];decide
  refine aW (λz:Nat×Nat×List Pr=>(⟨ax [(0,.ptr 0 0 0),(6,.ptr 1 0 0),(7,.ptr 2 0 0),(14,aa3 z.1)],cB L z.2.1 cls z.2.2 [] R⟩:St))
    (λz=>(z.1:Int)<=R/\z.2.1<=L.length/\tJ cls R z.2.2 z.1 0 0) (λz=>R.toNat - z.1) (0,k,[]) ⟨aaK,hk,rfl,Jd,Jd⟩ (by unfold cB;exact Xv X0) ?_
  clear hk
  rintro ⟨u,k,ae⟩ ⟨hu,hk,hP⟩ Ql aq au
  dsimp only at hu hk hP ⊢
  unfold cB
  by_cases HC:(u:Int)<R
  · ((repeat' (first|refine Va X0 ?_|(refine Xi ?_ ?_<;>try intro ht)|exact Xx|fail)))
    refine aW (λz:Nat×Nat×List Pr=>(⟨ax [(0,.ptr 0 0 0),(6,.ptr 1 0 0),(7,.ptr 2 0 0),(14,aa3 u),(15,aa3 z.1)],cB L z.2.1 cls z.2.2 [] R⟩:St))
      (λz=>z.1<=cls.length/\z.2.1<=L.length/\tJ cls R z.2.2 u z.1 0) (λz=>cls.length - z.1) (0,k,ae) ⟨aaK,hk,hP⟩ (by unfold cB;exact Xv X0) ?_
    clear hk hP
    rintro ⟨i,k,ae⟩ ⟨hi,hk,hP⟩ eR bX bQ
    dsimp only at hi hk hP ⊢
    unfold cB
    by_cases hi':i<cls.length
    · ((repeat' (first|refine Va X0 ?_|(refine Xi ?_ ?_<;>try intro ht)|exact Xx|fail)))
      refine aW (λz:Nat×Nat×List Pr=>(⟨ax [(0,.ptr 0 0 0),(6,.ptr 1 0 0),(7,.ptr 2 0 0),(14,aa3 u),(15,aa3 i),(16,aa3 z.1)],cB L z.2.1 cls z.2.2 [] R⟩:St))
        (λz=>i<z.1/\z.1<=cls.length/\z.2.1<=L.length/\tJ cls R z.2.2 u i z.1) (λz=>cls.length - z.1) (i+1,k,ae) ⟨aaK,aaK,hk,hP.mono I6 I6⟩ (by unfold cB;exact Xv X0) ?_
      clear hk hP
      rintro ⟨j,k,ae⟩ ⟨pg,hj,hk,hP⟩ lM gw eK
      dsimp only at pg hj hk hP ⊢
      unfold cB
      by_cases dG:j<cls.length
      · ((repeat' (first|refine Va X0 ?_|(refine Xi ?_ ?_<;>try intro ht)|exact Xx|fail))<;>try with_reducible intro K hK)
        refine g9 [0] (yq L k 3 (by unfold fx;omega) aab hk hL) aab ⟨rfl,trivial⟩ ⟨.eq rfl,.pure rfl,trivial⟩ ?_
        have bK:=fY hk
        generalize wO L k 3=b at *
        generalize cO L k=k2 at *
        clear hk
        have g1:=HD i
        have g2:=HD j
        have qI:=(sN _ (aC (d:=default) hi')).1
        have B8:=(sN _ (aC (d:=default) dG)).1
        have hmul:((cls.getD i default).length:Int) * (cls.getD j default).length=((cls.getD i default).length * (cls.getD j default).length:Nat):=Jd
        have ae2:(cls.getD i default).length * (cls.getD j default).length<=24 * 24:=Nat.mul_le_mul g1 g2
        generalize B7:(cls.getD i default).length * (cls.getD j default).length=nn at *
        ((try revert hK K);(repeat' (first|refine Va @hmul ?_|(refine Xi ?_ ?_<;>try intro ht)|fail)))
        rotate_left
        · exact gw _ (j+1,k2,ae) ⟨aaK,aaK,bK,hP.mono I6 I6⟩ aaK (by unfold cB;exact Xv X0)
        refine aW (λz:Nat×Nat×List Int=>(⟨ax [(0,.ptr 0 0 0),(6,.ptr 1 0 0),(7,.ptr 2 0 0),(14,aa3 u),(15,aa3 i),(16,aa3 j),(17,.ptr 6 0 0),(18,aa3 z.1)],
            cB L z.2.1 cls ae [] R++[.var [aa3 i,aa3 j,aa3 u,.ref 7 1 0 z.2.2.length],.arr 1 (ints z.2.2)]⟩:St))
          (λz=>z.1+z.2.2.length=nn/\z.2.1<=L.length/\∀ x∈z.2.2,0<=x/\(0<x->iF x=true)) (λz=>z.1) (nn,k2,[]) ⟨Jd,bK,Jd⟩ ?_ ?_
        · refine aB.trans (aB.kN 6 3 1 rfl rfl aab) ?_
          unfold cB
          exact Xv X0
        clear bK
        rintro ⟨w,k,ay⟩ ⟨hw,hk,Dm⟩ wG uU kP
        dsimp only at hw hk Dm ⊢
        unfold cB
        simp only[cW,da]
        by_cases BL:0<w
        · obtain ⟨w',rfl⟩ :∃w',w=w'+1:=⟨w - 1,I6⟩
          have S1:((w'+1:Nat):Int) - 1=w':=I6
          ((repeat' (first|refine Va X0 ?_|(refine Xi ?_ ?_<;>try intro ht)|exact Xx|fail)))
          refine lg [] (.take 2 (.both 0 (.both 1 (.take 3 (.take 4 (.take 5 (.take 6 (.take 7 .nil))))) 3 (.take 1 (.take 4 (.take 5 (.take 6 (.take 7 .nil)))))) 3 (.take 0 (.take 1 (.take 4 (.take 5 (.take 6 (.take 7 .nil)))))))) rfl aab (by decide +kernel) ?_
          simp (disch:=omega) only[Ac,↓Pc,simprocAttr,xA,ux,uw,cQ,dN]
          refine⟨⟨?_,?_⟩,?_⟩
          all_goals refine g9 [0] (GF L k hk hL) aab ⟨rfl,trivial⟩ ⟨.eq rfl,trivial⟩ ?_
          all_goals obtain ⟨sd,oW,AT⟩:=GO L k
          all_goals have bK:=GP hk
          all_goals generalize nL L k=cv at *
          all_goals generalize sF L k=k2 at *
          all_goals simp (disch:=omega) only[Ac,↓Pc,simprocAttr,xA,ux,uw,cQ,dN]
          all_goals refine⟨I6,?_⟩
          all_goals repeat (refine Xu ?_)
          all_goals ((repeat' (first|refine Va @S1 ?_|fail)))
          all_goals refine uU _ (w',k2,ay++[cv]) ⟨aaZ,bK,λx hx=>?_⟩ aaK ?_
          all_goals first
            | (rcases cj.1 hx with hx | hx
               · exact Dm x hx
               · simp only[ew] at hx;subst hx;exact⟨sd,AT⟩)
            | (unfold cB;simp only[cW,da];exact Xs false [0,1,2,3,4,5,6,9] X0)
        · obtain rfl:w=0:=I6
          ((repeat' (first|refine Va X0 ?_|(refine Xi ?_ ?_<;>try intro ht)|exact Xx|fail)))
          refine kP _ _ rfl ?_
          clear uU kP wG
          repeat (refine Xu ?_)
          refine bP (aB.sk 7 6 3 1 rfl rfl (by rw[ni];rfl) (pO _) (qD _)) ?_
          refine bP (σ':=⟨ax [(0,.ptr 0 0 0),(6,.ptr 1 0 0),(7,.ptr 2 0 0),(14,aa3 u),(15,aa3 i),(16,aa3 j),(17,.ptr 6 0 0)],
              cB L k cls ae [] R++[.var (bu ⟨i,j,u,ay⟩),.gone]⟩) (by unfold cB;exact Xv X0) ?_
          unfold cB
          simp only[cW,da]
          have cE:=hP.len
          refine Va X0 ?_
          refine gw _ (j+1,k,ae++[⟨i,j,u,ay⟩]) ⟨aaK,aaK,hk,hP.app (Z2 HC pg dG (by rw[B7];omega) Dm)⟩ aaK ?_
          unfold cB
          rw[show rowsOf bu ae++[[AV.lit (.int .i64 i),AV.lit (.int .i64 j),AV.lit (.int .i64 u),AV.tree 1 (ints ay)]]=rowsOf bu (ae++[⟨i,j,u,ay⟩]) from jM (enc:=bu) ae ⟨i,j,u,ay⟩]
          exact Xs false [0,1,2,3,9,5] X0
      · ((repeat' (first|refine Va X0 ?_|(refine Xi ?_ ?_<;>try intro ht)|exact Xx|fail)))
        refine eK _ _ rfl ?_
        clear gw eK lM
        repeat (refine Xu ?_)
        refine Va X0 ?_
        exact bX _ (i+1,k,ae) ⟨aaK,hk,hP.mono I6 I6⟩ aaK (by unfold cB;exact Xv X0)
    · ((repeat' (first|refine Va X0 ?_|(refine Xi ?_ ?_<;>try intro ht)|exact Xx|fail)))
      refine bQ _ _ rfl ?_
      clear bX bQ eR
      repeat (refine Xu ?_)
      refine Va X0 ?_
      exact aq _ (u+1,k,ae) ⟨aaK,hk,hP.mono I6 I6⟩ aaK (by unfold cB;exact Xv X0)
  have abB:=hP.ok
  have abC:ae.length<=4000:=by have:=hP.len;omega
  ((repeat' (first|refine Va X0 ?_|(refine Xi ?_ ?_<;>try intro ht)|exact Xx|fail)))
  refine au _ _ rfl ?_;clear aq au Ql
  repeat (refine Xu ?_)
  refine bP (σ':=⟨ax [(0,.ptr 0 0 0),(6,.ptr 1 0 0),(7,.ptr 2 0 0)],cB L k cls ae [] R⟩) (by unfold cB;exact Xv X0) ?_
  clear HC hu hP
  unfold cB
  ((refine Va X0 ?_)<;>try with_reducible intro K hK)
  refine g9 [0] (jq L k 3 (by unfold fx;omega) hk hL) aab ⟨rfl,trivial⟩ ⟨.eq rfl,.pure rfl,trivial⟩ ?_
  have HB:=lQ (L:=L) (k:=k) (n:=3) I6
  have bK:=fY hk
  generalize ek L k 3=n at *
  generalize cO L k=k2 at *
  clear hk
  obtain ⟨c1,rfl⟩ :∃c1:Nat,n=c1:=⟨n.toNat,I6⟩
  ((try revert hK K);(refine Va X0 ?_))
  refine aW (λz:Nat×Nat×List Ct=>(⟨ax [(0,.ptr 0 0 0),(6,.ptr 1 0 0),(7,.ptr 2 0 0),(19,aa3 z.1)],cB L z.2.1 cls ae z.2.2 R⟩:St))
    (λz=>z.1+z.2.2.length<=2/\z.2.1<=L.length/\∀ x∈z.2.2,fN ⟨cls,[],[],R⟩ x=true) (λz=>z.1) (c1,k2,[]) ⟨aaZ,bK,Jd⟩ (by unfold cB;exact Xv X0) ?_
  clear bK
  rintro ⟨c,k,ar⟩ ⟨bb,hk,HE⟩ Ql aq au
  dsimp only at bb hk HE ⊢
  unfold cB
  by_cases nB:0<c
  · obtain ⟨c',rfl⟩ :∃c',c=c'+1:=⟨c - 1,I6⟩
    have og:((c'+1:Nat):Int) - 1=c':=I6
    ((repeat' (first|refine Va X0 ?_|(refine Xi ?_ ?_<;>try intro ht)|exact Xx|fail))<;>try with_reducible intro K hK)
    refine g9 [0] (jq L k R (by unfold fx;omega) hk hL) aab ⟨rfl,trivial⟩ ⟨.eq rfl,.pure rfl,trivial⟩ ?_
    have fV:=lQ (L:=L) (k:=k) (n:=R) I6
    have bK:=fY hk
    generalize ek L k R=n1 at *
    generalize cO L k=k2 at *
    clear hk
    ((try revert hK K);(refine Va X0 ?_)<;>try with_reducible intro K hK)
    refine g9 [0] (jq L k2 4 (by unfold fx;omega) bK hL) aab ⟨rfl,trivial⟩ ⟨.eq rfl,.pure rfl,trivial⟩ ?_
    have nx:=lQ (L:=L) (k:=k2) (n:=4) I6
    have hk:=fY bK
    generalize ek L k2 4=n2 at *
    generalize cO L k2=k at *
    clear bK
    ((try revert hK K);(refine Va X0 ?_)<;>try with_reducible intro K hK)
    refine g9 [0] (GF L k hk hL) aab ⟨rfl,trivial⟩ ⟨.eq rfl,trivial⟩ ?_
    obtain ⟨sd,oW,AT⟩:=GO L k
    have bK:=GP hk
    generalize nL L k=cv at *
    generalize sF L k=k2 at *
    clear hk
    have abD:iF (max 1 cv)=true:=by
      by_cases h0:0<cv
      · rw[show max 1 cv=cv by omega];exact AT h0
      · rw[show max 1 cv=1 by omega];decide
    generalize cG:max 1 cv=bM at *
    ((try revert hK K);(refine Va @cG ?_))
    refine aW (λz:Nat×Nat×List Ld=>(⟨ax [(0,.ptr 0 0 0),(6,.ptr 1 0 0),(7,.ptr 2 0 0),(19,aa3 (c'+1:Nat)),(20,.ptr 6 0 0),(21,aa3 z.1)],
        cB L z.2.1 cls ae ar R++[.var [aa3 n1,.ref 7 3 0 z.2.2.length,aa3 n2,aa3 bM],.arr 3 (rowsOf gL z.2.2)]⟩:St))
      (λz=>z.1<=cls.length/\z.2.1<=L.length/\va cls R z.2.2 z.1 0) (λz=>cls.length - z.1) (0,k2,[]) ⟨aQ _,bK,rfl,Jd,Jd⟩ ?_ ?_
    · refine aB.trans (aB.kN 6 1 3 rfl rfl aab) ?_
      unfold cB
      exact Xv X0
    clear bK
    rintro ⟨i,k,ku⟩ ⟨hi,hk,hI⟩ eR bX bQ
    dsimp only at hi hk hI ⊢
    unfold cB
    simp only[cW,da]
    by_cases hi':i<cls.length
    · have qI:=HD i
      generalize iT:cls.getD i default=li at *
      ((repeat' (first|refine Va @iT ?_|(refine Xi ?_ ?_<;>try intro ht)|exact Xx|fail)))
      refine aW (λz:Nat×Nat×List Ld=>(⟨ax [(0,.ptr 0 0 0),(6,.ptr 1 0 0),(7,.ptr 2 0 0),(19,aa3 (c'+1:Nat)),(20,.ptr 6 0 0),(21,aa3 i),(22,aa3 z.1)],
          cB L z.2.1 cls ae ar R++[.var [aa3 n1,.ref 7 3 0 z.2.2.length,aa3 n2,aa3 bM],.arr 3 (rowsOf gL z.2.2)]⟩:St))
        (λz=>z.1<=li.length/\z.2.1<=L.length/\va cls R z.2.2 i z.1) (λz=>li.length - z.1) (0,k,ku) ⟨aQ _,hk,hI⟩ (by unfold cB;exact Xv (X2 @cW.{0} @da.{0})) ?_
      clear hk hI
      rintro ⟨j,k,ku⟩ ⟨hj,hk,hI⟩ lM gw eK
      dsimp only at hj hk hI ⊢
      unfold cB
      simp only[cW,da]
      have ae3:=hI.len
      by_cases dG:j<li.length
      · ((repeat' (first|refine Va @iT ?_|(refine Xi ?_ ?_<;>try intro ht)|exact Xx|fail))<;>try with_reducible intro K hK)
        refine g9 [0] (yq L k 2 (by unfold fx;omega) aab hk hL) aab ⟨rfl,trivial⟩ ⟨.eq rfl,.pure rfl,trivial⟩ ?_
        have bK:=fY hk
        generalize wO L k 2=b at *
        generalize cO L k=k2 at *
        clear hk
        ((try revert hK K);(repeat' (first|refine Va @iT ?_|(refine Xi ?_ ?_<;>try intro ht)|fail)))
        · refine lg [] (.take 2 (.take 3 (.take 4 (.both 0 (.both 1 (.take 5 (.take 6 (.take 7 (.take 8 (.take 9 (.take 10 (.take 11 .nil))))))) 5 (.take 1 (.take 6 (.take 7 (.take 8 (.take 9 (.take 10 (.take 11 .nil)))))))) 5 (.take 0 (.take 1 (.take 6 (.take 7 (.take 8 (.take 9 (.take 10 (.take 11 .nil)))))))))))) rfl aab (by decide +kernel) ?_
          simp (disch:=omega) only[Ac,↓Pc,simprocAttr,xA,ux,uw,cQ,dN]
          refine⟨⟨?_,?_⟩,?_⟩
          all_goals refine g9 [0] (jq L k2 3 (by unfold fx;omega) bK hL) aab ⟨rfl,trivial⟩ ⟨.eq rfl,.pure rfl,trivial⟩ ?_
          all_goals have hn3:=lQ (L:=L) (k:=k2) (n:=3) I6
          all_goals have hk:=fY bK
          all_goals generalize ek L k2 3=n3 at *
          all_goals generalize cO L k2=k at *
          all_goals clear bK
          all_goals simp (disch:=omega) only[Ac,↓Pc,simprocAttr,xA,ux,uw,cQ,dN]
          all_goals refine⟨⟨I6,I6⟩,I6,?_⟩
          all_goals repeat (refine Xu ?_)
          all_goals ((repeat' (first|refine Va X0 ?_|fail)))
          all_goals refine gw _ (j+1,k,ku++[⟨i,j,1+n3⟩]) ⟨aaK,hk,hI.app hi' (by rw[iT];exact dG) ⟨I6,I6⟩⟩ aaK ?_
          all_goals unfold cB
          all_goals simp only[cW,da]
          all_goals rw[show rowsOf gL ku++[[AV.lit (.int .i64 i),AV.lit (.int .i64 j),AV.lit (.int .i64 (1+n3))]]=rowsOf gL (ku++[⟨i,j,1+n3⟩]) from jM (enc:=gL) ku ⟨i,j,1+n3⟩]
          all_goals exact Xs false [0,1,2,3,4,5,6,9] X0
        · exact gw _ (j+1,k2,ku) ⟨aaK,bK,hI.mono I6 I6⟩ aaK (by unfold cB;exact Xv (X2 @cW.{0} @da.{0}))
      · ((repeat' (first|refine Va @iT ?_|(refine Xi ?_ ?_<;>try intro ht)|exact Xx|fail)))
        refine eK _ _ rfl ?_
        clear gw eK lM
        repeat (refine Xu ?_)
        refine Va X0 ?_
        exact bX _ (i+1,k,ku) ⟨aaK,hk,hI.mono I6 I6⟩ aaK (by unfold cB;exact Xv (X2 @cW.{0} @da.{0}))
    · ((repeat' (first|refine Va X0 ?_|(refine Xi ?_ ?_<;>try intro ht)|exact Xx|fail)))
      refine bQ _ _ rfl ?_
      clear bX bQ eR
      repeat (refine Xu ?_)
      refine bP (aB.sk 7 6 1 3 rfl rfl (by rw[bW];rfl) (eF _) (jh _)) ?_
      refine bP (σ':=⟨ax [(0,.ptr 0 0 0),(6,.ptr 1 0 0),(7,.ptr 2 0 0),(19,aa3 (c'+1:Nat)),(20,.ptr 6 0 0)],
          cB L k cls ae ar R++[.var (aK ⟨n1,ku,n2,bM⟩),.gone]⟩) (by unfold cB;exact Xv X0) ?_
      unfold cB
      simp only[cW,da]
      refine Va @og ?_
      refine aq _ (c',k,ar++[⟨n1,ku,n2,bM⟩]) ⟨aaZ,hk,?_⟩ aaK ?_
      · intro x hx
        rcases cj.1 hx with hx | hx
        · exact HE x hx
        · simp only[ew] at hx
          subst hx
          unfold fN ij
          simp only[Bool.and_eq_true,decide_eq_true_eq]
          exact⟨⟨⟨I6,I6⟩,abD⟩,hI.ok⟩
      · unfold cB
        rw[show rowsOf aK ar++[[AV.lit (.int .i64 n1),AV.tree 3 (rowsOf gL ku),AV.lit (.int .i64 n2),AV.lit (.int .i64 bM)]]=rowsOf aK (ar++[⟨n1,ku,n2,bM⟩]) from jM (enc:=aK) ar ⟨n1,ku,n2,bM⟩]
        exact Xs false [0,1,2,3,4,9] X0
  obtain rfl:c=0:=I6
  ((repeat' (first|refine Va X0 ?_|(refine Xi ?_ ?_<;>try intro ht)|exact Xx|fail)))
  refine au _ _ rfl ?_;clear aq au Ql
  repeat (refine Xu ?_)
  refine Vb X0 ?_
  have hMM:MM ⟨cls,ae,ar,R⟩ nN options:=by
    refine⟨⟨aaK,λl hl=>by have:=(sN l hl).1;omega,abC,aaK,aaK,λl hl=>(sN l hl).2,?_,λx hx=>?_⟩,aaK,λl hl=>(sN l hl).1,xV,aaK⟩
    · exact (QV _ _).trans abB
    · exact (Z1 _).trans (HE x hx)
  unfold fJ
  simp only[dQ,dK]
  simp (disch:=omega) only[Ac,↓Pc,simprocAttr]
  refine⟨_,_,⟨⟨cls,ae,ar,R⟩,k,hMM,hk,rfl,rfl⟩,?_⟩
  refine du [0,4] true aab ⟨⟨Jd,.inr rfl⟩,⟨Jd,.inr (by rw[pU];rfl)⟩,trivial⟩ aab aab (aE.agg _ _ rfl (dS.spec (R:=aE _ _ _ _) (cs:=tX ⟨cls,ae,ar,R⟩) (ds:=[.ref 3 1 0 cls.length,.ref 4 4 0 ae.length,.ref 5 4 0 ar.length,aa3 R]) ⟨?_,.eq rfl,?_,.pure rfl,trivial⟩).2)
  · first|exact .pure rfl|exact .eq rfl|exact .fz rfl (by simp only[Bc,Rc])
  · first|exact .pure rfl|exact .eq rfl|exact .fz rfl (by simp only[Bc,Rc])
def abF(L:List Int)(k:Nat)(nN options:Nat)(hk:k<=L.length)(hL:L.length<1000000)(hc:nN<=24)(ho:options<=24)(SZ:1<=options):
  ez Tryz.prog 26 [.ptr 0 0 0,aa3 nN,aa3 options] [jm L k] (λr os=>∃ m k',MM m nN options/\k'<=L.length/\r=.agg (av m)/\os=[jm L k']) :=
 abz (SY L k nN options hk hL hc ho SZ) λr os h=>by
  obtain⟨m,k',h1,h2,rfl,rfl⟩:=h;exact⟨_,_,⟨m,k',h1,h2,rfl,rfl⟩,abA m _ (λ_=>rfl)⟩
end T

