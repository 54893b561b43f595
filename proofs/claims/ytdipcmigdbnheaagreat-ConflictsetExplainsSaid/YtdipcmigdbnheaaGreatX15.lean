import Derived.Test.YtdipcmigdbnheaaGreatX10
set_option linter.all false
set_option maxHeartbeats 0
set_option maxRecDepth 20000
open List renaming replicate→bH,drop_eq_nil_of_le→cR,cons_append→dS,nil_append→dY,mem_append→cH,mem_singleton→fE
open Nat renaming zero_le→aI
open Go Go.Am Go.Proofs
namespace T
def ajF(m:aj)(plan:List Int)(hm:VM m)(hp:PM m plan):ao Tryz.prog 123 [.agg (aq m),.tree 1 (ints plan)] [] (.bJ [aaC (CE m plan).1,.tree 1 (ints (CE m plan).2)]) []:=by
 have rR:=hm.cls;have rS:=hm.ae;have MT:=hm.av;have Fy:=hm.jq;have cu:=hp.len;unfold CE jr;generalize h1:oP m 0 plan (bH m.rules.toNat 0)=o1;generalize h2:n5 m plan m.ae o1=o2;generalize h3:oQ plan m.av o2=o3;have Ek:=jt.rep Fy.1;refine ao.aD 155 0 [.tmp 4,.tmp 5] Tryz.func123 ?_;refine Vb X0 ?_;refine aM (λz:Nat×List Int=>(⟨aw [(1,.tree 1 (ints plan)),(2,.ptr 0 0 0),(6,.ptr 2 0 0),(28,.tree 1 (ints plan)),(29,aaC plan.length),(30,aaC z.1)],[.var (aq m),.arr 1 (ints z.2),.var [.ref 1 1 0 m.rules.toNat]]⟩:St))
  (λz=>z.1<=plan.length/\jt m.rules z.2/\oP m z.1 (plan.drop z.1) z.2=o1) (λz=>plan.length-z.1) (0,bH m.rules.toNat 0) ⟨aI _,Ek,h1⟩ (Xv X0) ?_
 rintro⟨k,out⟩⟨hk,ax,hr⟩Ql an ar;dsimp only at hk ax hr ⊢;have fZ:out.length=m.rules.toNat:=by have:=ax.1;omega
 by_cases aK:k<plan.length
 ·have hd:=cP plan k 0 aK;have hU:=hp.get k aK;generalize aR:plan.getD k 0=o at *;rw[hd,oP]at hr;by_cases ho:o<0
  ·rw[if_pos ho]at hr;((repeat'(first|refine Va @aR ?_|(refine Xi ?_ ?_<;>try intro ht)|exact Xx|fail)))
   exact an _ (k+1,out) ⟨PA,ax,hr⟩ PA (Xv X0)
  ·rw[if_neg ho]at hr;obtain⟨b1,b2,b3,b4⟩:=fD.1 (hU.resolve_left GC);have hl:=ay (l:=m.cls) (i:=k) (d:=default) GC;generalize e7:m.cls.getD k default=l at *;rw[Int.toNat_natCast,e7]at b4;have Nx:=ay (l:=l) (i:=o.toNat) (d:=default) GC;have ek:=hm.mA l hl _ Nx;generalize kY:l.getD o.toNat default=op at *;((repeat'(first|refine Va (X3 @aR @e7 @kY) ?_|(refine Xi ?_ ?_<;>try intro ht)|exact Xx|fail)))
   generalize lU:pZ op.ch out=Ny at hr;have cm:=EP Fy.1 ek;refine aM (λz:Nat×List Int=>(⟨aw [(1,.tree 1 (ints plan)),(2,.ptr 0 0 0),(6,.ptr 2 0 0),(28,.tree 1 (ints plan)),(29,aaC plan.length),(30,aaC k),(45,.tree 2 (rowsOf aL op.ch)),(46,aaC op.ch.length),(47,aaC z.1)],[.var (aq m),.arr 1 (ints z.2),.var [.ref 1 1 0 m.rules.toNat]]⟩:St))
    (λz=>z.1<=op.ch.length/\jt m.rules z.2/\pZ (op.ch.drop z.1) z.2=Ny) (λz=>op.ch.length-z.1) (0,out) ⟨aI _,ax,lU⟩ (Xv X0) ?_
   rintro⟨j,wS⟩⟨hj,nj,fS⟩cJ ba bd;dsimp only at hj nj fS ⊢;have aay:wS.length=m.rules.toNat:=by have:=nj.1;omega
   by_cases db:j<op.ch.length
   ·have qN:=cP op.ch j default db;have fi:=xZ ek _ (ay (d:=default) db);generalize td:op.ch.getD j default=c at *;rw[qN,pZ]at fS;obtain⟨nU,vo⟩:=fi;rw[jI,decide_eq_true_eq]at nU;have kT:=MG wS c.1 c.2 GC (lz vo) (nj.get _);rw[aay]at kT;((repeat'(first|refine Va @td ?_|(refine Xi ?_ ?_<;>try intro ht)|exact Xx|fail))<;>try with_reducible intro K hK)
    refine jn [2,1] kT Px ⟨rfl,by rw[rG];rfl,trivial⟩ ⟨.eq rfl,.pure rfl,.pure rfl,trivial⟩ ?_;((try revert hK K);(refine Va X0 ?_))
    refine ba _ (j+1,fI wS c.1 c.2) ⟨PA,nj.add (lz vo),fS⟩ PA ?_;unfold fI;exact Xs false [0,1,2] X0
   ·((repeat'(first|refine Va X0 ?_|(refine Xi ?_ ?_<;>try intro ht)|exact Xx|fail)))
    rw[cR GC,pZ]at fS;subst fS;refine bd _ _ rfl ?_;clear ba bd cJ;repeat(refine Xu ?_)
    refine Va X0 ?_;exact an _ (k+1,wS) ⟨PA,nj,hr⟩ PA (Xv X0)
 ·((repeat'(first|refine Va X0 ?_|(refine Xi ?_ ?_<;>try intro ht)|exact Xx|fail)))
  rw[cR GC,oP]at hr;subst hr;refine ar _ _ rfl ?_;clear an ar Ql;repeat(refine Xu ?_)
  refine Vb X0 ?_;refine aM (λz:Nat×List Int=>(⟨aw [(1,.tree 1 (ints plan)),(2,.ptr 0 0 0),(6,.ptr 2 0 0),(60,.tree 4 (rowsOf aP m.ae)),(61,aaC m.ae.length),(62,aaC z.1)],[.var (aq m),.arr 1 (ints z.2),.var [.ref 1 1 0 m.rules.toNat]]⟩:St))
   (λz=>z.1<=m.ae.length/\jt m.rules z.2/\n5 m plan (m.ae.drop z.1) z.2=o2) (λz=>m.ae.length-z.1) (0,out) ⟨aI _,ax,h2⟩ (Xv X0) ?_
  clear hk ax fZ aK h2;rintro⟨k,out⟩⟨hk,ax,hr⟩Ql an ar;dsimp only at hk ax hr ⊢;have fZ:out.length=m.rules.toNat:=by have:=ax.1;omega
  by_cases aK:k<m.ae.length
  ·have hd:=cP m.ae k default aK;have dE:=iA hm.pr _ (ay (d:=default) aK);generalize aR:m.ae.getD k default=p at *;rw[hd,n5]at hr;obtain⟨q1,q2,q3,q4,q5⟩:=lT dE;have g1:=hp.get p.fst.toNat GC;have g2:=hp.get p.snd.toNat GC;rw[Int.toNat_of_nonneg GC]at g1 g2;have yb:=CG dE (plan.getD p.fst.toNat 0) (plan.getD p.snd.toNat 0);unfold lV at yb hr;generalize hx:plan.getD p.fst.toNat 0=x at *;generalize hy:plan.getD p.snd.toNat 0=y at *;generalize fY:m.cls.getD p.snd.toNat default=lb at *;have vq:lb.length<=24:=by rw[<- fY];exact hm.opt _ (ay GC)
   have AZ:=hm.opt _ (ay (l:=m.cls) (i:=p.fst.toNat) (d:=default) GC);have Ip:0<=x->0<=y->0<=x*lb.length/\x*lb.length<=576/\x*lb.length+y<p.aB.length/\y<24:=λh0 h0'=>by
    have a1:=(fD.1 (g1.resolve_left GC));have a2:=(fD.1 (g2.resolve_left GC));rw[fY]at a2;have:=vr (x:=x) (y:=y) (a:=(m.cls.getD p.fst.toNat default).length) (b:=lb.length) ⟨GC,GC⟩ ⟨GC,GC⟩ GC GC;rw[q5];omega
   generalize hen:p.aB.getD (x*(lb.length:Int)+y).toNat 0=en at *;generalize sh:x*(lb.length:Int)=xm at *;have kT:=MG out p.bz en GC yb (ax.get _);rw[fZ]at kT;((repeat'(first|refine Va (X5 @aR @hx @hy @fY (X2 @sh @hen)) ?_|(refine V2 (X5 @aR @hx @hy @fY (X2 @sh @hen)) ?_ ?_<;>try with_reducible intro hb)|(refine Xi ?_ ?_<;>try intro ht)|exact Xx|fail))<;>try with_reducible intro K hK)
   ·rw[if_pos ⟨by assumption,GC⟩]at hr;refine jn [2,1] kT Px ⟨rfl,by rw[rG];rfl,trivial⟩ ⟨.eq rfl,.pure rfl,.pure rfl,trivial⟩ ?_;((try revert hK K);(refine Va X0 ?_))
    refine an _ (k+1,fI out p.bz en) ⟨PA,ax.add yb,hr⟩ PA ?_;unfold fI;exact Xs false [0,1,2] X0
   ·rw[if_neg GC]at hr;exact an _ (k+1,out) ⟨PA,ax,hr⟩ PA (Xs false [0,1,2] X0)
   ·rw[if_neg GC]at hr;exact an _ (k+1,out) ⟨PA,ax,hr⟩ PA (Xs false [0,1,2] X0)
  ·((repeat'(first|refine Va X0 ?_|(refine V2 X0 ?_ ?_<;>try with_reducible intro hb)|(refine Xi ?_ ?_<;>try intro ht)|exact Xx|fail)))
   rw[cR GC,n5]at hr;subst hr;refine ar _ _ rfl ?_;clear an ar Ql;repeat(refine Xu ?_)
   refine Vb X0 ?_;refine aM (λz:Nat×List Int=>(⟨aw [(1,.tree 1 (ints plan)),(2,.ptr 0 0 0),(6,.ptr 2 0 0),(103,.tree 4 (rowsOf aV m.av)),(104,aaC m.av.length),(105,aaC z.1)],[.var (aq m),.arr 1 (ints z.2),.var [.ref 1 1 0 m.rules.toNat]]⟩:St))
    (λz=>z.1<=m.av.length/\jt m.rules z.2/\oQ plan (m.av.drop z.1) z.2=o3) (λz=>m.av.length-z.1) (0,out) ⟨aI _,ax,h3⟩ (Xv X0) ?_
   clear hk ax fZ aK h3;rintro⟨k,out⟩⟨hk,ax,hr⟩Ql an ar;dsimp only at hk ax hr ⊢;have fZ:out.length=m.rules.toNat:=by have:=ax.1;omega
   by_cases aK:k<m.av.length
   ·have hd:=cP m.av k default aK;have oJ:=hm.ct _ (ay (d:=default) aK);generalize aR:m.av.getD k default=c at *;rw[hd,oQ]at hr;obtain⟨q1,q2,q3,q4⟩:=lS oJ;have hlen:=AQ hm q4;have ajy:=MI (m:=m) (plan:=plan) (λx hx=>(pV q4 x hx).2) 0;have Fz:=CF (most:=c.most) (sum:=ki plan c.aH 0) (lz q3);have Jd:=Yv c (ki plan c.aH 0) GC GC GC (lz q3);generalize Fu:ki plan c.aH 0=sum at *;generalize hev:j4 c.most c.bM sum=FA at *;have kT:=MG out c.bz FA GC Fz (ax.get _);rw[fZ]at kT;((repeat'(first|refine Va @aR ?_|(refine Xi ?_ ?_<;>try intro ht)|exact Xx|fail)))
    refine aM (λz:Nat×Int=>(⟨aw [(1,.tree 1 (ints plan)),(2,.ptr 0 0 0),(6,.ptr 2 0 0),(103,.tree 4 (rowsOf aV m.av)),(104,aaC m.av.length),(105,aaC k),(16,.ptr 3 0 0),(17,aaC z.2),(110,.tree 3 (rowsOf iM c.aH)),(111,aaC c.aH.length),(112,aaC z.1)],[.var (aq m),.arr 1 (ints out),.var [.ref 1 1 0 m.rules.toNat],.var (aV c)]⟩:St))
     (λz=>z.1<=c.aH.length/\0<=z.2/\z.2<=1000*z.1/\ki plan (c.aH.drop z.1) z.2=sum) (λz=>c.aH.length-z.1) (0,0) ⟨aI _,Int.le_refl _,PA,Fu⟩ (Xv X0) ?_
    rintro⟨j,n⟩⟨hj,ef,gp,fS⟩cJ ba bd;dsimp only at hj ef gp fS ⊢;by_cases db:j<c.aH.length
    ·have qN:=cP c.aH j default db;have qP:=pV q4 _ (ay (d:=default) db);generalize td:c.aH.getD j default=x at *;rw[qN,ki]at fS;obtain⟨b1,b2,b3,b4⟩:=fD.1 qP.1;have ve:=qP.2;generalize lR:plan.getD x.cls.toNat 0=px at *;((repeat'(first|refine Va (X2 @td @lR) ?_|(refine Xi ?_ ?_<;>try intro ht)|exact Xx|fail)))
     ·rw[if_pos (by assumption)]at fS;exact ba _ (j+1,n+x.wt) ⟨PA,PA,PA,fS⟩ PA (Xs false [0,1,2,3] X0)
     ·rw[if_neg (by assumption)]at fS;exact ba _ (j+1,n) ⟨PA,PA,PA,fS⟩ PA (Xs false [0,1,2,3] X0)
    ·((repeat'(first|refine Va X0 ?_|(refine Xi ?_ ?_<;>try intro ht)|exact Xx|fail)))
     rw[cR GC,ki]at fS;subst fS;refine bd _ _ rfl ?_;clear ba bd cJ;repeat(refine Xu ?_)
     ((skip))
     (try(refine Cf [5] rfl Px (by decide +kernel) ?_);intro K hK;simp(disch:=omega)only[Ac,↓Pc,simprocAttr])
     ((try revert hK K);(refine Vc X0 Jd ?_)<;>try with_reducible intro K hK)
     refine jn [2,1] kT Px ⟨rfl,by rw[rG];rfl,trivial⟩ ⟨.eq rfl,.pure rfl,.pure rfl,trivial⟩ ?_;((try revert hK K);(refine Va X0 ?_))
     refine an _ (k+1,fI out c.bz FA) ⟨PA,ax.add Fz,hr⟩ PA ?_;unfold fI;exact Xs false [0,1,2] X0
   ·((repeat'(first|refine Va X0 ?_|(refine Xi ?_ ?_<;>try intro ht)|exact Xx|fail)))
    rw[cR GC,oQ]at hr;subst hr;refine ar _ _ rfl ?_;clear an ar Ql;repeat(refine Xu ?_)
    refine Vb X0 ?_;refine aM (λz:Nat×Int=>(⟨aw [(6,.ptr 2 0 0),(20,aaC z.2),(140,.ref 1 1 0 m.rules.toNat),(141,aaC m.rules.toNat),(142,aaC z.1)],[.var (aq m),.arr 1 (ints out),.var [.ref 1 1 0 m.rules.toNat]]⟩:St))
     (λz=>z.1<=out.length/\b7 z.2/\jX (out.drop z.1) z.2=jX out 0) (λz=>out.length-z.1) (0,0) ⟨aI _,by unfold b7;decide,rfl⟩ (Xv X0) ?_
    rintro⟨j,n⟩⟨hj,ef,fS⟩Ql an ar;dsimp only at hj ef fS ⊢;by_cases db:j<out.length
    ·have qN:=cP out j 0 db;have FC:=ax.get j;generalize td:out.getD j 0=x at *;rw[qN,jX]at fS;((repeat'(first|refine Vc @td (MA n x ef FC) ?_|(refine Xi ?_ ?_<;>try intro ht)|exact Xx|fail)))
     exact an _ (j+1,ee n x) ⟨PA,A2 ef FC,fS⟩ PA (Xv X0)
    ·((repeat'(first|refine Va X0 ?_|(refine Xi ?_ ?_<;>try intro ht)|exact Xx|fail)))
     rw[cR GC,jX]at fS;refine ar _ _ rfl ?_;clear an ar Ql;repeat(refine Xu ?_)
     refine Vb X0 ?_;subst fS;refine cZ [] true Px trivial Px Px (aJ.lq (.pure rfl) ?_);rw[<- fZ];first|exact .pure rfl|exact .eq rfl|exact .fz rfl (by simp only[Bc,Rc])
def U4(m:aj)(plan:List Int)(hb:MB m)(cu:plan.length<9223372036854775808):ao Tryz.prog 72 [.agg (aq m),.tree 1 (ints plan)] [] (.bJ [aaC (ph m plan).1,.tree 1 (ints (ph m plan).2.1),aaC (ph m plan).2.2]) []:=by
 generalize ak:ph m plan=res;unfold ph at ak;refine ao.aD 25 0 [.tmp 4,.tmp 5,.tmp 6] Tryz.func72 ?_;((repeat'(first|refine Vd X0 (tV m hb) ?_|(refine Xi ?_ ?_<;>try intro ht)|fail))<;>try with_reducible intro K hK)
 ·rw[if_pos ht]at ak;rw[<- ak];exact cZ [] true Px trivial Px Px (It (.pure rfl) aJ.nil (.pure rfl))
 rw[if_neg GC]at ak;((try revert hK K);(repeat'(first|refine Vd X0 (Y5 m plan cu) ?_|(refine Xi ?_ ?_<;>try intro ht)|fail))<;>try with_reducible intro K hK)
 ·rw[if_pos ht]at ak;rw[<- ak];exact cZ [] true Px trivial Px Px (It (.pure rfl) aJ.nil (.pure rfl))
 rw[if_neg (by simp[*])]at ak;rename_i hv;have iu:=ajF m plan (eK.1 hv) (MJ ht);((try revert hK K);(refine Vd X0 iu ?_))
 rw[<- ak];exact G8 rfl
def kX(L:List Int)(k:Nat):Ob:=.var [.tree 1 (ints L),aaC k]
def xS(m:aj):List AV:=[.tree 1 (rowsOf bu m.cls),.ref 1 4 0 m.ae.length,.tree 4 (rowsOf aV m.av),aaC m.rules]
def ajG{P:Program}{f:FuncId}{args:List AV}{aa:List Ob}{jk aaD:AV->List Ob->Prop}(h:fh P f args aa jk)(ht:∀ r os,jk r os->∃ r2 eE,aaD r2 eE/\aF aa.length ⟨λk=>[r].getD k .undef,os⟩ ⟨λk=>[r2].getD k .undef,eE⟩):fh P f args aa aaD:=by
 refine⟨h.1,λγ jS jC=>Calls.mono (h.2 γ jS jC) ?_⟩;rintro e w'⟨res,bI,cv,aO,h0,h1,h2,h3,h4,h5⟩;obtain⟨r2,eE,hp,ht⟩:=ht res bI h0;obtain⟨DC,a1,a2,a3,a4⟩:=ht aa γ aO rfl h4 h5;exact⟨r2,eE,cv,DC,hp,h1,a1.trans h2,a2.trans h3,a3,a4⟩
def ajH(m:aj)(o:Ob)(ho:∀ ρ,cg ρ o=o):aF 1 ⟨λk=>[AV.agg (xS m)].getD k .undef,[o,.arr 4 (rowsOf aP m.ae)]⟩ ⟨λk=>[AV.agg (aq m)].getD k .undef,[o]⟩:=by
 have e:∀ x:AV,(λk=>[x].getD k AV.undef)=aw [(0,x)]:=λx=>by
  funext k;cases k<;>rfl
 rw[e (.agg (aq m))];refine aF.au [0] true _ _ Px ⟨⟨GF,.inr (by rw[ho];rfl)⟩,trivial⟩ Px (λi hi=>by
  obtain rfl:i=0:=GC;rfl) ⟨?_,trivial⟩
 refine(aJ.agg _ _ rfl (fF.spec (R:=aJ _ _ _ _) (cs:=aq m) (ds:=xS m) ⟨.pure rfl,aJ.cC rfl (gr _) (by rw[b8]) (iK Px) (kW _),.pure rfl,.pure rfl,trivial⟩).2)
def aaE (L:List Int) (k:Nat) (qV options:Nat) (hk:k<=L.length) (hL:L.length<1000000) (hc:qV<=24) (ho:options<=24) (ho1:1<=options) :
    fh Tryz.prog 26 [.ptr 0 0 0,aaC qV,aaC options] [kX L k] (λr os=>∃ m k',MM m qV options/\k'<=L.length/\r=.agg (xS m)/\os=[kX L k',.arr 4 (rowsOf aP m.ae)]):=by
  unfold kX
  refine fh.aD 199 1 [.cell 6 29] Tryz.func26 ?_
  ((refine Vb X0 ?_)<;>try with_reducible intro K hK)
  refine jn [0] (kZ L k 4 (by unfold gk;omega) hk hL) Px ⟨rfl,trivial⟩ ⟨.eq rfl,.pure rfl,trivial⟩ ?_
  have hv:=oO (L:=L) (k:=k) (n:=4) GC
  have b9:=iY hk
  generalize gl L k 4=v at *
  generalize dM L k=k2 at *
  clear hk
  ((try revert hK K);(refine Vb X0 ?_)<;>try with_reducible intro K hK)
  refine jn [0] (kZ L k2 (qV+1) (by unfold gk;omega) b9 hL) Px ⟨rfl,trivial⟩ ⟨.eq rfl,.pure rfl,trivial⟩ ?_
  have NC:=oO (L:=L) (k:=k2) (n:=qV+1) GC
  have mQ:=iY b9
  generalize gl L k2 (qV+1)=n at *
  generalize dM L k2=k3 at *
  clear b9
  obtain ⟨c0,rfl⟩ :∃c0:Nat,n=c0:=⟨n.toNat,GC⟩
  generalize hR:1+v=R
  have B8:1<=R/\R<=4:=GC
  ((try revert hK K);(refine Vb X0 ?_))
  refine aM (λz:Nat×Nat×List (List bU)=>(⟨aw [(0,.ptr 0 0 0),(2,aaC options),(6,.ptr 1 0 0),(7,.ptr 2 0 0),(8,aaC z.1)],dm L z.2.1 z.2.2 [] [] R⟩:St))
    (λz=>z.1+z.2.2.length<=qV/\z.2.1<=L.length/\∀ l∈z.2.2,(1<=l.length/\l.length<=options)/\YJ R l) (λz=>z.1) (c0,k3,[]) ⟨aar,mQ,GF⟩ ?_ ?_
  · refine aF.trans (aF.ni 2 0 1 rfl rfl Px) ?_
    refine aF.trans (aF.ni 2 1 4 rfl rfl Px) ?_
    refine aF.trans (aF.ni 2 2 4 rfl rfl Px) ?_
    exact Xv X0
  clear NC mQ
  rintro ⟨c,k,cls⟩ ⟨aR,hk,wT⟩ Ql an ar
  dsimp only at aR hk wT ⊢
  unfold dm
  by_cases oA:0<c
  · obtain ⟨c',rfl⟩ :∃c',c=c'+1:=⟨c - 1,GC⟩
    have lN:((c'+1:Nat):Int) - 1=c':=GC
    ((repeat' (first|refine Va X0 ?_|(refine Xi ?_ ?_<;>try intro ht)|exact Xx|fail))<;>try with_reducible intro K hK)
    refine jn [0] (kZ L k options (by unfold gk;omega) hk hL) Px ⟨rfl,trivial⟩ ⟨.eq rfl,.pure rfl,trivial⟩ ?_
    have NC:=oO (L:=L) (k:=k) (n:=options) GC
    have b9:=iY hk
    generalize gl L k options=n at *
    generalize dM L k=k2 at *
    clear hk
    obtain ⟨e0,pO⟩ :∃e0:Nat,1+n=e0:=⟨(1+n).toNat,GC⟩
    ((try revert hK K);(refine Va @pO ?_))
    refine aM (λz:Nat×Nat×List bU=>(⟨aw [(0,.ptr 0 0 0),(2,aaC options),(6,.ptr 1 0 0),(7,.ptr 2 0 0),(8,aaC (c'+1:Nat)),(9,.ref 6 6 0 z.2.2.length),(10,aaC z.1)],dm L z.2.1 cls [] [] R++[.arr 6 (rowsOf cQ z.2.2)]⟩:St))
      (λz=>z.1+z.2.2.length=e0/\z.2.1<=L.length/\YJ R z.2.2) (λz=>z.1) (e0,k2,[]) ⟨GF,b9,by intro o ho;simp at ho⟩ ?_ ?_
    · refine aF.trans (aF.nil 9 6 (by simp only[Kc,simprocAttr]) Px) ?_
      unfold dm
      exact Xv X0
    clear b9
    rintro ⟨e,k,l⟩ ⟨ye,hk,hl⟩ cJ ba bd
    dsimp only at ye hk hl ⊢
    unfold dm
    simp only[dS,dY]
    by_cases RY:0<e
    · obtain ⟨e',rfl⟩ :∃e',e=e'+1:=⟨e - 1,GC⟩
      have wa:((e'+1:Nat):Int) - 1=e':=GC
      ((repeat' (first|refine Va X0 ?_|(refine Xi ?_ ?_<;>try intro ht)|exact Xx|fail))<;>try with_reducible intro K hK)
      refine jn [0] (kZ L k 3 (by unfold gk;omega) hk hL) Px ⟨rfl,trivial⟩ ⟨.eq rfl,.pure rfl,trivial⟩ ?_
      have gp:=oO (L:=L) (k:=k) (n:=3) GC
      have b9:=iY hk
      generalize gl L k 3=n1 at *
      generalize dM L k=k2 at *
      clear hk
      ((try revert hK K);(refine Va X0 ?_)<;>try with_reducible intro K hK)
      refine jn [0] (kZ L k2 2 (by unfold gk;omega) b9 hL) Px ⟨rfl,trivial⟩ ⟨.eq rfl,.pure rfl,trivial⟩ ?_
      have hk:=iY b9
      generalize gl L k2 2=n2 at *
      generalize dM L k2=k at *
      clear b9
      ((try revert hK K);(refine Va X0 ?_)<;>try with_reducible intro K hK)
      refine jn [0] (kZ L k 3 (by unfold gk;omega) hk hL) Px ⟨rfl,trivial⟩ ⟨.eq rfl,.pure rfl,trivial⟩ ?_
      have b9:=iY hk
      generalize gl L k 3=n3 at *
      generalize dM L k=k2 at *
      clear hk
      ((try revert hK K);(refine Va X0 ?_)<;>try with_reducible intro K hK)
      refine jn [0] (kZ L k2 3 (by unfold gk;omega) b9 hL) Px ⟨rfl,trivial⟩ ⟨.eq rfl,.pure rfl,trivial⟩ ?_
      have hn4:=oO (L:=L) (k:=k2) (n:=3) GC
      have hk:=iY b9
      generalize gl L k2 3=n4 at *
      generalize dM L k2=k at *
      clear b9
      ((try revert hK K);(refine Va X0 ?_))
      generalize hw1:1+n1=w1
      generalize hw4:n4 - 1=w4
      refine aM (λz:Nat×Nat×List (Int×Int)=>(⟨aw [(0,.ptr 0 0 0),(2,aaC options),(6,.ptr 1 0 0),(7,.ptr 2 0 0),(8,aaC (c'+1:Nat)),(9,.ref 6 6 0 l.length),(10,aaC (e'+1:Nat)),(11,.ptr 7 0 0),(12,aaC z.1)],
          dm L z.2.1 cls [] [] R++[.arr 6 (rowsOf cQ l),.var [aaC w1,aaC n2,aaC n3,aaC 1,aaC w4,.ref 8 2 0 z.2.2.length],.arr 2 (rowsOf aL z.2.2)]⟩:St))
        (λz=>(z.1:Int)<=R/\z.2.1<=L.length/\z.2.2.length<=z.1/\eo R none z.2.2=true/\∀ x∈z.2.2,x.1<z.1) (λz=>R.toNat - z.1) (0,k,[]) ⟨PA,hk,Nat.le_refl _,rfl,GF⟩ ?_ ?_
      · refine aF.trans (aF.ni 7 5 2 rfl rfl Px) ?_
        unfold dm
        exact Xv X0
      clear hk
      rintro ⟨u,k,ch⟩ ⟨hu,hk,cm,ek,br⟩ lB fQ eV
      dsimp only at hu hk cm ek br ⊢
      unfold dm
      simp only[dS,dY]
      by_cases ND:(u:Int)<R
      · ((repeat' (first|refine Va X0 ?_|(refine Xi ?_ ?_<;>try intro ht)|exact Xx|fail))<;>try with_reducible intro K hK)
        refine jn [0] (Mz L k hk hL) Px ⟨rfl,trivial⟩ ⟨.eq rfl,trivial⟩ ?_
        obtain ⟨rK,oz,FD⟩:=MK L k
        have b9:=ML hk
        generalize qS L k=cv at *
        generalize wG L k=k2 at *
        clear hk
        ((try revert hK K);(repeat' (first|refine Va X0 ?_|(refine V2 X0 ?_ ?_<;>try with_reducible intro hb)|(refine Xi ?_ ?_<;>try intro ht)|exact Xx|fail))<;>try with_reducible intro K hK)
        · refine jn [0] (Cm L k2 2 (by unfold gk;omega) Px b9 hL) Px ⟨rfl,trivial⟩ ⟨.eq rfl,.pure rfl,trivial⟩ ?_
          have hk:=iY b9
          generalize AL L k2 2=b at *
          generalize dM L k2=k at *
          clear b9
          ((try revert hK K);(repeat' (first|refine Va X0 ?_|(refine Xi ?_ ?_<;>try intro ht)|fail)))
          · refine fQ _ (u+1,k,ch++[((u:Int),cv)]) ⟨PA,hk,aar,YE ek (by rw[jI,decide_eq_true_eq];omega) (FD GC) (λx hx=>br x hx) GF,λx hx=>?_⟩ PA ?_
            · rcases cH.1 hx with hx | hx
              · have:=br x hx;dsimp only;omega
              · simp only[fE] at hx;subst hx;dsimp only;omega
            · unfold dm
              simp only[dS,dY]
              rw[show rowsOf aL ch++[[AV.lit (.int .i64 u),AV.lit (.int .i64 cv)]]=rowsOf aL (ch++[((u:Int),cv)]) from lO (enc:=aL) ch ((u:Int),cv)]
              exact Xs false [0,1,2,3,4,5,6,7,10] X0
          · exact fQ _ (u+1,k,ch) ⟨PA,hk,PA,ek,λx hx=>by have:=br x hx;dsimp only;omega⟩ PA (by unfold dm;exact Xv X0)
        · exact fQ _ (u+1,k2,ch) ⟨PA,b9,PA,ek,λx hx=>by have:=br x hx;dsimp only;omega⟩ PA (by unfold dm;exact Xv X0)
      · ((repeat' (first|refine Va X0 ?_|(refine Xi ?_ ?_<;>try intro ht)|exact Xx|fail)))
        refine eV _ _ rfl ?_
        clear fQ eV lB
        repeat (refine Xu ?_)
        refine bY (aF.wg 8 7 5 2 rfl rfl (by rw[b8];rfl) (gr _) (kW _)) ?_
        refine bY (σ':=⟨aw [(0,.ptr 0 0 0),(2,aaC options),(6,.ptr 1 0 0),(7,.ptr 2 0 0),(8,aaC (c'+1:Nat)),(9,.ref 6 6 0 l.length),(10,aaC (e'+1:Nat)),(11,.ptr 7 0 0)],
            dm L k cls [] [] R++[.arr 6 (rowsOf cQ l),.var (cQ ⟨w1,n2,n3,1,w4,ch⟩),.gone]⟩) (by unfold dm;exact Xv X0) ?_
        unfold dm
        simp only[dS,dY]
        have wa:((e'+1:Nat):Int) - 1=e':=GC
        refine Va @wa ?_
        refine ba _ (e',k,l++[⟨w1,n2,n3,1,w4,ch⟩]) ⟨aar,hk,?_⟩ PA ?_
        · intro o ho
          rcases cH.1 ho with ho | ho
          · exact hl o ho
          · simp only[fE] at ho;subst ho;exact ek
        · unfold dm
          simp only[dS,dY]
          rw[show rowsOf cQ l++[[AV.lit (.int .i64 w1),AV.lit (.int .i64 n2),AV.lit (.int .i64 n3),AV.lit (.int .i64 1),AV.lit (.int .i64 w4),AV.tree 2 (rowsOf aL ch)]]=rowsOf cQ (l++[⟨w1,n2,n3,1,w4,ch⟩]) from lO (enc:=cQ) l ⟨w1,n2,n3,1,w4,ch⟩]
          exact Xs false [0,1,2,3,4,5,10] X0
    · obtain rfl:e=0:=GC
      ((repeat' (first|refine Va X0 ?_|(refine Xi ?_ ?_<;>try intro ht)|exact Xx|fail)))
      refine bd _ _ rfl ?_
      clear ba bd cJ
      repeat (refine Xu ?_)
      refine bY (σ':=⟨aw [(0,.ptr 0 0 0),(2,aaC options),(6,.ptr 1 0 0),(7,.ptr 2 0 0),(8,aaC (c'+1:Nat)),(9,.tree 6 (rowsOf cQ l))],dm L k cls [] [] R⟩) ?_ ?_
      · unfold dm
        exact Xs true [0,1,2,3,4,5] X0
      unfold dm
      refine Va @lN ?_
      refine an _ (c',k,cls++[l]) ⟨aar,hk,?_⟩ PA ?_
      · intro x hx
        rcases cH.1 hx with hx | hx
        · exact wT x hx
        · simp only[fE] at hx;subst hx;exact⟨⟨GC,GC⟩,hl⟩
      · unfold dm
        rw[show rowsOf bu cls++[[AV.tree 6 (rowsOf cQ l)]]=rowsOf bu (cls++[l]) from lO (enc:=bu) cls l]
        exact Xs false [0,1,2,7,4,5] X0
  obtain rfl:c=0:=GC
  ((repeat' (first|refine Va X0 ?_|(refine Xi ?_ ?_<;>try intro ht)|exact Xx|fail)))
  refine ar _ _ rfl ?_;clear an ar Ql
  repeat (refine Xu ?_)
  clear oA
  refine bY (σ':=⟨aw [(0,.ptr 0 0 0),(6,.ptr 1 0 0),(7,.ptr 2 0 0)],dm L k cls [] [] R⟩) (by unfold dm;exact Xv X0) ?_
  unfold dm
  refine Va X0 ?_
  have cm:cls.length<=24:=GC
  have ym:∀ i,(cls.getD i default).length<=24:=λi=>by
    rcases Nat.lt_or_ge i cls.length with h | h
    · have:=(wT _ (ay (d:=default) h)).1;omega
    · rw[List.getD_eq_getElem?_getD,List.getElem?_eq_none h];decide
  refine aM (λz:Nat×Nat×List Pr=>(⟨aw [(0,.ptr 0 0 0),(6,.ptr 1 0 0),(7,.ptr 2 0 0),(14,aaC z.1)],dm L z.2.1 cls z.2.2 [] R⟩:St))
    (λz=>(z.1:Int)<=R/\z.2.1<=L.length/\yd cls R z.2.2 z.1 0 0) (λz=>R.toNat - z.1) (0,k,[]) ⟨PA,hk,rfl,GF,GF⟩ (by unfold dm;exact Xv X0) ?_
  clear hk
  rintro ⟨u,k,ae⟩ ⟨hu,hk,hP⟩ Ql an ar
  dsimp only at hu hk hP ⊢
  unfold dm
  by_cases ND:(u:Int)<R
  · ((repeat' (first|refine Va X0 ?_|(refine Xi ?_ ?_<;>try intro ht)|exact Xx|fail)))
    refine aM (λz:Nat×Nat×List Pr=>(⟨aw [(0,.ptr 0 0 0),(6,.ptr 1 0 0),(7,.ptr 2 0 0),(14,aaC u),(15,aaC z.1)],dm L z.2.1 cls z.2.2 [] R⟩:St))
      (λz=>z.1<=cls.length/\z.2.1<=L.length/\yd cls R z.2.2 u z.1 0) (λz=>cls.length - z.1) (0,k,ae) ⟨PA,hk,hP⟩ (by unfold dm;exact Xv X0) ?_
    clear hk hP
    rintro ⟨i,k,ae⟩ ⟨hi,hk,hP⟩ cJ ba bd
    dsimp only at hi hk hP ⊢
    unfold dm
    by_cases hi':i<cls.length
    · ((repeat' (first|refine Va X0 ?_|(refine Xi ?_ ?_<;>try intro ht)|exact Xx|fail)))
      refine aM (λz:Nat×Nat×List Pr=>(⟨aw [(0,.ptr 0 0 0),(6,.ptr 1 0 0),(7,.ptr 2 0 0),(14,aaC u),(15,aaC i),(16,aaC z.1)],dm L z.2.1 cls z.2.2 [] R⟩:St))
        (λz=>i<z.1/\z.1<=cls.length/\z.2.1<=L.length/\yd cls R z.2.2 u i z.1) (λz=>cls.length - z.1) (i+1,k,ae) ⟨PA,PA,hk,hP.mono GC GC⟩ (by unfold dm;exact Xv X0) ?_
      clear hk hP
      rintro ⟨j,k,ae⟩ ⟨tc,hj,hk,hP⟩ lB fQ eV
      dsimp only at tc hj hk hP ⊢
      unfold dm
      by_cases db:j<cls.length
      · ((repeat' (first|refine Va X0 ?_|(refine Xi ?_ ?_<;>try intro ht)|exact Xx|fail))<;>try with_reducible intro K hK)
        refine jn [0] (Cm L k 3 (by unfold gk;omega) Px hk hL) Px ⟨rfl,trivial⟩ ⟨.eq rfl,.pure rfl,trivial⟩ ?_
        have b9:=iY hk
        generalize AL L k 3=b at *
        generalize dM L k=k2 at *
        clear hk
        have g1:=ym i
        have g2:=ym j
        have uP:=(wT _ (ay (d:=default) hi')).1
        have tK:=(wT _ (ay (d:=default) db)).1
        have hmul:((cls.getD i default).length:Int) * (cls.getD j default).length=((cls.getD i default).length * (cls.getD j default).length:Nat):=GF
        have anU:(cls.getD i default).length * (cls.getD j default).length<=24 * 24:=Nat.mul_le_mul g1 g2
        generalize Hh:(cls.getD i default).length * (cls.getD j default).length=nn at *
        ((try revert hK K);(repeat' (first|refine Va @hmul ?_|(refine Xi ?_ ?_<;>try intro ht)|fail)))
        rotate_left
        · exact fQ _ (j+1,k2,ae) ⟨PA,PA,b9,hP.mono GC GC⟩ PA (by unfold dm;exact Xv X0)
        refine aM (λz:Nat×Nat×List Int=>(⟨aw [(0,.ptr 0 0 0),(6,.ptr 1 0 0),(7,.ptr 2 0 0),(14,aaC u),(15,aaC i),(16,aaC j),(17,.ptr 6 0 0),(18,aaC z.1)],
            dm L z.2.1 cls ae [] R++[.var [aaC i,aaC j,aaC u,.ref 7 1 0 z.2.2.length],.arr 1 (ints z.2.2)]⟩:St))
          (λz=>z.1+z.2.2.length=nn/\z.2.1<=L.length/\∀ x∈z.2.2,0<=x/\(0<x->jY x=true)) (λz=>z.1) (nn,k2,[]) ⟨GF,b9,GF⟩ ?_ ?_
        · refine aF.trans (aF.ni 6 3 1 rfl rfl Px) ?_
          unfold dm
          exact Xv X0
        clear b9
        rintro ⟨w,k,aB⟩ ⟨hw,hk,IC⟩ Bg zO nx
        dsimp only at hw hk IC ⊢
        unfold dm
        simp only[dS,dY]
        by_cases GX:0<w
        · obtain ⟨w',rfl⟩ :∃w',w=w'+1:=⟨w - 1,GC⟩
          have hw1:((w'+1:Nat):Int) - 1=w':=GC
          ((repeat' (first|refine Va X0 ?_|(refine Xi ?_ ?_<;>try intro ht)|exact Xx|fail)))
          refine kv [] (.take 2 (.both 0 (.both 1 (.take 3 (.take 4 (.take 5 (.take 6 (.take 7 .nil))))) 3 (.take 1 (.take 4 (.take 5 (.take 6 (.take 7 .nil)))))) 3 (.take 0 (.take 1 (.take 4 (.take 5 (.take 6 (.take 7 .nil)))))))) rfl Px (by decide +kernel) ?_
          simp (disch:=omega) only[Ac,↓Pc,simprocAttr,xw,uM,uL,dj,fy]
          refine⟨⟨?_,?_⟩,?_⟩
          all_goals refine jn [0] (Mz L k hk hL) Px ⟨rfl,trivial⟩ ⟨.eq rfl,trivial⟩ ?_
          all_goals obtain ⟨rK,oz,FD⟩:=MK L k
          all_goals have b9:=ML hk
          all_goals generalize qS L k=cv at *
          all_goals generalize wG L k=k2 at *
          all_goals simp (disch:=omega) only[Ac,↓Pc,simprocAttr,xw,uM,uL,dj,fy]
          all_goals refine⟨GC,?_⟩
          all_goals repeat (refine Xu ?_)
          all_goals ((repeat' (first|refine Va @hw1 ?_|fail)))
          all_goals refine zO _ (w',k2,aB++[cv]) ⟨aar,b9,λx hx=>?_⟩ PA ?_
          all_goals first
            | (rcases cH.1 hx with hx | hx
               · exact IC x hx
               · simp only[fE] at hx;subst hx;exact⟨rK,FD⟩)
            | (unfold dm;simp only[dS,dY];exact Xs false [0,1,2,3,4,5,6,9] X0)
        · obtain rfl:w=0:=GC
          ((repeat' (first|refine Va X0 ?_|(refine Xi ?_ ?_<;>try intro ht)|exact Xx|fail)))
          refine nx _ _ rfl ?_
          clear zO nx Bg
          repeat (refine Xu ?_)
          refine bY (aF.wg 7 6 3 1 rfl rfl (by rw[lI];rfl) (rH _) (sL _)) ?_
          refine bY (σ':=⟨aw [(0,.ptr 0 0 0),(6,.ptr 1 0 0),(7,.ptr 2 0 0),(14,aaC u),(15,aaC i),(16,aaC j),(17,.ptr 6 0 0)],
              dm L k cls ae [] R++[.var (aP ⟨i,j,u,aB⟩),.gone]⟩) (by unfold dm;exact Xv X0) ?_
          unfold dm
          simp only[dS,dY]
          have cu:=hP.len
          refine Va X0 ?_
          refine fQ _ (j+1,k,ae++[⟨i,j,u,aB⟩]) ⟨PA,PA,hk,hP.app (ahE ND tc db (by rw[Hh];omega) IC)⟩ PA ?_
          unfold dm
          rw[show rowsOf aP ae++[[AV.lit (.int .i64 i),AV.lit (.int .i64 j),AV.lit (.int .i64 u),AV.tree 1 (ints aB)]]=rowsOf aP (ae++[⟨i,j,u,aB⟩]) from lO (enc:=aP) ae ⟨i,j,u,aB⟩]
          exact Xs false [0,1,2,3,9,5] X0
      · ((repeat' (first|refine Va X0 ?_|(refine Xi ?_ ?_<;>try intro ht)|exact Xx|fail)))
        refine eV _ _ rfl ?_
        clear fQ eV lB
        repeat (refine Xu ?_)
        refine Va X0 ?_
        exact ba _ (i+1,k,ae) ⟨PA,hk,hP.mono GC GC⟩ PA (by unfold dm;exact Xv X0)
    · ((repeat' (first|refine Va X0 ?_|(refine Xi ?_ ?_<;>try intro ht)|exact Xx|fail)))
      refine bd _ _ rfl ?_
      clear ba bd cJ
      repeat (refine Xu ?_)
      refine Va X0 ?_
      exact an _ (u+1,k,ae) ⟨PA,hk,hP.mono GC GC⟩ PA (by unfold dm;exact Xv X0)
  have ajI:=hP.ok
  have CX:ae.length<=4000:=by have:=hP.len;omega
  ((repeat' (first|refine Va X0 ?_|(refine Xi ?_ ?_<;>try intro ht)|exact Xx|fail)))
  refine ar _ _ rfl ?_;clear an ar Ql
  repeat (refine Xu ?_)
  refine bY (σ':=⟨aw [(0,.ptr 0 0 0),(6,.ptr 1 0 0),(7,.ptr 2 0 0)],dm L k cls ae [] R⟩) (by unfold dm;exact Xv X0) ?_
  clear ND hu hP
  unfold dm
  ((refine Va X0 ?_)<;>try with_reducible intro K hK)
  refine jn [0] (kZ L k 3 (by unfold gk;omega) hk hL) Px ⟨rfl,trivial⟩ ⟨.eq rfl,.pure rfl,trivial⟩ ?_
  have NC:=oO (L:=L) (k:=k) (n:=3) GC
  have b9:=iY hk
  generalize gl L k 3=n at *
  generalize dM L k=k2 at *
  clear hk
  obtain ⟨c1,rfl⟩ :∃c1:Nat,n=c1:=⟨n.toNat,GC⟩
  ((try revert hK K);(refine Va X0 ?_))
  refine aM (λz:Nat×Nat×List Ct=>(⟨aw [(0,.ptr 0 0 0),(6,.ptr 1 0 0),(7,.ptr 2 0 0),(19,aaC z.1)],dm L z.2.1 cls ae z.2.2 R⟩:St))
    (λz=>z.1+z.2.2.length<=2/\z.2.1<=L.length/\∀ x∈z.2.2,iQ ⟨cls,[],[],R⟩ x=true) (λz=>z.1) (c1,k2,[]) ⟨aar,b9,GF⟩ (by unfold dm;exact Xv X0) ?_
  clear b9
  rintro ⟨c,k,av⟩ ⟨aR,hk,NF⟩ Ql an ar
  dsimp only at aR hk NF ⊢
  unfold dm
  by_cases oA:0<c
  · obtain ⟨c',rfl⟩ :∃c',c=c'+1:=⟨c - 1,GC⟩
    have lN:((c'+1:Nat):Int) - 1=c':=GC
    ((repeat' (first|refine Va X0 ?_|(refine Xi ?_ ?_<;>try intro ht)|exact Xx|fail))<;>try with_reducible intro K hK)
    refine jn [0] (kZ L k R (by unfold gk;omega) hk hL) Px ⟨rfl,trivial⟩ ⟨.eq rfl,.pure rfl,trivial⟩ ?_
    have gp:=oO (L:=L) (k:=k) (n:=R) GC
    have b9:=iY hk
    generalize gl L k R=n1 at *
    generalize dM L k=k2 at *
    clear hk
    ((try revert hK K);(refine Va X0 ?_)<;>try with_reducible intro K hK)
    refine jn [0] (kZ L k2 4 (by unfold gk;omega) b9 hL) Px ⟨rfl,trivial⟩ ⟨.eq rfl,.pure rfl,trivial⟩ ?_
    have qA:=oO (L:=L) (k:=k2) (n:=4) GC
    have hk:=iY b9
    generalize gl L k2 4=n2 at *
    generalize dM L k2=k at *
    clear b9
    ((try revert hK K);(refine Va X0 ?_)<;>try with_reducible intro K hK)
    refine jn [0] (Mz L k hk hL) Px ⟨rfl,trivial⟩ ⟨.eq rfl,trivial⟩ ?_
    obtain ⟨rK,oz,FD⟩:=MK L k
    have b9:=ML hk
    generalize qS L k=cv at *
    generalize wG L k=k2 at *
    clear hk
    have NG:jY (max 1 cv)=true:=by
      by_cases h0:0<cv
      · rw[show max 1 cv=cv by omega];exact FD h0
      · rw[show max 1 cv=1 by omega];decide
    generalize b6:max 1 cv=bM at *
    ((try revert hK K);(refine Va @b6 ?_))
    refine aM (λz:Nat×Nat×List Ld=>(⟨aw [(0,.ptr 0 0 0),(6,.ptr 1 0 0),(7,.ptr 2 0 0),(19,aaC (c'+1:Nat)),(20,.ptr 6 0 0),(21,aaC z.1)],
        dm L z.2.1 cls ae av R++[.var [aaC n1,.ref 7 3 0 z.2.2.length,aaC n2,aaC bM],.arr 3 (rowsOf iM z.2.2)]⟩:St))
      (λz=>z.1<=cls.length/\z.2.1<=L.length/\zB cls R z.2.2 z.1 0) (λz=>cls.length - z.1) (0,k2,[]) ⟨aI _,b9,rfl,GF,GF⟩ ?_ ?_
    · refine aF.trans (aF.ni 6 1 3 rfl rfl Px) ?_
      unfold dm
      exact Xv X0
    clear b9
    rintro ⟨i,k,mW⟩ ⟨hi,hk,hI⟩ cJ ba bd
    dsimp only at hi hk hI ⊢
    unfold dm
    simp only[dS,dY]
    by_cases hi':i<cls.length
    · have uP:=ym i
      generalize e7:cls.getD i default=li at *
      ((repeat' (first|refine Va @e7 ?_|(refine Xi ?_ ?_<;>try intro ht)|exact Xx|fail)))
      refine aM (λz:Nat×Nat×List Ld=>(⟨aw [(0,.ptr 0 0 0),(6,.ptr 1 0 0),(7,.ptr 2 0 0),(19,aaC (c'+1:Nat)),(20,.ptr 6 0 0),(21,aaC i),(22,aaC z.1)],
          dm L z.2.1 cls ae av R++[.var [aaC n1,.ref 7 3 0 z.2.2.length,aaC n2,aaC bM],.arr 3 (rowsOf iM z.2.2)]⟩:St))
        (λz=>z.1<=li.length/\z.2.1<=L.length/\zB cls R z.2.2 i z.1) (λz=>li.length - z.1) (0,k,mW) ⟨aI _,hk,hI⟩ (by unfold dm;exact Xv (X2 @dS.{0} @dY.{0})) ?_
      clear hk hI
      rintro ⟨j,k,mW⟩ ⟨hj,hk,hI⟩ lB fQ eV
      dsimp only at hj hk hI ⊢
      unfold dm
      simp only[dS,dY]
      have anV:=hI.len
      by_cases db:j<li.length
      · ((repeat' (first|refine Va @e7 ?_|(refine Xi ?_ ?_<;>try intro ht)|exact Xx|fail))<;>try with_reducible intro K hK)
        refine jn [0] (Cm L k 2 (by unfold gk;omega) Px hk hL) Px ⟨rfl,trivial⟩ ⟨.eq rfl,.pure rfl,trivial⟩ ?_
        have b9:=iY hk
        generalize AL L k 2=b at *
        generalize dM L k=k2 at *
        clear hk
        ((try revert hK K);(repeat' (first|refine Va @e7 ?_|(refine Xi ?_ ?_<;>try intro ht)|fail)))
        · refine kv [] (.take 2 (.take 3 (.take 4 (.both 0 (.both 1 (.take 5 (.take 6 (.take 7 (.take 8 (.take 9 (.take 10 (.take 11 .nil))))))) 5 (.take 1 (.take 6 (.take 7 (.take 8 (.take 9 (.take 10 (.take 11 .nil)))))))) 5 (.take 0 (.take 1 (.take 6 (.take 7 (.take 8 (.take 9 (.take 10 (.take 11 .nil)))))))))))) rfl Px (by decide +kernel) ?_
          simp (disch:=omega) only[Ac,↓Pc,simprocAttr,xw,uM,uL,dj,fy]
          refine⟨⟨?_,?_⟩,?_⟩
          all_goals refine jn [0] (kZ L k2 3 (by unfold gk;omega) b9 hL) Px ⟨rfl,trivial⟩ ⟨.eq rfl,.pure rfl,trivial⟩ ?_
          all_goals have hn3:=oO (L:=L) (k:=k2) (n:=3) GC
          all_goals have hk:=iY b9
          all_goals generalize gl L k2 3=n3 at *
          all_goals generalize dM L k2=k at *
          all_goals clear b9
          all_goals simp (disch:=omega) only[Ac,↓Pc,simprocAttr,xw,uM,uL,dj,fy]
          all_goals refine⟨⟨GC,GC⟩,GC,?_⟩
          all_goals repeat (refine Xu ?_)
          all_goals ((repeat' (first|refine Va X0 ?_|fail)))
          all_goals refine fQ _ (j+1,k,mW++[⟨i,j,1+n3⟩]) ⟨PA,hk,hI.app hi' (by rw[e7];exact db) ⟨GC,GC⟩⟩ PA ?_
          all_goals unfold dm
          all_goals simp only[dS,dY]
          all_goals rw[show rowsOf iM mW++[[AV.lit (.int .i64 i),AV.lit (.int .i64 j),AV.lit (.int .i64 (1+n3))]]=rowsOf iM (mW++[⟨i,j,1+n3⟩]) from lO (enc:=iM) mW ⟨i,j,1+n3⟩]
          all_goals exact Xs false [0,1,2,3,4,5,6,9] X0
        · exact fQ _ (j+1,k2,mW) ⟨PA,b9,hI.mono GC GC⟩ PA (by unfold dm;exact Xv (X2 @dS.{0} @dY.{0}))
      · ((repeat' (first|refine Va @e7 ?_|(refine Xi ?_ ?_<;>try intro ht)|exact Xx|fail)))
        refine eV _ _ rfl ?_
        clear fQ eV lB
        repeat (refine Xu ?_)
        refine Va X0 ?_
        exact ba _ (i+1,k,mW) ⟨PA,hk,hI.mono GC GC⟩ PA (by unfold dm;exact Xv (X2 @dS.{0} @dY.{0}))
    · ((repeat' (first|refine Va X0 ?_|(refine Xi ?_ ?_<;>try intro ht)|exact Xx|fail)))
      refine bd _ _ rfl ?_
      clear ba bd cJ
      repeat (refine Xu ?_)
      refine bY (aF.wg 7 6 1 3 rfl rfl (by rw[b8];rfl) (gr _) (kW _)) ?_
      refine bY (σ':=⟨aw [(0,.ptr 0 0 0),(6,.ptr 1 0 0),(7,.ptr 2 0 0),(19,aaC (c'+1:Nat)),(20,.ptr 6 0 0)],
          dm L k cls ae av R++[.var (aV ⟨n1,mW,n2,bM⟩),.gone]⟩) (by unfold dm;exact Xv X0) ?_
      unfold dm
      simp only[dS,dY]
      refine Va @lN ?_
      refine an _ (c',k,av++[⟨n1,mW,n2,bM⟩]) ⟨aar,hk,?_⟩ PA ?_
      · intro x hx
        rcases cH.1 hx with hx | hx
        · exact NF x hx
        · simp only[fE] at hx
          subst hx
          unfold iQ jI
          simp only[Bool.and_eq_true,decide_eq_true_eq]
          exact⟨⟨⟨GC,GC⟩,NG⟩,hI.ok⟩
      · unfold dm
        rw[show rowsOf aV av++[[AV.lit (.int .i64 n1),AV.tree 3 (rowsOf iM mW),AV.lit (.int .i64 n2),AV.lit (.int .i64 bM)]]=rowsOf aV (av++[⟨n1,mW,n2,bM⟩]) from lO (enc:=aV) av ⟨n1,mW,n2,bM⟩]
        exact Xs false [0,1,2,3,4,9] X0
  obtain rfl:c=0:=GC
  ((repeat' (first|refine Va X0 ?_|(refine Xi ?_ ?_<;>try intro ht)|exact Xx|fail)))
  refine ar _ _ rfl ?_;clear an ar Ql
  repeat (refine Xu ?_)
  refine Vb X0 ?_
  have hMM:MM ⟨cls,ae,av,R⟩ qV options:=by
    refine⟨⟨PA,λl hl=>by have:=(wT l hl).1;omega,CX,PA,PA,λl hl=>(wT l hl).2,?_,λx hx=>?_⟩,PA,λl hl=>(wT l hl).1,B8,PA⟩
    · exact (YH _ _).trans ajI
    · exact (ahD _).trans (NF x hx)
  unfold gu
  simp only[eF,ew]
  simp (disch:=omega) only[Ac,↓Pc,simprocAttr]
  refine⟨_,_,⟨⟨cls,ae,av,R⟩,k,hMM,hk,rfl,rfl⟩,?_⟩
  refine cZ [0,4] true Px ⟨⟨GF,.inr rfl⟩,⟨GF,.inr (by rw[tP];rfl)⟩,trivial⟩ Px Px (aJ.agg _ _ rfl (fF.spec (R:=aJ _ _ _ _) (cs:=xS ⟨cls,ae,av,R⟩) (ds:=[.ref 3 1 0 cls.length,.ref 4 4 0 ae.length,.ref 5 4 0 av.length,aaC R]) ⟨?_,.eq rfl,?_,.pure rfl,trivial⟩).2)
  · first|exact .pure rfl|exact .eq rfl|exact .fz rfl (by simp only[Bc,Rc])
  · first|exact .pure rfl|exact .eq rfl|exact .fz rfl (by simp only[Bc,Rc])
def agb(L:List Int)(k:Nat)(qV options:Nat)(hk:k<=L.length)(hL:L.length<1000000)(hc:qV<=24)(ho:options<=24)(ho1:1<=options):
  fh Tryz.prog 26 [.ptr 0 0 0,aaC qV,aaC options] [kX L k] (λr os=>∃ m k',MM m qV options/\k'<=L.length/\r=.agg (aq m)/\os=[kX L k']) :=
 ajG (aaE L k qV options hk hL hc ho ho1) λr os h=>by
  obtain⟨m,k',h1,h2,rfl,rfl⟩:=h;exact⟨_,_,⟨m,k',h1,h2,rfl,rfl⟩,ajH m _ (λ_=>rfl)⟩
end T

