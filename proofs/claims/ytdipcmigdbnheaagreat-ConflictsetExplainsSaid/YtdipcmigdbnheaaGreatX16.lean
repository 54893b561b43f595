import Derived.Test.YtdipcmigdbnheaaGreatX15
import Derived.Test.YtdipcmigdbnheaaGreatX11
import Derived.Test.YtdipcmigdbnheaaGreatX12
set_option linter.all false
set_option maxHeartbeats 0
set_option maxRecDepth 20000
open Nat renaming zero_le→aI,min_eq_left→pC,zero_add→gn
open Bool renaming true_and→eQ
open List renaming drop_eq_nil_of_le→cR,replicate→bH,take_zero→kK,length_take→eN,getD_eq_getElem?_getD→aA,getElem?_eq_getElem→bK,take_of_length_le→dJ,getElem?_map→cj
open Go Go.Am Go.Proofs
namespace T
def ajt(m:aj)(plan:List Int)(hp:plan.length<9223372036854775808):ao Tryz.prog 98 [.agg (aq m),.tree 1 (ints plan)] [] (.lit (.bool (qU m plan))) []:=by
 generalize ak:qU m plan=res;unfold qU at ak;refine ao.aD 33 0 [.tmp 4] Tryz.func98 ?_;by_cases hl:plan.length≠m.cls.length
 ·rw[if_pos hl]at ak;((repeat'(first|refine Vb X0 ?_|(refine Xi ?_ ?_<;>try intro ht)|exact Xx|fail)))
  all_goals first|exact aE rfl (by rw[ak])|(exfalso;omega)
 rw[if_neg hl]at ak;((repeat'(first|refine Vb X0 ?_|(refine Xi ?_ ?_<;>try intro ht)|exact Xx|fail)))
 refine aM (λk:Nat=>(⟨aw [(1,.tree 1 (ints plan)),(2,.ptr 0 0 0),(5,aaC k)],[.var (aq m)]⟩:St)) (λk=>k<=plan.length/\qT m k (plan.drop k)=res) (λk=>plan.length-k) 0 ⟨aI _,ak⟩ (Xv X0) ?_;rintro k⟨hk,hr⟩Ql an ar;by_cases aK:k<plan.length
 ·have hd:=cP plan k 0 aK;generalize aR:plan.getD k 0=o at *;rw[hd,qT]at hr;have da:=E1 m k o;generalize eW m k o=ob at *;((repeat'(first|refine Vc @aR da ?_|(refine V2 @aR ?_ ?_<;>try with_reducible intro hb)|(refine Xi ?_ ?_<;>try intro ht)|exact Xx|fail)))
  ·have hrf:res=false:=by rw[<- hr,decide_eq_false (p:=o = -1) GC,show ob=false by assumption];rfl
   repeat(refine Xu ?_)
   refine Vb X0 ?_;exact aE rfl (by rw[hrf])
  ·rw[show ob=true by assumption,Bool.or_true,eQ]at hr;exact an _ (k+1) ⟨GC,hr⟩ GC (Xv X0)
  ·rw[decide_eq_true (p:=o = -1) GC,Bool.true_or,eQ]at hr;exact an _ (k+1) ⟨GC,hr⟩ GC (Xv X0)
 ·((repeat'(first|refine Va X0 ?_|(refine V2 X0 ?_ ?_<;>try with_reducible intro hb)|(refine Xi ?_ ?_<;>try intro ht)|exact Xx|fail)))
  rw[cR GC,qT]at hr;refine ar _ _ rfl ?_;clear an ar Ql;repeat(refine Xu ?_)
  refine Vb X0 ?_;exact aE rfl (by rw[hr])
def ajv(m:aj)(p:Pr)(x y:Int)(dE:gH m p=true)(zx:∀ l∈m.cls,l.length<=24)(hx:0<=x/\x<(m.cls.getD p.fst.toNat default).length)(hy:0<=y/\y<(m.cls.getD p.snd.toNat default).length):
  ao Tryz.prog 155 [.agg (aq m),.agg (aP p),aaC x,aaC y] [] (aaC (lV m p x y)) []:=by
 obtain⟨q1,q2,q3,q4,q5⟩:=lT dE;have AZ:=zx _ (ay (l:=m.cls) (i:=p.fst.toNat) (d:=default) GC);have vq:=zx _ (ay (l:=m.cls) (i:=p.snd.toNat) (d:=default) GC);have Ip:=vr (x:=x) (y:=y) (a:=(m.cls.getD p.fst.toNat default).length) (b:=(m.cls.getD p.snd.toNat default).length) hx hy GC GC;unfold lV;rw[<- q5]at Ip;generalize fY:m.cls.getD p.snd.toNat default=lb at *;generalize sh:x*(lb.length:Int)=xm at *;refine ao.aD 24 0 [.tmp 8] Tryz.func155 ?_;refine Vb (X2 @fY @sh) ?_;exact aE rfl rfl
def aax{most bM n:Int}(hp:b7 bM):Cy (n-most) bM=j4 most bM n:=by
 unfold Cy j4 b7 at *;by_cases h:n<=most
 ·rw[if_pos GC,if_pos h]
 ·rw[if_neg GC,if_neg h];split
  ·have:bM=1099511627776:=GC;subst this;omega
  ·rfl
def ajw(m:aj)(plan:List Int)(hm:VM m)(hp:PM m plan):ao Tryz.prog 99 [.agg (aq m),.tree 1 (ints plan)] [] (.tree 1 (ints (jr m plan))) []:=by
 have rR:=hm.cls;have rS:=hm.ae;have MT:=hm.av;have Fy:=hm.jq;have cu:=hp.len;unfold jr;generalize h1:oP m 0 plan (bH m.rules.toNat 0)=o1;generalize h2:n5 m plan m.ae o1=o2;generalize h3:oQ plan m.av o2=o3;have Ek:=jt.rep Fy.1;refine ao.aD 178 0 [.tmp 4] Tryz.func99 ?_;refine Vb X0 ?_;refine aM (λz:Nat×List Int=>(⟨aw [(1,.tree 1 (ints plan)),(2,.ptr 0 0 0),(5,.ref 1 1 0 m.rules.toNat),(6,aaC z.1)],[.var (aq m),.arr 1 (ints z.2)]⟩:St))
  (λz=>z.1<=plan.length/\jt m.rules z.2/\oP m z.1 (plan.drop z.1) z.2=o1) (λz=>plan.length-z.1) (0,bH m.rules.toNat 0) ⟨aI _,Ek,h1⟩ (Xv X0) ?_
 rintro⟨k,out⟩⟨hk,ax,hr⟩Ql an ar;dsimp only at hk ax hr ⊢;have fZ:out.length=m.rules.toNat:=by have:=ax.1;omega
 by_cases aK:k<plan.length
 ·have hd:=cP plan k 0 aK;have hU:=hp.get k aK;generalize aR:plan.getD k 0=o at *;rw[hd,oP]at hr;by_cases ho:o<0
  ·rw[if_pos ho]at hr;((repeat'(first|refine Va @aR ?_|(refine Xi ?_ ?_<;>try intro ht)|exact Xx|fail)))
   exact an _ (k+1,out) ⟨PA,ax,hr⟩ PA (Xv X0)
  ·rw[if_neg ho]at hr;obtain⟨b1,b2,b3,b4⟩:=fD.1 (hU.resolve_left GC);have hl:=ay (l:=m.cls) (i:=k) (d:=default) GC;generalize e7:m.cls.getD k default=l at *;rw[Int.toNat_natCast,e7]at b4;have Nx:=ay (l:=l) (i:=o.toNat) (d:=default) GC;have ek:=hm.mA l hl _ Nx;generalize kY:l.getD o.toNat default=op at *;((repeat'(first|refine Va (X3 @aR @e7 @kY) ?_|(refine Xi ?_ ?_<;>try intro ht)|exact Xx|fail)))
   generalize lU:pZ op.ch out=Ny at hr;have cm:=EP Fy.1 ek;refine aM (λz:Nat×List Int=>(⟨aw [(1,.tree 1 (ints plan)),(2,.ptr 0 0 0),(5,.ref 1 1 0 m.rules.toNat),(6,aaC k),(7,.tree 2 (rowsOf aL op.ch)),(8,aaC z.1)],[.var (aq m),.arr 1 (ints z.2)]⟩:St))
    (λz=>z.1<=op.ch.length/\jt m.rules z.2/\pZ (op.ch.drop z.1) z.2=Ny) (λz=>op.ch.length-z.1) (0,out) ⟨aI _,ax,lU⟩ (Xv X0) ?_
   rintro⟨j,wS⟩⟨hj,nj,fS⟩cJ ba bd;dsimp only at hj nj fS ⊢;have aay:wS.length=m.rules.toNat:=by have:=nj.1;omega
   by_cases db:j<op.ch.length
   ·have qN:=cP op.ch j default db;have fi:=xZ ek _ (ay (d:=default) db);generalize td:op.ch.getD j default=c at *;rw[qN,pZ]at fS;obtain⟨nU,vo⟩:=fi;rw[jI,decide_eq_true_eq]at nU;have nY:=E0 (wS.getD c.1.toNat 0) c.2 (nj.get _) (lz vo);generalize eJ:wS.getD c.1.toNat 0=gx at *;((repeat'(first|refine Vc (X3 @td @eJ @ints_set) nY ?_|(refine Xi ?_ ?_<;>try intro ht)|exact Xx|fail)))
    refine ba _ (j+1,fI wS c.1 c.2) ⟨PA,nj.add (lz vo),fS⟩ PA ?_;unfold fI;rw[eJ];exact Xs false [0,1] X0
   ·((repeat'(first|refine Va X0 ?_|(refine Xi ?_ ?_<;>try intro ht)|exact Xx|fail)))
    rw[cR GC,pZ]at fS;subst fS;refine bd _ _ rfl ?_;clear ba bd cJ;repeat(refine Xu ?_)
    refine Va X0 ?_;exact an _ (k+1,wS) ⟨PA,nj,hr⟩ PA (Xv X0)
 ·((repeat'(first|refine Va X0 ?_|(refine Xi ?_ ?_<;>try intro ht)|exact Xx|fail)))
  rw[cR GC,oP]at hr;subst hr;refine ar _ _ rfl ?_;clear an ar Ql;repeat(refine Xu ?_)
  refine Vb X0 ?_;refine aM (λz:Nat×List Int=>(⟨aw [(1,.tree 1 (ints plan)),(2,.ptr 0 0 0),(5,.ref 1 1 0 m.rules.toNat),(9,aaC z.1)],[.var (aq m),.arr 1 (ints z.2)]⟩:St))
   (λz=>z.1<=m.ae.length/\jt m.rules z.2/\n5 m plan (m.ae.drop z.1) z.2=o2) (λz=>m.ae.length-z.1) (0,out) ⟨aI _,ax,h2⟩ (Xv X0) ?_
  clear hk ax fZ aK h2;rintro⟨k,out⟩⟨hk,ax,hr⟩Ql an ar;dsimp only at hk ax hr ⊢;have fZ:out.length=m.rules.toNat:=by have:=ax.1;omega
  by_cases aK:k<m.ae.length
  ·have hd:=cP m.ae k default aK;have dE:=iA hm.pr _ (ay (d:=default) aK);generalize aR:m.ae.getD k default=p at *;rw[hd,n5]at hr;obtain⟨q1,q2,q3,q4,q5⟩:=lT dE;have g1:=hp.get p.fst.toNat GC;have g2:=hp.get p.snd.toNat GC;rw[Int.toNat_of_nonneg GC]at g1 g2;have yb:=CG dE (plan.getD p.fst.toNat 0) (plan.getD p.snd.toNat 0);have Jc:0<=plan.getD p.fst.toNat 0->0<=plan.getD p.snd.toNat 0->ao Tryz.prog 155 [.agg (aq m),.agg (aP p),aaC (plan.getD p.fst.toNat 0),aaC (plan.getD p.snd.toNat 0)] [] (aaC (lV m p (plan.getD p.fst.toNat 0) (plan.getD p.snd.toNat 0))) []:=λh0 h0'=>by
    have a1:=(fD.1 (g1.resolve_left GC));have a2:=(fD.1 (g2.resolve_left GC));exact ajv m p _ _ dE hm.opt ⟨a1.2.2.1,a1.2.2.2⟩ ⟨a2.2.2.1,a2.2.2.2⟩
   generalize lV m p (plan.getD p.fst.toNat 0) (plan.getD p.snd.toNat 0)=en at *;generalize hx:plan.getD p.fst.toNat 0=x at *;generalize hy:plan.getD p.snd.toNat 0=y at *;have nY:=E0 (out.getD p.bz.toNat 0) en (ax.get _) yb;generalize eJ:out.getD p.bz.toNat 0=gx at *;by_cases oY:0<=x/\0<=y
   ·rw[if_pos oY]at hr;have Jc:=Jc oY.1 oY.2;((repeat'(first|refine Vc (X5 @aR @hx @hy @eJ @ints_set) (X2 Jc nY) ?_|(refine V2 (X5 @aR @hx @hy @eJ @ints_set) ?_ ?_<;>try with_reducible intro hb)|(refine Xi ?_ ?_<;>try intro ht)|exact Xx|fail)))
    refine an _ (k+1,fI out p.bz en) ⟨PA,ax.add yb,hr⟩ PA ?_;unfold fI;rw[eJ];exact Xs false [0,1] X0
   ·rw[if_neg oY]at hr;clear Jc;((repeat'(first|refine Va (X4 @aR @hx @hy @eJ) ?_|(refine V2 (X4 @aR @hx @hy @eJ) ?_ ?_<;>try with_reducible intro hb)|(refine Xi ?_ ?_<;>try intro ht)|exact Xx|fail)))
    all_goals exact an _ (k+1,out) ⟨PA,ax,hr⟩ PA (Xs false [0,1] X0)
  ·((repeat'(first|refine Va X0 ?_|(refine V2 X0 ?_ ?_<;>try with_reducible intro hb)|(refine Xi ?_ ?_<;>try intro ht)|exact Xx|fail)))
   rw[cR GC,n5]at hr;subst hr;refine ar _ _ rfl ?_;clear an ar Ql;repeat(refine Xu ?_)
   refine Vb X0 ?_;refine aM (λz:Nat×List Int=>(⟨aw [(1,.tree 1 (ints plan)),(2,.ptr 0 0 0),(5,.ref 1 1 0 m.rules.toNat),(11,aaC z.1)],[.var (aq m),.arr 1 (ints z.2)]⟩:St))
    (λz=>z.1<=m.av.length/\jt m.rules z.2/\oQ plan (m.av.drop z.1) z.2=o3) (λz=>m.av.length-z.1) (0,out) ⟨aI _,ax,h3⟩ (Xv X0) ?_
   clear hk ax fZ aK h3;rintro⟨k,out⟩⟨hk,ax,hr⟩Ql an ar;dsimp only at hk ax hr ⊢;have fZ:out.length=m.rules.toNat:=by have:=ax.1;omega
   by_cases aK:k<m.av.length
   ·have hd:=cP m.av k default aK;have oJ:=hm.ct _ (ay (d:=default) aK);generalize aR:m.av.getD k default=c at *;rw[hd,oQ]at hr;obtain⟨q1,q2,q3,q4⟩:=lS oJ;have hlen:=AQ hm q4;have ajy:=MI (m:=m) (plan:=plan) (λx hx=>(pV q4 x hx).2) 0;have Fz:=CF (most:=c.most) (sum:=ki plan c.aH 0) (lz q3);have Jd:=Yw (ki plan c.aH 0-c.most) c.bM GC (lz q3);rw[aax (lz q3)]at Jd;generalize Fu:ki plan c.aH 0=sum at *;generalize hev:j4 c.most c.bM sum=FA at *;have nY:=E0 (out.getD c.bz.toNat 0) FA (ax.get _) Fz;generalize eJ:out.getD c.bz.toNat 0=gx at *;((repeat'(first|refine Va @aR ?_|(refine Xi ?_ ?_<;>try intro ht)|exact Xx|fail)))
    refine aM (λz:Nat×Int=>(⟨aw [(1,.tree 1 (ints plan)),(2,.ptr 0 0 0),(5,.ref 1 1 0 m.rules.toNat),(11,aaC k),(12,.ptr 2 0 0),(13,aaC z.2),(14,aaC z.1)],[.var (aq m),.arr 1 (ints out),.var (aV c)]⟩:St))
     (λz=>z.1<=c.aH.length/\0<=z.2/\z.2<=1000*z.1/\ki plan (c.aH.drop z.1) z.2=sum) (λz=>c.aH.length-z.1) (0,0) ⟨aI _,Int.le_refl _,PA,Fu⟩ (Xv X0) ?_
    rintro⟨j,n⟩⟨hj,ef,gp,fS⟩cJ ba bd;dsimp only at hj ef gp fS ⊢;by_cases db:j<c.aH.length
    ·have qN:=cP c.aH j default db;have qP:=pV q4 _ (ay (d:=default) db);generalize td:c.aH.getD j default=x at *;rw[qN,ki]at fS;obtain⟨b1,b2,b3,b4⟩:=fD.1 qP.1;have ve:=qP.2;generalize lR:plan.getD x.cls.toNat 0=px at *;((repeat'(first|refine Va (X2 @td @lR) ?_|(refine Xi ?_ ?_<;>try intro ht)|exact Xx|fail)))
     ·rw[if_pos (by assumption)]at fS;exact ba _ (j+1,n+x.wt) ⟨PA,PA,PA,fS⟩ PA (Xs false [0,1,2] X0)
     ·rw[if_neg (by assumption)]at fS;exact ba _ (j+1,n) ⟨PA,PA,PA,fS⟩ PA (Xs false [0,1,2] X0)
    ·((repeat'(first|refine Va X0 ?_|(refine Xi ?_ ?_<;>try intro ht)|exact Xx|fail)))
     rw[cR GC,ki]at fS;subst fS;refine bd _ _ rfl ?_;clear ba bd cJ;repeat(refine Xu ?_)
     refine Vc (X2 @eJ @ints_set) (X2 Jd nY) ?_;refine an _ (k+1,fI out c.bz FA) ⟨PA,ax.add Fz,hr⟩ PA ?_;unfold fI;rw[eJ];exact Xs false [0,1] X0
   ·((repeat'(first|refine Va X0 ?_|(refine Xi ?_ ?_<;>try intro ht)|exact Xx|fail)))
    rw[cR GC,oQ]at hr;refine ar _ _ rfl ?_;clear an ar Ql;repeat(refine Xu ?_)
    refine Vb X0 ?_;subst hr;refine cZ [] true Px trivial Px Px ?_;rw[<- fZ];first|exact .pure rfl|exact .eq rfl|exact .fz rfl (by simp only[Bc,Rc])
def US(m:aj)(plan:List Int)(hb:MB m)(cu:plan.length<9223372036854775808):ao Tryz.prog 54 [.agg (aq m),.tree 1 (ints plan)] [] (.bJ [aaC (ph m plan).1,.tree 1 (ints (ph m plan).2.1),aaC (ph m plan).2.2]) []:=by
 generalize ak:ph m plan=res;unfold ph at ak;have hval:=wx m hb;have CX:=ajt m plan cu;by_cases hv:df m=0;rotate_left
 ·rw[if_pos hv]at ak;subst ak;refine ao.aD 37 0 [.tmp 4,.tmp 5,.tmp 6] Tryz.func54 ?_;((repeat'(first|refine Vd X0 hval ?_|(refine Xi ?_ ?_<;>try intro ht)|exact Xx|fail)))
  all_goals first|exact cZ [] true Px trivial Px Px (It (.pure rfl) aJ.nil (.pure rfl))|(exfalso;omega)
 rw[if_neg GC]at ak;rw[hv]at hval;have bT:=eK.1 hv;by_cases FB:qU m plan=true;rotate_left
 ·rw[if_pos (by simpa using FB)]at ak;rw[show qU m plan=false by simpa using FB]at CX;subst ak;refine ao.aD 37 0 [.tmp 4,.tmp 5,.tmp 6] Tryz.func54 ?_;((repeat'(first|refine Vd X0 (X2 hval CX) ?_|(refine Xi ?_ ?_<;>try intro ht)|exact Xx|fail)))
  all_goals first|exact cZ [] true Px trivial Px Px (It (.pure rfl) aJ.nil (.pure rfl))|(exfalso;omega)
 rw[if_neg (by simp[FB])]at ak;rw[FB]at CX;have hp:=MJ FB;have oI:=ajw m plan bT hp;have ax:=Ix bT plan;have cE:=bT.jq;unfold CE at ak;dsimp only at ak;generalize jr m plan=l at *;have e7:=ax.1;generalize Fb:jX l 0=bA at *;subst ak;refine ao.aD 37 0 [.tmp 4,.tmp 5,.tmp 6] Tryz.func54 ?_;((repeat'(first|refine Vd X0 (X3 hval CX oI) ?_|(refine Xi ?_ ?_<;>try intro ht)|exact Xx|fail)))
 refine aM (λz:Nat×Int=>(⟨aw [(8,.tree 1 (ints l)),(9,aaC z.2),(10,aaC z.1)],[.var (aq m)]⟩:St))
  (λz=>z.1<=l.length/\b7 z.2/\jX (l.drop z.1) z.2=bA) (λz=>l.length-z.1) (0,0) ⟨aI _,by unfold b7;decide,Fb⟩ (Xv X0) ?_
 rintro⟨j,n⟩⟨hj,ef,fS⟩Ql an ar;dsimp only at hj ef fS ⊢;by_cases db:j<l.length
 ·have qN:=cP l j 0 db;have FC:=ax.get j;generalize td:l.getD j 0=x at *;rw[qN,jX]at fS;((repeat'(first|refine Vc @td (E0 n x ef FC) ?_|(refine Xi ?_ ?_<;>try intro ht)|exact Xx|fail)))
  exact an _ (j+1,ee n x) ⟨PA,A2 ef FC,fS⟩ PA (Xv X0)
 ·((repeat'(first|refine Va X0 ?_|(refine Xi ?_ ?_<;>try intro ht)|exact Xx|fail)))
  rw[cR GC,jX]at fS;refine ar _ _ rfl ?_;clear an ar Ql;repeat(refine Xu ?_)
  refine Vb X0 ?_;exact aE rfl (by rw[fS])
def ajA(m:aj)(left:List (List Bool))(hm:MB m)(hb:BB left):ao Tryz.prog 148 [.agg (aq m),.tree 1 (rowsOf aQ left)] [] (.lit (.bool (decide (dD m left)))) []:=by
 have rR:=hm.cls;have qZ:=hb.1;generalize ak:decide (dD m left)=res;refine ao.aD 30 0 [.tmp 4] Tryz.func148 ?_;by_cases hl:left.length=m.cls.length;rotate_left
 ·rw[decide_eq_false (λh:dD m left=>hl h.1)]at ak;((repeat'(first|refine Va X0 ?_|(refine Xi ?_ ?_<;>try intro ht)|exact Xx|fail)))
  ((skip))
  exact aE rfl (by rw[<- ak])
 ((repeat'(first|refine Va X0 ?_|(refine Xi ?_ ?_<;>try intro ht)|exact Xx|fail)))
 refine aM (λk:Nat=>(⟨aw [(1,.tree 1 (rowsOf aQ left)),(2,.ptr 0 0 0),(5,aaC k)],[.var (aq m)]⟩:St)) (λk=>k<=left.length/\∀ i,i<k->(left.getD i default).length=(m.cls.getD i default).length) (λk=>left.length-k) 0 ⟨aI _,GC⟩ (Xv X0) ?_;rintro k⟨hk,hr⟩Ql an ar;by_cases aK:k<left.length
 ·have h1:=hm.opt _ (ay (l:=m.cls) (i:=k) (d:=default) GC);have h2:=hb.2 _ (ay (d:=default) aK);generalize CY:m.cls.getD k default=a at *;generalize qZ:left.getD k default=b at *;by_cases nB:b.length=a.length
  ·((repeat'(first|refine Va (X4 @CY @qZ @bu.eq_1 @aQ.eq_1) ?_|(refine Xi ?_ ?_<;>try intro ht)|exact Xx|fail)))
   exact an _ (k+1) ⟨GC,λi hi=>by
    by_cases e:i=k
    ·subst e;rw[qZ,CY];exact nB
    ·exact hr i GC⟩ GC (Xv X0)
  ·rw[decide_eq_false (λh:dD m left=>nB (by have:=h.2 k GC;rw[qZ,CY]at this;exact this))]at ak;((repeat'(first|refine Va (X4 @CY @qZ @bu.eq_1 @aQ.eq_1) ?_|(refine Xi ?_ ?_<;>try intro ht)|exact Xx|fail)))
   repeat(refine Xu ?_)
   refine Vb X0 ?_;exact aE rfl (by rw[<- ak])
 ·rw[decide_eq_true (show dD m left from⟨hl,λi hi=>hr i GC⟩)]at ak;((repeat'(first|refine Va X0 ?_|(refine Xi ?_ ?_<;>try intro ht)|exact Xx|fail)))
  refine ar _ _ rfl ?_;clear an ar Ql;repeat(refine Xu ?_)
  refine Vb X0 ?_;exact aE rfl (by rw[<- ak])
def Nz{m:aj}{left:List (List Bool)}(hm:VM m)(hf:dD m left){c:Ct}(hc:c∈m.av):(∀ x∈c.aH,(0<=x.cls/\x.cls<left.length)/\1<=x.wt/\x.wt<=1000)/\0<=c.most/\b7 c.bM/\c.aH.length<=1000000:=by
 obtain⟨_,h2,h3,h4⟩:=lS (hm.ct c hc);refine⟨λx hx=>?_,h2.1,lz h3,?_⟩
 ·obtain⟨h5,h6⟩:=pV h4 x hx;obtain⟨a,b,_,_⟩:=fD.1 h5;have:=hf.1;exact⟨⟨a,GC⟩,h6⟩
 ·have:=AQ hm h4;omega
def ajB (m:aj) (left:List (List Bool)) (c:Ct) (hm:VM m) (hf:dD m left) (hc:c∈m.av):ao Tryz.prog 154 [.agg (aq m),.tree 1 (rowsOf aQ left),.agg (aV c)] [] (aaC (k7 c.aH 0 left 0 - c.most)) []:=by
  obtain ⟨q1,q2,q3,q4⟩:=Nz hm hf hc
  have zN:∀ x∈c.aH,1<=x.wt/\x.wt<=1000:=λx hx=>(q1 x hx).2
  have rR:=hm.cls
  have hl:=hf.1
  have anR:=(lS (hm.ct c hc)).2.1
  refine ao.aD 85 0 [.tmp 6] Tryz.func154 ?_
  refine Va X0 ?_
  refine aM (λi:Nat=>(⟨aw [(1,.tree 1 (rowsOf aQ left)),(3,.ptr 0 0 0),(5,.ptr 1 0 0),(7,aaC (k7 c.aH 0 (left.take i) 0)),(8,aaC i)],[.var (aq m),.var (aV c)]⟩:St)) (λi=>i<=left.length) (λi=>left.length - i) 0 (aI _) (Xv (X2 @kK.{0} (X2 @k7.eq_1 @k7.eq_2))) ?_
  rintro i hi Ql an ar
  have yW:=E5 zN (left.take i)
  rw[eN] at yW
  by_cases hi':i<left.length
  · have cm:(left.getD i default).length=(m.cls.getD i default).length:=hf.2 i hi'
    have aaz:=hm.opt _ (ay (l:=m.cls) (i:=i) (d:=default) GC)
    have cN:=eG hi'
    have Bf:=aak c.aH (left.getD i default) (left.take i) 0 0
    rw[<- cN,eN,pC GC,gn] at Bf
    generalize k7 c.aH 0 (left.take i) 0=n at *
    generalize CO:left.getD i default=row at *
    generalize da:m.cls.getD i default=l at *
    ((repeat' (first|refine Va X0 ?_|(refine Xi ?_ ?_<;>try intro ht)|exact Xx|fail)))
    refine aM (λo:Nat=>(⟨aw [(1,.tree 1 (rowsOf aQ left)),(3,.ptr 0 0 0),(5,.ptr 1 0 0),(7,aaC n),(8,aaC i),(9,aaC (max (eM c.aH i 0 (row.take o) (-1)) 0)),(10,.lit (.bool (decide (0<=eM c.aH i 0 (row.take o) (-1))))),(11,aaC o)],[.var (aq m),.var (aV c)]⟩:St)) (λo=>o<=row.length) (λo=>row.length - o) 0 (aI _) (Xv (X2 @kK.{0} (X2 @eM.eq_1 @eM.eq_2))) ?_
    rintro o ho cJ ba bd
    have hb:=Iz zN i (row.take o) 0 (-1) GC
    by_cases cG:o<row.length
    · have im:eM c.aH i 0 (row.take (o+1)) (-1)=if row.getD o false=true/\(eM c.aH i 0 (row.take o) (-1)<0\/gP c.aH i o 0<eM c.aH i 0 (row.take o) (-1)) then gP c.aH i o 0 else eM c.aH i 0 (row.take o) (-1):=by
        rw[List.take_succ_eq_append_getElem cG,MS,aA,bK cG,eN,pC GC,gn];rfl
      have hw:=zC zN i o 0 GC
      generalize eM c.aH i 0 (row.take o) (-1)=b at *
      generalize Bd:row.getD o false=is at *
      cases is with
      | false =>
        rw[if_neg GF] at im
        ((repeat' (first|refine Va (X5 @da @CO @Bd @bu.eq_1 @aQ.eq_1) ?_|(refine Xi ?_ ?_<;>try intro ht)|exact Xx|fail)))
        exact ba _ (o+1) GC GC (by simp only[im];exact Xv X0)
      | true =>
        simp only[eq_self,true_and] at im
        ((repeat' (first|refine Va (X5 @da @CO @Bd @bu.eq_1 @aQ.eq_1) ?_|(refine Xi ?_ ?_<;>try intro ht)|exact Xx|fail)))
        refine aM (λk:Nat=>(⟨aw [(1,.tree 1 (rowsOf aQ left)),(3,.ptr 0 0 0),(5,.ptr 1 0 0),(7,aaC n),(8,aaC i),(9,aaC (max b 0)),(10,.lit (.bool (decide (0<=b)))),(11,aaC o),(12,aaC (gP (c.aH.take k) i o 0)),(13,aaC k)],[.var (aq m),.var (aV c)]⟩:St)) (λk=>k<=c.aH.length) (λk=>c.aH.length - k) 0 (aI _) (Xv (X2 @kK.{0} (X2 @gP.eq_1 @gP.eq_2))) ?_
        rintro k hk lB fQ eV
        by_cases aK:k<c.aH.length
        · have Je:=eG aK
          have aS:=q1 _ (ay (d:=default) aK)
          have mi:=YN (c.aH.take k) (c.aH.getD k default) i o 0
          rw[<- Je] at mi
          generalize gP (c.aH.take k) i o 0=w at *
          generalize xJ:c.aH.getD k default=x at *
          ((repeat' (first|refine Va (X2 @xJ @iM.eq_1) ?_|(refine V2 (X2 @xJ @iM.eq_1) ?_ ?_<;>try with_reducible intro hb)|(refine Xi ?_ ?_<;>try intro ht)|exact Xx|fail)))
          all_goals
            refine fQ _ (k+1) GC GC ?_
            simp only[mi]
            first
              | rw[if_pos GC]
              | rw[if_neg GC]
            exact Xv X0
        · ((repeat' (first|refine Va X0 ?_|(refine V2 X0 ?_ ?_<;>try with_reducible intro hb)|(refine Xi ?_ ?_<;>try intro ht)|exact Xx|fail)))
          rw[dJ GC]
          refine eV _ _ rfl ?_
          clear fQ eV lB
          repeat (refine Xu ?_)
          generalize gP c.aH i o 0=w at *
          ((repeat' (first|refine Va X0 ?_|(refine V2 X0 ?_ ?_<;>try with_reducible intro hb)|(refine Xi ?_ ?_<;>try intro ht)|exact Xx|fail)))
          all_goals
            refine ba _ (o+1) GC GC ?_
            simp only[im]
            first
              | (rw[if_pos GC];have e1:max w 0=w:=GC
                 have e2:decide (0<=w)=true:=decide_eq_true GC
                 simp only[e1,e2];exact Xv X0)
              | (rw[if_neg GC];exact Xv X0)
    · rw[dJ GC] at hb
      have lh:ny c.aH i row=max (eM c.aH i 0 row (-1)) 0:=rfl
      ((repeat' (first|refine Va (X3 @da @bu.eq_1 (dJ (show row.length<=o by omega))) ?_|(refine Xi ?_ ?_<;>try intro ht)|exact Xx|fail)))
      refine bd _ _ rfl ?_
      clear ba bd cJ
      repeat (refine Xu ?_)
      refine Va X0 ?_
      exact an _ (i+1) GC GC (by simp only[Bf,lh];exact Xv X0)
  · ((repeat' (first|refine Va (dJ (show left.length<=i by omega)) ?_|(refine Xi ?_ ?_<;>try intro ht)|exact Xx|fail)))
    refine ar _ _ rfl ?_;clear an ar Ql
    repeat (refine Xu ?_)
    rw[dJ GC] at yW
    repeat' (first|(refine Xr X0 ?_;intro K hK)|(refine hK _ ?_;clear hK K)|refine Xz ?_|(refine Xe ?_;first|refine aE rfl ?_|refine Xl ?_ ?_)|refine Xd ?_ ?_|exact Xx|fail)
def NA(x:Int):ao Tryz.prog 174 [aaC x] [] (.agg (a7 (fJ x))) []:=by
 refine ao.aD 7 0 [.cell 2 230] Tryz.func174 ?_;refine Vb X0 ?_;simp(disch:=omega)only[Ac,↓Pc,simprocAttr,a7,fJ,ew];exact aE rfl rfl
def ajC(l:List bU)(R:Int)(hl:l.length<=24)(ek:∀ o∈l,eo R none o.ch=true)(hlen:∀ o∈l,o.ch.length<=100):ao Tryz.prog 151 [.tree 6 (rowsOf cQ l)] [] (.tree 1 (ints (gG l))) []:=by
 refine ao.aD 39 0 [.tmp 2] Tryz.func151 ?_;refine Vb X0 ?_;refine aM (λz:Nat×List Int=>(⟨aw [(0,.tree 6 (rowsOf cQ l)),(3,.ref 0 1 0 z.2.length),(4,aaC z.1)],[.arr 1 (ints z.2)]⟩:St)) (λz=>z.1<=l.length/\z.2=(gG l).take z.1) (λz=>l.length-z.1) (0,[]) ⟨aI _,rfl⟩ ?_ ?_
 ·refine aF.trans (aF.nil 3 1 (by simp only[Kc,simprocAttr]) Px) ?_;exact Xv X0
 rintro⟨i,xs⟩⟨hi,dy⟩Ql an ar;dsimp only at hi dy ⊢;have fZ:(gG l).length=l.length:=by unfold gG;simp
 by_cases hi':i<l.length
 ·have cN:=eG (l:=gG l) (k:=i) GC;have ui:(gG l).getD i default=jZ (l.getD i default):=by
   unfold gG;rw[aA,cj,aA,bK hi'];rfl
  have fj:=ay (l:=l) (d:=default) hi';have hc:=Ib (ek _ fj);have hle:=hlen _ fj;have br:xs.length=i:=by rw[dy,eN];omega
  rw[ui,<- dy]at cN;generalize kY:l.getD i default=o at *;((repeat'(first|refine Va @kY ?_|(refine Xi ?_ ?_<;>try intro ht)|exact Xx|fail)))
  refine aM (λk:Nat=>(⟨aw [(0,.tree 6 (rowsOf cQ l)),(3,.ref 0 1 0 xs.length),(4,aaC i),(5,aaC (((o.ch.take k).map (·.2)).foldl ee 0)),(6,aaC k)],[.arr 1 (ints xs)]⟩:St)) (λk=>k<=o.ch.length) (λk=>o.ch.length-k) 0 (aI _) (Xv (X3 @kK.{0} @List.map_nil.{0,0} @List.foldl_nil.{0,0})) ?_;rintro k hk cJ ba bd;have hs:=EY ((o.ch.take k).map (·.2)) 0 (λx hx=>by
   obtain⟨c,ln,rfl⟩:=List.mem_map.1 hx;exact hc c (List.mem_of_mem_take ln)) (by unfold b7;decide)
  by_cases aK:k<o.ch.length
  ·have aR:=hc _ (ay (d:=default) aK);have dP:=Mw o.ch k aK;generalize ((o.ch.take k).map (·.2)).foldl ee 0=s at *;have nY:=E0 s (o.ch.getD k default).2 hs aR;generalize aS:o.ch.getD k default=x at *;((repeat'(first|refine Vc (X4 @kY @aS @cQ.eq_1 @aL.eq_1) nY ?_|(refine Xi ?_ ?_<;>try intro ht)|exact Xx|fail)))
   exact ba _ (k+1) GC GC (by simp only[dP];exact Xv X0)
  ·have lU:((o.ch.take k).map (·.2)).foldl ee 0=jZ o:=by rw[dJ GC];rfl
   rw[lU]at hs;generalize ((o.ch.take k).map (·.2)).foldl ee 0=s at *;((repeat'(first|refine Va (X2 @kY @cQ.eq_1) ?_|(refine Xi ?_ ?_<;>try intro ht)|exact Xx|fail)))
   refine bd _ _ rfl ?_;clear ba bd cJ;repeat(refine Xu ?_)
   refine Va X0 ?_;refine an _ (i+1,xs++[s]) ⟨PA,by rw[cN,<- lU]⟩ PA ?_;exact Xs false [2] X0
 ·rw[dJ GC]at dy;subst dy;((repeat'(first|refine Va X0 ?_|(refine Xi ?_ ?_<;>try intro ht)|exact Xx|fail)))
  refine ar _ _ rfl ?_;clear an ar Ql;repeat(refine Xu ?_)
  refine Vb X0 ?_;exact Xw true [] X0
def aaA(l:List Int)(hl:l.length<=1000):ao Tryz.prog 150 [.tree 1 (ints l)] [] (.ref 0 2 0 (ep l).length) [.arr 2 (rowsOf j6 (ep l))]:=by
 refine ao.aD 25 0 [.tmp 2] Tryz.func150 ?_;refine Vb X0 ?_;refine aM (λz:Nat×List Nm=>(⟨aw [(0,.tree 1 (ints l)),(3,.ref 0 2 0 z.2.length),(4,aaC z.1)],[.arr 2 (rowsOf j6 z.2)]⟩:St)) (λz=>z.1<=l.length/\z.2=(ep l).take z.1) (λz=>l.length-z.1) (0,[]) ⟨aI _,rfl⟩ ?_ ?_
 ·refine aF.trans (aF.nil 3 2 (by simp only[Kc,simprocAttr]) Px) ?_;exact Xv X0
 rintro⟨i,xs⟩⟨hi,dy⟩Ql an ar;dsimp only at hi dy ⊢;have fZ:(ep l).length=l.length:=by unfold ep;simp
 by_cases hi':i<l.length
 ·have cN:=eG (l:=ep l) (k:=i) GC;have ui:(ep l).getD i default=fJ (l.getD i 0):=by
   unfold ep;rw[aA,cj,aA,bK hi'];rfl
  have br:xs.length=i:=by rw[dy,eN];omega
  rw[ui,<- dy]at cN;generalize kY:l.getD i 0=o at *;((repeat'(first|refine Va @kY ?_|(refine Xi ?_ ?_<;>try intro ht)|exact Xx|fail)))
  refine an _ (i+1,xs++[fJ o]) ⟨PA,cN.symm⟩ PA ?_;have eno:[[AV.lit (.bool (decide (o >= 1099511627776))),AV.lit (.int .i64 o)]]=rowsOf j6 [fJ o]:=rfl;exact Xs false [2] (X2 @eno @Lw)
 ·rw[dJ GC]at dy;subst dy;((repeat'(first|refine Va X0 ?_|(refine Xi ?_ ?_<;>try intro ht)|exact Xx|fail)))
  refine ar _ _ rfl ?_;clear an ar Ql;repeat(refine Xu ?_)
  refine Vb X0 ?_;exact Xw false [0] X0
def aaB(l:List Nm)(s:List Bool)(hl:l.length=s.length)(e7:l.length<9223372036854775808):ao Tryz.prog 152 [.tree 2 (rowsOf j6 l),.tree 1 (aX s)] [] (.bJ [aaC (dQ l s (0,false)).1,.lit (.bool (dQ l s (0,false)).2)]) []:=by
 refine ao.aD 47 0 [.tmp 4,.tmp 5] Tryz.func152 ?_;refine Vb X0 ?_;refine aM (λi:Nat=>(⟨aw [(0,.tree 2 (rowsOf j6 l)),(1,.tree 1 (aX s)),(6,aaC (dQ (l.take i) (s.take i) (0,false)).1),(7,.lit (.bool (dQ (l.take i) (s.take i) (0,false)).2)),(8,aaC i)],[]⟩:St)) (λi=>i<=l.length) (λi=>l.length-i) 0 (aI _) (Xv (X2 @kK.{0} (X2 @dQ.eq_1 @dQ.eq_2))) ?_;rintro i hi Ql an ar;by_cases hi':i<l.length
 ·have h1:=eG hi';have h2:=eG (l:=s) (k:=i) GC;have h3:=aam (l.getD i default) (s.getD i default) (l.take i) (s.take i) (0,false) (by rw[eN,eN];omega);rw[<- h1,<- h2]at h3;have tD:s.getD i default=s.getD i false:=rfl;rw[tD]at h3;generalize dQ (l.take i) (s.take i) (0,false)=b at *;generalize b6:l.getD i default=p at *;generalize Bf:s.getD i false=is at *;unfold aal at h3;obtain⟨b1,b2⟩:=b;obtain⟨p1,p2⟩:=p;dsimp only at h3 ⊢;by_cases br:p1<b1;all_goals
   cases is<;>cases p2<;>cases b2
  all_goals
   simp[br]at h3;((repeat'(first|refine Va (X3 @b6 @Bf @j6.eq_1) ?_|(refine Xi ?_ ?_<;>try intro ht)|exact Xx|fail)))
   all_goals
    refine an _ (i+1) GC GC ?_;simp only[h3];exact Xv X0
 ·((repeat'(first|refine Va X0 ?_|(refine V2 X0 ?_ ?_<;>try with_reducible intro hb)|(refine Xi ?_ ?_<;>try intro ht)|exact Xx|fail)))
  refine ar _ _ rfl ?_;clear an ar Ql;repeat(refine Xu ?_)
  rw[dJ GC,dJ GC];refine Vb X0 ?_;exact aE rfl rfl
def Jf(l:List Nm)(e7:l.length<9223372036854775808):ao Tryz.prog 177 [.tree 2 (rowsOf a7 l)] [] (.agg (a7 (p5 l))) []:=by
 refine ao.aD 30 0 [.cell 2 230] Tryz.func177 ?_;refine Vb X0 ?_;refine aM (λi:Nat=>(⟨aw [(2,.ptr 0 0 0),(3,.ptr 1 0 0),(7,.tree 2 (rowsOf a7 l)),(8,aaC l.length),(9,aaC i)],[.var [aaC 0,.lit (.bool false)],.var (a7 (p5 (l.take i)))]⟩:St)) (λi=>i<=l.length) (λi=>l.length-i) 0 (aI _) (Xv @kK.{0}) ?_;rintro i hi Ql an ar;by_cases hi':i<l.length
 ·have h1:=eG hi';have h3:=aiW (l.take i) (l.getD i default);rw[<- h1]at h3;generalize p5 (l.take i)=b at *;generalize b6:l.getD i default=p at *;unfold CT at h3;obtain⟨b1,b2⟩:=b;obtain⟨p1,p2⟩:=p;dsimp only at h3 ⊢;unfold a7;dsimp only;by_cases br:p1<b1;all_goals
   cases p2<;>cases b2
  all_goals
   simp[br]at h3;((repeat'(first|refine Va (X2 @b6 @a7.eq_1) ?_|(refine Xi ?_ ?_<;>try intro ht)|exact Xx|fail)))
   all_goals
    refine an _ (i+1) GC GC ?_;simp only[h3];exact Xs false [0,1] @a7.eq_1
 ·((repeat'(first|refine Va @a7.eq_1 ?_|(refine V2 @a7.eq_1 ?_ ?_<;>try with_reducible intro hb)|(refine Xi ?_ ?_<;>try intro ht)|exact Xx|fail)))
  refine ar _ _ rfl ?_;clear an ar Ql;repeat(refine Xu ?_)
  rw[dJ GC];refine Vb @a7.eq_1 ?_;simp(disch:=omega)only[Ac,↓Pc,simprocAttr,a7,ew];exact aE rfl rfl
def ajE(m:aj)(x:Mv)(hm:VM m):ao Tryz.prog 149 [.agg (aq m),.agg (ca x)] [] (.lit (.bool (jL m x))) []:=by
 have rS:=hm.ae;have ho:=E1 m (fR m x) x.opt;generalize ak:jL m x=res;unfold jL at ak;unfold fR at ak ho;refine ao.aD 58 0 [.tmp 4] Tryz.func149 ?_;by_cases hr:0<=x.pair/\x.pair<m.ae.length/\0<=x.side/\x.side<=1/\-268435456<=x.dR/\x.dR<=268435456
 ·rw[decide_eq_true hr,eQ]at ak;generalize b6:m.ae.getD x.pair.toNat default=p at *;by_cases hs:x.side=0
  ·rw[if_pos hs]at ak ho;rw[ak]at ho;((repeat'(first|refine Vd (X3 @b6 @ca.eq_1 @aP.eq_1) ho ?_|(refine V2 (X3 @b6 @ca.eq_1 @aP.eq_1) ?_ ?_<;>try with_reducible intro hb)|(refine Xi ?_ ?_<;>try intro ht)|exact Xx|fail)))
   all_goals exact aE rfl rfl
  ·rw[if_neg hs]at ak ho;rw[ak]at ho;((repeat'(first|refine Vd (X3 @b6 @ca.eq_1 @aP.eq_1) ho ?_|(refine V2 (X3 @b6 @ca.eq_1 @aP.eq_1) ?_ ?_<;>try with_reducible intro hb)|(refine Xi ?_ ?_<;>try intro ht)|exact Xx|fail)))
   all_goals exact aE rfl rfl
 ·rw[decide_eq_false hr,Bool.false_and]at ak;((repeat'(first|refine Vb (X2 @ca.eq_1 @aP.eq_1) ?_|(refine V2 (X2 @ca.eq_1 @aP.eq_1) ?_ ?_<;>try with_reducible intro hb)|(refine Xi ?_ ?_<;>try intro ht)|exact Xx|fail)))
  all_goals exact aE rfl (by rw[ak])
end T

