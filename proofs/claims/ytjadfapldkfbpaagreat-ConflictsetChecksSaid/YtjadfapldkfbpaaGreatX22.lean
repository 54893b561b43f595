import Derived.Test.YtjadfapldkfbpaaGreatX18
import Derived.Test.YtjadfapldkfbpaaGreatX20
import Derived.Test.YtjadfapldkfbpaaGreatX21
set_option linter.all false
set_option maxHeartbeats 0
set_option maxRecDepth 20000
open Nat renaming zero_le→aF,min_eq_left→vO,zero_add→gf,mul_le_mul→DN,sub_self→jv,add_zero→iY
open Bool renaming or_true→xr,true_and→eX,false_and→jE,and_eq_true→bk,not_false→jP,not_true→iZ
open List renaming drop_eq_nil_of_le→cM,replicate→bG,take_zero→ky,length_take→fy,getD_eq_getElem?_getD→aG,getElem?_eq_getElem→bT,take_of_length_le→ej,getElem?_map→b6,map_nil→k7,foldl_nil→Aa,mem_of_mem_take→sG,mem_append→cz,mem_singleton→ec,length_map→eO,append_assoc→cY,length_append→bQ,length_set→bw,getElem?_eq_some_iff→aY,map_append→gG,nodup_append→vW,mem_cons→cu,not_mem_nil→jQ,set_set→vY,range_zero→PV
open Go Go.Am Go.Proofs
namespace T
def ajl(m:ah)(plan:List Int)(hp:plan.length<9223372036854775808):an Tryz.prog 84 [.agg (ao m),.tree 1 (ints plan)] [] (.lit (.bool (qG m plan))) []:=by
 generalize aj:qG m plan=res;unfold qG at aj;refine an.aC 33 0 [.tmp 4] Tryz.func84 ?_;by_cases hl:plan.length≠m.cls.length
 ·rw[if_pos hl]at aj;((repeat'(first|refine Vb X0 ?_|(refine Xi ?_ ?_<;>try intro ht)|exact Xx|fail)))
  all_goals first|exact aE rfl (by rw[aj])|(exfalso;omega)
 rw[if_neg hl]at aj;((repeat'(first|refine Vb X0 ?_|(refine Xi ?_ ?_<;>try intro ht)|exact Xx|fail)))
 refine aO (λk:Nat=>(⟨au [(1,.tree 1 (ints plan)),(2,.ptr 0 0 0),(5,aaa k)],[.var (ao m)]⟩:St)) (λk=>k<=plan.length/\qF m k (plan.drop k)=res) (λk=>plan.length-k) 0 ⟨aF _,aj⟩ (Xv X0) ?_;rintro k⟨hk,hr⟩Ql ak ar;by_cases aL:k<plan.length
 ·have hd:=cN plan k 0 aL;generalize aM:plan.getD k 0=o at *;rw[hd,qF]at hr;have cU:=E3 m k o;generalize eU m k o=ob at *;((repeat'(first|refine Vc @aM cU ?_|(refine V2 @aM ?_ ?_<;>try with_reducible intro hb)|(refine Xi ?_ ?_<;>try intro ht)|exact Xx|fail)))
  ·have hrf:res=false:=by rw[<- hr,decide_eq_false (p:=o = -1) G3,show ob=false by assumption];rfl
   repeat(refine Xu ?_)
   refine Vb X0 ?_;exact aE rfl (by rw[hrf])
  ·rw[show ob=true by assumption,xr,eX]at hr;exact ak _ (k+1) ⟨G3,hr⟩ G3 (Xv X0)
  ·rw[decide_eq_true (p:=o = -1) G3,Bool.true_or,eX]at hr;exact ak _ (k+1) ⟨G3,hr⟩ G3 (Xv X0)
 ·((repeat'(first|refine Va X0 ?_|(refine V2 X0 ?_ ?_<;>try with_reducible intro hb)|(refine Xi ?_ ?_<;>try intro ht)|exact Xx|fail)))
  rw[cM G3,qF]at hr;refine ar _ _ rfl ?_;clear ak ar Ql;repeat(refine Xu ?_)
  refine Vb X0 ?_;exact aE rfl (by rw[hr])
def ajn(m:ah)(p:Pr)(x y:Int)(dJ:gL m p=true)(zG:∀ l∈m.cls,l.length<=24)(hx:0<=x/\x<(m.cls.getD p.fst.toNat default).length)(hy:0<=y/\y<(m.cls.getD p.snd.toNat default).length):
  an Tryz.prog 126 [.agg (ao m),.agg (aQ p),aaa x,aaa y] [] (aaa (o9 m p x y)) []:=by
 obtain⟨q1,q2,q3,q4,q5⟩:=m4 dJ;have Bt:=zG _ (aB (l:=m.cls) (i:=p.fst.toNat) (d:=default) G3);have vA:=zG _ (aB (l:=m.cls) (i:=p.snd.toNat) (d:=default) G3);have Jx:=wz (x:=x) (y:=y) (a:=(m.cls.getD p.fst.toNat default).length) (b:=(m.cls.getD p.snd.toNat default).length) hx hy G3 G3;unfold o9;rw[<- q5]at Jx;generalize fW:m.cls.getD p.snd.toNat default=lb at *;generalize sq:x*(lb.length:Int)=xm at *;refine an.aC 24 0 [.tmp 8] Tryz.func126 ?_;refine Vb (X2 @fW @sq) ?_;exact aE rfl rfl
def aax{most b8 n:Int}(hp:bZ b8):CG (n-most) b8=mz most b8 n:=by
 unfold CG mz bZ at *;by_cases h:n<=most
 ·rw[if_pos G3,if_pos h]
 ·rw[if_neg G3,if_neg h];split
  ·have:b8=1099511627776:=G3;subst this;omega
  ·rfl
def ajo(m:ah)(plan:List Int)(hm:VM m)(hp:PM m plan):an Tryz.prog 85 [.agg (ao m),.tree 1 (ints plan)] [] (.tree 1 (ints (mZ m plan))) []:=by
 have rX:=hm.cls;have rW:=hm.ae;have Od:=hm.ax;have Gc:=hm.iI;have dh:=hp.len;unfold mZ;generalize h1:rP m 0 plan (bG m.rules.toNat 0)=o1;generalize h2:rQ m plan m.ae o1=o2;generalize h3:rR plan m.ax o2=o3;have Ex:=je.rep Gc.1;refine an.aC 178 0 [.tmp 4] Tryz.func85 ?_;refine Vb X0 ?_;refine aO (λz:Nat×List Int=>(⟨au [(1,.tree 1 (ints plan)),(2,.ptr 0 0 0),(5,.ref 1 1 0 m.rules.toNat),(6,aaa z.1)],[.var (ao m),.arr 1 (ints z.2)]⟩:St))
  (λz=>z.1<=plan.length/\je m.rules z.2/\rP m z.1 (plan.drop z.1) z.2=o1) (λz=>plan.length-z.1) (0,bG m.rules.toNat 0) ⟨aF _,Ex,h1⟩ (Xv X0) ?_
 rintro⟨k,out⟩⟨hk,aw,hr⟩Ql ak ar;dsimp only at hk aw hr ⊢;have fX:out.length=m.rules.toNat:=by have:=aw.1;omega
 by_cases aL:k<plan.length
 ·have hd:=cN plan k 0 aL;have iG:=hp.get k aL;generalize aM:plan.getD k 0=o at *;rw[hd,rP]at hr;by_cases ho:o<0
  ·rw[if_pos ho]at hr;((repeat'(first|refine Va @aM ?_|(refine Xi ?_ ?_<;>try intro ht)|exact Xx|fail)))
   exact ak _ (k+1,out) ⟨Kw,aw,hr⟩ Kw (Xv X0)
  ·rw[if_neg ho]at hr;obtain⟨b1,b2,b3,b4⟩:=iv.1 (iG.resolve_left G3);have hl:=aB (l:=m.cls) (i:=k) (d:=default) G3;generalize dI:m.cls.getD k default=l at *;rw[Int.toNat_natCast,dI]at b4;have Oe:=aB (l:=l) (i:=o.toNat) (d:=default) G3;have fC:=hm.oB l hl _ Oe;generalize kY:l.getD o.toNat default=op at *;((repeat'(first|refine Va (X3 @aM @dI @kY) ?_|(refine Xi ?_ ?_<;>try intro ht)|exact Xx|fail)))
   generalize kh:rO op.ch out=Of at hr;have bY:=ET Gc.1 fC;refine aO (λz:Nat×List Int=>(⟨au [(1,.tree 1 (ints plan)),(2,.ptr 0 0 0),(5,.ref 1 1 0 m.rules.toNat),(6,aaa k),(7,.tree 2 (rowsOf aK op.ch)),(8,aaa z.1)],[.var (ao m),.arr 1 (ints z.2)]⟩:St))
    (λz=>z.1<=op.ch.length/\je m.rules z.2/\rO (op.ch.drop z.1) z.2=Of) (λz=>op.ch.length-z.1) (0,out) ⟨aF _,aw,kh⟩ (Xv X0) ?_
   rintro⟨j,w9⟩⟨hj,mY,fT⟩cL a7 ba;dsimp only at hj mY fT ⊢;have aay:w9.length=m.rules.toNat:=by have:=mY.1;omega
   by_cases dx:j<op.ch.length
   ·have qV:=cN op.ch j default dx;have eT:=AP fC _ (aB (d:=default) dx);generalize th:op.ch.getD j default=c at *;rw[qV,rO]at fT;obtain⟨ln,vB⟩:=eT;rw[jI,decide_eq_true_eq]at ln;have nU:=E2 (w9.getD c.1.toNat 0) c.2 (mY.get _) (mD vB);generalize ed:w9.getD c.1.toNat 0=gx at *;((repeat'(first|refine Vc (X3 @th @ed @ints_set) nU ?_|(refine Xi ?_ ?_<;>try intro ht)|exact Xx|fail)))
    refine a7 _ (j+1,fI w9 c.1 c.2) ⟨Kw,mY.add (mD vB),fT⟩ Kw ?_;unfold fI;rw[ed];exact Xs false [0,1] X0
   ·((repeat'(first|refine Va X0 ?_|(refine Xi ?_ ?_<;>try intro ht)|exact Xx|fail)))
    rw[cM G3,rO]at fT;subst fT;refine ba _ _ rfl ?_;clear a7 ba cL;repeat(refine Xu ?_)
    refine Va X0 ?_;exact ak _ (k+1,w9) ⟨Kw,mY,hr⟩ Kw (Xv X0)
 ·((repeat'(first|refine Va X0 ?_|(refine Xi ?_ ?_<;>try intro ht)|exact Xx|fail)))
  rw[cM G3,rP]at hr;subst hr;refine ar _ _ rfl ?_;clear ak ar Ql;repeat(refine Xu ?_)
  refine Vb X0 ?_;refine aO (λz:Nat×List Int=>(⟨au [(1,.tree 1 (ints plan)),(2,.ptr 0 0 0),(5,.ref 1 1 0 m.rules.toNat),(9,aaa z.1)],[.var (ao m),.arr 1 (ints z.2)]⟩:St))
   (λz=>z.1<=m.ae.length/\je m.rules z.2/\rQ m plan (m.ae.drop z.1) z.2=o2) (λz=>m.ae.length-z.1) (0,out) ⟨aF _,aw,h2⟩ (Xv X0) ?_
  clear hk aw fX aL h2;rintro⟨k,out⟩⟨hk,aw,hr⟩Ql ak ar;dsimp only at hk aw hr ⊢;have fX:out.length=m.rules.toNat:=by have:=aw.1;omega
  by_cases aL:k<m.ae.length
  ·have hd:=cN m.ae k default aL;have dJ:=jy hm.pr _ (aB (d:=default) aL);generalize aM:m.ae.getD k default=p at *;rw[hd,rQ]at hr;obtain⟨q1,q2,q3,q4,q5⟩:=m4 dJ;have g1:=hp.get p.fst.toNat G3;have g2:=hp.get p.snd.toNat G3;rw[Int.toNat_of_nonneg G3]at g1 g2;have yr:=EW dJ (plan.getD p.fst.toNat 0) (plan.getD p.snd.toNat 0);have Jy:0<=plan.getD p.fst.toNat 0->0<=plan.getD p.snd.toNat 0->an Tryz.prog 126 [.agg (ao m),.agg (aQ p),aaa (plan.getD p.fst.toNat 0),aaa (plan.getD p.snd.toNat 0)] [] (aaa (o9 m p (plan.getD p.fst.toNat 0) (plan.getD p.snd.toNat 0))) []:=λh0 h0'=>by
    have a1:=(iv.1 (g1.resolve_left G3));have a2:=(iv.1 (g2.resolve_left G3));exact ajn m p _ _ dJ hm.opt ⟨a1.2.2.1,a1.2.2.2⟩ ⟨a2.2.2.1,a2.2.2.2⟩
   generalize o9 m p (plan.getD p.fst.toNat 0) (plan.getD p.snd.toNat 0)=en at *;generalize hx:plan.getD p.fst.toNat 0=x at *;generalize hy:plan.getD p.snd.toNat 0=y at *;have nU:=E2 (out.getD p.bF.toNat 0) en (aw.get _) yr;generalize ed:out.getD p.bF.toNat 0=gx at *;by_cases oX:0<=x/\0<=y
   ·rw[if_pos oX]at hr;have Jy:=Jy oX.1 oX.2;((repeat'(first|refine Vc (X5 @aM @hx @hy @ed @ints_set) (X2 Jy nU) ?_|(refine V2 (X5 @aM @hx @hy @ed @ints_set) ?_ ?_<;>try with_reducible intro hb)|(refine Xi ?_ ?_<;>try intro ht)|exact Xx|fail)))
    refine ak _ (k+1,fI out p.bF en) ⟨Kw,aw.add yr,hr⟩ Kw ?_;unfold fI;rw[ed];exact Xs false [0,1] X0
   ·rw[if_neg oX]at hr;clear Jy;((repeat'(first|refine Va (X4 @aM @hx @hy @ed) ?_|(refine V2 (X4 @aM @hx @hy @ed) ?_ ?_<;>try with_reducible intro hb)|(refine Xi ?_ ?_<;>try intro ht)|exact Xx|fail)))
    all_goals exact ak _ (k+1,out) ⟨Kw,aw,hr⟩ Kw (Xs false [0,1] X0)
  ·((repeat'(first|refine Va X0 ?_|(refine V2 X0 ?_ ?_<;>try with_reducible intro hb)|(refine Xi ?_ ?_<;>try intro ht)|exact Xx|fail)))
   rw[cM G3,rQ]at hr;subst hr;refine ar _ _ rfl ?_;clear ak ar Ql;repeat(refine Xu ?_)
   refine Vb X0 ?_;refine aO (λz:Nat×List Int=>(⟨au [(1,.tree 1 (ints plan)),(2,.ptr 0 0 0),(5,.ref 1 1 0 m.rules.toNat),(11,aaa z.1)],[.var (ao m),.arr 1 (ints z.2)]⟩:St))
    (λz=>z.1<=m.ax.length/\je m.rules z.2/\rR plan (m.ax.drop z.1) z.2=o3) (λz=>m.ax.length-z.1) (0,out) ⟨aF _,aw,h3⟩ (Xv X0) ?_
   clear hk aw fX aL h3;rintro⟨k,out⟩⟨hk,aw,hr⟩Ql ak ar;dsimp only at hk aw hr ⊢;have fX:out.length=m.rules.toNat:=by have:=aw.1;omega
   by_cases aL:k<m.ax.length
   ·have hd:=cN m.ax k default aL;have jr:=hm.ct _ (aB (d:=default) aL);generalize aM:m.ax.getD k default=c at *;rw[hd,rR]at hr;obtain⟨q1,q2,q3,q4⟩:=nG jr;have hlen:=AQ hm q4;have ajq:=Mj (m:=m) (plan:=plan) (λx hx=>(rS q4 x hx).2) 0;have Gd:=EV (most:=c.most) (sum:=ly plan c.aJ 0) (mD q3);have Jz:=Wx (ly plan c.aJ 0-c.most) c.b8 G3 (mD q3);rw[aax (mD q3)]at Jz;generalize E':ly plan c.aJ 0=sum at *;generalize MN:mz c.most c.b8 sum=Ge at *;have nU:=E2 (out.getD c.bF.toNat 0) Ge (aw.get _) Gd;generalize ed:out.getD c.bF.toNat 0=gx at *;((repeat'(first|refine Va @aM ?_|(refine Xi ?_ ?_<;>try intro ht)|exact Xx|fail)))
    refine aO (λz:Nat×Int=>(⟨au [(1,.tree 1 (ints plan)),(2,.ptr 0 0 0),(5,.ref 1 1 0 m.rules.toNat),(11,aaa k),(12,.ptr 2 0 0),(13,aaa z.2),(14,aaa z.1)],[.var (ao m),.arr 1 (ints out),.var (aV c)]⟩:St))
     (λz=>z.1<=c.aJ.length/\0<=z.2/\z.2<=1000*z.1/\ly plan (c.aJ.drop z.1) z.2=sum) (λz=>c.aJ.length-z.1) (0,0) ⟨aF _,Int.le_refl _,Kw,E'⟩ (Xv X0) ?_
    rintro⟨j,n⟩⟨hj,eA,eF,fT⟩cL a7 ba;dsimp only at hj eA eF fT ⊢;by_cases dx:j<c.aJ.length
    ·have qV:=cN c.aJ j default dx;have qW:=rS q4 _ (aB (d:=default) dx);generalize th:c.aJ.getD j default=x at *;rw[qV,ly]at fT;obtain⟨b1,b2,b3,b4⟩:=iv.1 qW.1;have wN:=qW.2;generalize lP:plan.getD x.cls.toNat 0=px at *;((repeat'(first|refine Va (X2 @th @lP) ?_|(refine Xi ?_ ?_<;>try intro ht)|exact Xx|fail)))
     ·rw[if_pos (by assumption)]at fT;exact a7 _ (j+1,n+x.wt) ⟨Kw,Kw,Kw,fT⟩ Kw (Xs false [0,1,2] X0)
     ·rw[if_neg (by assumption)]at fT;exact a7 _ (j+1,n) ⟨Kw,Kw,Kw,fT⟩ Kw (Xs false [0,1,2] X0)
    ·((repeat'(first|refine Va X0 ?_|(refine Xi ?_ ?_<;>try intro ht)|exact Xx|fail)))
     rw[cM G3,ly]at fT;subst fT;refine ba _ _ rfl ?_;clear a7 ba cL;repeat(refine Xu ?_)
     refine Vc (X2 @ed @ints_set) (X2 Jz nU) ?_;refine ak _ (k+1,fI out c.bF Ge) ⟨Kw,aw.add Gd,hr⟩ Kw ?_;unfold fI;rw[ed];exact Xs false [0,1] X0
   ·((repeat'(first|refine Va X0 ?_|(refine Xi ?_ ?_<;>try intro ht)|exact Xx|fail)))
    rw[cM G3,rR]at hr;refine ar _ _ rfl ?_;clear ak ar Ql;repeat(refine Xu ?_)
    refine Vb X0 ?_;subst hr;refine dr [] true Kq trivial Kq Kq ?_;rw[<- fX];first|exact .pure rfl|exact .eq rfl|exact .fz rfl (by simp only[Bc,Rc])
def ahO(m:ah)(plan:List Int)(hb:MB m)(dh:plan.length<9223372036854775808):an Tryz.prog 36 [.agg (ao m),.tree 1 (ints plan)] [] (.bH [aaa (pd m plan).1,.tree 1 (ints (pd m plan).2.1),aaa (pd m plan).2.2]) []:=by
 generalize aj:pd m plan=res;unfold pd at aj;have hval:=Bf m hb;have Dg:=ajl m plan dh;by_cases hv:ek m=0;rotate_left
 ·rw[if_pos hv]at aj;subst aj;refine an.aC 37 0 [.tmp 4,.tmp 5,.tmp 6] Tryz.func36 ?_;((repeat'(first|refine Vd X0 hval ?_|(refine Xi ?_ ?_<;>try intro ht)|exact Xx|fail)))
  all_goals first|exact dr [] true Kq trivial Kq Kq (Ip (.pure rfl) aI.nil (.pure rfl))|(exfalso;omega)
 rw[if_neg G3]at aj;rw[hv]at hval;have bP:=iu.1 hv;by_cases Gf:qG m plan=true;rotate_left
 ·rw[if_pos (by simpa using Gf)]at aj;rw[show qG m plan=false by simpa using Gf]at Dg;subst aj;refine an.aC 37 0 [.tmp 4,.tmp 5,.tmp 6] Tryz.func36 ?_;((repeat'(first|refine Vd X0 (X2 hval Dg) ?_|(refine Xi ?_ ?_<;>try intro ht)|exact Xx|fail)))
  all_goals first|exact dr [] true Kq trivial Kq Kq (Ip (.pure rfl) aI.nil (.pure rfl))|(exfalso;omega)
 rw[if_neg (by simp[Gf])]at aj;rw[Gf]at Dg;have hp:=Mk Gf;have nQ:=ajo m plan bP hp;have aw:=T9 bP plan;have cB:=bP.iI;unfold CH at aj;dsimp only at aj;generalize mZ m plan=l at *;have dI:=aw.1;generalize Fu:mC l 0=cO at *;subst aj;refine an.aC 37 0 [.tmp 4,.tmp 5,.tmp 6] Tryz.func36 ?_;((repeat'(first|refine Vd X0 (X3 hval Dg nQ) ?_|(refine Xi ?_ ?_<;>try intro ht)|exact Xx|fail)))
 refine aO (λz:Nat×Int=>(⟨au [(8,.tree 1 (ints l)),(9,aaa z.2),(10,aaa z.1)],[.var (ao m)]⟩:St))
  (λz=>z.1<=l.length/\bZ z.2/\mC (l.drop z.1) z.2=cO) (λz=>l.length-z.1) (0,0) ⟨aF _,by unfold bZ;decide,Fu⟩ (Xv X0) ?_
 rintro⟨j,n⟩⟨hj,eA,fT⟩Ql ak ar;dsimp only at hj eA fT ⊢;by_cases dx:j<l.length
 ·have qV:=cN l j 0 dx;have Gg:=aw.get j;generalize th:l.getD j 0=x at *;rw[qV,mC]at fT;((repeat'(first|refine Vc @th (E2 n x eA Gg) ?_|(refine Xi ?_ ?_<;>try intro ht)|exact Xx|fail)))
  exact ak _ (j+1,fl n x) ⟨Kw,AO eA Gg,fT⟩ Kw (Xv X0)
 ·((repeat'(first|refine Va X0 ?_|(refine Xi ?_ ?_<;>try intro ht)|exact Xx|fail)))
  rw[cM G3,mC]at fT;refine ar _ _ rfl ?_;clear ak ar Ql;repeat(refine Xu ?_)
  refine Vb X0 ?_;exact aE rfl (by rw[fT])
def ajr(m:ah)(left:List (List Bool))(hm:MB m)(hb:BB left):an Tryz.prog 119 [.agg (ao m),.tree 1 (rowsOf aT left)] [] (.lit (.bool (decide (fD m left)))) []:=by
 have rX:=hm.cls;have nI:=hb.1;generalize aj:decide (fD m left)=res;refine an.aC 30 0 [.tmp 4] Tryz.func119 ?_;by_cases hl:left.length=m.cls.length;rotate_left
 ·rw[decide_eq_false (λh:fD m left=>hl h.1)]at aj;((repeat'(first|refine Va X0 ?_|(refine Xi ?_ ?_<;>try intro ht)|exact Xx|fail)))
  ((skip))
  exact aE rfl (by rw[<- aj])
 ((repeat'(first|refine Va X0 ?_|(refine Xi ?_ ?_<;>try intro ht)|exact Xx|fail)))
 refine aO (λk:Nat=>(⟨au [(1,.tree 1 (rowsOf aT left)),(2,.ptr 0 0 0),(5,aaa k)],[.var (ao m)]⟩:St)) (λk=>k<=left.length/\∀ i,i<k->(left.getD i default).length=(m.cls.getD i default).length) (λk=>left.length-k) 0 ⟨aF _,G3⟩ (Xv X0) ?_;rintro k⟨hk,hr⟩Ql ak ar;by_cases aL:k<left.length
 ·have h1:=hm.opt _ (aB (l:=m.cls) (i:=k) (d:=default) G3);have h2:=hb.2 _ (aB (d:=default) aL);generalize Dh:m.cls.getD k default=a at *;generalize nI:left.getD k default=b at *;by_cases wT:b.length=a.length
  ·((repeat'(first|refine Va (X4 @Dh @nI @a9.eq_1 @aT.eq_1) ?_|(refine Xi ?_ ?_<;>try intro ht)|exact Xx|fail)))
   exact ak _ (k+1) ⟨G3,λi hi=>by
    by_cases e:i=k
    ·subst e;rw[nI,Dh];exact wT
    ·exact hr i G3⟩ G3 (Xv X0)
  ·rw[decide_eq_false (λh:fD m left=>wT (by have:=h.2 k G3;rw[nI,Dh]at this;exact this))]at aj;((repeat'(first|refine Va (X4 @Dh @nI @a9.eq_1 @aT.eq_1) ?_|(refine Xi ?_ ?_<;>try intro ht)|exact Xx|fail)))
   repeat(refine Xu ?_)
   refine Vb X0 ?_;exact aE rfl (by rw[<- aj])
 ·rw[decide_eq_true (show fD m left from⟨hl,λi hi=>hr i G3⟩)]at aj;((repeat'(first|refine Va X0 ?_|(refine Xi ?_ ?_<;>try intro ht)|exact Xx|fail)))
  refine ar _ _ rfl ?_;clear ak ar Ql;repeat(refine Xu ?_)
  refine Vb X0 ?_;exact aE rfl (by rw[<- aj])
def NL{m:ah}{left:List (List Bool)}(hm:VM m)(hf:fD m left){c:Ct}(hc:c∈m.ax):(∀ x∈c.aJ,(0<=x.cls/\x.cls<left.length)/\1<=x.wt/\x.wt<=1000)/\0<=c.most/\bZ c.b8/\c.aJ.length<=1000000:=by
 obtain⟨_,h2,h3,h4⟩:=nG (hm.ct c hc);refine⟨λx hx=>?_,h2.1,mD h3,?_⟩
 ·obtain⟨h5,h6⟩:=rS h4 x hx;obtain⟨a,b,_,_⟩:=iv.1 h5;have:=hf.1;exact⟨⟨a,G3⟩,h6⟩
 ·have:=AQ hm h4;omega
def ajs (m:ah) (left:List (List Bool)) (c:Ct) (hm:VM m) (hf:fD m left) (hc:c∈m.ax):an Tryz.prog 125 [.agg (ao m),.tree 1 (rowsOf aT left),.agg (aV c)] [] (aaa (kT c.aJ 0 left 0 - c.most)) []:=by
  obtain ⟨q1,q2,q3,q4⟩:=NL hm hf hc
  have zo:∀ x∈c.aJ,1<=x.wt/\x.wt<=1000:=λx hx=>(q1 x hx).2
  have rX:=hm.cls
  have hl:=hf.1
  have ajt:=(nG (hm.ct c hc)).2.1
  refine an.aC 85 0 [.tmp 6] Tryz.func125 ?_
  refine Va X0 ?_
  refine aO (λi:Nat=>(⟨au [(1,.tree 1 (rowsOf aT left)),(3,.ptr 0 0 0),(5,.ptr 1 0 0),(7,aaa (kT c.aJ 0 (left.take i) 0)),(8,aaa i)],[.var (ao m),.var (aV c)]⟩:St)) (λi=>i<=left.length) (λi=>left.length - i) 0 (aF _) (Xv (X2 @ky.{0} (X2 @kT.eq_1 @kT.eq_2))) ?_
  rintro i hi Ql ak ar
  have wg:=Fa zo (left.take i)
  rw[fy] at wg
  by_cases hi':i<left.length
  · have bY:(left.getD i default).length=(m.cls.getD i default).length:=hf.2 i hi'
    have aak:=hm.opt _ (aB (l:=m.cls) (i:=i) (d:=default) G3)
    have cq:=eJ hi'
    have Bs:=YN c.aJ (left.getD i default) (left.take i) 0 0
    rw[<- cq,fy,vO G3,gf] at Bs
    generalize kT c.aJ 0 (left.take i) 0=n at *
    generalize zq:left.getD i default=row at *
    generalize cU:m.cls.getD i default=l at *
    ((repeat' (first|refine Va X0 ?_|(refine Xi ?_ ?_<;>try intro ht)|exact Xx|fail)))
    refine aO (λo:Nat=>(⟨au [(1,.tree 1 (rowsOf aT left)),(3,.ptr 0 0 0),(5,.ptr 1 0 0),(7,aaa n),(8,aaa i),(9,aaa (max (eI c.aJ i 0 (row.take o) (-1)) 0)),(10,.lit (.bool (decide (0<=eI c.aJ i 0 (row.take o) (-1))))),(11,aaa o)],[.var (ao m),.var (aV c)]⟩:St)) (λo=>o<=row.length) (λo=>row.length - o) 0 (aF _) (Xv (X2 @ky.{0} (X2 @eI.eq_1 @eI.eq_2))) ?_
    rintro o ho cL a7 ba
    have hb:=IH zo i (row.take o) 0 (-1) G3
    by_cases cy:o<row.length
    · have jg:eI c.aJ i 0 (row.take (o+1)) (-1)=if row.getD o false=true/\(eI c.aJ i 0 (row.take o) (-1)<0\/gT c.aJ i o 0<eI c.aJ i 0 (row.take o) (-1)) then gT c.aJ i o 0 else eI c.aJ i 0 (row.take o) (-1):=by
        rw[List.take_succ_eq_append_getElem cy,MQ,aG,bT cy,fy,vO G3,gf];rfl
      have hw:=AX zo i o 0 G3
      generalize eI c.aJ i 0 (row.take o) (-1)=b at *
      generalize AY:row.getD o false=is at *
      cases is with
      | false =>
        rw[if_neg G9] at jg
        ((repeat' (first|refine Va (X5 @cU @zq @AY @a9.eq_1 @aT.eq_1) ?_|(refine Xi ?_ ?_<;>try intro ht)|exact Xx|fail)))
        exact a7 _ (o+1) G3 G3 (by simp only[jg];exact Xv X0)
      | true =>
        simp only[eq_self,true_and] at jg
        ((repeat' (first|refine Va (X5 @cU @zq @AY @a9.eq_1 @aT.eq_1) ?_|(refine Xi ?_ ?_<;>try intro ht)|exact Xx|fail)))
        refine aO (λk:Nat=>(⟨au [(1,.tree 1 (rowsOf aT left)),(3,.ptr 0 0 0),(5,.ptr 1 0 0),(7,aaa n),(8,aaa i),(9,aaa (max b 0)),(10,.lit (.bool (decide (0<=b)))),(11,aaa o),(12,aaa (gT (c.aJ.take k) i o 0)),(13,aaa k)],[.var (ao m),.var (aV c)]⟩:St)) (λk=>k<=c.aJ.length) (λk=>c.aJ.length - k) 0 (aF _) (Xv (X2 @ky.{0} (X2 @gT.eq_1 @gT.eq_2))) ?_
        rintro k hk kX fJ eR
        by_cases aL:k<c.aJ.length
        · have JA:=eJ aL
          have aS:=q1 _ (aB (d:=default) aL)
          have oV:=YG (c.aJ.take k) (c.aJ.getD k default) i o 0
          rw[<- JA] at oV
          generalize gT (c.aJ.take k) i o 0=w at *
          generalize xR:c.aJ.getD k default=x at *
          ((repeat' (first|refine Va (X2 @xR @iH.eq_1) ?_|(refine V2 (X2 @xR @iH.eq_1) ?_ ?_<;>try with_reducible intro hb)|(refine Xi ?_ ?_<;>try intro ht)|exact Xx|fail)))
          all_goals
            refine fJ _ (k+1) G3 G3 ?_
            simp only[oV]
            first
              | rw[if_pos G3]
              | rw[if_neg G3]
            exact Xv X0
        · ((repeat' (first|refine Va X0 ?_|(refine V2 X0 ?_ ?_<;>try with_reducible intro hb)|(refine Xi ?_ ?_<;>try intro ht)|exact Xx|fail)))
          rw[ej G3]
          refine eR _ _ rfl ?_
          clear fJ eR kX
          repeat (refine Xu ?_)
          generalize gT c.aJ i o 0=w at *
          ((repeat' (first|refine Va X0 ?_|(refine V2 X0 ?_ ?_<;>try with_reducible intro hb)|(refine Xi ?_ ?_<;>try intro ht)|exact Xx|fail)))
          all_goals
            refine a7 _ (o+1) G3 G3 ?_
            simp only[jg]
            first
              | (rw[if_pos G3];have e1:max w 0=w:=G3
                 have e2:decide (0<=w)=true:=decide_eq_true G3
                 simp only[e1,e2];exact Xv X0)
              | (rw[if_neg G3];exact Xv X0)
    · rw[ej G3] at hb
      have ld:nK c.aJ i row=max (eI c.aJ i 0 row (-1)) 0:=rfl
      ((repeat' (first|refine Va (X3 @cU @a9.eq_1 (ej (show row.length<=o by omega))) ?_|(refine Xi ?_ ?_<;>try intro ht)|exact Xx|fail)))
      refine ba _ _ rfl ?_
      clear a7 ba cL
      repeat (refine Xu ?_)
      refine Va X0 ?_
      exact ak _ (i+1) G3 G3 (by simp only[Bs,ld];exact Xv X0)
  · ((repeat' (first|refine Va (ej (show left.length<=i by omega)) ?_|(refine Xi ?_ ?_<;>try intro ht)|exact Xx|fail)))
    refine ar _ _ rfl ?_;clear ak ar Ql
    repeat (refine Xu ?_)
    rw[ej G3] at wg
    repeat' (first|(refine Xr X0 ?_;intro K hK)|(refine hK _ ?_;clear hK K)|refine Xz ?_|(refine Xe ?_;first|refine aE rfl ?_|refine Xl ?_ ?_)|refine Xd ?_ ?_|exact Xx|fail)
def NM(x:Int):an Tryz.prog 144 [aaa x] [] (.agg (bq (fL x))) []:=by
 refine an.aC 7 0 [.cell 2 210] Tryz.func144 ?_;refine Vb X0 ?_;simp(disch:=omega)only[Ac,↓Pc,simprocAttr,bq,fL,eG];exact aE rfl rfl
def aju(l:List bV)(R:Int)(hl:l.length<=24)(fC:∀ o∈l,eH R none o.ch=true)(hlen:∀ o∈l,o.ch.length<=100):an Tryz.prog 122 [.tree 6 (rowsOf cK l)] [] (.tree 1 (ints (iy l))) []:=by
 refine an.aC 39 0 [.tmp 2] Tryz.func122 ?_;refine Vb X0 ?_;refine aO (λz:Nat×List Int=>(⟨au [(0,.tree 6 (rowsOf cK l)),(3,.ref 0 1 0 z.2.length),(4,aaa z.1)],[.arr 1 (ints z.2)]⟩:St)) (λz=>z.1<=l.length/\z.2=(iy l).take z.1) (λz=>l.length-z.1) (0,[]) ⟨aF _,rfl⟩ ?_ ?_
 ·refine ay.trans (ay.nil 3 1 (by simp only[Kc,simprocAttr]) Kq) ?_;exact Xv X0
 rintro⟨i,xs⟩⟨hi,dj⟩Ql ak ar;dsimp only at hi dj ⊢;have fX:(iy l).length=l.length:=by unfold iy;simp
 by_cases hi':i<l.length
 ·have cq:=eJ (l:=iy l) (k:=i) G3;have ux:(iy l).getD i default=sY (l.getD i default):=by
   unfold iy;rw[aG,b6,aG,bT hi'];rfl
  have fq:=aB (l:=l) (d:=default) hi';have hc:=IU (fC _ fq);have hle:=hlen _ fq;have bx:xs.length=i:=by rw[dj,fy];omega
  rw[ux,<- dj]at cq;generalize kY:l.getD i default=o at *;((repeat'(first|refine Va @kY ?_|(refine Xi ?_ ?_<;>try intro ht)|exact Xx|fail)))
  refine aO (λk:Nat=>(⟨au [(0,.tree 6 (rowsOf cK l)),(3,.ref 0 1 0 xs.length),(4,aaa i),(5,aaa (((o.ch.take k).map (·.2)).foldl fl 0)),(6,aaa k)],[.arr 1 (ints xs)]⟩:St)) (λk=>k<=o.ch.length) (λk=>o.ch.length-k) 0 (aF _) (Xv (X3 @ky.{0} @k7.{0,0} @Aa.{0,0})) ?_;rintro k hk cL a7 ba;have hs:=Fm ((o.ch.take k).map (·.2)) 0 (λx hx=>by
   obtain⟨c,iR,rfl⟩:=List.mem_map.1 hx;exact hc c (sG iR)) (by unfold bZ;decide)
  by_cases aL:k<o.ch.length
  ·have aM:=hc _ (aB (d:=default) aL);have dX:=M0 o.ch k aL;generalize ((o.ch.take k).map (·.2)).foldl fl 0=s at *;have nU:=E2 s (o.ch.getD k default).2 hs aM;generalize aS:o.ch.getD k default=x at *;((repeat'(first|refine Vc (X4 @kY @aS @cK.eq_1 @aK.eq_1) nU ?_|(refine Xi ?_ ?_<;>try intro ht)|exact Xx|fail)))
   exact a7 _ (k+1) G3 G3 (by simp only[dX];exact Xv X0)
  ·have kh:((o.ch.take k).map (·.2)).foldl fl 0=sY o:=by rw[ej G3];rfl
   rw[kh]at hs;generalize ((o.ch.take k).map (·.2)).foldl fl 0=s at *;((repeat'(first|refine Va (X2 @kY @cK.eq_1) ?_|(refine Xi ?_ ?_<;>try intro ht)|exact Xx|fail)))
   refine ba _ _ rfl ?_;clear a7 ba cL;repeat(refine Xu ?_)
   refine Va X0 ?_;refine ak _ (i+1,xs++[s]) ⟨Kw,by rw[cq,<- kh]⟩ Kw ?_;exact Xs false [2] X0
 ·rw[ej G3]at dj;subst dj;((repeat'(first|refine Va X0 ?_|(refine Xi ?_ ?_<;>try intro ht)|exact Xx|fail)))
  refine ar _ _ rfl ?_;clear ak ar Ql;repeat(refine Xu ?_)
  refine Vb X0 ?_;exact Xw true [] X0
def aaz(l:List Int)(hl:l.length<=1000):an Tryz.prog 121 [.tree 1 (ints l)] [] (.ref 0 2 0 (ep l).length) [.arr 2 (rowsOf jJ (ep l))]:=by
 refine an.aC 25 0 [.tmp 2] Tryz.func121 ?_;refine Vb X0 ?_;refine aO (λz:Nat×List Nm=>(⟨au [(0,.tree 1 (ints l)),(3,.ref 0 2 0 z.2.length),(4,aaa z.1)],[.arr 2 (rowsOf jJ z.2)]⟩:St)) (λz=>z.1<=l.length/\z.2=(ep l).take z.1) (λz=>l.length-z.1) (0,[]) ⟨aF _,rfl⟩ ?_ ?_
 ·refine ay.trans (ay.nil 3 2 (by simp only[Kc,simprocAttr]) Kq) ?_;exact Xv X0
 rintro⟨i,xs⟩⟨hi,dj⟩Ql ak ar;dsimp only at hi dj ⊢;have fX:(ep l).length=l.length:=by unfold ep;simp
 by_cases hi':i<l.length
 ·have cq:=eJ (l:=ep l) (k:=i) G3;have ux:(ep l).getD i default=fL (l.getD i 0):=by
   unfold ep;rw[aG,b6,aG,bT hi'];rfl
  have bx:xs.length=i:=by rw[dj,fy];omega
  rw[ux,<- dj]at cq;generalize kY:l.getD i 0=o at *;((repeat'(first|refine Va @kY ?_|(refine Xi ?_ ?_<;>try intro ht)|exact Xx|fail)))
  refine ak _ (i+1,xs++[fL o]) ⟨Kw,cq.symm⟩ Kw ?_;have eno:[[AV.lit (.bool (decide (o >= 1099511627776))),AV.lit (.int .i64 o)]]=rowsOf jJ [fL o]:=rfl;exact Xs false [2] (X2 @eno @LW)
 ·rw[ej G3]at dj;subst dj;((repeat'(first|refine Va X0 ?_|(refine Xi ?_ ?_<;>try intro ht)|exact Xx|fail)))
  refine ar _ _ rfl ?_;clear ak ar Ql;repeat(refine Xu ?_)
  refine Vb X0 ?_;exact Xw false [0] X0
def aaA(l:List Nm)(s:List Bool)(hl:l.length=s.length)(dI:l.length<9223372036854775808):an Tryz.prog 123 [.tree 2 (rowsOf jJ l),.tree 1 (aX s)] [] (.bH [aaa (eV l s (0,false)).1,.lit (.bool (eV l s (0,false)).2)]) []:=by
 refine an.aC 47 0 [.tmp 4,.tmp 5] Tryz.func123 ?_;refine Vb X0 ?_;refine aO (λi:Nat=>(⟨au [(0,.tree 2 (rowsOf jJ l)),(1,.tree 1 (aX s)),(6,aaa (eV (l.take i) (s.take i) (0,false)).1),(7,.lit (.bool (eV (l.take i) (s.take i) (0,false)).2)),(8,aaa i)],[]⟩:St)) (λi=>i<=l.length) (λi=>l.length-i) 0 (aF _) (Xv (X2 @ky.{0} (X2 @eV.eq_1 @eV.eq_2))) ?_;rintro i hi Ql ak ar;by_cases hi':i<l.length
 ·have h1:=eJ hi';have h2:=eJ (l:=s) (k:=i) G3;have h3:=YP (l.getD i default) (s.getD i default) (l.take i) (s.take i) (0,false) (by rw[fy,fy];omega);rw[<- h1,<- h2]at h3;have tY:s.getD i default=s.getD i false:=rfl;rw[tY]at h3;generalize eV (l.take i) (s.take i) (0,false)=b at *;generalize bL:l.getD i default=p at *;generalize Bs:s.getD i false=is at *;unfold YO at h3;obtain⟨b1,b2⟩:=b;obtain⟨p1,p2⟩:=p;dsimp only at h3 ⊢;by_cases bx:p1<b1;all_goals
   cases is<;>cases p2<;>cases b2
  all_goals
   simp[bx]at h3;((repeat'(first|refine Va (X3 @bL @Bs @jJ.eq_1) ?_|(refine Xi ?_ ?_<;>try intro ht)|exact Xx|fail)))
   all_goals
    refine ak _ (i+1) G3 G3 ?_;simp only[h3];exact Xv X0
 ·((repeat'(first|refine Va X0 ?_|(refine V2 X0 ?_ ?_<;>try with_reducible intro hb)|(refine Xi ?_ ?_<;>try intro ht)|exact Xx|fail)))
  refine ar _ _ rfl ?_;clear ak ar Ql;repeat(refine Xu ?_)
  rw[ej G3,ej G3];refine Vb X0 ?_;exact aE rfl rfl
def Z7(l:List Nm)(dI:l.length<9223372036854775808):an Tryz.prog 147 [.tree 2 (rowsOf bq l)] [] (.agg (bq (uf l))) []:=by
 refine an.aC 30 0 [.cell 2 210] Tryz.func147 ?_;refine Vb X0 ?_;refine aO (λi:Nat=>(⟨au [(2,.ptr 0 0 0),(3,.ptr 1 0 0),(7,.tree 2 (rowsOf bq l)),(8,aaa l.length),(9,aaa i)],[.var [aaa 0,.lit (.bool false)],.var (bq (uf (l.take i)))]⟩:St)) (λi=>i<=l.length) (λi=>l.length-i) 0 (aF _) (Xv @ky.{0}) ?_;rintro i hi Ql ak ar;by_cases hi':i<l.length
 ·have h1:=eJ hi';have h3:=aha (l.take i) (l.getD i default);rw[<- h1]at h3;generalize uf (l.take i)=b at *;generalize bL:l.getD i default=p at *;unfold CP at h3;obtain⟨b1,b2⟩:=b;obtain⟨p1,p2⟩:=p;dsimp only at h3 ⊢;unfold bq;dsimp only;by_cases bx:p1<b1;all_goals
   cases p2<;>cases b2
  all_goals
   simp[bx]at h3;((repeat'(first|refine Va (X2 @bL @bq.eq_1) ?_|(refine Xi ?_ ?_<;>try intro ht)|exact Xx|fail)))
   all_goals
    refine ak _ (i+1) G3 G3 ?_;simp only[h3];exact Xs false [0,1] @bq.eq_1
 ·((repeat'(first|refine Va @bq.eq_1 ?_|(refine V2 @bq.eq_1 ?_ ?_<;>try with_reducible intro hb)|(refine Xi ?_ ?_<;>try intro ht)|exact Xx|fail)))
  refine ar _ _ rfl ?_;clear ak ar Ql;repeat(refine Xu ?_)
  rw[ej G3];refine Vb @bq.eq_1 ?_;simp(disch:=omega)only[Ac,↓Pc,simprocAttr,bq,eG];exact aE rfl rfl
def ajw(m:ah)(x:Mv)(hm:VM m):an Tryz.prog 120 [.agg (ao m),.agg (bN x)] [] (.lit (.bool (j5 m x))) []:=by
 have rW:=hm.ae;have ho:=E3 m (fR m x) x.opt;generalize aj:j5 m x=res;unfold j5 at aj;unfold fR at aj ho;refine an.aC 58 0 [.tmp 4] Tryz.func120 ?_;by_cases hr:0<=x.pair/\x.pair<m.ae.length/\0<=x.side/\x.side<=1/\-268435456<=x.dO/\x.dO<=268435456
 ·rw[decide_eq_true hr,eX]at aj;generalize bL:m.ae.getD x.pair.toNat default=p at *;by_cases hs:x.side=0
  ·rw[if_pos hs]at aj ho;rw[aj]at ho;((repeat'(first|refine Vd (X3 @bL @bN.eq_1 @aQ.eq_1) ho ?_|(refine V2 (X3 @bL @bN.eq_1 @aQ.eq_1) ?_ ?_<;>try with_reducible intro hb)|(refine Xi ?_ ?_<;>try intro ht)|exact Xx|fail)))
   all_goals exact aE rfl rfl
  ·rw[if_neg hs]at aj ho;rw[aj]at ho;((repeat'(first|refine Vd (X3 @bL @bN.eq_1 @aQ.eq_1) ho ?_|(refine V2 (X3 @bL @bN.eq_1 @aQ.eq_1) ?_ ?_<;>try with_reducible intro hb)|(refine Xi ?_ ?_<;>try intro ht)|exact Xx|fail)))
   all_goals exact aE rfl rfl
 ·rw[decide_eq_false hr,jE]at aj;((repeat'(first|refine Vb (X2 @bN.eq_1 @aQ.eq_1) ?_|(refine V2 (X2 @bN.eq_1 @aQ.eq_1) ?_ ?_<;>try with_reducible intro hb)|(refine Xi ?_ ?_<;>try intro ht)|exact Xx|fail)))
  all_goals exact aE rfl (by rw[aj])
def aar{m:ah}(hm:VM m){c:List bV}(hc:c∈m.cls){o:bV}(ho:o∈c):o.ch.length<=100:=by
 have h:=hm.oB c hc o ho;have hr:=hm.iI;cases fC:o.ch with
 |nil=>simp
 |cons x r =>
  rw[fC,eH]at h;simp only[bk,decide_eq_true_eq,jI]at h;rcases Ir h.2 with rfl|h2
  ·simp
  ·simp only[List.length_cons];omega
def Dc{m:ah}{p:Pr}(hp:gL m p=true)(hm:VM m):p.aD.length<=576:=by
 unfold gL at hp;simp only[bk,decide_eq_true_eq]at hp;obtain⟨⟨_,h1,h2,h3,h4⟩,_⟩:=hp;have a:=hm.opt _ (aB (l:=m.cls) (i:=p.fst.toNat) (d:=default) G3);have b:=hm.opt _ (aB (l:=m.cls) (i:=p.snd.toNat) (d:=default) G3);have:=DN a b;have e:(p.aD.length:Int)=((m.cls.getD p.fst.toNat default).length*(m.cls.getD p.snd.toNat default).length:Nat):=by rw[h4];simp
 omega
def F4{m:ah}{p:Pr}(hp:gL m p=true):0<=p.fst/\p.fst<p.snd/\p.snd<m.cls.length/\(p.aD.length:Int)=(m.cls.getD p.fst.toNat default).length*(m.cls.getD p.snd.toNat default).length:=by
 unfold gL at hp;simp only[bk,decide_eq_true_eq]at hp;exact hp.1.2
def Jv{a k c n:Int}(ha:0<=a/\a<n)(hk:0<=k/\k<c)(hc:c<=24)(hn:n<=24):0<=a*c/\a*c<=576/\0<=a*c+k/\a*c+k<n*c:=by
 have h1:0<=a*c:=Int.mul_nonneg ha.1 G3;have h2:(a+1)*c<=n*c:=Int.mul_le_mul_of_nonneg_right G3 G3;rw[Int.add_mul]at h2;have h3:n*c<=24*24:=Int.mul_le_mul hn hc G3 G3;omega
def ajx(m:ah)(left:List (List Bool))(l:List Mv)(hm:MB m)(hb:BB left)(hl:l.length<9223372036854775808):an Tryz.prog 82 [.agg (ao m),.tree 1 (rowsOf aT left),.tree 4 (rowsOf bN l)] [] (.bH [aaa (CR m left l).1,aaa (CR m left l).2]) []:=by
 have h1:=Bf m hm;have h2:=ajr m left hm hb;generalize aj:CR m left l=res;unfold CR IT at aj;refine an.aC 342 0 [.tmp 6,.tmp 7] Tryz.func82 ?_;by_cases hv:ek m=0;rotate_left
 ·rw[if_pos (c:=ek m≠0) hv,if_pos hv]at aj;generalize ek m=e at *;subst aj;((repeat'(first|refine Vd X0 (X2 h1 h2) ?_|(refine Xi ?_ ?_<;>try intro ht)|exact Xx|fail)))
  all_goals exact aE rfl rfl
 rw[if_neg (c:=ek m≠0) (by rw[hv];simp)]at aj;rw[hv]at h1;by_cases hf:fD m left;rotate_left
 ·rw[if_neg hf,if_pos G9]at aj;rw[decide_eq_false hf]at h2;subst aj;((repeat'(first|refine Vd (X2 @bne_self_eq_false.{0} @jP) (X2 h1 h2) ?_|(refine Xi ?_ ?_<;>try intro ht)|exact Xx|fail)))
  all_goals exact aE rfl rfl
 rw[if_pos hf,if_neg G9]at aj;rw[decide_eq_true hf]at h2;have bP:=iu.1 hv;have nL:=bP.cls;have s7:=bP.ae;have Es:=bP.ax;unfold jL at aj;by_cases hlen:2000<l.length
 ·rw[if_pos hlen]at aj;subst aj;((repeat'(first|refine Vd (X2 @bne_self_eq_false.{0} @iZ) (X2 h1 h2) ?_|(refine Xi ?_ ?_<;>try intro ht)|exact Xx|fail)))
  all_goals exact aE rfl rfl
 rw[if_neg hlen]at aj;((repeat'(first|refine Vd (X2 @bne_self_eq_false.{0} @iZ) (X2 h1 h2) ?_|(refine Xi ?_ ?_<;>try intro ht)|exact Xx|fail)))
 refine aO (λi:Nat=>(⟨au [(1,.tree 1 (rowsOf aT left)),(2,.tree 4 (rowsOf bN l)),(3,.ptr 0 0 0),(9,aaa i)],[.var (ao m)]⟩:St)) (λi=>i<=l.length/\∀ x∈l.take i,j5 m x=true) (λi=>l.length-i) 0 ⟨aF _,G9⟩ (Xv X0) ?_;rintro i⟨hi,eB⟩Ql ak ar;by_cases hi':i<l.length
 ·have qQ:=ajw m (l.getD i default) bP;have cq:=eJ hi';have bJ:=aB (d:=default) hi';generalize aS:l.getD i default=x at *;by_cases hx:j5 m x=true
  ·rw[hx]at qQ;((repeat'(first|refine Vc (X3 @aS @bN.eq_1 @iZ) qQ ?_|(refine Xi ?_ ?_<;>try intro ht)|exact Xx|fail)))
   exact ak _ (i+1) ⟨G3,λy hy=>by
    rw[cq]at hy;rcases cz.1 hy with hy|hy
    ·exact eB y hy
    ·simp only[ec]at hy;subst hy;exact hx⟩ G3 (Xv X0)
  ·have cV:j5 m x=false:=by simpa using hx
   rw[cV]at qQ;rw[if_pos (by rw[List.all_eq_false];exact⟨x,bJ,hx⟩)]at aj;subst aj;((repeat'(first|refine Vc (X3 @aS @bN.eq_1 @jP) qQ ?_|(refine Xi ?_ ?_<;>try intro ht)|exact Xx|fail)))
   repeat(refine Xu ?_)
   refine Vb X0 ?_;exact aE rfl rfl
 rw[ej G3]at eB;rw[if_neg (by rw[Bool.not_eq_false];exact List.all_eq_true.2 eB)]at aj;((repeat'(first|refine Va X0 ?_|(refine Xi ?_ ?_<;>try intro ht)|exact Xx|fail)))
 refine ar _ _ rfl ?_;clear ak ar Ql;repeat(refine Xu ?_)
 refine Va X0 ?_;have ho0:([.var (ao m)]:List Ob)[0]?=some (.var (ao m)):=rfl;refine aO (λz:Nat×List Ob×Nat×List (Nat×Nat)=>(⟨au [(1,.tree 1 (rowsOf aT left)),(2,.tree 4 (rowsOf bN l)),(3,.ptr 0 0 0),(10,.ref z.2.2.1 1 0 z.2.2.2.length),(11,.lit (.slice none 0 0)),(12,aaa z.1)],z.2.1⟩:St))
  (λz=>z.1<=m.cls.length/\z.2.2.2.length=z.1/\z.2.1[0]?=some (.var (ao m))/\z.2.1[z.2.2.1]?=some (.arr 1 (rowsOf cS z.2.2.2))/\RI jJ z.2.1 z.2.2.2 ((S0 m).take z.1)/\(z.2.2.2.map (·.1)).Nodup)
  (λz=>m.cls.length-z.1) (0,[.var (ao m),.arr 1 []],1,[]) ⟨aF _,rfl,rfl,rfl,by rw[ky];exact RI.nil,G9⟩ ?_ ?_
 ·refine ay.trans (ay.nil 10 1 (by simp only[Kc,simprocAttr]) Kq) ?_;exact Xv X0
 clear hi hi' ho0;rintro⟨i,os,ai,D⟩⟨hi,hD,f0,fa,hR,b7⟩Ql ak ar;dsimp only at hi hD f0 fa hR b7 ⊢;have e0:=bf f0;have ea:=bf fa;have sa:=gz fa;by_cases hi':i<m.cls.length
 ·have eT:=aB (d:=default) hi';have sh:=bP.opt _ eT;have ajz:=aju (m.cls.getD i default) m.rules sh (bP.oB _ eT) (λo ho=>aar bP eT ho);have Og:=aaz (iy (m.cls.getD i default)) (by unfold iy;rw[eO];omega);generalize aM:m.cls.getD i default=c at *;((repeat'(first|refine Vc (X5 @f0 @fa @e0 @ea (X3 @aM @a9.eq_1 @cD)) ajz ?_|(refine Xi ?_ ?_<;>try intro ht)|exact Xx|fail))<;>try with_reducible intro K hK)
  refine ez [] Og G9 trivial ⟨.pure rfl,trivial⟩ ?_;have Oh:(0:Nat)≠ai:=λe=>by rw[<- e,f0]at fa;cases fa
  obtain⟨g1,g2,g3,g4⟩:=RI.step fa G9 hR b7 (ep (iy c)) (.arr 1 [[.ref os.length 2 0 (ep (iy c)).length]]) (.arr 1 (rowsOf cS (D++[(os.length,(ep (iy c)).length)])));have cq:(S0 m).take (i+1)=(S0 m).take i++[ep (iy c)]:=by
   rw[eJ (by unfold S0;rw[eO];exact hi')];unfold S0;rw[kU _ _ _ hi',aM]
  ((try revert hK K);((refine Va (X5 @f0 @fa @e0 @ea (X5 @sa @aM @a9.eq_1 @cD (X5 @cY.{0} @jv @iY @IX (X2 @bQ.{0} @bw.{0})))) ?_)))
  refine ak _ (i+1,_,os.length+2,D++[(os.length,(ep (iy c)).length)]) ⟨Kw,PX,g4 _ _ f0 Oh,g1,by rw[cq];exact g2,g3⟩ Kw ?_;exact Xv X0
 rw[ej (by unfold S0;rw[eO];omega)]at hR;have Bo:D.length=m.cls.length:=G3;((repeat'(first|refine Va (X4 @f0 @fa @e0 @ea) ?_|(refine Xi ?_ ?_<;>try intro ht)|exact Xx|fail)))
 refine ar _ _ rfl ?_;clear ak ar Ql;repeat(refine Xu ?_)
 refine Va (X2 @f0 @fa) ?_;clear hi hi' hD e0 ea sa;have fb0:(os++[Ob.arr 1 []])[os.length]?=some (.arr 1 (rowsOf cS [])):=by rw[kj];rfl
 refine aO (λz:Nat×List Ob×Nat×List (Nat×Nat)=>(⟨au [(1,.tree 1 (rowsOf aT left)),(2,.tree 4 (rowsOf bN l)),(3,.ptr 0 0 0),(10,.ref ai 1 0 D.length),(11,.ref z.2.2.1 1 0 z.2.2.2.length),(13,aaa z.1)],z.2.1⟩:St))
  (λz=>z.1<=m.ae.length/\z.2.2.2.length=z.1/\z.2.1[0]?=some (.var (ao m))/\z.2.1[ai]?=some (.arr 1 (rowsOf cS D))/\z.2.1[z.2.2.1]?=some (.arr 1 (rowsOf cS z.2.2.2))/\z.2.2.1≠ai/\RI jJ z.2.1 D (S0 m)/\RI jJ z.2.1 z.2.2.2 ((T0 m).take z.1)/\((D++z.2.2.2).map (·.1)).Nodup)
  (λz=>m.ae.length-z.1) (0,os++[.arr 1 []],os.length,[]) ⟨aF _,rfl,bf f0 _,bf fa _,fb0,λe=>by have h2:=(aY.1 fa).1;dsimp only at e;omega,hR.app _,by rw[ky];exact RI.nil,by simpa using b7⟩ ?_ ?_
 ·refine ay.trans (ay.nil 11 1 (by simp only[Kc,simprocAttr]) Kq) ?_;exact Xv X0
 clear f0 fa hR b7 fb0 os;rintro⟨i,os,bi,E⟩⟨hi,hE,f0,fa,fb,wT,Gi,Gj,b7⟩Ql ak ar;dsimp only at hi hE f0 fa fb wT Gi Gj b7 ⊢;have e0:=bf f0;have eb:=bf fb;have sb:=gz fb;by_cases hi':i<m.ae.length
 ·have wR:=jy bP.pr _ (aB (d:=default) hi');have mJ:=(Dc wR bP);have Og:=aaz (m.ae.getD i default).aD G3;have Oh:(0:Nat)≠bi:=λe=>by rw[<- e,f0]at fb;cases fb
  rw[gG,vW]at b7;obtain⟨g1,g2,g3,g4⟩:=RI.step fb G9 Gj b7.2.1 (ep (m.ae.getD i default).aD) (.arr 1 [[.ref os.length 2 0 (ep (m.ae.getD i default).aD).length]]) (.arr 1 (rowsOf cS (E++[(os.length,(ep (m.ae.getD i default).aD).length)])));have cq:(T0 m).take (i+1)=(T0 m).take i++[ep (m.ae.getD i default).aD]:=by
   rw[eJ (by unfold T0;rw[eO];exact hi')];unfold T0;rw[kU _ _ _ hi']
  have ajA:=(Gi.kill (y:=.gone) fb G9).app [.arr 2 (rowsOf jJ (ep (m.ae.getD i default).aD)),.arr 1 [[.ref os.length 2 0 (ep (m.ae.getD i default).aD).length]],.arr 1 (rowsOf cS (E++[(os.length,(ep (m.ae.getD i default).aD).length)]))];have ajB:((D++(E++[(os.length,(ep (m.ae.getD i default).aD).length)])).map (·.1)).Nodup:=by
   rw[gG,vW];refine⟨b7.1,g3,λa ha b hb=>?_⟩;rw[gG,cz]at hb;rcases hb with hb|hb
   ·exact b7.2.2 a ha b hb
   ·simp only[List.map_cons,k7,ec]at hb;subst hb;exact λe=>Gi.fresh (Nat.le_refl _) (e▸ha)
  have fal:=(aY.1 fa).1;generalize bL:m.ae.getD i default=p at *;((repeat'(first|refine Va (X5 @f0 @fb @e0 @eb (X3 @bL @aQ.eq_1 @cD)) ?_|(refine Xi ?_ ?_<;>try intro ht)|exact Xx|fail))<;>try with_reducible intro K hK)
  refine ez [] Og G9 trivial ⟨.pure rfl,trivial⟩ ?_;((try revert hK K);((refine Va (X5 @f0 @fb @e0 @eb (X5 @sb @bL @aQ.eq_1 @cD (X5 @cY.{0} @jv @iY @IX (X2 @bQ.{0} @bw.{0})))) ?_)))
  refine ak _ (i+1,_,os.length+2,E++[(os.length,(ep p.aD).length)]) ⟨Kw,PX,g4 _ _ f0 Oh,g4 _ _ fa wT.symm,g1,Kw,ajA,by rw[cq];exact g2,ajB⟩ Kw ?_;exact Xv X0
 rw[ej (by unfold T0;rw[eO];omega)]at Gj;have hEl:E.length=m.ae.length:=G3;((repeat'(first|refine Va (X4 @f0 @fa @e0 @eb) ?_|(refine Xi ?_ ?_<;>try intro ht)|exact Xx|fail)))
 refine ar _ _ rfl ?_;clear ak ar Ql;repeat(refine Xu ?_)
 refine Va (X2 @f0 @fa) ?_;clear hi hi' hE e0 eb sb;have jq:LO jJ [(0,.var (ao m)),(ai,.arr 1 (rowsOf cS D)),(bi,.arr 1 (rowsOf cS E))] D E (S0 m) (T0 m) os:=⟨λb hb=>by
  simp only[cu,jQ,or_false]at hb;rcases hb with rfl|rfl|rfl
  ·exact⟨f0,G9⟩
  ·exact⟨fa,G9⟩
  ·exact⟨fb,G9⟩,Gi,Gj,b7⟩
 refine aO (λz:Nat×List Ob=>(⟨au [(1,.tree 1 (rowsOf aT left)),(2,.tree 4 (rowsOf bN l)),(3,.ptr 0 0 0),(10,.ref ai 1 0 D.length),(11,.ref bi 1 0 E.length),(14,aaa z.1)],z.2⟩:St))
  (λz=>z.1<=l.length/\LO jJ [(0,.var (ao m)),(ai,.arr 1 (rowsOf cS D)),(bi,.arr 1 (rowsOf cS E))] D E (j7 m (l.take z.1) (S0 m,T0 m)).1 (j7 m (l.take z.1) (S0 m,T0 m)).2 z.2)
  (λz=>l.length-z.1) (0,os) ⟨aF _,jq⟩ (Xv X0) ?_
 clear f0 fa fb Gi Gj b7 jq os;rintro⟨i,os⟩⟨hi,jq⟩Ql ak ar;dsimp only at hi jq ⊢;have f0:=(jq.base (0,.var (ao m)) G9).1;have fa:=(jq.base (ai,.arr 1 (rowsOf cS D)) G9).1;have fb:=(jq.base (bi,.arr 1 (rowsOf cS E)) G9).1;have e0:=bf f0;have ea:=bf fa;have eb:=bf fb;dsimp only at f0 fa fb e0 ea eb;by_cases hi':i<l.length
 ·have sq:=aB (d:=default) hi';have oY:=eB _ sq;have cq:j7 m (l.take (i+1)) (S0 m,T0 m)=kl m (l.getD i default) (j7 m (l.take i) (S0 m,T0 m)):=by rw[eJ hi',YR]
  have jO:=I2 bP (l.take i) (λx hx=>eB x (sG hx));rw[fy,vO G3]at jO;generalize j7 m (l.take i) (S0 m,T0 m)=g at *;generalize aS:l.getD i default=x at *;have Oi:=oY;unfold j5 at Oi;rw[bk,decide_eq_true_eq]at Oi;obtain⟨⟨x1,x2,x3,x4,x5,x6⟩,l5⟩:=Oi;obtain⟨o1,o2,o3,o4⟩:=iv.1 l5;have dJ:=jy bP.pr _ (aB (l:=m.ae) (i:=x.pair.toNat) (d:=default) G3);obtain⟨NR,NS,NT,F5⟩:=F4 dJ;have hlF:=bP.opt _ (aB (l:=m.cls) (i:=(m.ae.getD x.pair.toNat default).fst.toNat) (d:=default) G3);have hlS:=bP.opt _ (aB (l:=m.cls) (i:=(m.ae.getD x.pair.toNat default).snd.toNat) (d:=default) G3);obtain⟨td,F6⟩:=jq.rE.row x.pair.toNat G3;obtain⟨mN,zF⟩:=jq.rD.row (fR m x).toNat G3;have qe:=bf td;have qd:=bf mN;have w5:=jO.sl (fR m x).toNat G3;have s8:=jO.tl x.pair.toNat G3;have aoe:(List.getD E x.pair.toNat default).1=(List.getD E x.pair.toNat default).1:=rfl;by_cases hs:x.side=0
  ·have hc:fR m x=(m.ae.getD x.pair.toNat default).fst:=by unfold fR;rw[if_pos hs]
   rw[hc]at mN zF qd w5 o1 o2 o4;have sd:=gz mN;have oW:=(ug jO.sb (m.ae.getD x.pair.toNat default).fst.toNat).get G3 x.opt.toNat;have hF:pg m x=(λk:Nat=>(x.opt*(m.cls.getD (m.ae.getD x.pair.toNat default).snd.toNat default).length+k).toNat,(m.cls.getD (m.ae.getD x.pair.toNat default).snd.toNat default).length):=by unfold pg;rw[if_pos hs]
   have yo:kl m x g=(g.1.set (m.ae.getD x.pair.toNat default).fst.toNat (j6 (g.1.getD (m.ae.getD x.pair.toNat default).fst.toNat default) x.opt.toNat x.dO),g.2.set x.pair.toNat (iz (pg m x).1 x.dO (pg m x).2 (g.2.getD x.pair.toNat default))):=by unfold kl;rw[hc]
   have Dd:=(jq.M4 (j:=(m.ae.getD x.pair.toNat default).fst.toNat) G3 (r:=j6 (g.1.getD (m.ae.getD x.pair.toNat default).fst.toNat default) x.opt.toNat x.dO) (yd _ _ _)).vars (bw ..) (.var (bN x)) (.var (aQ (m.ae.getD x.pair.toNat default))) G9 G9;generalize bL:m.ae.getD x.pair.toNat default=p at *;generalize F7:(m.cls.getD p.snd.toNat default).length=dT at *;((repeat'(first|refine Va (X5 @f0 @fa @fb @e0 (X5 @ea @eb @aS @bL (X5 @F7 @bN.eq_1 @aQ.eq_1 @a9.eq_1 (X5 @cS.eq_1 @jJ.eq_1 @td @mN (X5 @qe @qd @sd @cD (X5 @IZ @cY.{0} @jv @iY @bQ.{0})))))) ?_|(refine Xi ?_ ?_<;>try intro ht)|exact Xx|fail)))
   rw[hF]at yo;dsimp only at yo;refine aO (λz:Nat×List Ob=>(⟨au [(1,.tree 1 (rowsOf aT left)),(2,.tree 4 (rowsOf bN l)),(3,.ptr 0 0 0),(10,.ref ai 1 0 D.length),(11,.ref bi 1 0 E.length),(14,aaa i),(15,.ptr os.length 0 0),(18,aaa dT),(19,.ref (E.getD x.pair.toNat default).1 2 0 (E.getD x.pair.toNat default).2),(20,aaa z.1)],z.2⟩:St))
    (λz=>z.1<=dT/\LO jJ ((os.length,.var (bN x))::(os.length+1,.var (aQ p))::[(0,.var (ao m)),(ai,.arr 1 (rowsOf cS D)),(bi,.arr 1 (rowsOf cS E))]) D E (g.1.set p.fst.toNat (j6 (g.1.getD p.fst.toNat default) x.opt.toNat x.dO)) (g.2.set x.pair.toNat (iz (λk:Nat=>(x.opt*dT+k).toNat) x.dO z.1 (g.2.getD x.pair.toNat default))) z.2)
    (λz=>dT-z.1) (0,_) ⟨aF _,by rw[iz,Fo];exact Dd⟩ (Xv X0) ?_
   rintro⟨k,ok⟩⟨hk,kZ⟩cL a7 ba;dsimp only at hk kZ ⊢;have fx:=(kZ.base (os.length,.var (bN x)) G9).1;dsimp only at fx;obtain⟨tg,Br⟩:=kZ.rE.row x.pair.toNat G3;have w6:x.pair.toNat<g.2.length:=by rw[jO.t];omega
   rw[vr _ _ _ w6]at tg Br;have fA:=A7 (λk:Nat=>(x.opt*dT+k).toNat) x.dO k (g.2.getD x.pair.toNat default);have I6:=((ug jO.tb x.pair.toNat).sub G3 (λk:Nat=>(x.opt*dT+k).toNat) (a:=x.dO) G3 k).get G3 (x.opt*dT+k:Int).toNat;by_cases aL:k<dT
   ·have pt:=kZ.IY (j:=x.pair.toNat) G3 (r:=j6 (iz (λk:Nat=>(x.opt*dT+k).toNat) x.dO k (g.2.getD x.pair.toNat default)) (x.opt*dT+k:Int).toNat (-x.dO)) (by rw[vr _ _ _ w6];exact yd _ _ _);rw[vY]at pt;obtain⟨NX,NY,NZ,N0⟩:=Jv (a:=x.opt) (k:=(k:Int)) (c:=(dT:Int)) (n:=((m.cls.getD p.fst.toNat default).length:Int)) ⟨o3,o4⟩ G3 G3 G3;generalize vy:(x.opt*dT+k:Int)=ix at *;generalize jg:iz (λk:Nat=>(x.opt*dT+k).toNat) x.dO k (g.2.getD x.pair.toNat default)=tk at *;((repeat'(first|refine Va (X5 @fx @aS @tg @bN.eq_1 (X4 @jJ.eq_1 @IZ @vy @Int.sub_eq_add_neg)) ?_|(refine Xi ?_ ?_<;>try intro ht)|exact Xx|fail)))
    refine a7 _ (k+1,_) ⟨Kw,by rw[iz,jg,vy];exact pt⟩ Kw ?_;exact Xv X0
   ·have vz:k=dT:=G3;rw[vz]at kZ;((repeat'(first|refine Va X0 ?_|(refine Xi ?_ ?_<;>try intro ht)|exact Xx|fail)))
    refine ba _ _ rfl ?_;clear a7 ba cL;repeat(refine Xu ?_)
    refine Va X0 ?_;refine ak _ (i+1,_) ⟨Kw,by rw[cq,yo];exact kZ.sub G9⟩ Kw ?_;exact Xv X0
  ·have hc:fR m x=(m.ae.getD x.pair.toNat default).snd:=by unfold fR;rw[if_neg hs]
   rw[hc]at mN zF qd w5 o1 o2 o4;have sd:=gz mN;have oW:=(ug jO.sb (m.ae.getD x.pair.toNat default).snd.toNat).get G3 x.opt.toNat;have hF:pg m x=(λk:Nat=>((k:Int)*(m.cls.getD (m.ae.getD x.pair.toNat default).snd.toNat default).length+x.opt).toNat,(m.cls.getD (m.ae.getD x.pair.toNat default).fst.toNat default).length):=by unfold pg;rw[if_neg hs]
   have yo:kl m x g=(g.1.set (m.ae.getD x.pair.toNat default).snd.toNat (j6 (g.1.getD (m.ae.getD x.pair.toNat default).snd.toNat default) x.opt.toNat x.dO),g.2.set x.pair.toNat (iz (pg m x).1 x.dO (pg m x).2 (g.2.getD x.pair.toNat default))):=by unfold kl;rw[hc]
   have Dd:=(jq.M4 (j:=(m.ae.getD x.pair.toNat default).snd.toNat) G3 (r:=j6 (g.1.getD (m.ae.getD x.pair.toNat default).snd.toNat default) x.opt.toNat x.dO) (yd _ _ _)).vars (bw ..) (.var (bN x)) (.var (aQ (m.ae.getD x.pair.toNat default))) G9 G9;generalize bL:m.ae.getD x.pair.toNat default=p at *;generalize F7:(m.cls.getD p.snd.toNat default).length=dT at *;generalize NV:(m.cls.getD p.fst.toNat default).length=rows at *;((repeat'(first|refine Va (X5 @f0 @fa @fb @e0 (X5 @ea @eb @aS @bL (X5 @F7 @NV @bN.eq_1 @aQ.eq_1 (X5 @a9.eq_1 @cS.eq_1 @jJ.eq_1 @td (X5 @mN @qe @qd @sd (X5 @cD @IZ @cY.{0} @jv (X2 @iY @bQ.{0}))))))) ?_|(refine Xi ?_ ?_<;>try intro ht)|exact Xx|fail)))
   rw[hF]at yo;dsimp only at yo;refine aO (λz:Nat×List Ob=>(⟨au [(1,.tree 1 (rowsOf aT left)),(2,.tree 4 (rowsOf bN l)),(3,.ptr 0 0 0),(10,.ref ai 1 0 D.length),(11,.ref bi 1 0 E.length),(14,aaa i),(15,.ptr os.length 0 0),(17,aaa rows),(18,aaa dT),(19,.ref (E.getD x.pair.toNat default).1 2 0 (E.getD x.pair.toNat default).2),(21,aaa z.1)],z.2⟩:St))
    (λz=>z.1<=rows/\LO jJ ((os.length,.var (bN x))::(os.length+1,.var (aQ p))::[(0,.var (ao m)),(ai,.arr 1 (rowsOf cS D)),(bi,.arr 1 (rowsOf cS E))]) D E (g.1.set p.snd.toNat (j6 (g.1.getD p.snd.toNat default) x.opt.toNat x.dO)) (g.2.set x.pair.toNat (iz (λk:Nat=>((k:Int)*dT+x.opt).toNat) x.dO z.1 (g.2.getD x.pair.toNat default))) z.2)
    (λz=>rows-z.1) (0,_) ⟨aF _,by rw[iz,Fo];exact Dd⟩ (Xv X0) ?_
   rintro⟨k,ok⟩⟨hk,kZ⟩cL a7 ba;dsimp only at hk kZ ⊢;have fx:=(kZ.base (os.length,.var (bN x)) G9).1;dsimp only at fx;obtain⟨tg,Br⟩:=kZ.rE.row x.pair.toNat G3;have w6:x.pair.toNat<g.2.length:=by rw[jO.t];omega
   rw[vr _ _ _ w6]at tg Br;have fA:=A7 (λk:Nat=>((k:Int)*dT+x.opt).toNat) x.dO k (g.2.getD x.pair.toNat default);have I6:=((ug jO.tb x.pair.toNat).sub G3 (λk:Nat=>((k:Int)*dT+x.opt).toNat) (a:=x.dO) G3 k).get G3 ((k:Int)*dT+x.opt).toNat;by_cases aL:k<rows
   ·have pt:=kZ.IY (j:=x.pair.toNat) G3 (r:=j6 (iz (λk:Nat=>((k:Int)*dT+x.opt).toNat) x.dO k (g.2.getD x.pair.toNat default)) ((k:Int)*dT+x.opt).toNat (-x.dO)) (by rw[vr _ _ _ w6];exact yd _ _ _);rw[vY]at pt;obtain⟨NX,NY,NZ,N0⟩:=Jv (a:=(k:Int)) (k:=x.opt) (c:=(dT:Int)) (n:=(rows:Int)) G3 ⟨o3,o4⟩ G3 G3;generalize vy:((k:Int)*dT+x.opt)=ix at *;generalize jg:iz (λk:Nat=>((k:Int)*dT+x.opt).toNat) x.dO k (g.2.getD x.pair.toNat default)=tk at *;((repeat'(first|refine Va (X5 @fx @aS @tg @bN.eq_1 (X4 @jJ.eq_1 @IZ @vy @Int.sub_eq_add_neg)) ?_|(refine Xi ?_ ?_<;>try intro ht)|exact Xx|fail)))
    refine a7 _ (k+1,_) ⟨Kw,by rw[iz,jg,vy];exact pt⟩ Kw ?_;exact Xv X0
   ·have vz:k=rows:=G3;rw[vz]at kZ;((repeat'(first|refine Va X0 ?_|(refine Xi ?_ ?_<;>try intro ht)|exact Xx|fail)))
    refine ba _ _ rfl ?_;clear a7 ba cL;repeat(refine Xu ?_)
    refine Va X0 ?_;refine ak _ (i+1,_) ⟨Kw,by rw[cq,yo];exact kZ.sub G9⟩ Kw ?_;exact Xv X0
 rw[ej G3]at jq;have jO:=I2 bP l eB;have aof:l.length<=2000:=G3;generalize j7 m l (S0 m,T0 m)=g at *;have Di:(∀ r∈g.1,NB mH r)/\∀ r∈g.2,NB mH r:=⟨λr hr=>(jO.sb r hr).mono (by unfold mH;omega),λr hr=>(jO.tb r hr).mono (by unfold mH;omega)⟩;((repeat'(first|refine Va @f0 ?_|(refine Xi ?_ ?_<;>try intro ht)|exact Xx|fail)))
 refine ar _ _ rfl ?_;clear ak ar Ql;repeat(refine Xu ?_)
 refine Va @f0 ?_;have fK:=hf.1;refine aO (λi:Nat=>(⟨au [(1,.tree 1 (rowsOf aT left)),(3,.ptr 0 0 0),(10,.ref ai 1 0 D.length),(11,.ref bi 1 0 E.length),(22,aaa (ca (PC left g.1 i) (0,false)).1),(23,.lit (.bool (ca (PC left g.1 i) (0,false)).2)),(24,aaa i)],os⟩:St))
  (λi=>i<=m.cls.length) (λi=>m.cls.length-i) 0 (aF _) (Xv (X5 @PC.eq_1 @ca.eq_1 @PV @k7.{0,0} @Aa.{0,0})) ?_
 rintro i hi Ql ak ar;by_cases hi':i<m.cls.length
 ·have jN:=zz _ (0,false) (M5 (left:=left) (by unfold mH;decide) Di.1 i);rw[CT]at jN;have hlen:=hf.2 i G3;have cZ:=jO.sl i hi';have jo:=aaA (g.1.getD i default) (left.getD i default) G3 (by have:=bP.opt _ (aB (d:=default) hi');omega);have mX:=Fp (g.1.getD i default) (left.getD i default) (0,false) (ug Di.1 i) (by unfold mH;decide);have dX:ca (PC left g.1 (i+1)) (0,false)=((ca (PC left g.1 i) (0,false)).1+(eV (g.1.getD i default) (left.getD i default) (0,false)).1,(ca (PC left g.1 i) (0,false)).2||!(eV (g.1.getD i default) (left.getD i default) (0,false)).2):=by
   rw[show PC left g.1 (i+1)=PC left g.1 i++[eV (g.1.getD i default) (left.getD i default) (0,false)] from zy _ i,CS]
  obtain⟨mN,zF⟩:=jq.rD.row i G3;generalize ca (PC left g.1 i) (0,false)=z at *;obtain⟨z1,z2⟩:=z;generalize eV (g.1.getD i default) (left.getD i default) (0,false)=q at *;obtain⟨q1,q2⟩:=q;unfold mH at jN mX;dsimp only at *;generalize dI:left.getD i default=ll at *;((repeat'(first|refine Va (X5 @f0 @fa @mN @cS.eq_1 (X2 @dI @aT.eq_1)) ?_|(refine Xi ?_ ?_<;>try intro ht)|exact Xx|fail))<;>try with_reducible intro K hK)
  cases z2<;>cases q2;all_goals
   refine pI [] jo G9 trivial ⟨aI.fz mN (by rw[bX];exact zF.symm) G9,.pure rfl,trivial⟩ rfl G9 ?_;((try revert hK K);(repeat'(first|refine Va (X4 @f0 @fa @iZ @jP) ?_|fail)))
   refine ak _ (i+1) G3 G3 ?_;simp only[dX];exact Xv X0
 have Jl:i=m.cls.length:=G3;rw[Jl];have JB:=zz _ (0,false) (M5 (left:=left) (by unfold mH;decide) Di.1 m.cls.length);rw[CT]at JB;unfold r8 at aj;generalize ca (PC left g.1 m.cls.length) (0,false)=zc at *;((repeat'(first|refine Va @f0 ?_|(refine Xi ?_ ?_<;>try intro ht)|exact Xx|fail)))
 refine ar _ _ rfl ?_;clear ak ar Ql;repeat(refine Xu ?_)
 refine Va @f0 ?_;clear hi hi';have aaC:LO jJ [(0,.var (ao m)),(bi,.arr 1 (rowsOf cS E))] D E g.1 g.2 os:=jq.sub G9;refine aO (λz:Nat×List Ob=>(⟨au [(1,.tree 1 (rowsOf aT left)),(3,.ptr 0 0 0),(11,.ref bi 1 0 E.length),(22,aaa (ca (PP m left g.2 z.1) zc).1),(23,.lit (.bool (ca (PP m left g.2 z.1) zc).2)),(27,aaa z.1)],z.2⟩:St))
  (λz=>z.1<=m.ae.length/\LO jJ [(0,.var (ao m)),(bi,.arr 1 (rowsOf cS E))] D E g.1 g.2 z.2) (λz=>m.ae.length-z.1) (0,os) ⟨aF _,aaC⟩ (Xv (X5 @PP.eq_1 @ca.eq_1 @PV @k7.{0,0} @Aa.{0,0})) ?_
 clear jq aaC f0 fa fb e0 ea eb os;rintro⟨i,os⟩⟨hi,jq⟩Ql ak ar;dsimp only at hi jq ⊢;have f0:=(jq.base (0,.var (ao m)) G9).1;have fb:=(jq.base (bi,.arr 1 (rowsOf cS E)) G9).1;dsimp only at f0 fb;have e0:=bf f0;have eb:=bf fb;by_cases hi':i<m.ae.length
 ·have dJ:=jy bP.pr _ (aB (d:=default) hi');obtain⟨NR,NS,NT,F5⟩:=F4 dJ;have jN:=zz _ zc (M6 (m:=m) (left:=left) (by unfold mH;decide) Di.2 i);rw[Fq]at jN;have dX:ca (PP m left g.2 (i+1)) zc=((ca (PP m left g.2 i) zc).1+(eV (g.2.getD i default) (jK m left i) (0,false)).1,(ca (PP m left g.2 i) zc).2||!(eV (g.2.getD i default) (jK m left i) (0,false)).2):=by
   rw[show PP m left g.2 (i+1)=PP m left g.2 i++[eV (g.2.getD i default) (jK m left i) (0,false)] from zy _ i,CS]
  have mX:=Fp (g.2.getD i default) (jK m left i) (0,false) (ug Di.2 i) (by unfold mH;decide);have Bt:=hf.2 (m.ae.getD i default).fst.toNat G3;have vA:=hf.2 (m.ae.getD i default).snd.toNat G3;have hoa:=bP.opt _ (aB (l:=m.cls) (i:=(m.ae.getD i default).fst.toNat) (d:=default) G3);have a8:=bP.opt _ (aB (l:=m.cls) (i:=(m.ae.getD i default).snd.toNat) (d:=default) G3);have cZ:=jO.tl i hi';have w7:(g.2.getD i default).length=(jK m left i).length:=by
   unfold jK;rw[Fs,Bt,vA,cZ];have:=F5;rw[<- Int.natCast_mul]at this;exact Int.ofNat_inj.1 this
  have mJ:=Dc dJ bP;have jo:=aaA (g.2.getD i default) (jK m left i) w7 G3;have Oa:jK m left i=rZ (left.getD (m.ae.getD i default).fst.toNat default) (left.getD (m.ae.getD i default).snd.toNat default):=rfl;generalize eV (g.2.getD i default) (jK m left i) (0,false)=q at *;generalize ca (PP m left g.2 i) zc=z at *;generalize jK m left i=pb at *;generalize bL:m.ae.getD i default=p at *;generalize F9:left.getD p.fst.toNat default=la at *;generalize Ga:left.getD p.snd.toNat default=lb at *;obtain⟨z1,z2⟩:=z;obtain⟨q1,q2⟩:=q;unfold mH at jN mX JB;dsimp only at dX jN mX jo ⊢;((repeat'(first|refine Va (X4 @f0 @fb @bL @cD) ?_|(refine Xi ?_ ?_<;>try intro ht)|exact Xx|fail)))
  have hLv:LO jJ ((os.length,.var (aQ p))::[(0,.var (ao m)),(bi,.arr 1 (rowsOf cS E))]) D E g.1 g.2 ((os++[.var (aQ p)])++[.arr 1 []]):=((jq.app _).app _).add (bf (kj _ _ _) _) G9;refine aO (λy:Nat×List Ob×Nat×List Bool=>(⟨au [(1,.tree 1 (rowsOf aT left)),(3,.ptr 0 0 0),(11,.ref bi 1 0 E.length),(22,aaa z1),(23,.lit (.bool z2)),(27,aaa i),(28,.ptr os.length 0 0),(29,.ref y.2.2.1 1 0 y.2.2.2.length),(30,aaa y.1)],y.2.1⟩:St))
   (λy=>y.1<=la.length/\LO jJ ((os.length,.var (aQ p))::[(0,.var (ao m)),(bi,.arr 1 (rowsOf cS E))]) D E g.1 g.2 y.2.1/\y.2.1[y.2.2.1]?=some (.arr 1 (aX y.2.2.2))/\os.length<y.2.2.1/\y.2.2.2=rZ (la.take y.1) lb)
   (λy=>la.length-y.1) (0,(os++[.var (aQ p)])++[.arr 1 []],(os++[Ob.var (aQ p)]).length,[]) ⟨aF _,hLv,kj _ _ _,G9,rfl⟩ ?_ ?_
  ·refine ay.trans (ay.nil 29 1 (by simp only[Kc,simprocAttr]) Kq) ?_;exact Xv X0
  clear hLv;rintro⟨a,oy,ti,bs⟩⟨ha,Dj,fS,lC,lH⟩cL a7 ba;dsimp only at ha Dj fS lC lH ⊢;have fp:=(Dj.base (os.length,.var (aQ p)) G9).1;have fby:=(Dj.base (bi,.arr 1 (rowsOf cS E)) G9).1;have bil:=(aY.1 fb).1;have osl:=(aY.1 f0).1;dsimp only at fp fby
  by_cases m7:a<la.length
  ·((repeat'(first|refine Va (X5 @fp @bL @F9 @aT.eq_1 @aQ.eq_1) ?_|(refine Xi ?_ ?_<;>try intro ht)|exact Xx|fail)))
   have hta:=eJ m7;refine aO (λy:Nat×List Ob×Nat×List Bool=>(⟨au [(1,.tree 1 (rowsOf aT left)),(3,.ptr 0 0 0),(11,.ref bi 1 0 E.length),(22,aaa z1),(23,.lit (.bool z2)),(27,aaa i),(28,.ptr os.length 0 0),(29,.ref y.2.2.1 1 0 y.2.2.2.length),(30,aaa a),(31,aaa y.1)],y.2.1⟩:St))
    (λy=>y.1<=lb.length/\LO jJ ((os.length,.var (aQ p))::[(0,.var (ao m)),(bi,.arr 1 (rowsOf cS E))]) D E g.1 g.2 y.2.1/\y.2.1[y.2.2.1]?=some (.arr 1 (aX y.2.2.2))/\os.length<y.2.2.1/\y.2.2.2=bs++(lb.take y.1).map (la.getD a default && ·))
    (λy=>lb.length-y.1) (0,oy,ti,bs) ⟨aF _,Dj,fS,lC,G9⟩ (Xv X0) ?_
   rintro⟨b,ob,tb,cs⟩⟨cW,JC,Bu,JD,gZ⟩kX fJ eR;dsimp only at cW JC Bu JD gZ ⊢;have Gk:=(JC.base (os.length,.var (aQ p)) G9).1;dsimp only at Gk;have ta:=bf Bu;have epb:=bf Gk;have stb:=gz Bu;have bY:cs.length<=24*24+24:=by
    rw[gZ,lH,bQ,Fs,eO,fy,fy];have:=DN (show min a la.length<=24 by omega) (show lb.length<=24 by omega);omega
   by_cases rV:b<lb.length
   ·have ajF:=eJ rV;have hLn:=((JC.kill (y:=.gone) Bu G9 (by simp only[cu,jQ,or_false,forall_eq_or_imp,forall_eq];omega)).app [.arr 1 [[.lit (.bool (la.getD a false&&lb.getD b false))]],.arr 1 (aX (cs++[la.getD a false&&lb.getD b false]))]);have eK:cs++[la.getD a false&&lb.getD b false]=bs++(lb.take (b+1)).map (la.getD a default && ·):=by rw[ajF,gG,<- cY,<- gZ];rfl
    have aoi:=(aY.1 Bu).1;generalize hxa:la.getD a false=xa at *;generalize ajH:lb.getD b false=xb at *;cases xa;all_goals
     simp only[jE,eX]at hLn eK;((repeat'(first|refine Va (X5 @Gk @Bu @ta @epb (X5 @stb @bL @F9 @Ga (X5 @hxa @ajH @aT.eq_1 @aQ.eq_1 (X5 @cD @cY.{0} @jv @iY (X3 @bQ.{0} @bw.{0} @KN))))) ?_|(refine Xi ?_ ?_<;>try intro ht)|exact Xx|fail)))
     refine fJ _ (b+1,_,ob.length+1,_) ⟨Kw,hLn,yb _ _ _ _ _,Kw,eK⟩ Kw ?_;exact Xv X0
   ·rw[ej G3]at gZ;((repeat'(first|refine Va (X5 @Gk @bL @Ga @aT.eq_1 @aQ.eq_1) ?_|(refine V2 (X5 @Gk @bL @Ga @aT.eq_1 @aQ.eq_1) ?_ ?_<;>try with_reducible intro hb)|(refine Xi ?_ ?_<;>try intro ht)|exact Xx|fail)))
    refine eR _ _ rfl ?_;clear fJ eR kX;repeat(refine Xu ?_)
    refine Va X0 ?_;refine a7 _ (a+1,ob,tb,cs) ⟨Kw,JC,Bu,JD,by rw[hta,ahi,<- lH];exact gZ⟩ Kw ?_;exact Xv X0
  ·rw[ej G3,<- Oa]at lH;subst lH;obtain⟨td,F6⟩:=Dj.rE.row i G3;((repeat'(first|refine Va (X5 @fp @bL @F9 @aT.eq_1 @aQ.eq_1) ?_|(refine Xi ?_ ?_<;>try intro ht)|exact Xx|fail)))
   refine ba _ _ rfl ?_;clear a7 ba cL;repeat(refine Xu ?_)
   ((refine Va (X3 @fby @td @cS.eq_1) ?_)<;>try with_reducible intro K hK)
   cases z2<;>cases q2;all_goals
    refine pI [] jo G9 trivial ⟨aI.fz td (by rw[bX];exact F6.symm) G9,aI.fz fS (by rw[yU]) G9,trivial⟩ rfl G9 ?_;((try revert hK K);(repeat'(first|refine Va (X2 @iZ @jP) ?_|fail)))
    refine ak _ (i+1,oy) ⟨Kw,Dj.sub G9⟩ Kw ?_;simp only[dX];exact Xv X0
 have Jm:i=m.ae.length:=G3;rw[Jm];have Oj:=zz _ zc (M6 (m:=m) (left:=left) (by unfold mH;decide) Di.2 m.ae.length);rw[Fq]at Oj;generalize ca (PP m left g.2 m.ae.length) zc=zp at *;((repeat'(first|refine Va @f0 ?_|(refine Xi ?_ ?_<;>try intro ht)|exact Xx|fail)))
 refine ar _ _ rfl ?_;clear ak ar Ql;repeat(refine Xu ?_)
 refine Va @f0 ?_;clear hi hi';refine aO (λi:Nat=>(⟨au [(1,.tree 1 (rowsOf aT left)),(3,.ptr 0 0 0),(22,aaa (ca (PK m left i) zp).1),(23,.lit (.bool (ca (PK m left i) zp).2)),(34,aaa i)],os⟩:St))
  (λi=>i<=m.ax.length) (λi=>m.ax.length-i) 0 (aF _) (Xv (X5 @PK.eq_1 @ca.eq_1 @PV @k7.{0,0} @Aa.{0,0})) ?_
 rintro i hi Ql ak ar;unfold mH at JB Oj;dsimp only at JB Oj;by_cases hi':i<m.ax.length
 ·have eT:=aB (d:=default) hi';obtain⟨q1,q2,q3,q4⟩:=NL bP hf eT;have h3:=ajs m left _ bP hf eT;have vC:=Fa (λx hx=>(q1 x hx).2) left;have h4:=Wx (kT (m.ax.getD i default).aJ 0 left 0-(m.ax.getD i default).most) (m.ax.getD i default).b8 G3 q3;rw[aax q3]at h4;have jN:=zz _ zp (M7 bP (left:=left) i);rw[I3]at jN;have hvr:=YW (m.ax.getD i default).most (m.ax.getD i default).b8 (kT (m.ax.getD i default).aJ 0 left 0) q2 q3.1;have dX:ca (PK m left (i+1)) zp=((ca (PK m left i) zp).1+jZ left (m.ax.getD i default),(ca (PK m left i) zp).2||!!(decide ((m.ax.getD i default).b8=1099511627776)&&decide (0<jZ left (m.ax.getD i default)))):=by
   rw[show PK m left (i+1)=PK m left i++[(jZ left (m.ax.getD i default),!(decide ((m.ax.getD i default).b8=1099511627776)&&decide (0<jZ left (m.ax.getD i default))))] from zy _ i,CS]
  unfold jZ at dX;generalize ca (PK m left i) zp=z at *;obtain⟨z1,z2⟩:=z;generalize aM:m.ax.getD i default=c at *;generalize mz c.most c.b8 (kT c.aJ 0 left 0)=v at *;dsimp only at dX jN ⊢;by_cases Ok:c.b8=1099511627776;all_goals
   by_cases hv0:0<v
  all_goals
   simp only[Ok,hv0,decide_true,decide_false,Bool.and_true,Bool.and_false,iZ,jP,xr,Bool.or_false]at dX;cases z2
  all_goals
   ((repeat'(first|refine Vc (X3 @f0 @aM @aV.eq_1) (X2 h3 h4) ?_|(refine V2 (X3 @f0 @aM @aV.eq_1) ?_ ?_<;>try with_reducible intro hb)|(refine Xi ?_ ?_<;>try intro ht)|exact Xx|fail)))
   refine ak _ (i+1) G3 G3 ?_;simp only[dX];exact Xv (X4 @gt_iff_lt.{0} @hv0 @decide_true @decide_false)
 ·have NO:i=m.ax.length:=G3;rw[NO];have aaH:=zz _ zp (M7 bP (left:=left) m.ax.length);rw[I3]at aaH;generalize ca (PK m left m.ax.length) zp=zk at *;obtain⟨k1,k2⟩:=zk;dsimp only at aj aaH ⊢;((repeat'(first|refine Va @f0 ?_|(refine Xi ?_ ?_<;>try intro ht)|exact Xx|fail)))
  refine ar _ _ rfl ?_;clear ak ar Ql;repeat(refine Xu ?_)
  cases k2
  ·simp only[Bool.false_eq_true,if_false]at aj;subst aj;((repeat'(first|refine Vb @f0 ?_|(refine Xi ?_ ?_<;>try intro ht)|exact Xx|fail)))
   exact aE rfl rfl
  ·simp only[if_true]at aj;subst aj;((repeat'(first|refine Vb @f0 ?_|(refine Xi ?_ ?_<;>try intro ht)|exact Xx|fail)))
   exact aE rfl rfl
end T

