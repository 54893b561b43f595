import Derived.Test.YtjadfapldkfbpaaGreatX17
set_option linter.all false
set_option maxHeartbeats 0
set_option maxRecDepth 20000
open List renaming replicate→bG,drop_eq_nil_of_le→cM
open Nat renaming zero_le→aF
open Go Go.Am Go.Proofs
namespace T
def ajI(m:ah)(plan:List Int)(hm:VM m)(hp:PM m plan):an Tryz.prog 73 [.agg (ao m),.tree 1 (ints plan)] [] (.bH [aaa (CH m plan).1,.tree 1 (ints (CH m plan).2)]) []:=by
 have rX:=hm.cls;have rW:=hm.ae;have Od:=hm.ax;have Gc:=hm.iI;have dh:=hp.len;unfold CH mZ;generalize h1:rP m 0 plan (bG m.rules.toNat 0)=o1;generalize h2:rQ m plan m.ae o1=o2;generalize h3:rR plan m.ax o2=o3;have Ex:=je.rep Gc.1;refine an.aC 155 0 [.tmp 4,.tmp 5] Tryz.func73 ?_;refine Vb X0 ?_;refine aO (λz:Nat×List Int=>(⟨au [(1,.tree 1 (ints plan)),(2,.ptr 0 0 0),(6,.ptr 2 0 0),(28,.tree 1 (ints plan)),(29,aaa plan.length),(30,aaa z.1)],[.var (ao m),.arr 1 (ints z.2),.var [.ref 1 1 0 m.rules.toNat]]⟩:St))
  (λz=>z.1<=plan.length/\je m.rules z.2/\rP m z.1 (plan.drop z.1) z.2=o1) (λz=>plan.length-z.1) (0,bG m.rules.toNat 0) ⟨aF _,Ex,h1⟩ (Xv X0) ?_
 rintro⟨k,out⟩⟨hk,aw,hr⟩Ql ak ar;dsimp only at hk aw hr ⊢;have fX:out.length=m.rules.toNat:=by have:=aw.1;omega
 by_cases aL:k<plan.length
 ·have hd:=cN plan k 0 aL;have iG:=hp.get k aL;generalize aM:plan.getD k 0=o at *;rw[hd,rP]at hr;by_cases ho:o<0
  ·rw[if_pos ho]at hr;((repeat'(first|refine Va @aM ?_|(refine Xi ?_ ?_<;>try intro ht)|exact Xx|fail)))
   exact ak _ (k+1,out) ⟨Kw,aw,hr⟩ Kw (Xv X0)
  ·rw[if_neg ho]at hr;obtain⟨b1,b2,b3,b4⟩:=iv.1 (iG.resolve_left G3);have hl:=aB (l:=m.cls) (i:=k) (d:=default) G3;generalize dI:m.cls.getD k default=l at *;rw[Int.toNat_natCast,dI]at b4;have Oe:=aB (l:=l) (i:=o.toNat) (d:=default) G3;have fC:=hm.oB l hl _ Oe;generalize kY:l.getD o.toNat default=op at *;((repeat'(first|refine Va (X3 @aM @dI @kY) ?_|(refine Xi ?_ ?_<;>try intro ht)|exact Xx|fail)))
   generalize kh:rO op.ch out=Of at hr;have bY:=ET Gc.1 fC;refine aO (λz:Nat×List Int=>(⟨au [(1,.tree 1 (ints plan)),(2,.ptr 0 0 0),(6,.ptr 2 0 0),(28,.tree 1 (ints plan)),(29,aaa plan.length),(30,aaa k),(45,.tree 2 (rowsOf aK op.ch)),(46,aaa op.ch.length),(47,aaa z.1)],[.var (ao m),.arr 1 (ints z.2),.var [.ref 1 1 0 m.rules.toNat]]⟩:St))
    (λz=>z.1<=op.ch.length/\je m.rules z.2/\rO (op.ch.drop z.1) z.2=Of) (λz=>op.ch.length-z.1) (0,out) ⟨aF _,aw,kh⟩ (Xv X0) ?_
   rintro⟨j,w9⟩⟨hj,mY,fT⟩cL a7 ba;dsimp only at hj mY fT ⊢;have aay:w9.length=m.rules.toNat:=by have:=mY.1;omega
   by_cases dx:j<op.ch.length
   ·have qV:=cN op.ch j default dx;have eT:=AP fC _ (aB (d:=default) dx);generalize th:op.ch.getD j default=c at *;rw[qV,rO]at fT;obtain⟨ln,vB⟩:=eT;rw[jI,decide_eq_true_eq]at ln;have kJ:=MA w9 c.1 c.2 G3 (mD vB) (mY.get _);rw[aay]at kJ;((repeat'(first|refine Va @th ?_|(refine Xi ?_ ?_<;>try intro ht)|exact Xx|fail))<;>try with_reducible intro K hK)
    refine ez [2,1] kJ Kq ⟨rfl,by rw[uR];rfl,trivial⟩ ⟨.eq rfl,.pure rfl,.pure rfl,trivial⟩ ?_;((try revert hK K);(refine Va X0 ?_))
    refine a7 _ (j+1,fI w9 c.1 c.2) ⟨Kw,mY.add (mD vB),fT⟩ Kw ?_;unfold fI;exact Xs false [0,1,2] X0
   ·((repeat'(first|refine Va X0 ?_|(refine Xi ?_ ?_<;>try intro ht)|exact Xx|fail)))
    rw[cM G3,rO]at fT;subst fT;refine ba _ _ rfl ?_;clear a7 ba cL;repeat(refine Xu ?_)
    refine Va X0 ?_;exact ak _ (k+1,w9) ⟨Kw,mY,hr⟩ Kw (Xv X0)
 ·((repeat'(first|refine Va X0 ?_|(refine Xi ?_ ?_<;>try intro ht)|exact Xx|fail)))
  rw[cM G3,rP]at hr;subst hr;refine ar _ _ rfl ?_;clear ak ar Ql;repeat(refine Xu ?_)
  refine Vb X0 ?_;refine aO (λz:Nat×List Int=>(⟨au [(1,.tree 1 (ints plan)),(2,.ptr 0 0 0),(6,.ptr 2 0 0),(60,.tree 4 (rowsOf aQ m.ae)),(61,aaa m.ae.length),(62,aaa z.1)],[.var (ao m),.arr 1 (ints z.2),.var [.ref 1 1 0 m.rules.toNat]]⟩:St))
   (λz=>z.1<=m.ae.length/\je m.rules z.2/\rQ m plan (m.ae.drop z.1) z.2=o2) (λz=>m.ae.length-z.1) (0,out) ⟨aF _,aw,h2⟩ (Xv X0) ?_
  clear hk aw fX aL h2;rintro⟨k,out⟩⟨hk,aw,hr⟩Ql ak ar;dsimp only at hk aw hr ⊢;have fX:out.length=m.rules.toNat:=by have:=aw.1;omega
  by_cases aL:k<m.ae.length
  ·have hd:=cN m.ae k default aL;have dJ:=jy hm.pr _ (aB (d:=default) aL);generalize aM:m.ae.getD k default=p at *;rw[hd,rQ]at hr;obtain⟨q1,q2,q3,q4,q5⟩:=m4 dJ;have g1:=hp.get p.fst.toNat G3;have g2:=hp.get p.snd.toNat G3;rw[Int.toNat_of_nonneg G3]at g1 g2;have yr:=EW dJ (plan.getD p.fst.toNat 0) (plan.getD p.snd.toNat 0);unfold o9 at yr hr;generalize hx:plan.getD p.fst.toNat 0=x at *;generalize hy:plan.getD p.snd.toNat 0=y at *;generalize fW:m.cls.getD p.snd.toNat default=lb at *;have vA:lb.length<=24:=by rw[<- fW];exact hm.opt _ (aB G3)
   have Bt:=hm.opt _ (aB (l:=m.cls) (i:=p.fst.toNat) (d:=default) G3);have Jx:0<=x->0<=y->0<=x*lb.length/\x*lb.length<=576/\x*lb.length+y<p.aD.length/\y<24:=λh0 h0'=>by
    have a1:=(iv.1 (g1.resolve_left G3));have a2:=(iv.1 (g2.resolve_left G3));rw[fW]at a2;have:=wz (x:=x) (y:=y) (a:=(m.cls.getD p.fst.toNat default).length) (b:=lb.length) ⟨G3,G3⟩ ⟨G3,G3⟩ G3 G3;rw[q5];omega
   generalize hen:p.aD.getD (x*(lb.length:Int)+y).toNat 0=en at *;generalize sq:x*(lb.length:Int)=xm at *;have kJ:=MA out p.bF en G3 yr (aw.get _);rw[fX]at kJ;((repeat'(first|refine Va (X5 @aM @hx @hy @fW (X2 @sq @hen)) ?_|(refine V2 (X5 @aM @hx @hy @fW (X2 @sq @hen)) ?_ ?_<;>try with_reducible intro hb)|(refine Xi ?_ ?_<;>try intro ht)|exact Xx|fail))<;>try with_reducible intro K hK)
   ·rw[if_pos ⟨by assumption,G3⟩]at hr;refine ez [2,1] kJ Kq ⟨rfl,by rw[uR];rfl,trivial⟩ ⟨.eq rfl,.pure rfl,.pure rfl,trivial⟩ ?_;((try revert hK K);(refine Va X0 ?_))
    refine ak _ (k+1,fI out p.bF en) ⟨Kw,aw.add yr,hr⟩ Kw ?_;unfold fI;exact Xs false [0,1,2] X0
   ·rw[if_neg G3]at hr;exact ak _ (k+1,out) ⟨Kw,aw,hr⟩ Kw (Xs false [0,1,2] X0)
   ·rw[if_neg G3]at hr;exact ak _ (k+1,out) ⟨Kw,aw,hr⟩ Kw (Xs false [0,1,2] X0)
  ·((repeat'(first|refine Va X0 ?_|(refine V2 X0 ?_ ?_<;>try with_reducible intro hb)|(refine Xi ?_ ?_<;>try intro ht)|exact Xx|fail)))
   rw[cM G3,rQ]at hr;subst hr;refine ar _ _ rfl ?_;clear ak ar Ql;repeat(refine Xu ?_)
   refine Vb X0 ?_;refine aO (λz:Nat×List Int=>(⟨au [(1,.tree 1 (ints plan)),(2,.ptr 0 0 0),(6,.ptr 2 0 0),(103,.tree 4 (rowsOf aV m.ax)),(104,aaa m.ax.length),(105,aaa z.1)],[.var (ao m),.arr 1 (ints z.2),.var [.ref 1 1 0 m.rules.toNat]]⟩:St))
    (λz=>z.1<=m.ax.length/\je m.rules z.2/\rR plan (m.ax.drop z.1) z.2=o3) (λz=>m.ax.length-z.1) (0,out) ⟨aF _,aw,h3⟩ (Xv X0) ?_
   clear hk aw fX aL h3;rintro⟨k,out⟩⟨hk,aw,hr⟩Ql ak ar;dsimp only at hk aw hr ⊢;have fX:out.length=m.rules.toNat:=by have:=aw.1;omega
   by_cases aL:k<m.ax.length
   ·have hd:=cN m.ax k default aL;have jr:=hm.ct _ (aB (d:=default) aL);generalize aM:m.ax.getD k default=c at *;rw[hd,rR]at hr;obtain⟨q1,q2,q3,q4⟩:=nG jr;have hlen:=AQ hm q4;have ajq:=Mj (m:=m) (plan:=plan) (λx hx=>(rS q4 x hx).2) 0;have Gd:=EV (most:=c.most) (sum:=ly plan c.aJ 0) (mD q3);have Jz:=Ww c (ly plan c.aJ 0) G3 G3 G3 (mD q3);generalize E':ly plan c.aJ 0=sum at *;generalize MN:mz c.most c.b8 sum=Ge at *;have kJ:=MA out c.bF Ge G3 Gd (aw.get _);rw[fX]at kJ;((repeat'(first|refine Va @aM ?_|(refine Xi ?_ ?_<;>try intro ht)|exact Xx|fail)))
    refine aO (λz:Nat×Int=>(⟨au [(1,.tree 1 (ints plan)),(2,.ptr 0 0 0),(6,.ptr 2 0 0),(103,.tree 4 (rowsOf aV m.ax)),(104,aaa m.ax.length),(105,aaa k),(16,.ptr 3 0 0),(17,aaa z.2),(110,.tree 3 (rowsOf iH c.aJ)),(111,aaa c.aJ.length),(112,aaa z.1)],[.var (ao m),.arr 1 (ints out),.var [.ref 1 1 0 m.rules.toNat],.var (aV c)]⟩:St))
     (λz=>z.1<=c.aJ.length/\0<=z.2/\z.2<=1000*z.1/\ly plan (c.aJ.drop z.1) z.2=sum) (λz=>c.aJ.length-z.1) (0,0) ⟨aF _,Int.le_refl _,Kw,E'⟩ (Xv X0) ?_
    rintro⟨j,n⟩⟨hj,eA,eF,fT⟩cL a7 ba;dsimp only at hj eA eF fT ⊢;by_cases dx:j<c.aJ.length
    ·have qV:=cN c.aJ j default dx;have qW:=rS q4 _ (aB (d:=default) dx);generalize th:c.aJ.getD j default=x at *;rw[qV,ly]at fT;obtain⟨b1,b2,b3,b4⟩:=iv.1 qW.1;have wN:=qW.2;generalize lP:plan.getD x.cls.toNat 0=px at *;((repeat'(first|refine Va (X2 @th @lP) ?_|(refine Xi ?_ ?_<;>try intro ht)|exact Xx|fail)))
     ·rw[if_pos (by assumption)]at fT;exact a7 _ (j+1,n+x.wt) ⟨Kw,Kw,Kw,fT⟩ Kw (Xs false [0,1,2,3] X0)
     ·rw[if_neg (by assumption)]at fT;exact a7 _ (j+1,n) ⟨Kw,Kw,Kw,fT⟩ Kw (Xs false [0,1,2,3] X0)
    ·((repeat'(first|refine Va X0 ?_|(refine Xi ?_ ?_<;>try intro ht)|exact Xx|fail)))
     rw[cM G3,ly]at fT;subst fT;refine ba _ _ rfl ?_;clear a7 ba cL;repeat(refine Xu ?_)
     ((skip))
     (try(refine Cw [5] rfl Kq (by decide +kernel) ?_);intro K hK;simp(disch:=omega)only[Ac,↓Pc,simprocAttr])
     ((try revert hK K);(refine Vc X0 Jz ?_)<;>try with_reducible intro K hK)
     refine ez [2,1] kJ Kq ⟨rfl,by rw[uR];rfl,trivial⟩ ⟨.eq rfl,.pure rfl,.pure rfl,trivial⟩ ?_;((try revert hK K);(refine Va X0 ?_))
     refine ak _ (k+1,fI out c.bF Ge) ⟨Kw,aw.add Gd,hr⟩ Kw ?_;unfold fI;exact Xs false [0,1,2] X0
   ·((repeat'(first|refine Va X0 ?_|(refine Xi ?_ ?_<;>try intro ht)|exact Xx|fail)))
    rw[cM G3,rR]at hr;subst hr;refine ar _ _ rfl ?_;clear ak ar Ql;repeat(refine Xu ?_)
    refine Vb X0 ?_;refine aO (λz:Nat×Int=>(⟨au [(6,.ptr 2 0 0),(20,aaa z.2),(140,.ref 1 1 0 m.rules.toNat),(141,aaa m.rules.toNat),(142,aaa z.1)],[.var (ao m),.arr 1 (ints out),.var [.ref 1 1 0 m.rules.toNat]]⟩:St))
     (λz=>z.1<=out.length/\bZ z.2/\mC (out.drop z.1) z.2=mC out 0) (λz=>out.length-z.1) (0,0) ⟨aF _,by unfold bZ;decide,rfl⟩ (Xv X0) ?_
    rintro⟨j,n⟩⟨hj,eA,fT⟩Ql ak ar;dsimp only at hj eA fT ⊢;by_cases dx:j<out.length
    ·have qV:=cN out j 0 dx;have Gg:=aw.get j;generalize th:out.getD j 0=x at *;rw[qV,mC]at fT;((repeat'(first|refine Vc @th (Mu n x eA Gg) ?_|(refine Xi ?_ ?_<;>try intro ht)|exact Xx|fail)))
     exact ak _ (j+1,fl n x) ⟨Kw,AO eA Gg,fT⟩ Kw (Xv X0)
    ·((repeat'(first|refine Va X0 ?_|(refine Xi ?_ ?_<;>try intro ht)|exact Xx|fail)))
     rw[cM G3,mC]at fT;refine ar _ _ rfl ?_;clear ak ar Ql;repeat(refine Xu ?_)
     refine Vb X0 ?_;subst fT;refine dr [] true Kq trivial Kq Kq (aI.mn (.pure rfl) ?_);rw[<- fX];first|exact .pure rfl|exact .eq rfl|exact .fz rfl (by simp only[Bc,Rc])
def Zd(m:ah)(plan:List Int)(hb:MB m)(dh:plan.length<9223372036854775808):an Tryz.prog 30 [.agg (ao m),.tree 1 (ints plan)] [] (.bH [aaa (pd m plan).1,.tree 1 (ints (pd m plan).2.1),aaa (pd m plan).2.2]) []:=by
 generalize aj:pd m plan=res;unfold pd at aj;refine an.aC 25 0 [.tmp 4,.tmp 5,.tmp 6] Tryz.func30 ?_;((repeat'(first|refine Vd X0 (ud m hb) ?_|(refine Xi ?_ ?_<;>try intro ht)|fail))<;>try with_reducible intro K hK)
 ·rw[if_pos ht]at aj;rw[<- aj];exact dr [] true Kq trivial Kq Kq (Ip (.pure rfl) aI.nil (.pure rfl))
 rw[if_neg G3]at aj;((try revert hK K);(repeat'(first|refine Vd X0 (Yj m plan dh) ?_|(refine Xi ?_ ?_<;>try intro ht)|fail))<;>try with_reducible intro K hK)
 ·rw[if_pos ht]at aj;rw[<- aj];exact dr [] true Kq trivial Kq Kq (Ip (.pure rfl) aI.nil (.pure rfl))
 rw[if_neg (by simp[*])]at aj;rename_i hv;have gZ:=ajI m plan (iu.1 hv) (Mk ht);((try revert hK K);(refine Vd X0 gZ ?_))
 rw[<- aj];exact HA rfl
def Jp:IntKind.u64.min=0:=rfl
def Jq:IntKind.u64.max=18446744073709551615:=rfl
def ajJ:IntKind.u64.bits=64:=rfl
def p32:(2:Int)^(32:Nat)=4294967296:=rfl
def aad{n:Int}(h:0<=n/\n<=18446744073709551615):IntKind.u64.wrap n=n:=y6 h
def aiY{n:Int}(h : -9223372036854775808<=n/\n<=9223372036854775807):IntKind.i64.wrap n=n:=y6 h
def ajL{a:Int}(h:0<=a/\a<=18446744073709551615):Ck .u64 a 4294967295=a%4294967296:=by
 unfold Ck;have e:(BitVec.ofInt IntKind.u64.bits a &&& BitVec.ofInt IntKind.u64.bits 4294967295).toNat=a.toNat%4294967296:=by
  rw[BitVec.toNat_and,BitVec.toNat_ofInt,BitVec.toNat_ofInt];have h1:(a%((2^IntKind.u64.bits:Nat):Int)).toNat=a.toNat:=by rw[Int.emod_eq_of_lt h.1 (by show a<18446744073709551616;omega)]
  have h2:((4294967295:Int)%((2^IntKind.u64.bits:Nat):Int)).toNat=2^32-1:=Kq;rw[h1,h2,Nat.and_two_pow_sub_one_eq_mod]
 rw[e];rw[y6 (by simp only[Jp,Jq];omega)];omega
def unI:Tryz.prog.underlying 3=some (.int .i64):=by kernel_rfl
def unU:Tryz.prog.underlying 222=some (.int .u64):=by kernel_rfl
def ajM(y:Int)(hy:0<=y/\y<=9223372036854775807):an Tryz.prog 165 [.lit (.int .u64 1),.lit (.int .u64 y)] [] (.bH [.lit (.int .u64 0),.lit (.int .u64 y)]) []:=by
 refine an.aC 51 0 [.tmp 4,.tmp 5] Tryz.func165 ?_;refine Vb (X5 @Jp @Jq @ajJ @p32 (X4 @ajL @aad @Int.one_mul @Int.zero_mul)) ?_;refine aE rfl ?_;congr 3;all_goals first|rfl|(congr 2;omega)
def aiV(y:Int)(hy:0<=y/\y<=9223372036854775807):an Tryz.prog 158 [.lit (.int .u64 1),.lit (.int .u64 y)] [] (.bH [.lit (.int .u64 0),.lit (.int .u64 y)]) []:=by
 refine an.aC 30 0 [.tmp 4,.tmp 5] Tryz.func158 ?_;((repeat'(first|refine Vd (X2 @Jp @Jq) (ajM y hy) ?_|(refine Xi ?_ ?_<;>try intro ht)|exact Xx|fail)))
 exact aE rfl rfl
end T

