import Derived.Test.YtfoopmojjjpapaaGreatX19
import Derived.Test.YtfoopmojjjpapaaGreatX22
set_option linter.all false
set_option maxHeartbeats 0
set_option maxRecDepth 20000
open Bool renaming eq_iff_iff→nS,and_eq_true→aZ,or_eq_true→kG,not_eq_true'→kH,false_eq_true→iS,true_and→iu,true_or→xF,false_and→pT
open Nat renaming zero_le→aT,lt_or_ge→dE,le_refl→bc
open List renaming drop_eq_nil_of_le→jr,cons_append→dq,nil_append→ec
open Go Go.Am Go.Proofs
namespace T
def aed(l:List cE):Holds Tryz.prog 119 [.tree 6 (rowsOf b6 l)] [] (.lit (.bool (decide (24<l.length)))) []:=by
 refine Holds.aK 6 0 [.tmp 2] Tryz.func119 ?_;repeat'(first|(refine Xr X0 ?_;intro K hK)|(refine hK _ ?_;clear hK K)|refine Xz ?_|(refine Xe ?_;first|refine aS rfl ?_|refine Xl ?_ ?_)|fail)
 (refine congrArg (λb=>AV.lit (Value.bool b)) ?_;rw[nS];simp only[gt_iff_lt,decide_eq_true_eq,beq_iff_eq,bne_iff_ne,aZ,kG,kH,decide_eq_false_iff_not,iS,reduceCtorEq,iff_true,iff_false,true_iff,false_iff,eq_self];omega)
def aee(m:ah)(hm:MB m):Holds Tryz.prog 86 [.agg (ao m)] [] (.lit (.bool (sP m))) []:=by
 have h1:=hm.cls;have h2:=aef m.cls 119 [] [] (λl=>decide (24<l.length)) h1 (λx _=>by simpa using aed x);unfold sP;generalize m.cls.any (λl=>decide (24<l.length))=b at *;cases b;all_goals refine Holds.aK 36 0 [.tmp 2] Tryz.func86 ?_
 all_goals repeat'(first|(refine Xq X0 ?_;intro K hK)|refine Xo X0 ?_|refine Xc (h2) ?_|(refine hK _ ?_;clear hK K)|(refine Xg X0 ?_ ?_<;>try intro hb)|refine Xz ?_|(refine Xe ?_;first|refine aS rfl ?_|refine Xl ?_ ?_)|fail)
 all_goals first|rfl|(simp;done)|(refine congrArg (λb=>AV.lit (Value.bool b)) ?_;rw[nS];simp only[or_true,true_or,or_false,false_or,decide_eq_true_eq,beq_iff_eq,bne_iff_ne,aZ,kG,kH,decide_eq_false_iff_not,iS,reduceCtorEq,iff_true,iff_false,true_iff,false_iff,eq_self];omega)
def aeg(m:ah)(o:cE)(ho:o.ch.length<9223372036854775808):Holds Tryz.prog 89 [.agg (ao m),.agg (b6 o)] [] (.lit (.bool (eh m.rules none o.ch))) []:=by
 generalize au:eh m.rules none o.ch=res;refine Holds.aK 43 0 [.tmp 4] Tryz.func89 ?_;repeat'(first|(refine Xr X0 ?_;intro K hK)|(refine hK _ ?_;clear hK K)|refine Xz ?_|fail)
 refine aU (λk:Nat=>(⟨an [(2,.ptr 0 0 0),(3,.ptr 1 0 0),(8,.tree 2 (rowsOf dj o.ch)),(9,NX o.ch.length),(10,NX k)],[.var (ao m),.var (b6 o)]⟩:St)) (λk=>k<=o.ch.length/\eh m.rules (qv o.ch k) (o.ch.drop k)=res) (λk=>o.ch.length-k) 0 ⟨aT _,au⟩ (Xv X0) ?_;rintro k⟨hk,hr⟩Ql ak ar;by_cases ba:k<o.ch.length
 ·have hd:=j3 o.ch k default ba;generalize bd:o.ch.getD k default=c at *;rw[hd,QS]at hr;have zF:=J5 m c.1;have eJ:((k:Int)-1).toNat=k-1:=Iv;repeat'(first|(refine Xq (X2 @bd @eJ) ?_;intro K hK)|refine Xo (X2 @bd @eJ) ?_|refine Xc (zF) ?_|refine Xc (J6 c.2) ?_|(refine hK _ ?_;clear hK K)|(refine Xg (X2 @bd @eJ) ?_ ?_<;>try intro hb)|(refine Xi ?_ ?_<;>try intro ht)|refine Xz ?_|refine Xh ?_|(refine Xe ?_;first|refine aS rfl ?_|refine Xl ?_ ?_)|refine Xd ?_ ?_|exact Xx|fail)
  ·rw[<- hr];simp[*]
  ·rw[<- hr];simp[*]
  ·rw[<- hr,decide_eq_false (p:=k=0) Iv,decide_eq_false (p:=_<c.1) Iv];simp
  ·refine ak _ (k+1) ⟨Iv,?_⟩ Iv (Xs false [0,1] X0);rw[wV,bd,<- hr,decide_eq_true (p:=_<c.1) ht];simp[*]
  ·refine ak _ (k+1) ⟨Iv,?_⟩ Iv (Xs false [0,1] X0);rw[wV,bd,<- hr,decide_eq_true (p:=k=0) Iv];simp[*]
 ·repeat'(first|(refine Xr X0 ?_;intro K hK)|(refine hK _ ?_;clear hK K)|(refine Xi ?_ ?_<;>try intro ht)|refine Xz ?_|refine Xh ?_|(refine Xe ?_;first|refine aS rfl ?_|refine Xl ?_ ?_)|refine Xd ?_ ?_|exact Xx|fail)
  rw[jr Iv,eh]at hr;rw[<- hr]
def aeh(a b:Pr):Holds Tryz.prog 91 [.agg (aH a),.agg (aH b)] [] (NX (mX a b)) []:=by
 refine Holds.aK 22 0 [.tmp 4] Tryz.func91 ?_;repeat'(first|(refine Xr X0 ?_;intro K hK)|(refine hK _ ?_;clear hK K)|refine Xz ?_|fail)
 (try(refine FV [4,9,14] rfl NF (by decide +kernel) ?_);intro K hK;simp(disch:=omega)only[Ac,↓Pc,simprocAttr])
 repeat'(first|refine Xo X0 ?_|refine Xc (C6 _ _) ?_|fail)
 refine vg [] (J7 [j6 a.dK b.dK,j6 a.fst b.fst,j6 a.snd b.snd] Iw) NF trivial ⟨bw.cG rfl (tY _) rfl NF (wK _),trivial⟩ rfl Iw ?_;repeat'(first|refine Xo X0 ?_|(refine hK _ ?_;clear hK K)|refine Xz ?_|(refine Xe ?_;first|refine aS rfl ?_|refine Xl ?_ ?_)|fail)
 ·rfl
def aei(n:Int):Holds Tryz.prog 125 [NX n] [] (.lit (.bool (oB n))) []:=by
 refine Holds.aK 10 0 [.tmp 2] Tryz.func125 ?_;repeat'(first|(refine Xq X0 ?_;intro K hK)|refine Xo X0 ?_|refine Xc (J6 n) ?_|(refine hK _ ?_;clear hK K)|(refine Xg X0 ?_ ?_<;>try intro hb)|refine Xz ?_|(refine Xe ?_;first|refine aS rfl ?_|refine Xl ?_ ?_)|fail)
 all_goals(simp[oB, *]<;>omega)
def aej(m:ah)(p:Pr)(hp:p.ax.length<9223372036854775808)(hm:∀ l∈m.cls,l.length<=24)(hl:m.cls.length<=24):Holds Tryz.prog 90 [.agg (ao m),.agg (aH p)] [] (.lit (.bool (gB m p))) []:=by
 have hg:∀ i,(m.cls.getD i default).length<=24:=λi=>by
  rcases dE i m.cls.length with h|h
  ·exact hm _ (aG h)
  ·rw[List.getD_eq_getElem?_getD,List.getElem?_eq_none h];decide
 have h1:=hg p.fst.toNat;have h2:=hg p.snd.toNat;have hmul:(0:Int)<=(m.cls.getD p.fst.toNat default).length*(m.cls.getD p.snd.toNat default).length/\((m.cls.getD p.fst.toNat default).length:Int)*(m.cls.getD p.snd.toNat default).length<=24*24:=⟨Int.mul_nonneg Iv Iv,Int.mul_le_mul Iv Iv Iv Iv⟩;have hc:=QT p.ax 125 [] [] oB hp (λx _=>by simpa using aei x);unfold gB;generalize wW:((m.cls.getD p.fst.toNat default).length:Int)*(m.cls.getD p.snd.toNat default).length=mm at *;refine Holds.aK 55 0 [.tmp 4] Tryz.func90 ?_;repeat'(first|(refine Xq @wW ?_;intro K hK)|refine Xo @wW ?_|refine Xc (J5 m p.dK) ?_|refine Xc (hc) ?_|(refine hK _ ?_;clear hK K)|(refine Xg @wW ?_ ?_<;>try intro hb)|(refine Xi ?_ ?_<;>try intro ht)|refine Xz ?_|(refine Xe ?_;first|refine aS rfl ?_|refine Xl ?_ ?_)|refine Xd ?_ ?_|exact Xx|fail)
 ·rw[hb];rfl
 iterate 4
  ·rw[decide_eq_false Iv];simp
 ·rw[decide_eq_true Iv];simp[*]
def aek(m:ah)(c:Ct)(hc:c.aY.length<9223372036854775808):Holds Tryz.prog 94 [.agg (ao m),.agg (db c)] [] (.lit (.bool (iV m c))) []:=by
 have J8:=J5 m c.dK;have gu:=J6 c.bX;generalize au:iV m c=res;unfold iV at au;refine Holds.aK 81 0 [.tmp 4] Tryz.func94 ?_;repeat'(first|(refine Xq X0 ?_;intro K hK)|refine Xo X0 ?_|refine Xc (J8) ?_|refine Xc (gu) ?_|(refine hK _ ?_;clear hK K)|(refine Xg X0 ?_ ?_<;>try intro hb)|(refine Xi ?_ ?_<;>try intro ht)|refine Xz ?_|(refine Xe ?_;first|refine aS rfl ?_|refine Xl ?_ ?_)|exact Xx|fail)
 ·rw[<- au,hb];rfl
 ·rw[<- au,decide_eq_false Iv];simp
 ·rw[<- au,decide_eq_false Iv];simp
 ·rw[<- au,ht];simp
 have eP:(jA m.rules c.dK&&decide (0<=c.most/\c.most<=1048576)&&jk c.bX)=true:=by rw[decide_eq_true Iv];simp[*]
 rw[eP,iu]at au;refine aU (λk:Nat=>(⟨an [(2,.ptr 0 0 0),(3,.ptr 1 0 0),(29,.tree 3 (rowsOf qo c.aY)),(30,NX c.aY.length),(31,NX k)],[.var (ao m),.var (db c)]⟩:St)) (λk=>k<=c.aY.length/\er m (qv c.aY k) (c.aY.drop k)=res) (λk=>c.aY.length-k) 0 ⟨aT _,au⟩ (Xv X0) ?_;rintro k⟨hk,hr⟩Ql ak ar;by_cases ba:k<c.aY.length
 ·have hd:=j3 c.aY k default ba;generalize bd:c.aY.getD k default=x at *;rw[hd,QU]at hr;have eJ:((k:Int)-1).toNat=k-1:=Iv;generalize cr:c.aY.getD (k-1) default=y at *;repeat'(first|(refine Xr (X2 @bd @eJ) ?_;intro K hK)|refine Xo (X2 @bd @eJ) ?_|refine Xc (ael m x.cls x.opt) ?_|(refine hK _ ?_;clear hK K)|(refine Xg (X2 @bd @eJ) ?_ ?_<;>try intro hb)|(refine Xi ?_ ?_<;>try intro ht)|refine Xz ?_|refine Xh ?_|(refine Xe ?_;first|refine aS rfl ?_|refine Xl ?_ ?_)|refine Xd ?_ ?_|exact Xx|fail)
  ·rw[<- hr,hb];simp
  ·rw[<- hr,decide_eq_false (p:=1<=x.wt/\x.wt<=1000) Iv];simp
  ·rw[<- hr,decide_eq_false (p:=1<=x.wt/\x.wt<=1000) Iv];simp
  have hw:decide (1<=x.wt/\x.wt<=1000)=true:=decide_eq_true Iv;have bI:jl m x.cls x.opt=true:=by assumption
  rw[bI,hw,iu,iu]at hr;(try(refine FV [12,22] rfl NF (by decide +kernel) ?_);intro K hK;simp(disch:=omega)only[Ac,↓Pc,simprocAttr,bd,eJ,cr])
  repeat'(first|(refine Xq (X3 @bd @eJ @cr) ?_;intro K hK)|refine Xo (X3 @bd @eJ @cr) ?_|refine Xc (C6 _ _) ?_|(refine hK _ ?_;clear hK K)|(refine Xg (X3 @bd @eJ @cr) ?_ ?_<;>try intro hb)|(refine Xi ?_ ?_<;>try intro ht)|refine Xz ?_|refine Xd ?_ ?_|exact Xx|fail)
  ·refine vg [] (J7 [j6 y.cls x.cls,j6 y.opt x.opt] Iw) NF trivial ⟨bw.cG rfl (tY _) rfl NF (wK _),trivial⟩ rfl Iw ?_;repeat'(first|(refine Xr (X3 @bd @eJ @cr) ?_;intro K hK)|refine Xo (X3 @bd @eJ @cr) ?_|(refine hK _ ?_;clear hK K)|(refine Xi ?_ ?_<;>try intro ht)|refine Xz ?_|refine Xh ?_|(refine Xe ?_;first|refine aS rfl ?_|refine Xl ?_ ?_)|refine Xd ?_ ?_|exact Xx|fail)
   ·rw[<- hr,decide_eq_false (p:=k=0) Iv,decide_eq_false (p:=um y x<0) (by unfold um;omega)];simp
   ·refine ak _ (k+1) ⟨Iv,?_⟩ Iv (Xs false [0,1] X0);rw[wV,bd,<- hr,decide_eq_true (p:=um y x<0) (by unfold um;omega)];simp
  ·refine ak _ (k+1) ⟨Iv,?_⟩ Iv (Xs false [0,1] X0);rw[wV,bd,<- hr,decide_eq_true (p:=k=0) Iv];simp
 ·repeat'(first|(refine Xr X0 ?_;intro K hK)|(refine hK _ ?_;clear hK K)|(refine Xi ?_ ?_<;>try intro ht)|refine Xz ?_|refine Xh ?_|(refine Xe ?_;first|refine aS rfl ?_|refine Xl ?_ ?_)|refine Xd ?_ ?_|exact Xx|fail)
  rw[jr Iv,er]at hr;rw[<- hr]
def aem(m:ah)(o:cE)(ho:o.ch.length<9223372036854775808):Holds Tryz.prog 88 [.agg (b6 o),.ptr 0 0 0] [.var (ao m)] (.lit (.bool (!eh m.rules none o.ch))) [.var (ao m)]:=by
 refine Holds.aK 8 1 [.tmp 3] Tryz.func88 ?_;refine Vd X0 (aeg m o ho) ?_;exact Xw false [0] X0
def aen(m:ah)(c:Ct)(hc:c.aY.length<9223372036854775808):Holds Tryz.prog 93 [.agg (db c),.ptr 0 0 0] [.var (ao m)] (.lit (.bool (!iV m c))) [.var (ao m)]:=by
 refine Holds.aK 8 1 [.tmp 3] Tryz.func93 ?_;refine Vd X0 (aek m c hc) ?_;exact Xw false [0] X0
def C7{α:Type}[Inhabited α]{l:List α}{f:α->Bool}{k:Nat}(hk:k<l.length):(l.drop k).any f=(f (l.getD k default)||(l.drop (k+1)).any f):=by
 rw[j3 l k default hk,List.any_cons]
def J9(m:ah)(hm:MB m):Holds Tryz.prog 56 [.agg (ao m)] [] (NX (jP m)) []:=by
 generalize au:jP m=res;unfold jP at au;have sQ:=hm.cls;have uk:=hm.ae;refine Holds.aK 52 0 [.tmp 2] Tryz.func56 ?_;repeat'(first|(refine Xq X0 ?_;intro K hK)|refine Xc (aee m hm) ?_|(refine hK _ ?_;clear hK K)|(refine Xi ?_ ?_<;>try intro ht)|refine Xz ?_|(refine Xe ?_;first|refine aS rfl ?_|refine Xl ?_ ?_)|fail)
 ·rw[if_pos ht]at au;rw[<- au]
 rw[if_neg (by simp[ht])]at au;have aN:m.cls.length<=24/\∀ l∈m.cls,l.length<=24:=by
  have h:=ht;unfold sP at h;rw[decide_eq_false_iff_not]at h;refine⟨Iv,λl hl=>?_⟩;rcases dE 24 l.length with h1|h1
  ·exact absurd (.inr (.inl (List.any_eq_true.2 ⟨l,hl,by simpa using h1⟩))) h
  ·exact h1
 clear ht;refine aU (λk:Nat=>(⟨an [(1,.ptr 0 0 0),(10,.tree 1 (rowsOf aQ m.cls)),(11,NX m.cls.length),(12,NX k)],[.var (ao m)]⟩:St)) (λk=>k<=m.cls.length/\(m.cls.any λl=>l.any λo=>!eh m.rules none o.ch)=(m.cls.drop k).any λl=>l.any λo=>!eh m.rules none o.ch) (λk=>m.cls.length-k) 0 ⟨aT _,rfl⟩ (Xv X0) ?_;rintro k⟨hk,hr⟩Ql ak ar;by_cases ba:k<m.cls.length
 ·have cH:=aG (d:=(default:List cE)) ba;rw[C7 ba]at hr;generalize bd:m.cls.getD k default=l at *;have oa:=aeo l 88 [.ptr 0 0 0] [.var (ao m)] (λo=>!eh m.rules none o.ch) (hm.opt l cH) (λo ho=>by simpa using aem m o (hm.ch l cH o ho));repeat'(first|(refine Xr @bd ?_;intro K hK)|(refine hK _ ?_;clear hK K)|(refine Xi ?_ ?_<;>try intro ht)|refine Xz ?_|refine Xh ?_|refine Xd ?_ ?_|exact Xx|fail)
  refine fF oa (bc _) ?_;repeat'(first|(refine Xr @bd ?_;intro K hK)|(refine hK _ ?_;clear hK K)|(refine Xi ?_ ?_<;>try intro ht)|refine Xz ?_|refine Xh ?_|(refine Xe ?_;first|refine aS rfl ?_|refine Xl ?_ ?_)|refine Xd ?_ ?_|exact Xx|fail)
  ·rw[ht,xF]at hr;rw[if_pos hr]at au;rw[<- au]
  ·rw[ht,Bool.false_or]at hr;exact ak _ (k+1) ⟨Iv,hr⟩ Iv (Xv X0)
 rw[jr Iv,List.any_nil]at hr;rw[if_neg (by rw[hr];simp)]at au;((repeat'(first|refine Va X0 ?_|(refine Xi ?_ ?_<;>try intro ht)|exact Xx|fail)))
 refine ar _ _ rfl ?_;clear ak ar Ql;clear hr ba hk;repeat(refine Xu ?_)
 repeat'(first|(refine Xr X0 ?_;intro K hK)|(refine hK _ ?_;clear hK K)|refine Xz ?_|fail)
 refine aU (λk:Nat=>(⟨an [(1,.ptr 0 0 0),(21,.tree 4 (rowsOf aH m.ae)),(22,NX m.ae.length),(23,NX k)],[.var (ao m)]⟩:St)) (λk=>k<=m.ae.length/\fj m none m.ae=fj m (qv m.ae k) (m.ae.drop k)) (λk=>m.ae.length-k) 0 ⟨aT _,rfl⟩ (Xv X0) ?_;rintro k⟨hk,hr⟩Ql ak ar;by_cases ba:k<m.ae.length
 ·have cH:=aG (d:=(default:Pr)) ba;have hd:=j3 m.ae k default ba;have eJ:((k:Int)-1).toNat=k-1:=Iv;generalize bd:m.ae.getD k default=p at *;rw[hd,QV]at hr;generalize cr:m.ae.getD (k-1) default=q at *;repeat'(first|(refine Xq (X3 @bd @eJ @cr) ?_;intro K hK)|refine Xo (X3 @bd @eJ @cr) ?_|refine Xc (aej m p (hm.ax p cH) aN.2 aN.1) ?_|refine Xc (aeh q p) ?_|(refine hK _ ?_;clear hK K)|(refine Xg (X3 @bd @eJ @cr) ?_ ?_<;>try intro hb)|(refine Xi ?_ ?_<;>try intro ht)|refine Xz ?_|refine Xh ?_|(refine Xe ?_;first|refine aS rfl ?_|refine Xl ?_ ?_)|refine Xd ?_ ?_|exact Xx|fail)
  ·have C8:gB m p=false:=by assumption
   rw[C8,pT,pT]at hr;rw[if_pos hr]at au;rw[<- au]
  ·rw[decide_eq_false (p:=k=0) Iv,decide_eq_false (p:=mX q p<0) Iv,Bool.or_false,Bool.and_false,pT]at hr;rw[if_pos hr]at au;rw[<- au]
  ·have C8:gB m p=true:=by assumption
   rw[C8,decide_eq_true (p:=mX q p<0) Iv,Bool.or_true,iu,iu]at hr;refine ak _ (k+1) ⟨Iv,?_⟩ Iv (Xs false [0] X0);rw[wV,bd];exact hr
  ·have C8:gB m p=true:=by assumption
   rw[C8,decide_eq_true (p:=k=0) Iv,xF,iu,iu]at hr;refine ak _ (k+1) ⟨Iv,?_⟩ Iv (Xs false [0] X0);rw[wV,bd];exact hr
 rw[jr Iv,fj]at hr;rw[if_neg (by rw[hr];simp)]at au;((repeat'(first|refine Va X0 ?_|(refine Xi ?_ ?_<;>try intro ht)|exact Xx|fail)))
 refine ar _ _ rfl ?_;clear ak ar Ql;clear hr ba hk;repeat(refine Xu ?_)
 have oa:=aep m.aC 93 [.ptr 0 0 0] [.var (ao m)] (λc=>!iV m c) hm.aC (λc hc=>by simpa using aen m c (hm.lk c hc));repeat'(first|(refine Xr X0 ?_;intro K hK)|refine Xz ?_|fail)
 refine fF oa (bc _) ?_;repeat'(first|(refine Xr X0 ?_;intro K hK)|(refine hK _ ?_;clear hK K)|(refine Xi ?_ ?_<;>try intro ht)|refine Xz ?_|(refine Xe ?_;first|refine aS rfl ?_|refine Xl ?_ ?_)|fail)
 ·rw[if_pos ht]at au;rw[<- au]
 ·rw[if_neg (by rw[ht];simp)]at au;rw[<- au]
def aeq(l:List (List (Int×Int)))(g:FuncId)(bk:List AV)(aa:List Ob)(p:(List (Int×Int))->Bool)(hl:l.length<9223372036854775808)(hg:∀ x∈l,Holds Tryz.prog g ([.tree 2 (rowsOf dj x)]++bk) aa (.lit (.bool (p x))) aa):
  Holds Tryz.prog 131 [.tree 1 (rowsOf rn l),.fn g bk] aa (NX (fk p 0 l)) aa:=by
 generalize au:fk p 0 l=res;refine Holds.aK 19 aa.length [.tmp 4] Tryz.func131 ?_;refine Vb (X3 @cf @fS @rn.eq_1) ?_;refine aU (λk:Nat=>(⟨an [(0,.tree 1 (rowsOf rn l)),(1,.fn g bk),(7,NX l.length),(8,NX k)],aa⟩:St)) (λk=>k<=l.length/\fk p k (l.drop k)=res) (λk=>l.length-k) 0 ⟨aT _,au⟩ (Xv X0) ?_;rintro k⟨hk,hr⟩Ql ak ar;by_cases ba:k<l.length
 ·have hx:=hg _ (aG (d:=default) ba);have hd:=j3 l k default ba;generalize cW:l.getD k default=x at *;rw[hd,fk]at hr;simp only[dq,ec,rn]at hx;((repeat'(first|refine Vb (X4 @cf @fS @rn.eq_1 @cW) ?_|(refine Xi ?_ ?_<;>try intro ht)|exact Xx|fail))<;>try with_reducible intro K hK)
  refine fF hx (bc _) ?_;((try revert hK K);(repeat'(first|refine Vb (X3 @cf @fS @rn.eq_1) ?_|(refine Xi ?_ ?_<;>try intro ht)|fail)))
  ·rw[if_pos (by assumption)]at hr;rw[<- hr];exact ed rfl (bc _) rfl
  ·rw[if_neg (by simp_all)]at hr;exact ak _ (k+1) ⟨Iv,hr⟩ Iv (Xv X0)
 ·((repeat'(first|refine Vb (X3 @cf @fS @rn.eq_1) ?_|(refine Xi ?_ ?_<;>try intro ht)|exact Xx|fail)))
  rw[jr Iv,fk]at hr;rw[<- hr];exact ed rfl (bc _) rfl
def QW(l:List (List (Int×Int)))(g:FuncId)(bk:List AV)(aa:List Ob)(p:(List (Int×Int))->Bool)(hl:l.length<9223372036854775808)(hg:∀ x∈l,Holds Tryz.prog g ([.tree 2 (rowsOf dj x)]++bk) aa (.lit (.bool (p x))) aa):
  Holds Tryz.prog 98 [.tree 1 (rowsOf rn l),.fn g bk] aa (.lit (.bool (l.any p))) aa:=by
 rw[<- yf p l 0];refine Holds.aK 9 aa.length [.tmp 4] Tryz.func98 ?_;((refine Vb (X3 @cf @fS @rn.eq_1) ?_)<;>try with_reducible intro K hK)
 refine fF (aeq l g bk aa p hl hg) (bc _) ?_;((try revert hK K);(refine Vb (X3 @cf @fS @rn.eq_1) ?_))
 exact ed rfl (bc _) rfl
def aer(l:List Pr)(g:FuncId)(bk:List AV)(aa:List Ob)(p:Pr->Bool)(hl:l.length<9223372036854775808)(hg:∀ x∈l,Holds Tryz.prog g ([.agg (aH x)]++bk) aa (.lit (.bool (p x))) aa):
  Holds Tryz.prog 156 [.tree 4 (rowsOf aH l),.fn g bk] aa (NX (fk p 0 l)) aa:=by
 generalize au:fk p 0 l=res;refine Holds.aK 19 aa.length [.tmp 4] Tryz.func156 ?_;refine Vb (X3 @cf @fS @aH.eq_1) ?_;refine aU (λk:Nat=>(⟨an [(0,.tree 4 (rowsOf aH l)),(1,.fn g bk),(7,NX l.length),(8,NX k)],aa⟩:St)) (λk=>k<=l.length/\fk p k (l.drop k)=res) (λk=>l.length-k) 0 ⟨aT _,au⟩ (Xv X0) ?_;rintro k⟨hk,hr⟩Ql ak ar;by_cases ba:k<l.length
 ·have hx:=hg _ (aG (d:=default) ba);have hd:=j3 l k default ba;generalize cW:l.getD k default=x at *;rw[hd,fk]at hr;simp only[dq,ec,aH]at hx;((repeat'(first|refine Vb (X4 @cf @fS @aH.eq_1 @cW) ?_|(refine Xi ?_ ?_<;>try intro ht)|exact Xx|fail))<;>try with_reducible intro K hK)
  refine fF hx (bc _) ?_;((try revert hK K);(repeat'(first|refine Vb (X3 @cf @fS @aH.eq_1) ?_|(refine Xi ?_ ?_<;>try intro ht)|fail)))
  ·rw[if_pos (by assumption)]at hr;rw[<- hr];exact ed rfl (bc _) rfl
  ·rw[if_neg (by simp_all)]at hr;exact ak _ (k+1) ⟨Iv,hr⟩ Iv (Xv X0)
 ·((repeat'(first|refine Vb (X3 @cf @fS @aH.eq_1) ?_|(refine Xi ?_ ?_<;>try intro ht)|exact Xx|fail)))
  rw[jr Iv,fk]at hr;rw[<- hr];exact ed rfl (bc _) rfl
def QX(l:List Pr)(g:FuncId)(bk:List AV)(aa:List Ob)(p:Pr->Bool)(hl:l.length<9223372036854775808)(hg:∀ x∈l,Holds Tryz.prog g ([.agg (aH x)]++bk) aa (.lit (.bool (p x))) aa):
  Holds Tryz.prog 149 [.tree 4 (rowsOf aH l),.fn g bk] aa (.lit (.bool (l.any p))) aa:=by
 rw[<- yf p l 0];refine Holds.aK 9 aa.length [.tmp 4] Tryz.func149 ?_;((refine Vb (X3 @cf @fS @aH.eq_1) ?_)<;>try with_reducible intro K hK)
 refine fF (aer l g bk aa p hl hg) (bc _) ?_;((try revert hK K);(refine Vb (X3 @cf @fS @aH.eq_1) ?_))
 exact ed rfl (bc _) rfl
end T

