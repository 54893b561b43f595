import Derived.Test.YtfoopmojjjpapaaGreatX19
import Derived.Test.YtfoopmojjjpapaaGreatX22
set_option linter.all false
set_option maxHeartbeats 0
set_option maxRecDepth 20000
open Bool renaming eq_iff_iff→nS,and_eq_true→aZ,or_eq_true→kG,not_eq_true'→kH,false_eq_true→iS,true_and→iu,true_or→xI,false_and→pU
open Nat renaming zero_le→aT,lt_or_ge→dE,le_refl→bb
open List renaming drop_eq_nil_of_le→jr,cons_append→dh,nil_append→ec
open Go Go.Am Go.Proofs
namespace T
def aeh(l:List cg):Holds Tryz.prog 119 [.tree 6 (rowsOf b6 l)] [] (.lit (.bool (decide (24<l.length)))) []:=by
 refine Holds.aK 6 0 [.tmp 2] Tryz.func119 ?_;repeat'(first|(refine Xr X0 ?_;intro K hK)|(refine hK _ ?_;clear hK K)|refine Xz ?_|(refine Xe ?_;first|refine aS rfl ?_|refine Xl ?_ ?_)|fail)
 (refine congrArg (λb=>AV.lit (Value.bool b)) ?_;rw[nS];simp only[gt_iff_lt,decide_eq_true_eq,beq_iff_eq,bne_iff_ne,aZ,kG,kH,decide_eq_false_iff_not,iS,reduceCtorEq,iff_true,iff_false,true_iff,false_iff,eq_self];omega)
def aei(m:ah)(hm:MB m):Holds Tryz.prog 86 [.agg (ao m)] [] (.lit (.bool (sQ m))) []:=by
 have h1:=hm.cls;have h2:=aej m.cls 119 [] [] (λl=>decide (24<l.length)) h1 (λx _=>by simpa using aeh x);unfold sQ;generalize m.cls.any (λl=>decide (24<l.length))=b at *;cases b;all_goals refine Holds.aK 36 0 [.tmp 2] Tryz.func86 ?_
 all_goals repeat'(first|(refine Xq X0 ?_;intro K hK)|refine Xo X0 ?_|refine Xc (h2) ?_|(refine hK _ ?_;clear hK K)|(refine Xg X0 ?_ ?_<;>try intro hb)|refine Xz ?_|(refine Xe ?_;first|refine aS rfl ?_|refine Xl ?_ ?_)|fail)
 all_goals first|rfl|(simp;done)|(refine congrArg (λb=>AV.lit (Value.bool b)) ?_;rw[nS];simp only[or_true,true_or,or_false,false_or,decide_eq_true_eq,beq_iff_eq,bne_iff_ne,aZ,kG,kH,decide_eq_false_iff_not,iS,reduceCtorEq,iff_true,iff_false,true_iff,false_iff,eq_self];omega)
def aek(m:ah)(o:cg)(ho:o.ch.length<9223372036854775808):Holds Tryz.prog 89 [.agg (ao m),.agg (b6 o)] [] (.lit (.bool (eh m.rules none o.ch))) []:=by
 generalize au:eh m.rules none o.ch=res;refine Holds.aK 43 0 [.tmp 4] Tryz.func89 ?_;repeat'(first|(refine Xr X0 ?_;intro K hK)|(refine hK _ ?_;clear hK K)|refine Xz ?_|fail)
 refine aU (λk:Nat=>(⟨an [(2,.ptr 0 0 0),(3,.ptr 1 0 0),(8,.tree 2 (rowsOf dm o.ch)),(9,N0 o.ch.length),(10,N0 k)],[.var (ao m),.var (b6 o)]⟩:St)) (λk=>k<=o.ch.length/\eh m.rules (qw o.ch k) (o.ch.drop k)=res) (λk=>o.ch.length-k) 0 ⟨aT _,au⟩ (Xv X0) ?_;rintro k⟨hk,hr⟩Ql ak ar;by_cases ba:k<o.ch.length
 ·have hd:=j2 o.ch k default ba;generalize bc:o.ch.getD k default=c at *;rw[hd,QV]at hr;have zH:=J7 m c.1;have eJ:((k:Int)-1).toNat=k-1:=Ix;repeat'(first|(refine Xq (X2 @bc @eJ) ?_;intro K hK)|refine Xo (X2 @bc @eJ) ?_|refine Xc (zH) ?_|refine Xc (J8 c.2) ?_|(refine hK _ ?_;clear hK K)|(refine Xg (X2 @bc @eJ) ?_ ?_<;>try intro hb)|(refine Xi ?_ ?_<;>try intro ht)|refine Xz ?_|refine Xh ?_|(refine Xe ?_;first|refine aS rfl ?_|refine Xl ?_ ?_)|refine Xd ?_ ?_|exact Xx|fail)
  ·rw[<- hr];simp[*]
  ·rw[<- hr];simp[*]
  ·rw[<- hr,decide_eq_false (p:=k=0) Ix,decide_eq_false (p:=_<c.1) Ix];simp
  ·refine ak _ (k+1) ⟨Ix,?_⟩ Ix (Xs false [0,1] X0);rw[wY,bc,<- hr,decide_eq_true (p:=_<c.1) ht];simp[*]
  ·refine ak _ (k+1) ⟨Ix,?_⟩ Ix (Xs false [0,1] X0);rw[wY,bc,<- hr,decide_eq_true (p:=k=0) Ix];simp[*]
 ·repeat'(first|(refine Xr X0 ?_;intro K hK)|(refine hK _ ?_;clear hK K)|(refine Xi ?_ ?_<;>try intro ht)|refine Xz ?_|refine Xh ?_|(refine Xe ?_;first|refine aS rfl ?_|refine Xl ?_ ?_)|refine Xd ?_ ?_|exact Xx|fail)
  rw[jr Ix,eh]at hr;rw[<- hr]
def ael(a b:Pr):Holds Tryz.prog 91 [.agg (aH a),.agg (aH b)] [] (N0 (mX a b)) []:=by
 refine Holds.aK 22 0 [.tmp 4] Tryz.func91 ?_;repeat'(first|(refine Xr X0 ?_;intro K hK)|(refine hK _ ?_;clear hK K)|refine Xz ?_|fail)
 (try(refine F1 [4,9,14] rfl NI (by decide +kernel) ?_);intro K hK;simp(disch:=omega)only[Ac,↓Pc,simprocAttr])
 repeat'(first|refine Xo X0 ?_|refine Xc (C8 _ _) ?_|fail)
 refine vh [] (J9 [j5 a.dL b.dL,j5 a.fst b.fst,j5 a.snd b.snd] Iy) NI trivial ⟨bw.cG rfl (tY _) rfl NI (wN _),trivial⟩ rfl Iy ?_;repeat'(first|refine Xo X0 ?_|(refine hK _ ?_;clear hK K)|refine Xz ?_|(refine Xe ?_;first|refine aS rfl ?_|refine Xl ?_ ?_)|fail)
 ·rfl
def aem(n:Int):Holds Tryz.prog 125 [N0 n] [] (.lit (.bool (oB n))) []:=by
 refine Holds.aK 10 0 [.tmp 2] Tryz.func125 ?_;repeat'(first|(refine Xq X0 ?_;intro K hK)|refine Xo X0 ?_|refine Xc (J8 n) ?_|(refine hK _ ?_;clear hK K)|(refine Xg X0 ?_ ?_<;>try intro hb)|refine Xz ?_|(refine Xe ?_;first|refine aS rfl ?_|refine Xl ?_ ?_)|fail)
 all_goals(simp[oB, *]<;>omega)
def aen(m:ah)(p:Pr)(hp:p.ax.length<9223372036854775808)(hm:∀ l∈m.cls,l.length<=24)(hl:m.cls.length<=24):Holds Tryz.prog 90 [.agg (ao m),.agg (aH p)] [] (.lit (.bool (gB m p))) []:=by
 have hg:∀ i,(m.cls.getD i default).length<=24:=λi=>by
  rcases dE i m.cls.length with h|h
  ·exact hm _ (aG h)
  ·rw[List.getD_eq_getElem?_getD,List.getElem?_eq_none h];decide
 have h1:=hg p.fst.toNat;have h2:=hg p.snd.toNat;have hmul:(0:Int)<=(m.cls.getD p.fst.toNat default).length*(m.cls.getD p.snd.toNat default).length/\((m.cls.getD p.fst.toNat default).length:Int)*(m.cls.getD p.snd.toNat default).length<=24*24:=⟨Int.mul_nonneg Ix Ix,Int.mul_le_mul Ix Ix Ix Ix⟩;have hc:=QW p.ax 125 [] [] oB hp (λx _=>by simpa using aem x);unfold gB;generalize wZ:((m.cls.getD p.fst.toNat default).length:Int)*(m.cls.getD p.snd.toNat default).length=mm at *;refine Holds.aK 55 0 [.tmp 4] Tryz.func90 ?_;repeat'(first|(refine Xq @wZ ?_;intro K hK)|refine Xo @wZ ?_|refine Xc (J7 m p.dL) ?_|refine Xc (hc) ?_|(refine hK _ ?_;clear hK K)|(refine Xg @wZ ?_ ?_<;>try intro hb)|(refine Xi ?_ ?_<;>try intro ht)|refine Xz ?_|(refine Xe ?_;first|refine aS rfl ?_|refine Xl ?_ ?_)|refine Xd ?_ ?_|exact Xx|fail)
 ·rw[hb];rfl
 iterate 4
  ·rw[decide_eq_false Ix];simp
 ·rw[decide_eq_true Ix];simp[*]
def aeo(m:ah)(c:Ct)(hc:c.aY.length<9223372036854775808):Holds Tryz.prog 94 [.agg (ao m),.agg (db c)] [] (.lit (.bool (iV m c))) []:=by
 have J':=J7 m c.dL;have gr:=J8 c.bX;generalize au:iV m c=res;unfold iV at au;refine Holds.aK 81 0 [.tmp 4] Tryz.func94 ?_;repeat'(first|(refine Xq X0 ?_;intro K hK)|refine Xo X0 ?_|refine Xc (J') ?_|refine Xc (gr) ?_|(refine hK _ ?_;clear hK K)|(refine Xg X0 ?_ ?_<;>try intro hb)|(refine Xi ?_ ?_<;>try intro ht)|refine Xz ?_|(refine Xe ?_;first|refine aS rfl ?_|refine Xl ?_ ?_)|exact Xx|fail)
 ·rw[<- au,hb];rfl
 ·rw[<- au,decide_eq_false Ix];simp
 ·rw[<- au,decide_eq_false Ix];simp
 ·rw[<- au,ht];simp
 have eP:(jA m.rules c.dL&&decide (0<=c.most/\c.most<=1048576)&&jk c.bX)=true:=by rw[decide_eq_true Ix];simp[*]
 rw[eP,iu]at au;refine aU (λk:Nat=>(⟨an [(2,.ptr 0 0 0),(3,.ptr 1 0 0),(29,.tree 3 (rowsOf qq c.aY)),(30,N0 c.aY.length),(31,N0 k)],[.var (ao m),.var (db c)]⟩:St)) (λk=>k<=c.aY.length/\er m (qw c.aY k) (c.aY.drop k)=res) (λk=>c.aY.length-k) 0 ⟨aT _,au⟩ (Xv X0) ?_;rintro k⟨hk,hr⟩Ql ak ar;by_cases ba:k<c.aY.length
 ·have hd:=j2 c.aY k default ba;generalize bc:c.aY.getD k default=x at *;rw[hd,QX]at hr;have eJ:((k:Int)-1).toNat=k-1:=Ix;generalize cu:c.aY.getD (k-1) default=y at *;repeat'(first|(refine Xr (X2 @bc @eJ) ?_;intro K hK)|refine Xo (X2 @bc @eJ) ?_|refine Xc (aep m x.cls x.opt) ?_|(refine hK _ ?_;clear hK K)|(refine Xg (X2 @bc @eJ) ?_ ?_<;>try intro hb)|(refine Xi ?_ ?_<;>try intro ht)|refine Xz ?_|refine Xh ?_|(refine Xe ?_;first|refine aS rfl ?_|refine Xl ?_ ?_)|refine Xd ?_ ?_|exact Xx|fail)
  ·rw[<- hr,hb];simp
  ·rw[<- hr,decide_eq_false (p:=1<=x.wt/\x.wt<=1000) Ix];simp
  ·rw[<- hr,decide_eq_false (p:=1<=x.wt/\x.wt<=1000) Ix];simp
  have hw:decide (1<=x.wt/\x.wt<=1000)=true:=decide_eq_true Ix;have bI:jl m x.cls x.opt=true:=by assumption
  rw[bI,hw,iu,iu]at hr;(try(refine F1 [12,22] rfl NI (by decide +kernel) ?_);intro K hK;simp(disch:=omega)only[Ac,↓Pc,simprocAttr,bc,eJ,cu])
  repeat'(first|(refine Xq (X3 @bc @eJ @cu) ?_;intro K hK)|refine Xo (X3 @bc @eJ @cu) ?_|refine Xc (C8 _ _) ?_|(refine hK _ ?_;clear hK K)|(refine Xg (X3 @bc @eJ @cu) ?_ ?_<;>try intro hb)|(refine Xi ?_ ?_<;>try intro ht)|refine Xz ?_|refine Xd ?_ ?_|exact Xx|fail)
  ·refine vh [] (J9 [j5 y.cls x.cls,j5 y.opt x.opt] Iy) NI trivial ⟨bw.cG rfl (tY _) rfl NI (wN _),trivial⟩ rfl Iy ?_;repeat'(first|(refine Xr (X3 @bc @eJ @cu) ?_;intro K hK)|refine Xo (X3 @bc @eJ @cu) ?_|(refine hK _ ?_;clear hK K)|(refine Xi ?_ ?_<;>try intro ht)|refine Xz ?_|refine Xh ?_|(refine Xe ?_;first|refine aS rfl ?_|refine Xl ?_ ?_)|refine Xd ?_ ?_|exact Xx|fail)
   ·rw[<- hr,decide_eq_false (p:=k=0) Ix,decide_eq_false (p:=um y x<0) (by unfold um;omega)];simp
   ·refine ak _ (k+1) ⟨Ix,?_⟩ Ix (Xs false [0,1] X0);rw[wY,bc,<- hr,decide_eq_true (p:=um y x<0) (by unfold um;omega)];simp
  ·refine ak _ (k+1) ⟨Ix,?_⟩ Ix (Xs false [0,1] X0);rw[wY,bc,<- hr,decide_eq_true (p:=k=0) Ix];simp
 ·repeat'(first|(refine Xr X0 ?_;intro K hK)|(refine hK _ ?_;clear hK K)|(refine Xi ?_ ?_<;>try intro ht)|refine Xz ?_|refine Xh ?_|(refine Xe ?_;first|refine aS rfl ?_|refine Xl ?_ ?_)|refine Xd ?_ ?_|exact Xx|fail)
  rw[jr Ix,er]at hr;rw[<- hr]
def aeq(m:ah)(o:cg)(ho:o.ch.length<9223372036854775808):Holds Tryz.prog 88 [.agg (b6 o),.ptr 0 0 0] [.var (ao m)] (.lit (.bool (!eh m.rules none o.ch))) [.var (ao m)]:=by
 refine Holds.aK 8 1 [.tmp 3] Tryz.func88 ?_;refine Vd X0 (aek m o ho) ?_;exact Xw false [0] X0
def aer(m:ah)(c:Ct)(hc:c.aY.length<9223372036854775808):Holds Tryz.prog 93 [.agg (db c),.ptr 0 0 0] [.var (ao m)] (.lit (.bool (!iV m c))) [.var (ao m)]:=by
 refine Holds.aK 8 1 [.tmp 3] Tryz.func93 ?_;refine Vd X0 (aeo m c hc) ?_;exact Xw false [0] X0
def C9{α:Type}[Inhabited α]{l:List α}{f:α->Bool}{k:Nat}(hk:k<l.length):(l.drop k).any f=(f (l.getD k default)||(l.drop (k+1)).any f):=by
 rw[j2 l k default hk,List.any_cons]
def Ka(m:ah)(hm:MB m):Holds Tryz.prog 56 [.agg (ao m)] [] (N0 (jO m)) []:=by
 generalize au:jO m=res;unfold jO at au;have sR:=hm.cls;have uk:=hm.ae;refine Holds.aK 52 0 [.tmp 2] Tryz.func56 ?_;repeat'(first|(refine Xq X0 ?_;intro K hK)|refine Xc (aei m hm) ?_|(refine hK _ ?_;clear hK K)|(refine Xi ?_ ?_<;>try intro ht)|refine Xz ?_|(refine Xe ?_;first|refine aS rfl ?_|refine Xl ?_ ?_)|fail)
 ·rw[if_pos ht]at au;rw[<- au]
 rw[if_neg (by simp[ht])]at au;have aN:m.cls.length<=24/\∀ l∈m.cls,l.length<=24:=by
  have h:=ht;unfold sQ at h;rw[decide_eq_false_iff_not]at h;refine⟨Ix,λl hl=>?_⟩;rcases dE 24 l.length with h1|h1
  ·exact absurd (.inr (.inl (List.any_eq_true.2 ⟨l,hl,by simpa using h1⟩))) h
  ·exact h1
 clear ht;refine aU (λk:Nat=>(⟨an [(1,.ptr 0 0 0),(10,.tree 1 (rowsOf aQ m.cls)),(11,N0 m.cls.length),(12,N0 k)],[.var (ao m)]⟩:St)) (λk=>k<=m.cls.length/\(m.cls.any λl=>l.any λo=>!eh m.rules none o.ch)=(m.cls.drop k).any λl=>l.any λo=>!eh m.rules none o.ch) (λk=>m.cls.length-k) 0 ⟨aT _,rfl⟩ (Xv X0) ?_;rintro k⟨hk,hr⟩Ql ak ar;by_cases ba:k<m.cls.length
 ·have cH:=aG (d:=(default:List cg)) ba;rw[C9 ba]at hr;generalize bc:m.cls.getD k default=l at *;have oa:=aes l 88 [.ptr 0 0 0] [.var (ao m)] (λo=>!eh m.rules none o.ch) (hm.opt l cH) (λo ho=>by simpa using aeq m o (hm.ch l cH o ho));repeat'(first|(refine Xr @bc ?_;intro K hK)|(refine hK _ ?_;clear hK K)|(refine Xi ?_ ?_<;>try intro ht)|refine Xz ?_|refine Xh ?_|refine Xd ?_ ?_|exact Xx|fail)
  refine fF oa (bb _) ?_;repeat'(first|(refine Xr @bc ?_;intro K hK)|(refine hK _ ?_;clear hK K)|(refine Xi ?_ ?_<;>try intro ht)|refine Xz ?_|refine Xh ?_|(refine Xe ?_;first|refine aS rfl ?_|refine Xl ?_ ?_)|refine Xd ?_ ?_|exact Xx|fail)
  ·rw[ht,xI]at hr;rw[if_pos hr]at au;rw[<- au]
  ·rw[ht,Bool.false_or]at hr;exact ak _ (k+1) ⟨Ix,hr⟩ Ix (Xv X0)
 rw[jr Ix,List.any_nil]at hr;rw[if_neg (by rw[hr];simp)]at au;((repeat'(first|refine Va X0 ?_|(refine Xi ?_ ?_<;>try intro ht)|exact Xx|fail)))
 refine ar _ _ rfl ?_;clear ak ar Ql;clear hr ba hk;repeat(refine Xu ?_)
 repeat'(first|(refine Xr X0 ?_;intro K hK)|(refine hK _ ?_;clear hK K)|refine Xz ?_|fail)
 refine aU (λk:Nat=>(⟨an [(1,.ptr 0 0 0),(21,.tree 4 (rowsOf aH m.ae)),(22,N0 m.ae.length),(23,N0 k)],[.var (ao m)]⟩:St)) (λk=>k<=m.ae.length/\fj m none m.ae=fj m (qw m.ae k) (m.ae.drop k)) (λk=>m.ae.length-k) 0 ⟨aT _,rfl⟩ (Xv X0) ?_;rintro k⟨hk,hr⟩Ql ak ar;by_cases ba:k<m.ae.length
 ·have cH:=aG (d:=(default:Pr)) ba;have hd:=j2 m.ae k default ba;have eJ:((k:Int)-1).toNat=k-1:=Ix;generalize bc:m.ae.getD k default=p at *;rw[hd,QY]at hr;generalize cu:m.ae.getD (k-1) default=q at *;repeat'(first|(refine Xq (X3 @bc @eJ @cu) ?_;intro K hK)|refine Xo (X3 @bc @eJ @cu) ?_|refine Xc (aen m p (hm.ax p cH) aN.2 aN.1) ?_|refine Xc (ael q p) ?_|(refine hK _ ?_;clear hK K)|(refine Xg (X3 @bc @eJ @cu) ?_ ?_<;>try intro hb)|(refine Xi ?_ ?_<;>try intro ht)|refine Xz ?_|refine Xh ?_|(refine Xe ?_;first|refine aS rfl ?_|refine Xl ?_ ?_)|refine Xd ?_ ?_|exact Xx|fail)
  ·have C':gB m p=false:=by assumption
   rw[C',pU,pU]at hr;rw[if_pos hr]at au;rw[<- au]
  ·rw[decide_eq_false (p:=k=0) Ix,decide_eq_false (p:=mX q p<0) Ix,Bool.or_false,Bool.and_false,pU]at hr;rw[if_pos hr]at au;rw[<- au]
  ·have C':gB m p=true:=by assumption
   rw[C',decide_eq_true (p:=mX q p<0) Ix,Bool.or_true,iu,iu]at hr;refine ak _ (k+1) ⟨Ix,?_⟩ Ix (Xs false [0] X0);rw[wY,bc];exact hr
  ·have C':gB m p=true:=by assumption
   rw[C',decide_eq_true (p:=k=0) Ix,xI,iu,iu]at hr;refine ak _ (k+1) ⟨Ix,?_⟩ Ix (Xs false [0] X0);rw[wY,bc];exact hr
 rw[jr Ix,fj]at hr;rw[if_neg (by rw[hr];simp)]at au;((repeat'(first|refine Va X0 ?_|(refine Xi ?_ ?_<;>try intro ht)|exact Xx|fail)))
 refine ar _ _ rfl ?_;clear ak ar Ql;clear hr ba hk;repeat(refine Xu ?_)
 have oa:=aet m.aC 93 [.ptr 0 0 0] [.var (ao m)] (λc=>!iV m c) hm.aC (λc hc=>by simpa using aer m c (hm.lk c hc));repeat'(first|(refine Xr X0 ?_;intro K hK)|refine Xz ?_|fail)
 refine fF oa (bb _) ?_;repeat'(first|(refine Xr X0 ?_;intro K hK)|(refine hK _ ?_;clear hK K)|(refine Xi ?_ ?_<;>try intro ht)|refine Xz ?_|(refine Xe ?_;first|refine aS rfl ?_|refine Xl ?_ ?_)|fail)
 ·rw[if_pos ht]at au;rw[<- au]
 ·rw[if_neg (by rw[ht];simp)]at au;rw[<- au]
def aeu(l:List (List (Int×Int)))(g:FuncId)(bk:List AV)(aa:List Ob)(p:(List (Int×Int))->Bool)(hl:l.length<9223372036854775808)(hg:∀ x∈l,Holds Tryz.prog g ([.tree 2 (rowsOf dm x)]++bk) aa (.lit (.bool (p x))) aa):
  Holds Tryz.prog 131 [.tree 1 (rowsOf rp l),.fn g bk] aa (N0 (fk p 0 l)) aa:=by
 generalize au:fk p 0 l=res;refine Holds.aK 19 aa.length [.tmp 4] Tryz.func131 ?_;refine Vb (X3 @cf @fS @rp.eq_1) ?_;refine aU (λk:Nat=>(⟨an [(0,.tree 1 (rowsOf rp l)),(1,.fn g bk),(7,N0 l.length),(8,N0 k)],aa⟩:St)) (λk=>k<=l.length/\fk p k (l.drop k)=res) (λk=>l.length-k) 0 ⟨aT _,au⟩ (Xv X0) ?_;rintro k⟨hk,hr⟩Ql ak ar;by_cases ba:k<l.length
 ·have hx:=hg _ (aG (d:=default) ba);have hd:=j2 l k default ba;generalize cW:l.getD k default=x at *;rw[hd,fk]at hr;simp only[dh,ec,rp]at hx;((repeat'(first|refine Vb (X4 @cf @fS @rp.eq_1 @cW) ?_|(refine Xi ?_ ?_<;>try intro ht)|exact Xx|fail))<;>try with_reducible intro K hK)
  refine fF hx (bb _) ?_;((try revert hK K);(repeat'(first|refine Vb (X3 @cf @fS @rp.eq_1) ?_|(refine Xi ?_ ?_<;>try intro ht)|fail)))
  ·rw[if_pos (by assumption)]at hr;rw[<- hr];exact ed rfl (bb _) rfl
  ·rw[if_neg (by simp_all)]at hr;exact ak _ (k+1) ⟨Ix,hr⟩ Ix (Xv X0)
 ·((repeat'(first|refine Vb (X3 @cf @fS @rp.eq_1) ?_|(refine Xi ?_ ?_<;>try intro ht)|exact Xx|fail)))
  rw[jr Ix,fk]at hr;rw[<- hr];exact ed rfl (bb _) rfl
def QZ(l:List (List (Int×Int)))(g:FuncId)(bk:List AV)(aa:List Ob)(p:(List (Int×Int))->Bool)(hl:l.length<9223372036854775808)(hg:∀ x∈l,Holds Tryz.prog g ([.tree 2 (rowsOf dm x)]++bk) aa (.lit (.bool (p x))) aa):
  Holds Tryz.prog 98 [.tree 1 (rowsOf rp l),.fn g bk] aa (.lit (.bool (l.any p))) aa:=by
 rw[<- yh p l 0];refine Holds.aK 9 aa.length [.tmp 4] Tryz.func98 ?_;((refine Vb (X3 @cf @fS @rp.eq_1) ?_)<;>try with_reducible intro K hK)
 refine fF (aeu l g bk aa p hl hg) (bb _) ?_;((try revert hK K);(refine Vb (X3 @cf @fS @rp.eq_1) ?_))
 exact ed rfl (bb _) rfl
def aev(l:List Pr)(g:FuncId)(bk:List AV)(aa:List Ob)(p:Pr->Bool)(hl:l.length<9223372036854775808)(hg:∀ x∈l,Holds Tryz.prog g ([.agg (aH x)]++bk) aa (.lit (.bool (p x))) aa):
  Holds Tryz.prog 156 [.tree 4 (rowsOf aH l),.fn g bk] aa (N0 (fk p 0 l)) aa:=by
 generalize au:fk p 0 l=res;refine Holds.aK 19 aa.length [.tmp 4] Tryz.func156 ?_;refine Vb (X3 @cf @fS @aH.eq_1) ?_;refine aU (λk:Nat=>(⟨an [(0,.tree 4 (rowsOf aH l)),(1,.fn g bk),(7,N0 l.length),(8,N0 k)],aa⟩:St)) (λk=>k<=l.length/\fk p k (l.drop k)=res) (λk=>l.length-k) 0 ⟨aT _,au⟩ (Xv X0) ?_;rintro k⟨hk,hr⟩Ql ak ar;by_cases ba:k<l.length
 ·have hx:=hg _ (aG (d:=default) ba);have hd:=j2 l k default ba;generalize cW:l.getD k default=x at *;rw[hd,fk]at hr;simp only[dh,ec,aH]at hx;((repeat'(first|refine Vb (X4 @cf @fS @aH.eq_1 @cW) ?_|(refine Xi ?_ ?_<;>try intro ht)|exact Xx|fail))<;>try with_reducible intro K hK)
  refine fF hx (bb _) ?_;((try revert hK K);(repeat'(first|refine Vb (X3 @cf @fS @aH.eq_1) ?_|(refine Xi ?_ ?_<;>try intro ht)|fail)))
  ·rw[if_pos (by assumption)]at hr;rw[<- hr];exact ed rfl (bb _) rfl
  ·rw[if_neg (by simp_all)]at hr;exact ak _ (k+1) ⟨Ix,hr⟩ Ix (Xv X0)
 ·((repeat'(first|refine Vb (X3 @cf @fS @aH.eq_1) ?_|(refine Xi ?_ ?_<;>try intro ht)|exact Xx|fail)))
  rw[jr Ix,fk]at hr;rw[<- hr];exact ed rfl (bb _) rfl
def Q3(l:List Pr)(g:FuncId)(bk:List AV)(aa:List Ob)(p:Pr->Bool)(hl:l.length<9223372036854775808)(hg:∀ x∈l,Holds Tryz.prog g ([.agg (aH x)]++bk) aa (.lit (.bool (p x))) aa):
  Holds Tryz.prog 149 [.tree 4 (rowsOf aH l),.fn g bk] aa (.lit (.bool (l.any p))) aa:=by
 rw[<- yh p l 0];refine Holds.aK 9 aa.length [.tmp 4] Tryz.func149 ?_;((refine Vb (X3 @cf @fS @aH.eq_1) ?_)<;>try with_reducible intro K hK)
 refine fF (aev l g bk aa p hl hg) (bb _) ?_;((try revert hK K);(refine Vb (X3 @cf @fS @aH.eq_1) ?_))
 exact ed rfl (bb _) rfl
end T

