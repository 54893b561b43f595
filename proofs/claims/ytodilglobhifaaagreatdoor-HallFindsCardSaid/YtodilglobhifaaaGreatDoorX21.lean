import Derived.Test.YtodilglobhifaaaGreatDoorX20
set_option linter.all false
set_option maxHeartbeats 0
set_option maxRecDepth 20000
open Bool renaming eq_iff_iff→kz,and_eq_true→bd,or_eq_true→jI,not_eq_true'→g7,false_eq_true→j7,true_and→iD,true_or→qT,false_or→mn,false_and→xI,not_false→sA,not_true→tZ
open Nat renaming zero_le→aN,lt_or_ge→dD,le_refl→aM
open List renaming drop_eq_nil_of_le→dw,getD_eq_getElem?_getD→aw,getElem?_eq_none→iF,any_eq_true→nQ,any_nil→vW
open Int renaming mul_nonneg→AD,mul_le_mul→AE
open Go Go.Am Go.Proofs
namespace T
def V6(l:List bh):ao Tryz.prog 93 [.tree 6 (rowsOf bA l)] [] (.lit (.bool (decide (24<l.length)))) []:=by
 refine ao.aO 6 0 [.tmp 2] Tryz.func93 ?_;repeat'(first|(refine Xr X0 ?_;intro K hK)|(refine hK _ ?_;clear hK K)|refine Xz ?_|(refine Xe ?_;first|refine aT rfl ?_|refine Xl ?_ ?_)|fail)
 (refine congrArg (λb=>AV.lit (Value.bool b)) ?_;rw[kz];simp only[gt_iff_lt,decide_eq_true_eq,beq_iff_eq,bne_iff_ne,bd,jI,g7,decide_eq_false_iff_not,j7,reduceCtorEq,iff_true,iff_false,true_iff,false_iff,eq_self];omega)
def V7(m:ah)(hm:MB m):ao Tryz.prog 55 [.agg (aA m)] [] (.lit (.bool (oC m))) []:=by
 have h1:=hm.cls;have h2:=V8 m.cls 93 [] [] (λl=>decide (24<l.length)) h1 (λx _=>by simpa using V6 x);unfold oC;generalize m.cls.any (λl=>decide (24<l.length))=b at *;cases b;all_goals refine ao.aO 36 0 [.tmp 2] Tryz.func55 ?_
 all_goals repeat'(first|(refine Xq X0 ?_;intro K hK)|refine Xo X0 ?_|refine Xc (h2) ?_|(refine hK _ ?_;clear hK K)|(refine Xg X0 ?_ ?_<;>try intro hb)|refine Xz ?_|(refine Xe ?_;first|refine aT rfl ?_|refine Xl ?_ ?_)|fail)
 all_goals first|rfl|(simp;done)|(refine congrArg (λb=>AV.lit (Value.bool b)) ?_;rw[kz];simp only[or_true,true_or,or_false,false_or,decide_eq_true_eq,beq_iff_eq,bne_iff_ne,bd,jI,g7,decide_eq_false_iff_not,j7,reduceCtorEq,iff_true,iff_false,true_iff,false_iff,eq_self];omega)
def V9(m:ah)(o:bh)(ho:o.ch.length<9223372036854775808):ao Tryz.prog 58 [.agg (aA m),.agg (bA o)] [] (.lit (.bool (dh m.rules none o.ch))) []:=by
 generalize az:dh m.rules none o.ch=res;refine ao.aO 43 0 [.tmp 4] Tryz.func58 ?_;repeat'(first|(refine Xr X0 ?_;intro K hK)|(refine hK _ ?_;clear hK K)|refine Xz ?_|fail)
 refine aX (λk:Nat=>(⟨au [(2,.ptr 0 0 0),(3,.ptr 1 0 0),(8,.tree 2 (rowsOf aj o.ch)),(9,aah o.ch.length),(10,aah k)],[.var (aA m),.var (bA o)]⟩:St)) (λk=>k<=o.ch.length/\dh m.rules (mK o.ch k) (o.ch.drop k)=res) (λk=>o.ch.length-k) 0 ⟨aN _,az⟩ (Xv X0) ?_;rintro k⟨hk,hr⟩Ql an ay;by_cases aQ:k<o.ch.length
 ·have hd:=cF o.ch k default aQ;generalize bJ:o.ch.getD k default=c at *;rw[hd,NX]at hr;have V':=FO m c.1;have fi:((k:Int)-1).toNat=k-1:=Ay;repeat'(first|(refine Xq (X2 @bJ @fi) ?_;intro K hK)|refine Xo (X2 @bJ @fi) ?_|refine Xc (V') ?_|refine Xc (FQ c.2) ?_|(refine hK _ ?_;clear hK K)|(refine Xg (X2 @bJ @fi) ?_ ?_<;>try intro hb)|(refine Xi ?_ ?_<;>try intro ht)|refine Xz ?_|refine Xh ?_|(refine Xe ?_;first|refine aT rfl ?_|refine Xl ?_ ?_)|refine Xd ?_ ?_|exact Xx|fail)
  ·rw[<- hr];simp[*]
  ·rw[<- hr];simp[*]
  ·rw[<- hr,decide_eq_false (p:=k=0) Ay,decide_eq_false (p:=_<c.1) Ay];simp
  ·refine an _ (k+1) ⟨Ay,?_⟩ Ay (Xs false [0,1] X0);rw[rF,bJ,<- hr,decide_eq_true (p:=_<c.1) ht];simp[*]
  ·refine an _ (k+1) ⟨Ay,?_⟩ Ay (Xs false [0,1] X0);rw[rF,bJ,<- hr,decide_eq_true (p:=k=0) Ay];simp[*]
 ·repeat'(first|(refine Xr X0 ?_;intro K hK)|(refine hK _ ?_;clear hK K)|(refine Xi ?_ ?_<;>try intro ht)|refine Xz ?_|refine Xh ?_|(refine Xe ?_;first|refine aT rfl ?_|refine Xl ?_ ?_)|refine Xd ?_ ?_|exact Xx|fail)
  rw[dw Ay,dh]at hr;rw[<- hr]
def Wa(a b:Pr):ao Tryz.prog 60 [.agg (bL a),.agg (bL b)] [] (aah (oB a b)) []:=by
 refine ao.aO 22 0 [.tmp 4] Tryz.func60 ?_;repeat'(first|(refine Xr X0 ?_;intro K hK)|(refine hK _ ?_;clear hK K)|refine Xz ?_|fail)
 (try(refine AM [4,9,14] rfl Ha (by decide +kernel) ?_);intro K hK;simp(disch:=omega)only[Ac,↓Pc,simprocAttr])
 repeat'(first|refine Xo X0 ?_|refine Xc (Ck _ _) ?_|fail)
 refine wh [] (FR [gk a.cX b.cX,gk a.fst b.fst,gk a.snd b.snd] Dg) Ha trivial ⟨a9.bO rfl (kF _) rfl Ha (n9 _),trivial⟩ rfl Dg ?_;repeat'(first|refine Xo X0 ?_|(refine hK _ ?_;clear hK K)|refine Xz ?_|(refine Xe ?_;first|refine aT rfl ?_|refine Xl ?_ ?_)|fail)
 ·rfl
def Wd(n:Int):ao Tryz.prog 99 [aah n] [] (.lit (.bool (l6 n))) []:=by
 refine ao.aO 10 0 [.tmp 2] Tryz.func99 ?_;repeat'(first|(refine Xq X0 ?_;intro K hK)|refine Xo X0 ?_|refine Xc (FQ n) ?_|(refine hK _ ?_;clear hK K)|(refine Xg X0 ?_ ?_<;>try intro hb)|refine Xz ?_|(refine Xe ?_;first|refine aT rfl ?_|refine Xl ?_ ?_)|fail)
 all_goals(simp[l6, *]<;>omega)
def We(m:ah)(p:Pr)(hp:p.bg.length<9223372036854775808)(hm:∀ l∈m.cls,l.length<=24)(hl:m.cls.length<=24):ao Tryz.prog 59 [.agg (aA m),.agg (bL p)] [] (.lit (.bool (gm m p))) []:=by
 have hg:∀ i,(m.cls.getD i default).length<=24:=λi=>by
  rcases dD i m.cls.length with h|h
  ·exact hm _ (aG h)
  ·rw[aw,iF h];decide
 have h1:=hg p.fst.toNat;have h2:=hg p.snd.toNat;have hmul:(0:Int)<=(m.cls.getD p.fst.toNat default).length*(m.cls.getD p.snd.toNat default).length/\((m.cls.getD p.fst.toNat default).length:Int)*(m.cls.getD p.snd.toNat default).length<=24*24:=⟨AD Ay Ay,AE Ay Ay Ay Ay⟩;have hc:=Wf p.bg 99 [] [] l6 hp (λx _=>by simpa using Wd x);unfold gm;generalize w8:((m.cls.getD p.fst.toNat default).length:Int)*(m.cls.getD p.snd.toNat default).length=mm at *;refine ao.aO 55 0 [.tmp 4] Tryz.func59 ?_;repeat'(first|(refine Xq @w8 ?_;intro K hK)|refine Xo @w8 ?_|refine Xc (FO m p.cX) ?_|refine Xc (hc) ?_|(refine hK _ ?_;clear hK K)|(refine Xg @w8 ?_ ?_<;>try intro hb)|(refine Xi ?_ ?_<;>try intro ht)|refine Xz ?_|(refine Xe ?_;first|refine aT rfl ?_|refine Xl ?_ ?_)|refine Xd ?_ ?_|exact Xx|fail)
 ·rw[hb];rfl
 iterate 4
  ·rw[decide_eq_false Ay];simp
 ·rw[decide_eq_true Ay];simp[*]
def Wg(m:ah)(c:Ct)(hc:c.fH.length<9223372036854775808):ao Tryz.prog 63 [.agg (aA m),.agg (dE c)] [] (.lit (.bool (fE m c))) []:=by
 have zB:=FO m c.cX;have zC:=FQ c.da;generalize az:fE m c=res;unfold fE at az;refine ao.aO 81 0 [.tmp 4] Tryz.func63 ?_;repeat'(first|(refine Xq X0 ?_;intro K hK)|refine Xo X0 ?_|refine Xc (zB) ?_|refine Xc (zC) ?_|(refine hK _ ?_;clear hK K)|(refine Xg X0 ?_ ?_<;>try intro hb)|(refine Xi ?_ ?_<;>try intro ht)|refine Xz ?_|(refine Xe ?_;first|refine aT rfl ?_|refine Xl ?_ ?_)|exact Xx|fail)
 ·rw[<- az,hb];rfl
 ·rw[<- az,decide_eq_false Ay];simp
 ·rw[<- az,decide_eq_false Ay];simp
 ·rw[<- az,ht];simp
 have eO:(gY m.rules c.cX&&decide (0<=c.most/\c.most<=1048576)&&fw c.da)=true:=by rw[decide_eq_true Ay];simp[*]
 rw[eO,iD]at az;refine aX (λk:Nat=>(⟨au [(2,.ptr 0 0 0),(3,.ptr 1 0 0),(29,.tree 3 (rowsOf kD c.fH)),(30,aah c.fH.length),(31,aah k)],[.var (aA m),.var (dE c)]⟩:St)) (λk=>k<=c.fH.length/\gn m (mK c.fH k) (c.fH.drop k)=res) (λk=>c.fH.length-k) 0 ⟨aN _,az⟩ (Xv X0) ?_;rintro k⟨hk,hr⟩Ql an ay;by_cases aQ:k<c.fH.length
 ·have hd:=cF c.fH k default aQ;generalize bJ:c.fH.getD k default=x at *;rw[hd,NZ]at hr;have fi:((k:Int)-1).toNat=k-1:=Ay;generalize cg:c.fH.getD (k-1) default=y at *;repeat'(first|(refine Xr (X2 @bJ @fi) ?_;intro K hK)|refine Xo (X2 @bJ @fi) ?_|refine Xc (Wh m x.cls x.opt) ?_|(refine hK _ ?_;clear hK K)|(refine Xg (X2 @bJ @fi) ?_ ?_<;>try intro hb)|(refine Xi ?_ ?_<;>try intro ht)|refine Xz ?_|refine Xh ?_|(refine Xe ?_;first|refine aT rfl ?_|refine Xl ?_ ?_)|refine Xd ?_ ?_|exact Xx|fail)
  ·rw[<- hr,hb];simp
  ·rw[<- hr,decide_eq_false (p:=1<=x.wt/\x.wt<=1000) Ay];simp
  ·rw[<- hr,decide_eq_false (p:=1<=x.wt/\x.wt<=1000) Ay];simp
  have hw:decide (1<=x.wt/\x.wt<=1000)=true:=decide_eq_true Ay;have bb:iN m x.cls x.opt=true:=by assumption
  rw[bb,hw,iD,iD]at hr;(try(refine AM [12,22] rfl Ha (by decide +kernel) ?_);intro K hK;simp(disch:=omega)only[Ac,↓Pc,simprocAttr,bJ,fi,cg])
  repeat'(first|(refine Xq (X3 @bJ @fi @cg) ?_;intro K hK)|refine Xo (X3 @bJ @fi @cg) ?_|refine Xc (Ck _ _) ?_|(refine hK _ ?_;clear hK K)|(refine Xg (X3 @bJ @fi @cg) ?_ ?_<;>try intro hb)|(refine Xi ?_ ?_<;>try intro ht)|refine Xz ?_|refine Xd ?_ ?_|exact Xx|fail)
  ·refine wh [] (FR [gk y.cls x.cls,gk y.opt x.opt] Dg) Ha trivial ⟨a9.bO rfl (kF _) rfl Ha (n9 _),trivial⟩ rfl Dg ?_;repeat'(first|(refine Xr (X3 @bJ @fi @cg) ?_;intro K hK)|refine Xo (X3 @bJ @fi @cg) ?_|(refine hK _ ?_;clear hK K)|(refine Xi ?_ ?_<;>try intro ht)|refine Xz ?_|refine Xh ?_|(refine Xe ?_;first|refine aT rfl ?_|refine Xl ?_ ?_)|refine Xd ?_ ?_|exact Xx|fail)
   ·rw[<- hr,decide_eq_false (p:=k=0) Ay,decide_eq_false (p:=pz y x<0) (by unfold pz;omega)];simp
   ·refine an _ (k+1) ⟨Ay,?_⟩ Ay (Xs false [0,1] X0);rw[rF,bJ,<- hr,decide_eq_true (p:=pz y x<0) (by unfold pz;omega)];simp
  ·refine an _ (k+1) ⟨Ay,?_⟩ Ay (Xs false [0,1] X0);rw[rF,bJ,<- hr,decide_eq_true (p:=k=0) Ay];simp
 ·repeat'(first|(refine Xr X0 ?_;intro K hK)|(refine hK _ ?_;clear hK K)|(refine Xi ?_ ?_<;>try intro ht)|refine Xz ?_|refine Xh ?_|(refine Xe ?_;first|refine aT rfl ?_|refine Xl ?_ ?_)|refine Xd ?_ ?_|exact Xx|fail)
  rw[dw Ay,gn]at hr;rw[<- hr]
def Wi(m:ah)(o:bh)(ho:o.ch.length<9223372036854775808):ao Tryz.prog 57 [.agg (bA o),.ptr 0 0 0] [.var (aA m)] (.lit (.bool (!dh m.rules none o.ch))) [.var (aA m)]:=by
 refine ao.aO 8 1 [.tmp 3] Tryz.func57 ?_;refine Vd X0 (V9 m o ho) ?_;exact Xw false [0] X0
def Wj(m:ah)(c:Ct)(hc:c.fH.length<9223372036854775808):ao Tryz.prog 62 [.agg (dE c),.ptr 0 0 0] [.var (aA m)] (.lit (.bool (!fE m c))) [.var (aA m)]:=by
 refine ao.aO 8 1 [.tmp 3] Tryz.func62 ?_;refine Vd X0 (Wg m c hc) ?_;exact Xw false [0] X0
def w9{α:Type}[Inhabited α]{l:List α}{f:α->Bool}{k:Nat}(hk:k<l.length):(l.drop k).any f=(f (l.getD k default)||(l.drop (k+1)).any f):=by
 rw[cF l k default hk,List.any_cons]
def P0(m:ah)(hm:MB m):ao Tryz.prog 24 [.agg (aA m)] [] (aah (l7 m)) []:=by
 generalize az:l7 m=res;unfold l7 at az;have pL:=hm.cls;have ln:=hm.ae;refine ao.aO 52 0 [.tmp 2] Tryz.func24 ?_;repeat'(first|(refine Xq X0 ?_;intro K hK)|refine Xc (V7 m hm) ?_|(refine hK _ ?_;clear hK K)|(refine Xi ?_ ?_<;>try intro ht)|refine Xz ?_|(refine Xe ?_;first|refine aT rfl ?_|refine Xl ?_ ?_)|fail)
 ·rw[if_pos ht]at az;rw[<- az]
 rw[if_neg (by simp[ht])]at az;have aE:m.cls.length<=24/\∀ l∈m.cls,l.length<=24:=by
  have h:=ht;unfold oC at h;rw[decide_eq_false_iff_not]at h;refine⟨Ay,λl hl=>?_⟩;rcases dD 24 l.length with h1|h1
  ·exact absurd (.inr (.inl (nQ.2 ⟨l,hl,by simpa using h1⟩))) h
  ·exact h1
 clear ht;refine aX (λk:Nat=>(⟨au [(1,.ptr 0 0 0),(10,.tree 1 (rowsOf bk m.cls)),(11,aah m.cls.length),(12,aah k)],[.var (aA m)]⟩:St)) (λk=>k<=m.cls.length/\(m.cls.any λl=>l.any λo=>!dh m.rules none o.ch)=(m.cls.drop k).any λl=>l.any λo=>!dh m.rules none o.ch) (λk=>m.cls.length-k) 0 ⟨aN _,rfl⟩ (Xv X0) ?_;rintro k⟨hk,hr⟩Ql an ay;by_cases aQ:k<m.cls.length
 ·have eh:=aG (d:=(default:List bh)) aQ;rw[w9 aQ]at hr;generalize bJ:m.cls.getD k default=l at *;have dX:=Wl l 57 [.ptr 0 0 0] [.var (aA m)] (λo=>!dh m.rules none o.ch) (hm.opt l eh) (λo ho=>by simpa using Wi m o (hm.ch l eh o ho));repeat'(first|(refine Xr @bJ ?_;intro K hK)|(refine hK _ ?_;clear hK K)|(refine Xi ?_ ?_<;>try intro ht)|refine Xz ?_|refine Xh ?_|refine Xd ?_ ?_|exact Xx|fail)
  refine jU dX (aM _) ?_;repeat'(first|(refine Xr @bJ ?_;intro K hK)|(refine hK _ ?_;clear hK K)|(refine Xi ?_ ?_<;>try intro ht)|refine Xz ?_|refine Xh ?_|(refine Xe ?_;first|refine aT rfl ?_|refine Xl ?_ ?_)|refine Xd ?_ ?_|exact Xx|fail)
  ·rw[ht,qT]at hr;rw[if_pos hr]at az;rw[<- az]
  ·rw[ht,mn]at hr;exact an _ (k+1) ⟨Ay,hr⟩ Ay (Xv X0)
 rw[dw Ay,vW]at hr;rw[if_neg (by rw[hr];simp)]at az;((repeat'(first|refine Va X0 ?_|(refine Xi ?_ ?_<;>try intro ht)|exact Xx|fail)))
 refine ay _ _ rfl ?_;clear an ay Ql;clear hr aQ hk;repeat(refine Xu ?_)
 repeat'(first|(refine Xr X0 ?_;intro K hK)|(refine hK _ ?_;clear hK K)|refine Xz ?_|fail)
 refine aX (λk:Nat=>(⟨au [(1,.ptr 0 0 0),(21,.tree 4 (rowsOf bL m.ae)),(22,aah m.ae.length),(23,aah k)],[.var (aA m)]⟩:St)) (λk=>k<=m.ae.length/\gZ m none m.ae=gZ m (mK m.ae k) (m.ae.drop k)) (λk=>m.ae.length-k) 0 ⟨aN _,rfl⟩ (Xv X0) ?_;rintro k⟨hk,hr⟩Ql an ay;by_cases aQ:k<m.ae.length
 ·have eh:=aG (d:=(default:Pr)) aQ;have hd:=cF m.ae k default aQ;have fi:((k:Int)-1).toNat=k-1:=Ay;generalize bJ:m.ae.getD k default=p at *;rw[hd,NY]at hr;generalize cg:m.ae.getD (k-1) default=q at *;repeat'(first|(refine Xq (X3 @bJ @fi @cg) ?_;intro K hK)|refine Xo (X3 @bJ @fi @cg) ?_|refine Xc (We m p (hm.bg p eh) aE.2 aE.1) ?_|refine Xc (Wa q p) ?_|(refine hK _ ?_;clear hK K)|(refine Xg (X3 @bJ @fi @cg) ?_ ?_<;>try intro hb)|(refine Xi ?_ ?_<;>try intro ht)|refine Xz ?_|refine Xh ?_|(refine Xe ?_;first|refine aT rfl ?_|refine Xl ?_ ?_)|refine Xd ?_ ?_|exact Xx|fail)
  ·have zD:gm m p=false:=by assumption
   rw[zD,xI,xI]at hr;rw[if_pos hr]at az;rw[<- az]
  ·rw[decide_eq_false (p:=k=0) Ay,decide_eq_false (p:=oB q p<0) Ay,Bool.or_false,Bool.and_false,xI]at hr;rw[if_pos hr]at az;rw[<- az]
  ·have zD:gm m p=true:=by assumption
   rw[zD,decide_eq_true (p:=oB q p<0) Ay,Bool.or_true,iD,iD]at hr;refine an _ (k+1) ⟨Ay,?_⟩ Ay (Xs false [0] X0);rw[rF,bJ];exact hr
  ·have zD:gm m p=true:=by assumption
   rw[zD,decide_eq_true (p:=k=0) Ay,qT,iD,iD]at hr;refine an _ (k+1) ⟨Ay,?_⟩ Ay (Xs false [0] X0);rw[rF,bJ];exact hr
 rw[dw Ay,gZ]at hr;rw[if_neg (by rw[hr];simp)]at az;((repeat'(first|refine Va X0 ?_|(refine Xi ?_ ?_<;>try intro ht)|exact Xx|fail)))
 refine ay _ _ rfl ?_;clear an ay Ql;clear hr aQ hk;repeat(refine Xu ?_)
 have dX:=Wm m.aL 62 [.ptr 0 0 0] [.var (aA m)] (λc=>!fE m c) hm.aL (λc hc=>by simpa using Wj m c (hm.eE c hc));repeat'(first|(refine Xr X0 ?_;intro K hK)|refine Xz ?_|fail)
 refine jU dX (aM _) ?_;repeat'(first|(refine Xr X0 ?_;intro K hK)|(refine hK _ ?_;clear hK K)|(refine Xi ?_ ?_<;>try intro ht)|refine Xz ?_|(refine Xe ?_;first|refine aT rfl ?_|refine Xl ?_ ?_)|fail)
 ·rw[if_pos ht]at az;rw[<- az]
 ·rw[if_neg (by rw[ht];simp)]at az;rw[<- az]
def Wn(m:ah)(hm:MB m):ao Tryz.prog 50 [.agg (aA m)] [] (.lit (.bool (!oC m))) []:=by
 have pL:=hm.cls;have ln:=hm.ae;have Wo:=hm.aL;unfold oC;generalize FT:m.cls.any (λl=>decide (24<l.length))=b;refine ao.aO 44 0 [.tmp 2] Tryz.func50 ?_;refine Vb X0 ?_;refine aX (λi:Nat=>(⟨au [(1,.ptr 0 0 0),(3,aah i)],[.var (aA m)]⟩:St)) (λi=>i<=m.cls.length/\(m.cls.drop i).any (λl=>decide (24<l.length))=b) (λi=>m.cls.length-i) 0 ⟨aN _,FT⟩ (Xv X0) ?_;rintro i⟨hi,hr⟩Ql an ay;by_cases hi':i<m.cls.length
 ·have kk:=hm.opt _ (aG (d:=(default:List bh)) hi');rw[w9 hi']at hr;generalize bl:m.cls.getD i default=l at *;((repeat'(first|refine Va @bl ?_|(refine Xi ?_ ?_<;>try intro ht)|exact Xx|fail)))
  ·rw[decide_eq_true (p:=24<l.length) Ay,qT]at hr;subst hr;refine Vb X0 ?_;exact aT rfl Dg
  ·rw[decide_eq_false (p:=24<l.length) Ay,mn]at hr;exact an _ (i+1) ⟨Ay,hr⟩ Ay (Xv X0)
 ·rw[dw Ay,vW]at hr;subst hr;((repeat'(first|refine Va X0 ?_|(refine Xi ?_ ?_<;>try intro ht)|exact Xx|fail)))
  refine ay _ _ rfl ?_;clear an ay Ql;repeat(refine Xu ?_)
  ((repeat'(first|refine Vb X0 ?_|(refine V2 X0 ?_ ?_<;>try with_reducible intro hb)|fail)))
  all_goals refine aT rfl ?_
  all_goals(refine congrArg (λb=>AV.lit (Value.bool b)) ?_;rw[kz];simp only[or_true,true_or,or_false,false_or,decide_eq_true_eq,beq_iff_eq,bne_iff_ne,bd,jI,g7,decide_eq_false_iff_not,j7,reduceCtorEq,iff_true,iff_false,true_iff,false_iff,eq_self];omega)
def Wp(m:ah)(k:Nat)(hk:k<m.ae.length)(hp:∀ p∈m.ae,p.bg.length<9223372036854775808)(hm:∀ l∈m.cls,l.length<=24)(hl:m.cls.length<=24)(lY:m.ae.length<9223372036854775808):
  ao Tryz.prog 53 [.agg (aA m),aah k] [] (.lit (.bool (gm m (m.ae.getD k default)&&(decide (k=0)||decide (oB (m.ae.getD (k-1) default) (m.ae.getD k default)<0))))) []:=by
 have fi:((k:Int)-1).toNat=k-1:=Ay;have xc:=hp _ (aG (d:=(default:Pr)) hk);generalize cg:m.ae.getD k default=p at *;generalize kR:m.ae.getD (k-1) default=q at *;have hg:∀ i,(m.cls.getD i default).length<=24:=λi=>by
  rcases dD i m.cls.length with h|h
  ·exact hm _ (aG h)
  ·rw[aw,iF h];decide
 have h1:=hg p.fst.toNat;have h2:=hg p.snd.toNat;have hmul:(0:Int)<=(m.cls.getD p.fst.toNat default).length*(m.cls.getD p.snd.toNat default).length/\((m.cls.getD p.fst.toNat default).length:Int)*(m.cls.getD p.snd.toNat default).length<=24*24:=⟨AD Ay Ay,AE Ay Ay Ay Ay⟩;have Wq:decide (oB q p<0)=(decide (q.cX<p.cX)||decide (q.cX=p.cX)&&(decide (q.fst<p.fst)||decide (q.fst=p.fst)&&decide (q.snd<p.snd))):=by
  rw[kz];simp only[decide_eq_true_eq,jI,bd,N2]
 have Wr:=FU m p.cX;rw[Wq];unfold gm;generalize FT:p.bg.any l6=bad;generalize w8:((m.cls.getD p.fst.toNat default).length:Int)*(m.cls.getD p.snd.toNat default).length=mm at *;generalize hD:decide (0<=p.fst/\p.fst<p.snd/\p.snd<m.cls.length/\(p.bg.length:Int)=mm)=D;generalize hO:(decide (q.cX<p.cX)||decide (q.cX=p.cX)&&(decide (q.fst<p.fst)||decide (q.fst=p.fst)&&decide (q.snd<p.snd)))=O;refine ao.aO 114 0 [.tmp 4] Tryz.func53 ?_;((repeat'(first|refine Vd (X2 @cg @w8) Wr ?_|(refine V2 (X2 @cg @w8) ?_ ?_<;>try with_reducible intro hb)|(refine Xi ?_ ?_<;>try intro ht)|exact Xx|fail)))
 all_goals try(refine aT rfl ?_;first|(rw[hb];rfl)|(rw[show D=false by rw[<- hD];exact decide_eq_false Ay];simp;done))
 have FV:D=true:=by rw[<- hD];exact decide_eq_true Ay
 subst FV;have Ws:gY m.rules p.cX=true:=by assumption
 refine aX (λi:Nat=>(⟨au [(1,aah k),(2,.ptr 0 0 0),(5,.ptr 1 0 0),(6,aah i)],[.var (aA m),.var (bL p)]⟩:St)) (λi=>i<=p.bg.length/\(p.bg.drop i).any l6=bad) (λi=>p.bg.length-i) 0 ⟨aN _,FT⟩ (Xv X0) ?_;rintro i⟨hi,hr⟩Ql an ay;by_cases hi':i<p.bg.length
 ·rw[cF p.bg i 0 hi',List.any_cons]at hr;generalize bK:p.bg.getD i 0=x at *;((repeat'(first|refine Vc @bK (FW x) ?_|(refine V2 @bK ?_ ?_<;>try with_reducible intro hb)|(refine Xi ?_ ?_<;>try intro ht)|exact Xx|fail)))
  ·rw[show l6 x=true by simp[l6, *],qT]at hr;subst hr;refine Vb X0 ?_;exact aT rfl Dg
  ·rw[show l6 x=false by simp[l6, *],mn]at hr;exact an _ (i+1) ⟨Ay,hr⟩ Ay (Xs false [0,1] X0)
  ·rw[show l6 x=false by simp[l6, *],mn]at hr;exact an _ (i+1) ⟨Ay,hr⟩ Ay (Xs false [0,1] X0)
 ·rw[dw Ay,vW]at hr;subst hr;((repeat'(first|refine Va X0 ?_|(refine V2 X0 ?_ ?_<;>try with_reducible intro hb)|(refine Xi ?_ ?_<;>try intro ht)|exact Xx|fail)))
  refine ay _ _ rfl ?_;clear an ay Ql;repeat(refine Xu ?_)
  ((repeat'(first|refine Vb (X2 @kR @fi) ?_|(refine Xi ?_ ?_<;>try intro ht)|fail)))
  all_goals refine aT rfl ?_
  all_goals rw[Ws,iD,iD]
  ·rw[decide_eq_true (p:=k=0) Ay];simp
  all_goals rw[decide_eq_false (p:=k=0) Ay,<- hO]
  all_goals(refine congrArg (λb=>AV.lit (Value.bool b)) ?_;rw[kz];simp only[mn,sA,true_and,decide_eq_true_eq,beq_iff_eq,bne_iff_ne,bd,jI,g7,decide_eq_false_iff_not,j7,reduceCtorEq,iff_true,iff_false,true_iff,false_iff,eq_self];omega)
def Wt(m:ah)(c:Ct)(hc:c.fH.length<9223372036854775808):ao Tryz.prog 54 [.agg (aA m),.agg (dE c)] [] (.lit (.bool (fE m c))) []:=by
 have zB:=FU m c.cX;have zC:=FW c.da;generalize az:fE m c=res;unfold fE at az;generalize hD:decide (0<=c.most/\c.most<=1048576)=D at *;refine ao.aO 85 0 [.tmp 4] Tryz.func54 ?_;((repeat'(first|refine Vd X0 (X2 zB zC) ?_|(refine V2 X0 ?_ ?_<;>try with_reducible intro hb)|(refine Xi ?_ ?_<;>try intro ht)|exact Xx|fail)))
 all_goals try(refine aT rfl ?_;first|(rw[<- az,hb];rfl)|(rw[<- az,show D=false by rw[<- hD];exact decide_eq_false Ay];simp;done)|(rw[<- az,ht];simp;done))
 have FV:D=true:=by rw[<- hD];exact decide_eq_true Ay
 subst FV;have eO:(gY m.rules c.cX&&true&&fw c.da)=true:=by simp[*]
 rw[eO,iD]at az;refine aX (λk:Nat=>(⟨au [(2,.ptr 0 0 0),(3,.ptr 1 0 0),(5,aah k)],[.var (aA m),.var (dE c)]⟩:St)) (λk=>k<=c.fH.length/\gn m (mK c.fH k) (c.fH.drop k)=res) (λk=>c.fH.length-k) 0 ⟨aN _,az⟩ (Xv X0) ?_;rintro k⟨hk,hr⟩Ql an ay;by_cases aQ:k<c.fH.length
 ·have hd:=cF c.fH k default aQ;generalize bJ:c.fH.getD k default=x at *;rw[hd,NZ]at hr;have fi:((k:Int)-1).toNat=k-1:=Ay;generalize cg:c.fH.getD (k-1) default=y at *;generalize bb:iN m x.cls x.opt=ob at *;have P1:=Wu m x.cls x.opt;rw[bb]at P1;generalize hW:decide (1<=x.wt/\x.wt<=1000)=wb at *;generalize hO:decide (pz y x<0)=O at *;have P2:O=true↔y.cls<x.cls\/(y.cls=x.cls/\y.opt<x.opt):=by rw[<- hO,decide_eq_true_eq,EY]
  ((repeat'(first|refine Vc (X3 @bJ @cg @fi) P1 ?_|(refine V2 (X3 @bJ @cg @fi) ?_ ?_<;>try with_reducible intro hb)|(refine Xi ?_ ?_<;>try intro ht)|exact Xx|fail)))
  iterate 5
   ·obtain rfl:res=false:=by
     rw[<- hr];first
      | (rw[show ob=false by assumption];rfl)
      | (rw[show wb=false by rw[<- hW];exact decide_eq_false Ay];simp;done)
      | (rw[decide_eq_false (p:=k=0) Ay,show O=false from Bool.eq_false_iff.2 λh=>by have:=P2.1 h;omega];simp;done)
    ((repeat'(first|refine Vb X0 ?_|fail)))
    exact aT rfl rfl
  all_goals
   refine an _ (k+1) ⟨Ay,?_⟩ Ay (Xs false [0,1] X0);rw[rF,bJ,<- hr,show ob=true by assumption,show wb=true by rw[<- hW];exact decide_eq_true Ay];first
    | (rw[P2.2 Ay];simp;done)
    | (rw[decide_eq_true (p:=k=0) Ay];simp;done)
 ·rw[dw Ay,gn]at hr;subst hr;((repeat'(first|refine Va X0 ?_|(refine Xi ?_ ?_<;>try intro ht)|exact Xx|fail)))
  refine ay _ _ rfl ?_;clear an ay Ql;repeat(refine Xu ?_)
  refine Vb X0 ?_;exact aT rfl rfl
def FX(m:ah)(hm:MB m):ao Tryz.prog 23 [.agg (aA m)] [] (aah (l7 m)) []:=by
 generalize az:l7 m=res;unfold l7 at az;have pL:=hm.cls;have ln:=hm.ae;have Wo:=hm.aL;have P3:=Wn m hm;generalize lq:oC m=lb at *;cases lb;rotate_left
 ·rw[if_pos rfl]at az;subst az;refine ao.aO 105 0 [.tmp 2] Tryz.func23 ?_;((repeat'(first|refine Vd @tZ P3 ?_|(refine Xi ?_ ?_<;>try intro ht)|exact Xx|fail)))
  all_goals first|exact aT rfl rfl|(exfalso;simp at *;done)
 rw[if_neg Dg]at az;have aE:m.cls.length<=24/\∀ l∈m.cls,l.length<=24:=by
  have h:=lq;unfold oC at h;rw[decide_eq_false_iff_not]at h;refine⟨Ay,λl hl=>?_⟩;rcases dD 24 l.length with h1|h1
  ·exact absurd (.inr (.inl (nQ.2 ⟨l,hl,by simpa using h1⟩))) h
  ·exact h1
 generalize h1:(m.cls.any λl=>l.any λo=>!dh m.rules none o.ch)=b1 at *;refine ao.aO 105 0 [.tmp 2] Tryz.func23 ?_;((repeat'(first|refine Vd @sA P3 ?_|(refine Xi ?_ ?_<;>try intro ht)|exact Xx|fail)))
 refine aX (λi:Nat=>(⟨au [(1,.ptr 0 0 0),(3,aah i)],[.var (aA m)]⟩:St)) (λi=>i<=m.cls.length/\((m.cls.drop i).any λl=>l.any λo=>!dh m.rules none o.ch)=b1) (λi=>m.cls.length-i) 0 ⟨aN _,h1⟩ (Xv X0) ?_;rintro i⟨hi,hr⟩Ql an ay;by_cases hi':i<m.cls.length
 ·have FY:=aG (d:=(default:List bh)) hi';have py:=hm.opt _ FY;have cS:=hm.ch _ FY;have Wv:=aE.2 _ FY;rw[w9 hi']at hr;generalize bl:m.cls.getD i default=l at *;generalize vv:((m.cls.drop (i+1)).any λl=>l.any λo=>!dh m.rules none o.ch)=rest at *;((repeat'(first|refine Va X0 ?_|(refine Xi ?_ ?_<;>try intro ht)|exact Xx|fail)))
  refine aX (λk:Nat=>(⟨au [(1,.ptr 0 0 0),(3,aah i),(4,aah k)],[.var (aA m)]⟩:St)) (λk=>k<=l.length/\(((l.drop k).any λo=>!dh m.rules none o.ch)||rest)=b1) (λk=>l.length-k) 0 ⟨aN _,hr⟩ (Xv X0) ?_;clear hr;rintro k⟨hk,hr⟩cC aS bf;by_cases aQ:k<l.length
  ·have fN:=aG (d:=(default:bh)) aQ;have tB:=cS _ fN;rw[w9 aQ]at hr;generalize fO:l.getD k default=o at *;generalize Ww:((l.drop (k+1)).any λo=>!dh m.rules none o.ch)=Wx at *;((repeat'(first|refine Va (X2 @bl @fO) ?_|(refine Xi ?_ ?_<;>try intro ht)|exact Xx|fail)))
   refine aX (λj:Nat=>(⟨au [(1,.ptr 0 0 0),(3,aah i),(4,aah k),(5,.tree 2 (rowsOf aj o.ch)),(6,aah j)],[.var (aA m)]⟩:St)) (λj=>j<=o.ch.length/\(!dh m.rules (mK o.ch j) (o.ch.drop j)||Wx||rest)=b1) (λj=>o.ch.length-j) 0 ⟨aN _,hr⟩ (Xv X0) ?_;clear hr;rintro j⟨hj,hr⟩jC eH dJ;by_cases fW:j<o.ch.length
   ·have hd:=cF o.ch j default fW;generalize bJ:o.ch.getD j default=c at *;rw[hd,NX]at hr;have fi:((j:Int)-1).toNat=j-1:=Ay;generalize cg:o.ch.getD (j-1) default=q at *;have dH:=FU m c.1;generalize hrb:gY m.rules c.1=rb at *;have lY:=FW c.2;generalize ny:fw c.2=pb at *;((repeat'(first|refine Vc (X3 @bJ @cg @fi) (X2 dH lY) ?_|(refine V2 (X3 @bJ @cg @fi) ?_ ?_<;>try with_reducible intro hb)|(refine Xi ?_ ?_<;>try intro ht)|exact Xx|fail)))
    iterate 3
     ·obtain rfl:b1=true:=by
       rw[<- hr];first
        | (rw[show rb=false by assumption];rfl)
        | (rw[show pb=false by assumption];simp;done)
        | (rw[decide_eq_false (p:=j=0) Ay,decide_eq_false (p:=q.1<c.1) Ay];simp;done)
      rw[if_pos rfl]at az;repeat(refine Xu ?_)
      ((repeat'(first|refine Vb X0 ?_|fail)))
      exact aT rfl (by rw[az])
    all_goals
     refine eH _ (j+1) ⟨Ay,?_⟩ Ay (Xv X0);rw[rF,bJ,<- hr,show rb=true by assumption,show pb=true by assumption];first
      | (rw[decide_eq_true (p:=q.1<c.1) Ay];simp;done)
      | (rw[decide_eq_true (p:=j=0) Ay];simp;done)
   ·rw[dw Ay,dh]at hr;simp only[tZ,mn]at hr;((repeat'(first|refine Va X0 ?_|(refine Xi ?_ ?_<;>try intro ht)|exact Xx|fail)))
    refine dJ _ _ rfl ?_;clear eH dJ jC;repeat(refine Xu ?_)
    refine Va X0 ?_;exact aS _ (k+1) ⟨Ay,by rw[Ww];exact hr⟩ Ay (Xv X0)
  ·rw[dw Ay,vW,mn]at hr;((repeat'(first|refine Va @bl ?_|(refine Xi ?_ ?_<;>try intro ht)|exact Xx|fail)))
   refine bf _ _ rfl ?_;clear aS bf cC;repeat(refine Xu ?_)
   refine Va X0 ?_;exact an _ (i+1) ⟨Ay,by rw[vv];exact hr⟩ Ay (Xv X0)
 rw[dw Ay,vW]at hr;subst hr;rw[if_neg Dg]at az;((repeat'(first|refine Va X0 ?_|(refine Xi ?_ ?_<;>try intro ht)|exact Xx|fail)))
 refine ay _ _ rfl ?_;clear an ay Ql;clear hi hi';repeat(refine Xu ?_)
 refine Vb X0 ?_;refine aX (λk:Nat=>(⟨au [(1,.ptr 0 0 0),(7,aah k)],[.var (aA m)]⟩:St)) (λk=>k<=m.ae.length/\gZ m none m.ae=gZ m (mK m.ae k) (m.ae.drop k)) (λk=>m.ae.length-k) 0 ⟨aN _,rfl⟩ (Xv X0) ?_;rintro k⟨hk,hr⟩Ql an ay;by_cases aQ:k<m.ae.length
 ·have hd:=cF m.ae k default aQ;have zC:=Wp m k aQ hm.bg aE.2 aE.1 hm.ae;rw[hd,NY]at hr;generalize (gm m (m.ae.getD k default)&&(decide (k=0)||decide (oB (m.ae.getD (k-1) default) (m.ae.getD k default)<0)))=pb at *;((repeat'(first|refine Vc X0 zC ?_|(refine Xi ?_ ?_<;>try intro ht)|exact Xx|fail)))
  ·obtain rfl:pb=false:=by assumption
   rw[xI]at hr;rw[if_pos hr]at az;subst az;refine Vb X0 ?_;exact aT rfl rfl
  ·obtain rfl:pb=true:=by assumption
   rw[iD]at hr;exact an _ (k+1) ⟨Ay,by rw[rF];exact hr⟩ Ay (Xv X0)
 rw[dw Ay,gZ]at hr;rw[if_neg (by rw[hr];simp)]at az;((repeat'(first|refine Va X0 ?_|(refine Xi ?_ ?_<;>try intro ht)|exact Xx|fail)))
 refine ay _ _ rfl ?_;clear an ay Ql;clear hr hk aQ;repeat(refine Xu ?_)
 refine Vb X0 ?_;generalize h2:(m.aL.any λc=>!fE m c)=b2 at *;refine aX (λk:Nat=>(⟨au [(1,.ptr 0 0 0),(8,aah k)],[.var (aA m)]⟩:St)) (λk=>k<=m.aL.length/\((m.aL.drop k).any λc=>!fE m c)=b2) (λk=>m.aL.length-k) 0 ⟨aN _,h2⟩ (Xv X0) ?_;rintro k⟨hk,hr⟩Ql an ay;by_cases aQ:k<m.aL.length
 ·have ou:=aG (d:=(default:Ct)) aQ;have bl:=hm.eE _ ou;rw[w9 aQ]at hr;generalize bJ:m.aL.getD k default=c at *;have Wy:=Wt m c bl;generalize fE m c=cb at *;((repeat'(first|refine Vc @bJ Wy ?_|(refine Xi ?_ ?_<;>try intro ht)|exact Xx|fail)))
  ·obtain rfl:cb=false:=by assumption
   simp only[sA,qT]at hr;rw[if_pos hr.symm]at az;subst az;refine Vb X0 ?_;exact aT rfl rfl
  ·obtain rfl:cb=true:=by assumption
   rw[tZ,mn]at hr;exact an _ (k+1) ⟨Ay,hr⟩ Ay (Xv X0)
 rw[dw Ay,vW]at hr;subst hr;rw[if_neg Dg]at az;subst az;((repeat'(first|refine Va X0 ?_|(refine Xi ?_ ?_<;>try intro ht)|exact Xx|fail)))
 refine ay _ _ rfl ?_;clear an ay Ql;repeat(refine Xu ?_)
 refine Vb X0 ?_;exact aT rfl rfl
end T

