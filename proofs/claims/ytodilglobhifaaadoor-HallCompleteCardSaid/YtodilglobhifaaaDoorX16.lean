import Derived.Test.YtodilglobhifaaaDoorX14
import Derived.Test.YtodilglobhifaaaDoorX15
set_option linter.all false
set_option maxHeartbeats 0
set_option maxRecDepth 20000
open Bool renaming eq_iff_iff→jL,and_eq_true→bb,or_eq_true→jn,not_eq_true'→fU,false_eq_true→iQ,true_and→fH,true_or→qN,false_or→ml,false_and→uu,not_false→pF,not_true→qL
open Nat renaming zero_le→bk,lt_or_ge→cZ,le_refl→aH
open List renaming drop_eq_nil_of_le→dF,getD_eq_getElem?_getD→an,getElem?_eq_none→gI,any_eq_true→ko,any_nil→uH
open Int renaming mul_nonneg→xf,mul_le_mul→Ah
open Go Go.Am Go.Proofs
namespace T
def Qv(l:List cD):ao Tryd.prog 56 [.tree 6 (rowsOf cf l)] [] (.lit (.bool (decide (24<l.length)))) []:=by
 refine ao.aX 6 0 [.tmp 2] Tryd.func56 ?_;repeat'(first|(refine Xr X0 ?_;intro K hK)|(refine hK _ ?_;clear hK K)|refine Xz ?_|(refine Xe ?_;first|refine aY rfl ?_|refine Xl ?_ ?_)|fail)
 (refine congrArg (λb=>AV.lit (Value.bool b)) ?_;rw[jL];simp only[gt_iff_lt,decide_eq_true_eq,beq_iff_eq,bne_iff_ne,bb,jn,fU,decide_eq_false_iff_not,iQ,reduceCtorEq,iff_true,iff_false,true_iff,false_iff,eq_self];omega)
def Qw(m:ae)(hm:MB m):ao Tryd.prog 31 [.agg (aP m)] [] (.lit (.bool (lZ m))) []:=by
 have h1:=hm.cls;have h2:=Ph m.cls 56 [] [] (λl=>decide (24<l.length)) h1 (λx _=>by simpa using Qv x);unfold lZ;generalize m.cls.any (λl=>decide (24<l.length))=b at *;cases b;all_goals refine ao.aX 36 0 [.tmp 2] Tryd.func31 ?_
 all_goals repeat'(first|(refine Xq X0 ?_;intro K hK)|refine Xo X0 ?_|refine Xc (h2) ?_|(refine hK _ ?_;clear hK K)|(refine Xg X0 ?_ ?_<;>try intro hb)|refine Xz ?_|(refine Xe ?_;first|refine aY rfl ?_|refine Xl ?_ ?_)|fail)
 all_goals first|rfl|(simp;done)|(refine congrArg (λb=>AV.lit (Value.bool b)) ?_;rw[jL];simp only[or_true,true_or,or_false,false_or,decide_eq_true_eq,beq_iff_eq,bne_iff_ne,bb,jn,fU,decide_eq_false_iff_not,iQ,reduceCtorEq,iff_true,iff_false,true_iff,false_iff,eq_self];omega)
def Qx(m:ae)(o:cD)(ho:o.ch.length<9223372036854775808):ao Tryd.prog 34 [.agg (aP m),.agg (cf o)] [] (.lit (.bool (ee m.rules none o.ch))) []:=by
 generalize az:ee m.rules none o.ch=res;refine ao.aX 43 0 [.tmp 4] Tryd.func34 ?_;repeat'(first|(refine Xr X0 ?_;intro K hK)|(refine hK _ ?_;clear hK K)|refine Xz ?_|fail)
 refine bu (λk:Nat=>(⟨ax [(2,.ptr 0 0 0),(3,.ptr 1 0 0),(8,.tree 2 (rowsOf au o.ch)),(9,UX o.ch.length),(10,UX k)],[.var (aP m),.var (cf o)]⟩:St)) (λk=>k<=o.ch.length/\ee m.rules (kG o.ch k) (o.ch.drop k)=res) (λk=>o.ch.length-k) 0 ⟨bk _,az⟩ (Xv X0) ?_;rintro k⟨hk,hr⟩Ql aq aC;by_cases aQ:k<o.ch.length
 ·have hd:=di o.ch k default aQ;generalize bN:o.ch.getD k default=c at *;rw[hd,Jk]at hr;have Qy:=BQ m c.1;have eV:((k:Int)-1).toNat=k-1:=z8;repeat'(first|(refine Xq (X2 @bN @eV) ?_;intro K hK)|refine Xo (X2 @bN @eV) ?_|refine Xc (Qy) ?_|refine Xc (BO c.2) ?_|(refine hK _ ?_;clear hK K)|(refine Xg (X2 @bN @eV) ?_ ?_<;>try intro hb)|(refine Xi ?_ ?_<;>try intro ht)|refine Xz ?_|refine Xh ?_|(refine Xe ?_;first|refine aY rfl ?_|refine Xl ?_ ?_)|refine Xd ?_ ?_|exact Xx|fail)
  ·rw[<- hr];simp[*]
  ·rw[<- hr];simp[*]
  ·rw[<- hr,decide_eq_false (p:=k=0) z8,decide_eq_false (p:=_<c.1) z8];simp
  ·refine aq _ (k+1) ⟨z8,?_⟩ z8 (Xs false [0,1] X0);rw[oU,bN,<- hr,decide_eq_true (p:=_<c.1) ht];simp[*]
  ·refine aq _ (k+1) ⟨z8,?_⟩ z8 (Xs false [0,1] X0);rw[oU,bN,<- hr,decide_eq_true (p:=k=0) z8];simp[*]
 ·repeat'(first|(refine Xr X0 ?_;intro K hK)|(refine hK _ ?_;clear hK K)|(refine Xi ?_ ?_<;>try intro ht)|refine Xz ?_|refine Xh ?_|(refine Xe ?_;first|refine aY rfl ?_|refine Xl ?_ ?_)|refine Xd ?_ ?_|exact Xx|fail)
  rw[dF z8,ee]at hr;rw[<- hr]
def Qz(a b:Pr):ao Tryd.prog 36 [.agg (bV a),.agg (bV b)] [] (UX (lY a b)) []:=by
 refine ao.aX 22 0 [.tmp 4] Tryd.func36 ?_;repeat'(first|(refine Xr X0 ?_;intro K hK)|(refine hK _ ?_;clear hK K)|refine Xz ?_|fail)
 (try(refine xI [4,9,14] rfl US (by decide +kernel) ?_);intro K hK;simp(disch:=omega)only[Ac,↓Pc,simprocAttr])
 repeat'(first|refine Xo X0 ?_|refine Xc (yx _ _) ?_|fail)
 refine s5 [] (BS [eO a.cM b.cM,eO a.fst b.fst,eO a.snd b.snd] Eb) US trivial ⟨bd.bp rfl (jv _) rfl US (mu _),trivial⟩ rfl Eb ?_;repeat'(first|refine Xo X0 ?_|(refine hK _ ?_;clear hK K)|refine Xz ?_|(refine Xe ?_;first|refine aY rfl ?_|refine Xl ?_ ?_)|fail)
 ·rfl
def QA(n:Int):ao Tryd.prog 62 [UX n] [] (.lit (.bool (jG n))) []:=by
 refine ao.aX 10 0 [.tmp 2] Tryd.func62 ?_;repeat'(first|(refine Xq X0 ?_;intro K hK)|refine Xo X0 ?_|refine Xc (BO n) ?_|(refine hK _ ?_;clear hK K)|(refine Xg X0 ?_ ?_<;>try intro hb)|refine Xz ?_|(refine Xe ?_;first|refine aY rfl ?_|refine Xl ?_ ?_)|fail)
 all_goals(simp[jG, *]<;>omega)
def QB(m:ae)(p:Pr)(hp:p.dw.length<9223372036854775808)(hm:∀ l∈m.cls,l.length<=24)(hl:m.cls.length<=24):ao Tryd.prog 35 [.agg (aP m),.agg (bV p)] [] (.lit (.bool (eP m p))) []:=by
 have hg:∀ i,(m.cls.getD i default).length<=24:=λi=>by
  rcases cZ i m.cls.length with h|h
  ·exact hm _ (aO h)
  ·rw[an,gI h];decide
 have h1:=hg p.fst.toNat;have h2:=hg p.snd.toNat;have hmul:(0:Int)<=(m.cls.getD p.fst.toNat default).length*(m.cls.getD p.snd.toNat default).length/\((m.cls.getD p.fst.toNat default).length:Int)*(m.cls.getD p.snd.toNat default).length<=24*24:=⟨xf z8 z8,Ah z8 z8 z8 z8⟩;have hc:=Pp p.dw 62 [] [] jG hp (λx _=>by simpa using QA x);unfold eP;generalize tY:((m.cls.getD p.fst.toNat default).length:Int)*(m.cls.getD p.snd.toNat default).length=mm at *;refine ao.aX 55 0 [.tmp 4] Tryd.func35 ?_;repeat'(first|(refine Xq @tY ?_;intro K hK)|refine Xo @tY ?_|refine Xc (BQ m p.cM) ?_|refine Xc (hc) ?_|(refine hK _ ?_;clear hK K)|(refine Xg @tY ?_ ?_<;>try intro hb)|(refine Xi ?_ ?_<;>try intro ht)|refine Xz ?_|(refine Xe ?_;first|refine aY rfl ?_|refine Xl ?_ ?_)|refine Xd ?_ ?_|exact Xx|fail)
 ·rw[hb];rfl
 iterate 4
  ·rw[decide_eq_false z8];simp
 ·rw[decide_eq_true z8];simp[*]
def QC(m:ae)(c:Ct)(hc:c.ei.length<9223372036854775808):ao Tryd.prog 39 [.agg (aP m),.agg (gy c)] [] (.lit (.bool (gY m c))) []:=by
 have v8:=BQ m c.cM;have v9:=BO c.gd;generalize az:gY m c=res;unfold gY at az;refine ao.aX 81 0 [.tmp 4] Tryd.func39 ?_;repeat'(first|(refine Xq X0 ?_;intro K hK)|refine Xo X0 ?_|refine Xc (v8) ?_|refine Xc (v9) ?_|(refine hK _ ?_;clear hK K)|(refine Xg X0 ?_ ?_<;>try intro hb)|(refine Xi ?_ ?_<;>try intro ht)|refine Xz ?_|(refine Xe ?_;first|refine aY rfl ?_|refine Xl ?_ ?_)|exact Xx|fail)
 ·rw[<- az,hb];rfl
 ·rw[<- az,decide_eq_false z8];simp
 ·rw[<- az,decide_eq_false z8];simp
 ·rw[<- az,ht];simp
 have cR:(gX m.rules c.cM&&decide (0<=c.most/\c.most<=1048576)&&iy c.gd)=true:=by rw[decide_eq_true z8];simp[*]
 rw[cR,fH]at az;refine bu (λk:Nat=>(⟨ax [(2,.ptr 0 0 0),(3,.ptr 1 0 0),(29,.tree 3 (rowsOf uL c.ei)),(30,UX c.ei.length),(31,UX k)],[.var (aP m),.var (gy c)]⟩:St)) (λk=>k<=c.ei.length/\fO m (kG c.ei k) (c.ei.drop k)=res) (λk=>c.ei.length-k) 0 ⟨bk _,az⟩ (Xv X0) ?_;rintro k⟨hk,hr⟩Ql aq aC;by_cases aQ:k<c.ei.length
 ·have hd:=di c.ei k default aQ;generalize bN:c.ei.getD k default=x at *;rw[hd,Jm]at hr;have eV:((k:Int)-1).toNat=k-1:=z8;generalize du:c.ei.getD (k-1) default=y at *;repeat'(first|(refine Xr (X2 @bN @eV) ?_;intro K hK)|refine Xo (X2 @bN @eV) ?_|refine Xc (Pe m x.cls x.opt) ?_|(refine hK _ ?_;clear hK K)|(refine Xg (X2 @bN @eV) ?_ ?_<;>try intro hb)|(refine Xi ?_ ?_<;>try intro ht)|refine Xz ?_|refine Xh ?_|(refine Xe ?_;first|refine aY rfl ?_|refine Xl ?_ ?_)|refine Xd ?_ ?_|exact Xx|fail)
  ·rw[<- hr,hb];simp
  ·rw[<- hr,decide_eq_false (p:=1<=x.wt/\x.wt<=1000) z8];simp
  ·rw[<- hr,decide_eq_false (p:=1<=x.wt/\x.wt<=1000) z8];simp
  have hw:decide (1<=x.wt/\x.wt<=1000)=true:=decide_eq_true z8;have aS:gn m x.cls x.opt=true:=by assumption
  rw[aS,hw,fH,fH]at hr;(try(refine xI [12,22] rfl US (by decide +kernel) ?_);intro K hK;simp(disch:=omega)only[Ac,↓Pc,simprocAttr,bN,eV,du])
  repeat'(first|(refine Xq (X3 @bN @eV @du) ?_;intro K hK)|refine Xo (X3 @bN @eV @du) ?_|refine Xc (yx _ _) ?_|(refine hK _ ?_;clear hK K)|(refine Xg (X3 @bN @eV @du) ?_ ?_<;>try intro hb)|(refine Xi ?_ ?_<;>try intro ht)|refine Xz ?_|refine Xd ?_ ?_|exact Xx|fail)
  ·refine s5 [] (BS [eO y.cls x.cls,eO y.opt x.opt] Eb) US trivial ⟨bd.bp rfl (jv _) rfl US (mu _),trivial⟩ rfl Eb ?_;repeat'(first|(refine Xr (X3 @bN @eV @du) ?_;intro K hK)|refine Xo (X3 @bN @eV @du) ?_|(refine hK _ ?_;clear hK K)|(refine Xi ?_ ?_<;>try intro ht)|refine Xz ?_|refine Xh ?_|(refine Xe ?_;first|refine aY rfl ?_|refine Xl ?_ ?_)|refine Xd ?_ ?_|exact Xx|fail)
   ·rw[<- hr,decide_eq_false (p:=k=0) z8,decide_eq_false (p:=mQ y x<0) (by unfold mQ;omega)];simp
   ·refine aq _ (k+1) ⟨z8,?_⟩ z8 (Xs false [0,1] X0);rw[oU,bN,<- hr,decide_eq_true (p:=mQ y x<0) (by unfold mQ;omega)];simp
  ·refine aq _ (k+1) ⟨z8,?_⟩ z8 (Xs false [0,1] X0);rw[oU,bN,<- hr,decide_eq_true (p:=k=0) z8];simp
 ·repeat'(first|(refine Xr X0 ?_;intro K hK)|(refine hK _ ?_;clear hK K)|(refine Xi ?_ ?_<;>try intro ht)|refine Xz ?_|refine Xh ?_|(refine Xe ?_;first|refine aY rfl ?_|refine Xl ?_ ?_)|refine Xd ?_ ?_|exact Xx|fail)
  rw[dF z8,fO]at hr;rw[<- hr]
def QD(m:ae)(o:cD)(ho:o.ch.length<9223372036854775808):ao Tryd.prog 33 [.agg (cf o),.ptr 0 0 0] [.var (aP m)] (.lit (.bool (!ee m.rules none o.ch))) [.var (aP m)]:=by
 refine ao.aX 8 1 [.tmp 3] Tryd.func33 ?_;refine Vd X0 (Qx m o ho) ?_;exact Xw false [0] X0
def QE(m:ae)(c:Ct)(hc:c.ei.length<9223372036854775808):ao Tryd.prog 38 [.agg (gy c),.ptr 0 0 0] [.var (aP m)] (.lit (.bool (!gY m c))) [.var (aP m)]:=by
 refine ao.aX 8 1 [.tmp 3] Tryd.func38 ?_;refine Vd X0 (QC m c hc) ?_;exact Xw false [0] X0
def wa{α:Type}[Inhabited α]{l:List α}{f:α->Bool}{k:Nat}(hk:k<l.length):(l.drop k).any f=(f (l.getD k default)||(l.drop (k+1)).any f):=by
 rw[di l k default hk,List.any_cons]
def QF(m:ae)(hm:MB m):ao Tryd.prog 15 [.agg (aP m)] [] (UX (mR m)) []:=by
 generalize az:mR m=res;unfold mR at az;have nY:=hm.cls;have ki:=hm.aj;refine ao.aX 52 0 [.tmp 2] Tryd.func15 ?_;repeat'(first|(refine Xq X0 ?_;intro K hK)|refine Xc (Qw m hm) ?_|(refine hK _ ?_;clear hK K)|(refine Xi ?_ ?_<;>try intro ht)|refine Xz ?_|(refine Xe ?_;first|refine aY rfl ?_|refine Xl ?_ ?_)|fail)
 ·rw[if_pos ht]at az;rw[<- az]
 rw[if_neg (by simp[ht])]at az;have ay:m.cls.length<=24/\∀ l∈m.cls,l.length<=24:=by
  have h:=ht;unfold lZ at h;rw[decide_eq_false_iff_not]at h;refine⟨z8,λl hl=>?_⟩;rcases cZ 24 l.length with h1|h1
  ·exact absurd (.inr (.inl (ko.2 ⟨l,hl,by simpa using h1⟩))) h
  ·exact h1
 clear ht;refine bu (λk:Nat=>(⟨ax [(1,.ptr 0 0 0),(10,.tree 1 (rowsOf cu m.cls)),(11,UX m.cls.length),(12,UX k)],[.var (aP m)]⟩:St)) (λk=>k<=m.cls.length/\(m.cls.any λl=>l.any λo=>!ee m.rules none o.ch)=(m.cls.drop k).any λl=>l.any λo=>!ee m.rules none o.ch) (λk=>m.cls.length-k) 0 ⟨bk _,rfl⟩ (Xv X0) ?_;rintro k⟨hk,hr⟩Ql aq aC;by_cases aQ:k<m.cls.length
 ·have cO:=aO (d:=(default:List cD)) aQ;rw[wa aQ]at hr;generalize bN:m.cls.getD k default=l at *;have dX:=Pk l 33 [.ptr 0 0 0] [.var (aP m)] (λo=>!ee m.rules none o.ch) (hm.opt l cO) (λo ho=>by simpa using QD m o (hm.ch l cO o ho));repeat'(first|(refine Xr @bN ?_;intro K hK)|(refine hK _ ?_;clear hK K)|(refine Xi ?_ ?_<;>try intro ht)|refine Xz ?_|refine Xh ?_|refine Xd ?_ ?_|exact Xx|fail)
  refine kC dX (aH _) ?_;repeat'(first|(refine Xr @bN ?_;intro K hK)|(refine hK _ ?_;clear hK K)|(refine Xi ?_ ?_<;>try intro ht)|refine Xz ?_|refine Xh ?_|(refine Xe ?_;first|refine aY rfl ?_|refine Xl ?_ ?_)|refine Xd ?_ ?_|exact Xx|fail)
  ·rw[ht,qN]at hr;rw[if_pos hr]at az;rw[<- az]
  ·rw[ht,ml]at hr;exact aq _ (k+1) ⟨z8,hr⟩ z8 (Xv X0)
 rw[dF z8,uH]at hr;rw[if_neg (by rw[hr];simp)]at az;((repeat'(first|refine Va X0 ?_|(refine Xi ?_ ?_<;>try intro ht)|exact Xx|fail)))
 refine aC _ _ rfl ?_;clear aq aC Ql;clear hr aQ hk;repeat(refine Xu ?_)
 repeat'(first|(refine Xr X0 ?_;intro K hK)|(refine hK _ ?_;clear hK K)|refine Xz ?_|fail)
 refine bu (λk:Nat=>(⟨ax [(1,.ptr 0 0 0),(21,.tree 4 (rowsOf bV m.aj)),(22,UX m.aj.length),(23,UX k)],[.var (aP m)]⟩:St)) (λk=>k<=m.aj.length/\fC m none m.aj=fC m (kG m.aj k) (m.aj.drop k)) (λk=>m.aj.length-k) 0 ⟨bk _,rfl⟩ (Xv X0) ?_;rintro k⟨hk,hr⟩Ql aq aC;by_cases aQ:k<m.aj.length
 ·have cO:=aO (d:=(default:Pr)) aQ;have hd:=di m.aj k default aQ;have eV:((k:Int)-1).toNat=k-1:=z8;generalize bN:m.aj.getD k default=p at *;rw[hd,Jl]at hr;generalize du:m.aj.getD (k-1) default=q at *;repeat'(first|(refine Xq (X3 @bN @eV @du) ?_;intro K hK)|refine Xo (X3 @bN @eV @du) ?_|refine Xc (QB m p (hm.dw p cO) ay.2 ay.1) ?_|refine Xc (Qz q p) ?_|(refine hK _ ?_;clear hK K)|(refine Xg (X3 @bN @eV @du) ?_ ?_<;>try intro hb)|(refine Xi ?_ ?_<;>try intro ht)|refine Xz ?_|refine Xh ?_|(refine Xe ?_;first|refine aY rfl ?_|refine Xl ?_ ?_)|refine Xd ?_ ?_|exact Xx|fail)
  ·have wc:eP m p=false:=by assumption
   rw[wc,uu,uu]at hr;rw[if_pos hr]at az;rw[<- az]
  ·rw[decide_eq_false (p:=k=0) z8,decide_eq_false (p:=lY q p<0) z8,Bool.or_false,Bool.and_false,uu]at hr;rw[if_pos hr]at az;rw[<- az]
  ·have wc:eP m p=true:=by assumption
   rw[wc,decide_eq_true (p:=lY q p<0) z8,Bool.or_true,fH,fH]at hr;refine aq _ (k+1) ⟨z8,?_⟩ z8 (Xs false [0] X0);rw[oU,bN];exact hr
  ·have wc:eP m p=true:=by assumption
   rw[wc,decide_eq_true (p:=k=0) z8,qN,fH,fH]at hr;refine aq _ (k+1) ⟨z8,?_⟩ z8 (Xs false [0] X0);rw[oU,bN];exact hr
 rw[dF z8,fC]at hr;rw[if_neg (by rw[hr];simp)]at az;((repeat'(first|refine Va X0 ?_|(refine Xi ?_ ?_<;>try intro ht)|exact Xx|fail)))
 refine aC _ _ rfl ?_;clear aq aC Ql;clear hr aQ hk;repeat(refine Xu ?_)
 have dX:=Pn m.cz 38 [.ptr 0 0 0] [.var (aP m)] (λc=>!gY m c) hm.cz (λc hc=>by simpa using QE m c (hm.vw c hc));repeat'(first|(refine Xr X0 ?_;intro K hK)|refine Xz ?_|fail)
 refine kC dX (aH _) ?_;repeat'(first|(refine Xr X0 ?_;intro K hK)|(refine hK _ ?_;clear hK K)|(refine Xi ?_ ?_<;>try intro ht)|refine Xz ?_|(refine Xe ?_;first|refine aY rfl ?_|refine Xl ?_ ?_)|fail)
 ·rw[if_pos ht]at az;rw[<- az]
 ·rw[if_neg (by rw[ht];simp)]at az;rw[<- az]
def QG(m:ae)(hm:MB m):ao Tryd.prog 49 [.agg (aP m)] [] (.lit (.bool (!lZ m))) []:=by
 have nY:=hm.cls;have ki:=hm.aj;have QH:=hm.cz;unfold lZ;generalize CO:m.cls.any (λl=>decide (24<l.length))=b;refine ao.aX 44 0 [.tmp 2] Tryd.func49 ?_;refine Vb X0 ?_;refine bu (λi:Nat=>(⟨ax [(1,.ptr 0 0 0),(3,UX i)],[.var (aP m)]⟩:St)) (λi=>i<=m.cls.length/\(m.cls.drop i).any (λl=>decide (24<l.length))=b) (λi=>m.cls.length-i) 0 ⟨bk _,CO⟩ (Xv X0) ?_;rintro i⟨hi,hr⟩Ql aq aC;by_cases hi':i<m.cls.length
 ·have iI:=hm.opt _ (aO (d:=(default:List cD)) hi');rw[wa hi']at hr;generalize cS:m.cls.getD i default=l at *;((repeat'(first|refine Va @cS ?_|(refine Xi ?_ ?_<;>try intro ht)|exact Xx|fail)))
  ·rw[decide_eq_true (p:=24<l.length) z8,qN]at hr;subst hr;refine Vb X0 ?_;exact aY rfl Eb
  ·rw[decide_eq_false (p:=24<l.length) z8,ml]at hr;exact aq _ (i+1) ⟨z8,hr⟩ z8 (Xv X0)
 ·rw[dF z8,uH]at hr;subst hr;((repeat'(first|refine Va X0 ?_|(refine Xi ?_ ?_<;>try intro ht)|exact Xx|fail)))
  refine aC _ _ rfl ?_;clear aq aC Ql;repeat(refine Xu ?_)
  ((repeat'(first|refine Vb X0 ?_|(refine V2 X0 ?_ ?_<;>try with_reducible intro hb)|fail)))
  all_goals refine aY rfl ?_
  all_goals(refine congrArg (λb=>AV.lit (Value.bool b)) ?_;rw[jL];simp only[or_true,true_or,or_false,false_or,decide_eq_true_eq,beq_iff_eq,bne_iff_ne,bb,jn,fU,decide_eq_false_iff_not,iQ,reduceCtorEq,iff_true,iff_false,true_iff,false_iff,eq_self];omega)
def QI(m:ae)(k:Nat)(hk:k<m.aj.length)(hp:∀ p∈m.aj,p.dw.length<9223372036854775808)(hm:∀ l∈m.cls,l.length<=24)(hl:m.cls.length<=24)(lW:m.aj.length<9223372036854775808):
  ao Tryd.prog 52 [.agg (aP m),UX k] [] (.lit (.bool (eP m (m.aj.getD k default)&&(decide (k=0)||decide (lY (m.aj.getD (k-1) default) (m.aj.getD k default)<0))))) []:=by
 have eV:((k:Int)-1).toNat=k-1:=z8;have Ui:=hp _ (aO (d:=(default:Pr)) hk);generalize du:m.aj.getD k default=p at *;generalize qu:m.aj.getD (k-1) default=q at *;have hg:∀ i,(m.cls.getD i default).length<=24:=λi=>by
  rcases cZ i m.cls.length with h|h
  ·exact hm _ (aO h)
  ·rw[an,gI h];decide
 have h1:=hg p.fst.toNat;have h2:=hg p.snd.toNat;have hmul:(0:Int)<=(m.cls.getD p.fst.toNat default).length*(m.cls.getD p.snd.toNat default).length/\((m.cls.getD p.fst.toNat default).length:Int)*(m.cls.getD p.snd.toNat default).length<=24*24:=⟨xf z8 z8,Ah z8 z8 z8 z8⟩;have QJ:decide (lY q p<0)=(decide (q.cM<p.cM)||decide (q.cM=p.cM)&&(decide (q.fst<p.fst)||decide (q.fst=p.fst)&&decide (q.snd<p.snd))):=by
  rw[jL];simp only[decide_eq_true_eq,jn,bb,Jp]
 have QK:=BR m p.cM;rw[QJ];unfold eP;generalize CO:p.dw.any jG=bad;generalize tY:((m.cls.getD p.fst.toNat default).length:Int)*(m.cls.getD p.snd.toNat default).length=mm at *;generalize hD:decide (0<=p.fst/\p.fst<p.snd/\p.snd<m.cls.length/\(p.dw.length:Int)=mm)=D;generalize hO:(decide (q.cM<p.cM)||decide (q.cM=p.cM)&&(decide (q.fst<p.fst)||decide (q.fst=p.fst)&&decide (q.snd<p.snd)))=O;refine ao.aX 114 0 [.tmp 4] Tryd.func52 ?_;((repeat'(first|refine Vd (X2 @du @tY) QK ?_|(refine V2 (X2 @du @tY) ?_ ?_<;>try with_reducible intro hb)|(refine Xi ?_ ?_<;>try intro ht)|exact Xx|fail)))
 all_goals try(refine aY rfl ?_;first|(rw[hb];rfl)|(rw[show D=false by rw[<- hD];exact decide_eq_false z8];simp;done))
 have CP:D=true:=by rw[<- hD];exact decide_eq_true z8
 subst CP;have QL:gX m.rules p.cM=true:=by assumption
 refine bu (λi:Nat=>(⟨ax [(1,UX k),(2,.ptr 0 0 0),(5,.ptr 1 0 0),(6,UX i)],[.var (aP m),.var (bV p)]⟩:St)) (λi=>i<=p.dw.length/\(p.dw.drop i).any jG=bad) (λi=>p.dw.length-i) 0 ⟨bk _,CO⟩ (Xv X0) ?_;rintro i⟨hi,hr⟩Ql aq aC;by_cases hi':i<p.dw.length
 ·rw[di p.dw i 0 hi',List.any_cons]at hr;generalize bX:p.dw.getD i 0=x at *;((repeat'(first|refine Vc @bX (BP x) ?_|(refine V2 @bX ?_ ?_<;>try with_reducible intro hb)|(refine Xi ?_ ?_<;>try intro ht)|exact Xx|fail)))
  ·rw[show jG x=true by simp[jG, *],qN]at hr;subst hr;refine Vb X0 ?_;exact aY rfl Eb
  ·rw[show jG x=false by simp[jG, *],ml]at hr;exact aq _ (i+1) ⟨z8,hr⟩ z8 (Xs false [0,1] X0)
  ·rw[show jG x=false by simp[jG, *],ml]at hr;exact aq _ (i+1) ⟨z8,hr⟩ z8 (Xs false [0,1] X0)
 ·rw[dF z8,uH]at hr;subst hr;((repeat'(first|refine Va X0 ?_|(refine V2 X0 ?_ ?_<;>try with_reducible intro hb)|(refine Xi ?_ ?_<;>try intro ht)|exact Xx|fail)))
  refine aC _ _ rfl ?_;clear aq aC Ql;repeat(refine Xu ?_)
  ((repeat'(first|refine Vb (X2 @qu @eV) ?_|(refine Xi ?_ ?_<;>try intro ht)|fail)))
  all_goals refine aY rfl ?_
  all_goals rw[QL,fH,fH]
  ·rw[decide_eq_true (p:=k=0) z8];simp
  all_goals rw[decide_eq_false (p:=k=0) z8,<- hO]
  all_goals(refine congrArg (λb=>AV.lit (Value.bool b)) ?_;rw[jL];simp only[ml,pF,true_and,decide_eq_true_eq,beq_iff_eq,bne_iff_ne,bb,jn,fU,decide_eq_false_iff_not,iQ,reduceCtorEq,iff_true,iff_false,true_iff,false_iff,eq_self];omega)
def QM(m:ae)(c:Ct)(hc:c.ei.length<9223372036854775808):ao Tryd.prog 53 [.agg (aP m),.agg (gy c)] [] (.lit (.bool (gY m c))) []:=by
 have v8:=BR m c.cM;have v9:=BP c.gd;generalize az:gY m c=res;unfold gY at az;generalize hD:decide (0<=c.most/\c.most<=1048576)=D at *;refine ao.aX 85 0 [.tmp 4] Tryd.func53 ?_;((repeat'(first|refine Vd X0 (X2 v8 v9) ?_|(refine V2 X0 ?_ ?_<;>try with_reducible intro hb)|(refine Xi ?_ ?_<;>try intro ht)|exact Xx|fail)))
 all_goals try(refine aY rfl ?_;first|(rw[<- az,hb];rfl)|(rw[<- az,show D=false by rw[<- hD];exact decide_eq_false z8];simp;done)|(rw[<- az,ht];simp;done))
 have CP:D=true:=by rw[<- hD];exact decide_eq_true z8
 subst CP;have cR:(gX m.rules c.cM&&true&&iy c.gd)=true:=by simp[*]
 rw[cR,fH]at az;refine bu (λk:Nat=>(⟨ax [(2,.ptr 0 0 0),(3,.ptr 1 0 0),(5,UX k)],[.var (aP m),.var (gy c)]⟩:St)) (λk=>k<=c.ei.length/\fO m (kG c.ei k) (c.ei.drop k)=res) (λk=>c.ei.length-k) 0 ⟨bk _,az⟩ (Xv X0) ?_;rintro k⟨hk,hr⟩Ql aq aC;by_cases aQ:k<c.ei.length
 ·have hd:=di c.ei k default aQ;generalize bN:c.ei.getD k default=x at *;rw[hd,Jm]at hr;have eV:((k:Int)-1).toNat=k-1:=z8;generalize du:c.ei.getD (k-1) default=y at *;generalize aS:gn m x.cls x.opt=ob at *;have Kv:=Pf m x.cls x.opt;rw[aS]at Kv;generalize hW:decide (1<=x.wt/\x.wt<=1000)=wb at *;generalize hO:decide (mQ y x<0)=O at *;have Kw:O=true↔y.cls<x.cls\/(y.cls=x.cls/\y.opt<x.opt):=by rw[<- hO,decide_eq_true_eq,BZ]
  ((repeat'(first|refine Vc (X3 @bN @du @eV) Kv ?_|(refine V2 (X3 @bN @du @eV) ?_ ?_<;>try with_reducible intro hb)|(refine Xi ?_ ?_<;>try intro ht)|exact Xx|fail)))
  iterate 5
   ·obtain rfl:res=false:=by
     rw[<- hr];first
      | (rw[show ob=false by assumption];rfl)
      | (rw[show wb=false by rw[<- hW];exact decide_eq_false z8];simp;done)
      | (rw[decide_eq_false (p:=k=0) z8,show O=false from Bool.eq_false_iff.2 λh=>by have:=Kw.1 h;omega];simp;done)
    ((repeat'(first|refine Vb X0 ?_|fail)))
    exact aY rfl rfl
  all_goals
   refine aq _ (k+1) ⟨z8,?_⟩ z8 (Xs false [0,1] X0);rw[oU,bN,<- hr,show ob=true by assumption,show wb=true by rw[<- hW];exact decide_eq_true z8];first
    | (rw[Kw.2 z8];simp;done)
    | (rw[decide_eq_true (p:=k=0) z8];simp;done)
 ·rw[dF z8,fO]at hr;subst hr;((repeat'(first|refine Va X0 ?_|(refine Xi ?_ ?_<;>try intro ht)|exact Xx|fail)))
  refine aC _ _ rfl ?_;clear aq aC Ql;repeat(refine Xu ?_)
  refine Vb X0 ?_;exact aY rfl rfl
def QN(m:ae)(hm:MB m):ao Tryd.prog 25 [.agg (aP m)] [] (UX (mR m)) []:=by
 generalize az:mR m=res;unfold mR at az;have nY:=hm.cls;have ki:=hm.aj;have QH:=hm.cz;have Kx:=QG m hm;generalize sd:lZ m=lb at *;cases lb;rotate_left
 ·rw[if_pos rfl]at az;subst az;refine ao.aX 105 0 [.tmp 2] Tryd.func25 ?_;((repeat'(first|refine Vd @qL Kx ?_|(refine Xi ?_ ?_<;>try intro ht)|exact Xx|fail)))
  all_goals first|exact aY rfl rfl|(exfalso;simp at *;done)
 rw[if_neg Eb]at az;have ay:m.cls.length<=24/\∀ l∈m.cls,l.length<=24:=by
  have h:=sd;unfold lZ at h;rw[decide_eq_false_iff_not]at h;refine⟨z8,λl hl=>?_⟩;rcases cZ 24 l.length with h1|h1
  ·exact absurd (.inr (.inl (ko.2 ⟨l,hl,by simpa using h1⟩))) h
  ·exact h1
 generalize h1:(m.cls.any λl=>l.any λo=>!ee m.rules none o.ch)=b1 at *;refine ao.aX 105 0 [.tmp 2] Tryd.func25 ?_;((repeat'(first|refine Vd @pF Kx ?_|(refine Xi ?_ ?_<;>try intro ht)|exact Xx|fail)))
 refine bu (λi:Nat=>(⟨ax [(1,.ptr 0 0 0),(3,UX i)],[.var (aP m)]⟩:St)) (λi=>i<=m.cls.length/\((m.cls.drop i).any λl=>l.any λo=>!ee m.rules none o.ch)=b1) (λi=>m.cls.length-i) 0 ⟨bk _,h1⟩ (Xv X0) ?_;rintro i⟨hi,hr⟩Ql aq aC;by_cases hi':i<m.cls.length
 ·have CR:=aO (d:=(default:List cD)) hi';have p8:=hm.opt _ CR;have dj:=hm.ch _ CR;have QO:=ay.2 _ CR;rw[wa hi']at hr;generalize cS:m.cls.getD i default=l at *;generalize sh:((m.cls.drop (i+1)).any λl=>l.any λo=>!ee m.rules none o.ch)=rest at *;((repeat'(first|refine Va X0 ?_|(refine Xi ?_ ?_<;>try intro ht)|exact Xx|fail)))
  refine bu (λk:Nat=>(⟨ax [(1,.ptr 0 0 0),(3,UX i),(4,UX k)],[.var (aP m)]⟩:St)) (λk=>k<=l.length/\(((l.drop k).any λo=>!ee m.rules none o.ch)||rest)=b1) (λk=>l.length-k) 0 ⟨bk _,hr⟩ (Xv X0) ?_;clear hr;rintro k⟨hk,hr⟩gu cr cy;by_cases aQ:k<l.length
  ·have QP:=aO (d:=(default:cD)) aQ;have Ky:=dj _ QP;rw[wa aQ]at hr;generalize gb:l.getD k default=o at *;generalize QQ:((l.drop (k+1)).any λo=>!ee m.rules none o.ch)=QR at *;((repeat'(first|refine Va (X2 @cS @gb) ?_|(refine Xi ?_ ?_<;>try intro ht)|exact Xx|fail)))
   refine bu (λj:Nat=>(⟨ax [(1,.ptr 0 0 0),(3,UX i),(4,UX k),(5,.tree 2 (rowsOf au o.ch)),(6,UX j)],[.var (aP m)]⟩:St)) (λj=>j<=o.ch.length/\(!ee m.rules (kG o.ch j) (o.ch.drop j)||QR||rest)=b1) (λj=>o.ch.length-j) 0 ⟨bk _,hr⟩ (Xv X0) ?_;clear hr;rintro j⟨hj,hr⟩za tZ lg;by_cases iZ:j<o.ch.length
   ·have hd:=di o.ch j default iZ;generalize bN:o.ch.getD j default=c at *;rw[hd,Jk]at hr;have eV:((j:Int)-1).toNat=j-1:=z8;generalize du:o.ch.getD (j-1) default=q at *;have cF:=BR m c.1;generalize pk:gX m.rules c.1=rb at *;have lW:=BP c.2;generalize m4:iy c.2=pb at *;((repeat'(first|refine Vc (X3 @bN @du @eV) (X2 cF lW) ?_|(refine V2 (X3 @bN @du @eV) ?_ ?_<;>try with_reducible intro hb)|(refine Xi ?_ ?_<;>try intro ht)|exact Xx|fail)))
    iterate 3
     ·obtain rfl:b1=true:=by
       rw[<- hr];first
        | (rw[show rb=false by assumption];rfl)
        | (rw[show pb=false by assumption];simp;done)
        | (rw[decide_eq_false (p:=j=0) z8,decide_eq_false (p:=q.1<c.1) z8];simp;done)
      rw[if_pos rfl]at az;repeat(refine Xu ?_)
      ((repeat'(first|refine Vb X0 ?_|fail)))
      exact aY rfl (by rw[az])
    all_goals
     refine tZ _ (j+1) ⟨z8,?_⟩ z8 (Xv X0);rw[oU,bN,<- hr,show rb=true by assumption,show pb=true by assumption];first
      | (rw[decide_eq_true (p:=q.1<c.1) z8];simp;done)
      | (rw[decide_eq_true (p:=j=0) z8];simp;done)
   ·rw[dF z8,ee]at hr;simp only[qL,ml]at hr;((repeat'(first|refine Va X0 ?_|(refine Xi ?_ ?_<;>try intro ht)|exact Xx|fail)))
    refine lg _ _ rfl ?_;clear tZ lg za;repeat(refine Xu ?_)
    refine Va X0 ?_;exact cr _ (k+1) ⟨z8,by rw[QQ];exact hr⟩ z8 (Xv X0)
  ·rw[dF z8,uH,ml]at hr;((repeat'(first|refine Va @cS ?_|(refine Xi ?_ ?_<;>try intro ht)|exact Xx|fail)))
   refine cy _ _ rfl ?_;clear cr cy gu;repeat(refine Xu ?_)
   refine Va X0 ?_;exact aq _ (i+1) ⟨z8,by rw[sh];exact hr⟩ z8 (Xv X0)
 rw[dF z8,uH]at hr;subst hr;rw[if_neg Eb]at az;((repeat'(first|refine Va X0 ?_|(refine Xi ?_ ?_<;>try intro ht)|exact Xx|fail)))
 refine aC _ _ rfl ?_;clear aq aC Ql;clear hi hi';repeat(refine Xu ?_)
 refine Vb X0 ?_;refine bu (λk:Nat=>(⟨ax [(1,.ptr 0 0 0),(7,UX k)],[.var (aP m)]⟩:St)) (λk=>k<=m.aj.length/\fC m none m.aj=fC m (kG m.aj k) (m.aj.drop k)) (λk=>m.aj.length-k) 0 ⟨bk _,rfl⟩ (Xv X0) ?_;rintro k⟨hk,hr⟩Ql aq aC;by_cases aQ:k<m.aj.length
 ·have hd:=di m.aj k default aQ;have v9:=QI m k aQ hm.dw ay.2 ay.1 hm.aj;rw[hd,Jl]at hr;generalize (eP m (m.aj.getD k default)&&(decide (k=0)||decide (lY (m.aj.getD (k-1) default) (m.aj.getD k default)<0)))=pb at *;((repeat'(first|refine Vc X0 v9 ?_|(refine Xi ?_ ?_<;>try intro ht)|exact Xx|fail)))
  ·obtain rfl:pb=false:=by assumption
   rw[uu]at hr;rw[if_pos hr]at az;subst az;refine Vb X0 ?_;exact aY rfl rfl
  ·obtain rfl:pb=true:=by assumption
   rw[fH]at hr;exact aq _ (k+1) ⟨z8,by rw[oU];exact hr⟩ z8 (Xv X0)
 rw[dF z8,fC]at hr;rw[if_neg (by rw[hr];simp)]at az;((repeat'(first|refine Va X0 ?_|(refine Xi ?_ ?_<;>try intro ht)|exact Xx|fail)))
 refine aC _ _ rfl ?_;clear aq aC Ql;clear hr hk aQ;repeat(refine Xu ?_)
 refine Vb X0 ?_;generalize h2:(m.cz.any λc=>!gY m c)=b2 at *;refine bu (λk:Nat=>(⟨ax [(1,.ptr 0 0 0),(8,UX k)],[.var (aP m)]⟩:St)) (λk=>k<=m.cz.length/\((m.cz.drop k).any λc=>!gY m c)=b2) (λk=>m.cz.length-k) 0 ⟨bk _,h2⟩ (Xv X0) ?_;rintro k⟨hk,hr⟩Ql aq aC;by_cases aQ:k<m.cz.length
 ·have rI:=aO (d:=(default:Ct)) aQ;have cS:=hm.vw _ rI;rw[wa aQ]at hr;generalize bN:m.cz.getD k default=c at *;have QS:=QM m c cS;generalize gY m c=cb at *;((repeat'(first|refine Vc @bN QS ?_|(refine Xi ?_ ?_<;>try intro ht)|exact Xx|fail)))
  ·obtain rfl:cb=false:=by assumption
   simp only[pF,qN]at hr;rw[if_pos hr.symm]at az;subst az;refine Vb X0 ?_;exact aY rfl rfl
  ·obtain rfl:cb=true:=by assumption
   rw[qL,ml]at hr;exact aq _ (k+1) ⟨z8,hr⟩ z8 (Xv X0)
 rw[dF z8,uH]at hr;subst hr;rw[if_neg Eb]at az;subst az;((repeat'(first|refine Va X0 ?_|(refine Xi ?_ ?_<;>try intro ht)|exact Xx|fail)))
 refine aC _ _ rfl ?_;clear aq aC Ql;repeat(refine Xu ?_)
 refine Vb X0 ?_;exact aY rfl rfl
end T

