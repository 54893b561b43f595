import Derived.Test.YtodilglobhifaaaGreatDoorX13
set_option linter.all false
set_option maxHeartbeats 0
set_option maxRecDepth 20000
open List renaming any_cons→Jr,cons_append→ew,nil_append→dx,drop_eq_nil_of_le→dW,getD_eq_getElem?_getD→ax,getElem?_eq_none→fO,any_eq_true→np,any_nil→yN
open Nat renaming zero_le→aS,le_refl→aM,add_zero→k9,lt_or_ge→dr
open Bool renaming eq_iff_iff→ld,and_eq_true→bb,or_eq_true→lR,not_eq_true'→jd,false_eq_true→iT,true_and→eR,true_or→vh,false_or→nZ,false_and→oU,not_false→mC,not_true→lS
open Int renaming mul_nonneg→vg,mul_le_mul→wY
open Go Go.Am Go.Proofs
namespace T
def cT{α:Type}(p:α->Bool):Nat->List α->Int
 |_,[]=>-1
 |k,x::r=>if p x=true then(k:Int) else cT p (k+1) r
def ui{α:Type}(p:α->Bool):∀ (l:List α) (k:Nat),decide (0<=cT p k l)=l.any p
 |[],k=>rfl
 |x::r,k=>by
  rw[cT,Jr];split
  ·rename_i h;rw[h];simp
  ·rename_i h;rw[ui p r (k+1)];simp_all
def Vw(l:List (List bF))(g:FuncId)(bg:List AV)(aa:List Ob)(p:(List bF)->Bool)(hl:l.length<9223372036854775808)(hg:∀ x∈l,ak Tryz.prog g ([.tree 6 (rowsOf bG x)]++bg) aa (.lit (.bool (p x))) aa):
  ak Tryz.prog 131 [.tree 1 (rowsOf bw l),.fn g bg] aa (aam (cT p 0 l)) aa:=by
 generalize aq:cT p 0 l=res;refine ak.aL 19 aa.length [.tmp 4] Tryz.func131 ?_;refine Vb (X3 @cK @eD @bw.eq_1) ?_;refine aW (λk:Nat=>(⟨ao [(0,.tree 1 (rowsOf bw l)),(1,.fn g bg),(7,aam l.length),(8,aam k)],aa⟩:St)) (λk=>k<=l.length/\cT p k (l.drop k)=res) (λk=>l.length-k) 0 ⟨aS _,aq⟩ (Xv X0) ?_;rintro k⟨hk,hr⟩Ql an aw;by_cases aY:k<l.length
 ·have hx:=hg _ (aF (d:=default) aY);have hd:=dL l k default aY;generalize br:l.getD k default=x at *;rw[hd,cT]at hr;simp only[ew,dx,bw]at hx;((repeat'(first|refine Vb (X4 @cK @eD @bw.eq_1 @br) ?_|(refine Xi ?_ ?_<;>try intro ht)|exact Xx|fail))<;>try with_reducible intro K hK)
  refine eT hx (aM _) ?_;((try revert hK K);(repeat'(first|refine Vb (X3 @cK @eD @bw.eq_1) ?_|(refine Xi ?_ ?_<;>try intro ht)|fail)))
  ·rw[if_pos (by assumption)]at hr;rw[<- hr];exact dt rfl (aM _) rfl
  ·rw[if_neg (by simp_all)]at hr;exact an _ (k+1) ⟨Bv,hr⟩ Bv (Xv X0)
 ·((repeat'(first|refine Vb (X3 @cK @eD @bw.eq_1) ?_|(refine Xi ?_ ?_<;>try intro ht)|exact Xx|fail)))
  rw[dW Bv,cT]at hr;rw[<- hr];exact dt rfl (aM _) rfl
def Vx(l:List (List bF))(g:FuncId)(bg:List AV)(aa:List Ob)(p:(List bF)->Bool)(hl:l.length<9223372036854775808)(hg:∀ x∈l,ak Tryz.prog g ([.tree 6 (rowsOf bG x)]++bg) aa (.lit (.bool (p x))) aa):
  ak Tryz.prog 94 [.tree 1 (rowsOf bw l),.fn g bg] aa (.lit (.bool (l.any p))) aa:=by
 rw[<- ui p l 0];refine ak.aL 9 aa.length [.tmp 4] Tryz.func94 ?_;((refine Vb (X3 @cK @eD @bw.eq_1) ?_)<;>try with_reducible intro K hK)
 refine eT (Vw l g bg aa p hl hg) (aM _) ?_;((try revert hK K);(refine Vb (X3 @cK @eD @bw.eq_1) ?_))
 exact dt rfl (aM _) rfl
def Vy(l:List bF)(g:FuncId)(bg:List AV)(aa:List Ob)(p:bF->Bool)(hl:l.length<9223372036854775808)(hg:∀ x∈l,ak Tryz.prog g ([.agg (bG x)]++bg) aa (.lit (.bool (p x))) aa):
  ak Tryz.prog 95 [.tree 6 (rowsOf bG l),.fn g bg] aa (aam (cT p 0 l)) aa:=by
 generalize aq:cT p 0 l=res;refine ak.aL 19 aa.length [.tmp 4] Tryz.func95 ?_;refine Vb (X3 @cK @eD @bG.eq_1) ?_;refine aW (λk:Nat=>(⟨ao [(0,.tree 6 (rowsOf bG l)),(1,.fn g bg),(7,aam l.length),(8,aam k)],aa⟩:St)) (λk=>k<=l.length/\cT p k (l.drop k)=res) (λk=>l.length-k) 0 ⟨aS _,aq⟩ (Xv X0) ?_;rintro k⟨hk,hr⟩Ql an aw;by_cases aY:k<l.length
 ·have hx:=hg _ (aF (d:=default) aY);have hd:=dL l k default aY;generalize br:l.getD k default=x at *;rw[hd,cT]at hr;simp only[ew,dx,bG]at hx;((repeat'(first|refine Vb (X4 @cK @eD @bG.eq_1 @br) ?_|(refine Xi ?_ ?_<;>try intro ht)|exact Xx|fail))<;>try with_reducible intro K hK)
  refine eT hx (aM _) ?_;((try revert hK K);(repeat'(first|refine Vb (X3 @cK @eD @bG.eq_1) ?_|(refine Xi ?_ ?_<;>try intro ht)|fail)))
  ·rw[if_pos (by assumption)]at hr;rw[<- hr];exact dt rfl (aM _) rfl
  ·rw[if_neg (by simp_all)]at hr;exact an _ (k+1) ⟨Bv,hr⟩ Bv (Xv X0)
 ·((repeat'(first|refine Vb (X3 @cK @eD @bG.eq_1) ?_|(refine Xi ?_ ?_<;>try intro ht)|exact Xx|fail)))
  rw[dW Bv,cT]at hr;rw[<- hr];exact dt rfl (aM _) rfl
def Vz(l:List bF)(g:FuncId)(bg:List AV)(aa:List Ob)(p:bF->Bool)(hl:l.length<9223372036854775808)(hg:∀ x∈l,ak Tryz.prog g ([.agg (bG x)]++bg) aa (.lit (.bool (p x))) aa):
  ak Tryz.prog 56 [.tree 6 (rowsOf bG l),.fn g bg] aa (.lit (.bool (l.any p))) aa:=by
 rw[<- ui p l 0];refine ak.aL 9 aa.length [.tmp 4] Tryz.func56 ?_;((refine Vb (X3 @cK @eD @bG.eq_1) ?_)<;>try with_reducible intro K hK)
 refine eT (Vy l g bg aa p hl hg) (aM _) ?_;((try revert hK K);(refine Vb (X3 @cK @eD @bG.eq_1) ?_))
 exact dt rfl (aM _) rfl
def VA(l:List Ct)(g:FuncId)(bg:List AV)(aa:List Ob)(p:Ct->Bool)(hl:l.length<9223372036854775808)(hg:∀ x∈l,ak Tryz.prog g ([.agg (cN x)]++bg) aa (.lit (.bool (p x))) aa):
  ak Tryz.prog 100 [.tree 4 (rowsOf cN l),.fn g bg] aa (aam (cT p 0 l)) aa:=by
 generalize aq:cT p 0 l=res;refine ak.aL 19 aa.length [.tmp 4] Tryz.func100 ?_;refine Vb (X3 @cK @eD @cN.eq_1) ?_;refine aW (λk:Nat=>(⟨ao [(0,.tree 4 (rowsOf cN l)),(1,.fn g bg),(7,aam l.length),(8,aam k)],aa⟩:St)) (λk=>k<=l.length/\cT p k (l.drop k)=res) (λk=>l.length-k) 0 ⟨aS _,aq⟩ (Xv X0) ?_;rintro k⟨hk,hr⟩Ql an aw;by_cases aY:k<l.length
 ·have hx:=hg _ (aF (d:=default) aY);have hd:=dL l k default aY;generalize br:l.getD k default=x at *;rw[hd,cT]at hr;simp only[ew,dx,cN]at hx;((repeat'(first|refine Vb (X4 @cK @eD @cN.eq_1 @br) ?_|(refine Xi ?_ ?_<;>try intro ht)|exact Xx|fail))<;>try with_reducible intro K hK)
  refine eT hx (aM _) ?_;((try revert hK K);(repeat'(first|refine Vb (X3 @cK @eD @cN.eq_1) ?_|(refine Xi ?_ ?_<;>try intro ht)|fail)))
  ·rw[if_pos (by assumption)]at hr;rw[<- hr];exact dt rfl (aM _) rfl
  ·rw[if_neg (by simp_all)]at hr;exact an _ (k+1) ⟨Bv,hr⟩ Bv (Xv X0)
 ·((repeat'(first|refine Vb (X3 @cK @eD @cN.eq_1) ?_|(refine Xi ?_ ?_<;>try intro ht)|exact Xx|fail)))
  rw[dW Bv,cT]at hr;rw[<- hr];exact dt rfl (aM _) rfl
def VB(l:List Ct)(g:FuncId)(bg:List AV)(aa:List Ob)(p:Ct->Bool)(hl:l.length<9223372036854775808)(hg:∀ x∈l,ak Tryz.prog g ([.agg (cN x)]++bg) aa (.lit (.bool (p x))) aa):
  ak Tryz.prog 61 [.tree 4 (rowsOf cN l),.fn g bg] aa (.lit (.bool (l.any p))) aa:=by
 rw[<- ui p l 0];refine ak.aL 9 aa.length [.tmp 4] Tryz.func61 ?_;((refine Vb (X3 @cK @eD @cN.eq_1) ?_)<;>try with_reducible intro K hK)
 refine eT (VA l g bg aa p hl hg) (aM _) ?_;((try revert hK K);(refine Vb (X3 @cK @eD @cN.eq_1) ?_))
 exact dt rfl (aM _) rfl
def VC(l:List Int)(g:FuncId)(bg:List AV)(aa:List Ob)(p:Int->Bool)(hl:l.length<9223372036854775808)(hg:∀ x∈l,ak Tryz.prog g ([aam x]++bg) aa (.lit (.bool (p x))) aa):
  ak Tryz.prog 132 [.tree 1 (ints l),.fn g bg] aa (aam (cT p 0 l)) aa:=by
 generalize aq:cT p 0 l=res;refine ak.aL 19 aa.length [.tmp 4] Tryz.func132 ?_;refine Vb @k9 ?_;refine aW (λk:Nat=>(⟨ao [(0,.tree 1 (ints l)),(1,.fn g bg),(7,aam l.length),(8,aam k)],aa⟩:St)) (λk=>k<=l.length/\cT p k (l.drop k)=res) (λk=>l.length-k) 0 ⟨aS _,aq⟩ (Xv X0) ?_;rintro k⟨hk,hr⟩Ql an aw;by_cases aY:k<l.length
 ·have hx:=hg _ (aF (d:=0) aY);have hd:=dL l k 0 aY;generalize br:l.getD k 0=x at *;rw[hd,cT]at hr;simp only[ew,dx]at hx;((repeat'(first|refine Vb (X2 @k9 @br) ?_|(refine Xi ?_ ?_<;>try intro ht)|exact Xx|fail))<;>try with_reducible intro K hK)
  refine eT hx (aM _) ?_;((try revert hK K);(repeat'(first|refine Vb @k9 ?_|(refine Xi ?_ ?_<;>try intro ht)|fail)))
  ·rw[if_pos (by assumption)]at hr;rw[<- hr];exact dt rfl (aM _) rfl
  ·rw[if_neg (by simp_all)]at hr;exact an _ (k+1) ⟨Bv,hr⟩ Bv (Xv X0)
 ·((repeat'(first|refine Vb @k9 ?_|(refine Xi ?_ ?_<;>try intro ht)|exact Xx|fail)))
  rw[dW Bv,cT]at hr;rw[<- hr];exact dt rfl (aM _) rfl
def J3(l:List Int)(g:FuncId)(bg:List AV)(aa:List Ob)(p:Int->Bool)(hl:l.length<9223372036854775808)(hg:∀ x∈l,ak Tryz.prog g ([aam x]++bg) aa (.lit (.bool (p x))) aa):
  ak Tryz.prog 98 [.tree 1 (ints l),.fn g bg] aa (.lit (.bool (l.any p))) aa:=by
 rw[<- ui p l 0];refine ak.aL 9 aa.length [.tmp 4] Tryz.func98 ?_;((refine Vb @k9 ?_)<;>try with_reducible intro K hK)
 refine eT (VC l g bg aa p hl hg) (aM _) ?_;((try revert hK K);(refine Vb @k9 ?_))
 exact dt rfl (aM _) rfl
def VE(l:List bF):ak Tryz.prog 93 [.tree 6 (rowsOf bG l)] [] (.lit (.bool (decide (24<l.length)))) []:=by
 refine ak.aL 6 0 [.tmp 2] Tryz.func93 ?_;repeat'(first|(refine Xr X0 ?_;intro K hK)|(refine hK _ ?_;clear hK K)|refine Xz ?_|(refine Xe ?_;first|refine aQ rfl ?_|refine Xl ?_ ?_)|fail)
 (refine congrArg (λb=>AV.lit (Value.bool b)) ?_;rw[ld];simp only[gt_iff_lt,decide_eq_true_eq,beq_iff_eq,bne_iff_ne,bb,lR,jd,decide_eq_false_iff_not,iT,reduceCtorEq,iff_true,iff_false,true_iff,false_iff,eq_self];omega)
def VF(m:ah)(hm:MB m):ak Tryz.prog 55 [.agg (aB m)] [] (.lit (.bool (o7 m))) []:=by
 have h1:=hm.cls;have h2:=Vx m.cls 93 [] [] (λl=>decide (24<l.length)) h1 (λx _=>by simpa using VE x);unfold o7;generalize m.cls.any (λl=>decide (24<l.length))=b at *;cases b;all_goals refine ak.aL 36 0 [.tmp 2] Tryz.func55 ?_
 all_goals repeat'(first|(refine Xq X0 ?_;intro K hK)|refine Xo X0 ?_|refine Xc (h2) ?_|(refine hK _ ?_;clear hK K)|(refine Xg X0 ?_ ?_<;>try intro hb)|refine Xz ?_|(refine Xe ?_;first|refine aQ rfl ?_|refine Xl ?_ ?_)|fail)
 all_goals first|rfl|(simp;done)|(refine congrArg (λb=>AV.lit (Value.bool b)) ?_;rw[ld];simp only[or_true,true_or,or_false,false_or,decide_eq_true_eq,beq_iff_eq,bne_iff_ne,bb,lR,jd,decide_eq_false_iff_not,iT,reduceCtorEq,iff_true,iff_false,true_iff,false_iff,eq_self];omega)
def VG(m:ah)(o:bF)(ho:o.ch.length<9223372036854775808):ak Tryz.prog 58 [.agg (aB m),.agg (bG o)] [] (.lit (.bool (du m.rules none o.ch))) []:=by
 generalize aq:du m.rules none o.ch=res;refine ak.aL 43 0 [.tmp 4] Tryz.func58 ?_;repeat'(first|(refine Xr X0 ?_;intro K hK)|(refine hK _ ?_;clear hK K)|refine Xz ?_|fail)
 refine aW (λk:Nat=>(⟨ao [(2,.ptr 0 0 0),(3,.ptr 1 0 0),(8,.tree 2 (rowsOf av o.ch)),(9,aam o.ch.length),(10,aam k)],[.var (aB m),.var (bG o)]⟩:St)) (λk=>k<=o.ch.length/\du m.rules (ny o.ch k) (o.ch.drop k)=res) (λk=>o.ch.length-k) 0 ⟨aS _,aq⟩ (Xv X0) ?_;rintro k⟨hk,hr⟩Ql an aw;by_cases aY:k<o.ch.length
 ·have hd:=dL o.ch k default aY;generalize bC:o.ch.getD k default=c at *;rw[hd,J4]at hr;have VH:=Fe m c.1;have iA:((k:Int)-1).toNat=k-1:=Bv;repeat'(first|(refine Xq (X2 @bC @iA) ?_;intro K hK)|refine Xo (X2 @bC @iA) ?_|refine Xc (VH) ?_|refine Xc (Ff c.2) ?_|(refine hK _ ?_;clear hK K)|(refine Xg (X2 @bC @iA) ?_ ?_<;>try intro hb)|(refine Xi ?_ ?_<;>try intro ht)|refine Xz ?_|refine Xh ?_|(refine Xe ?_;first|refine aQ rfl ?_|refine Xl ?_ ?_)|refine Xd ?_ ?_|exact Xx|fail)
  ·rw[<- hr];simp[*]
  ·rw[<- hr];simp[*]
  ·rw[<- hr,decide_eq_false (p:=k=0) Bv,decide_eq_false (p:=_<c.1) Bv];simp
  ·refine an _ (k+1) ⟨Bv,?_⟩ Bv (Xs false [0,1] X0);rw[sO,bC,<- hr,decide_eq_true (p:=_<c.1) ht];simp[*]
  ·refine an _ (k+1) ⟨Bv,?_⟩ Bv (Xs false [0,1] X0);rw[sO,bC,<- hr,decide_eq_true (p:=k=0) Bv];simp[*]
 ·repeat'(first|(refine Xr X0 ?_;intro K hK)|(refine hK _ ?_;clear hK K)|(refine Xi ?_ ?_<;>try intro ht)|refine Xz ?_|refine Xh ?_|(refine Xe ?_;first|refine aQ rfl ?_|refine Xl ?_ ?_)|refine Xd ?_ ?_|exact Xx|fail)
  rw[dW Bv,du]at hr;rw[<- hr]
def VI(a b:Pr):ak Tryz.prog 60 [.agg (aO a),.agg (aO b)] [] (aam (o8 a b)) []:=by
 refine ak.aL 22 0 [.tmp 4] Tryz.func60 ?_;repeat'(first|(refine Xr X0 ?_;intro K hK)|(refine hK _ ?_;clear hK K)|refine Xz ?_|fail)
 (try(refine BX [4,9,14] rfl aac (by decide +kernel) ?_);intro K hK;simp(disch:=omega)only[Ac,↓Pc,simprocAttr])
 repeat'(first|refine Xo X0 ?_|refine Xc (BY _ _) ?_|fail)
 refine sP [] (Fg [gJ a.dN b.dN,gJ a.fst b.fst,gJ a.snd b.snd] Jy) aac trivial ⟨bt.bV rfl (lh _) rfl aac (o9 _),trivial⟩ rfl Jy ?_;repeat'(first|refine Xo X0 ?_|(refine hK _ ?_;clear hK K)|refine Xz ?_|(refine Xe ?_;first|refine aQ rfl ?_|refine Xl ?_ ?_)|fail)
 ·rfl
def VJ(n:Int):ak Tryz.prog 99 [aam n] [] (.lit (.bool (mH n))) []:=by
 refine ak.aL 10 0 [.tmp 2] Tryz.func99 ?_;repeat'(first|(refine Xq X0 ?_;intro K hK)|refine Xo X0 ?_|refine Xc (Ff n) ?_|(refine hK _ ?_;clear hK K)|(refine Xg X0 ?_ ?_<;>try intro hb)|refine Xz ?_|(refine Xe ?_;first|refine aQ rfl ?_|refine Xl ?_ ?_)|fail)
 all_goals(simp[mH, *]<;>omega)
def VK(m:ah)(p:Pr)(hp:p.bj.length<9223372036854775808)(hm:∀ l∈m.cls,l.length<=24)(hl:m.cls.length<=24):ak Tryz.prog 59 [.agg (aB m),.agg (aO p)] [] (.lit (.bool (fG m p))) []:=by
 have hg:∀ i,(m.cls.getD i default).length<=24:=λi=>by
  rcases dr i m.cls.length with h|h
  ·exact hm _ (aF h)
  ·rw[ax,fO h];decide
 have h1:=hg p.fst.toNat;have h2:=hg p.snd.toNat;have hmul:(0:Int)<=(m.cls.getD p.fst.toNat default).length*(m.cls.getD p.snd.toNat default).length/\((m.cls.getD p.fst.toNat default).length:Int)*(m.cls.getD p.snd.toNat default).length<=24*24:=⟨vg Bv Bv,wY Bv Bv Bv Bv⟩;have hc:=J3 p.bj 99 [] [] mH hp (λx _=>by simpa using VJ x);unfold fG;generalize vu:((m.cls.getD p.fst.toNat default).length:Int)*(m.cls.getD p.snd.toNat default).length=mm at *;refine ak.aL 55 0 [.tmp 4] Tryz.func59 ?_;repeat'(first|(refine Xq @vu ?_;intro K hK)|refine Xo @vu ?_|refine Xc (Fe m p.dN) ?_|refine Xc (hc) ?_|(refine hK _ ?_;clear hK K)|(refine Xg @vu ?_ ?_<;>try intro hb)|(refine Xi ?_ ?_<;>try intro ht)|refine Xz ?_|(refine Xe ?_;first|refine aQ rfl ?_|refine Xl ?_ ?_)|refine Xd ?_ ?_|exact Xx|fail)
 ·rw[hb];rfl
 iterate 4
  ·rw[decide_eq_false Bv];simp
 ·rw[decide_eq_true Bv];simp[*]
def VL(m:ah)(c:Ct)(hc:c.bQ.length<9223372036854775808):ak Tryz.prog 63 [.agg (aB m),.agg (cN c)] [] (.lit (.bool (fP m c))) []:=by
 have ze:=Fe m c.dN;have uj:=Ff c.bW;generalize aq:fP m c=res;unfold fP at aq;refine ak.aL 81 0 [.tmp 4] Tryz.func63 ?_;repeat'(first|(refine Xq X0 ?_;intro K hK)|refine Xo X0 ?_|refine Xc (ze) ?_|refine Xc (uj) ?_|(refine hK _ ?_;clear hK K)|(refine Xg X0 ?_ ?_<;>try intro hb)|(refine Xi ?_ ?_<;>try intro ht)|refine Xz ?_|(refine Xe ?_;first|refine aQ rfl ?_|refine Xl ?_ ?_)|exact Xx|fail)
 ·rw[<- aq,hb];rfl
 ·rw[<- aq,decide_eq_false Bv];simp
 ·rw[<- aq,decide_eq_false Bv];simp
 ·rw[<- aq,ht];simp
 have eE:(g6 m.rules c.dN&&decide (0<=c.most/\c.most<=1048576)&&fv c.bW)=true:=by rw[decide_eq_true Bv];simp[*]
 rw[eE,eR]at aq;refine aW (λk:Nat=>(⟨ao [(2,.ptr 0 0 0),(3,.ptr 1 0 0),(29,.tree 3 (rowsOf kH c.bQ)),(30,aam c.bQ.length),(31,aam k)],[.var (aB m),.var (cN c)]⟩:St)) (λk=>k<=c.bQ.length/\gK m (ny c.bQ k) (c.bQ.drop k)=res) (λk=>c.bQ.length-k) 0 ⟨aS _,aq⟩ (Xv X0) ?_;rintro k⟨hk,hr⟩Ql an aw;by_cases aY:k<c.bQ.length
 ·have hd:=dL c.bQ k default aY;generalize bC:c.bQ.getD k default=x at *;rw[hd,J5]at hr;have iA:((k:Int)-1).toNat=k-1:=Bv;generalize cy:c.bQ.getD (k-1) default=y at *;repeat'(first|(refine Xr (X2 @bC @iA) ?_;intro K hK)|refine Xo (X2 @bC @iA) ?_|refine Xc (VN m x.cls x.opt) ?_|(refine hK _ ?_;clear hK K)|(refine Xg (X2 @bC @iA) ?_ ?_<;>try intro hb)|(refine Xi ?_ ?_<;>try intro ht)|refine Xz ?_|refine Xh ?_|(refine Xe ?_;first|refine aQ rfl ?_|refine Xl ?_ ?_)|refine Xd ?_ ?_|exact Xx|fail)
  ·rw[<- hr,hb];simp
  ·rw[<- hr,decide_eq_false (p:=1<=x.wt/\x.wt<=1000) Bv];simp
  ·rw[<- hr,decide_eq_false (p:=1<=x.wt/\x.wt<=1000) Bv];simp
  have hw:decide (1<=x.wt/\x.wt<=1000)=true:=decide_eq_true Bv;have a9:fH m x.cls x.opt=true:=by assumption
  rw[a9,hw,eR,eR]at hr;(try(refine BX [12,22] rfl aac (by decide +kernel) ?_);intro K hK;simp(disch:=omega)only[Ac,↓Pc,simprocAttr,bC,iA,cy])
  repeat'(first|(refine Xq (X3 @bC @iA @cy) ?_;intro K hK)|refine Xo (X3 @bC @iA @cy) ?_|refine Xc (BY _ _) ?_|(refine hK _ ?_;clear hK K)|(refine Xg (X3 @bC @iA @cy) ?_ ?_<;>try intro hb)|(refine Xi ?_ ?_<;>try intro ht)|refine Xz ?_|refine Xd ?_ ?_|exact Xx|fail)
  ·refine sP [] (Fg [gJ y.cls x.cls,gJ y.opt x.opt] Jy) aac trivial ⟨bt.bV rfl (lh _) rfl aac (o9 _),trivial⟩ rfl Jy ?_;repeat'(first|(refine Xr (X3 @bC @iA @cy) ?_;intro K hK)|refine Xo (X3 @bC @iA @cy) ?_|(refine hK _ ?_;clear hK K)|(refine Xi ?_ ?_<;>try intro ht)|refine Xz ?_|refine Xh ?_|(refine Xe ?_;first|refine aQ rfl ?_|refine Xl ?_ ?_)|refine Xd ?_ ?_|exact Xx|fail)
   ·rw[<- hr,decide_eq_false (p:=k=0) Bv,decide_eq_false (p:=pX y x<0) (by unfold pX;omega)];simp
   ·refine an _ (k+1) ⟨Bv,?_⟩ Bv (Xs false [0,1] X0);rw[sO,bC,<- hr,decide_eq_true (p:=pX y x<0) (by unfold pX;omega)];simp
  ·refine an _ (k+1) ⟨Bv,?_⟩ Bv (Xs false [0,1] X0);rw[sO,bC,<- hr,decide_eq_true (p:=k=0) Bv];simp
 ·repeat'(first|(refine Xr X0 ?_;intro K hK)|(refine hK _ ?_;clear hK K)|(refine Xi ?_ ?_<;>try intro ht)|refine Xz ?_|refine Xh ?_|(refine Xe ?_;first|refine aQ rfl ?_|refine Xl ?_ ?_)|refine Xd ?_ ?_|exact Xx|fail)
  rw[dW Bv,gK]at hr;rw[<- hr]
def VO(m:ah)(o:bF)(ho:o.ch.length<9223372036854775808):ak Tryz.prog 57 [.agg (bG o),.ptr 0 0 0] [.var (aB m)] (.lit (.bool (!du m.rules none o.ch))) [.var (aB m)]:=by
 refine ak.aL 8 1 [.tmp 3] Tryz.func57 ?_;refine Vd X0 (VG m o ho) ?_;exact Xw false [0] X0
def VP(m:ah)(c:Ct)(hc:c.bQ.length<9223372036854775808):ak Tryz.prog 62 [.agg (cN c),.ptr 0 0 0] [.var (aB m)] (.lit (.bool (!fP m c))) [.var (aB m)]:=by
 refine ak.aL 8 1 [.tmp 3] Tryz.func62 ?_;refine Vd X0 (VL m c hc) ?_;exact Xw false [0] X0
def zf{α:Type}[Inhabited α]{l:List α}{f:α->Bool}{k:Nat}(hk:k<l.length):(l.drop k).any f=(f (l.getD k default)||(l.drop (k+1)).any f):=by
 rw[dL l k default hk,Jr]
def Fh(m:ah)(hm:MB m):ak Tryz.prog 24 [.agg (aB m)] [] (aam (mI m)) []:=by
 generalize aq:mI m=res;unfold mI at aq;have pY:=hm.cls;have j9:=hm.aj;refine ak.aL 52 0 [.tmp 2] Tryz.func24 ?_;repeat'(first|(refine Xq X0 ?_;intro K hK)|refine Xc (VF m hm) ?_|(refine hK _ ?_;clear hK K)|(refine Xi ?_ ?_<;>try intro ht)|refine Xz ?_|(refine Xe ?_;first|refine aQ rfl ?_|refine Xl ?_ ?_)|fail)
 ·rw[if_pos ht]at aq;rw[<- aq]
 rw[if_neg (by simp[ht])]at aq;have aH:m.cls.length<=24/\∀ l∈m.cls,l.length<=24:=by
  have h:=ht;unfold o7 at h;rw[decide_eq_false_iff_not]at h;refine⟨Bv,λl hl=>?_⟩;rcases dr 24 l.length with h1|h1
  ·exact absurd (.inr (.inl (np.2 ⟨l,hl,by simpa using h1⟩))) h
  ·exact h1
 clear ht;refine aW (λk:Nat=>(⟨ao [(1,.ptr 0 0 0),(10,.tree 1 (rowsOf bw m.cls)),(11,aam m.cls.length),(12,aam k)],[.var (aB m)]⟩:St)) (λk=>k<=m.cls.length/\(m.cls.any λl=>l.any λo=>!du m.rules none o.ch)=(m.cls.drop k).any λl=>l.any λo=>!du m.rules none o.ch) (λk=>m.cls.length-k) 0 ⟨aS _,rfl⟩ (Xv X0) ?_;rintro k⟨hk,hr⟩Ql an aw;by_cases aY:k<m.cls.length
 ·have bP:=aF (d:=(default:List bF)) aY;rw[zf aY]at hr;generalize bC:m.cls.getD k default=l at *;have fX:=Vz l 57 [.ptr 0 0 0] [.var (aB m)] (λo=>!du m.rules none o.ch) (hm.opt l bP) (λo ho=>by simpa using VO m o (hm.ch l bP o ho));repeat'(first|(refine Xr @bC ?_;intro K hK)|(refine hK _ ?_;clear hK K)|(refine Xi ?_ ?_<;>try intro ht)|refine Xz ?_|refine Xh ?_|refine Xd ?_ ?_|exact Xx|fail)
  refine eT fX (aM _) ?_;repeat'(first|(refine Xr @bC ?_;intro K hK)|(refine hK _ ?_;clear hK K)|(refine Xi ?_ ?_<;>try intro ht)|refine Xz ?_|refine Xh ?_|(refine Xe ?_;first|refine aQ rfl ?_|refine Xl ?_ ?_)|refine Xd ?_ ?_|exact Xx|fail)
  ·rw[ht,vh]at hr;rw[if_pos hr]at aq;rw[<- aq]
  ·rw[ht,nZ]at hr;exact an _ (k+1) ⟨Bv,hr⟩ Bv (Xv X0)
 rw[dW Bv,yN]at hr;rw[if_neg (by rw[hr];simp)]at aq;((repeat'(first|refine Va X0 ?_|(refine Xi ?_ ?_<;>try intro ht)|exact Xx|fail)))
 refine aw _ _ rfl ?_;clear an aw Ql;clear hr aY hk;repeat(refine Xu ?_)
 repeat'(first|(refine Xr X0 ?_;intro K hK)|(refine hK _ ?_;clear hK K)|refine Xz ?_|fail)
 refine aW (λk:Nat=>(⟨ao [(1,.ptr 0 0 0),(21,.tree 4 (rowsOf aO m.aj)),(22,aam m.aj.length),(23,aam k)],[.var (aB m)]⟩:St)) (λk=>k<=m.aj.length/\iB m none m.aj=iB m (ny m.aj k) (m.aj.drop k)) (λk=>m.aj.length-k) 0 ⟨aS _,rfl⟩ (Xv X0) ?_;rintro k⟨hk,hr⟩Ql an aw;by_cases aY:k<m.aj.length
 ·have bP:=aF (d:=(default:Pr)) aY;have hd:=dL m.aj k default aY;have iA:((k:Int)-1).toNat=k-1:=Bv;generalize bC:m.aj.getD k default=p at *;rw[hd,J6]at hr;generalize cy:m.aj.getD (k-1) default=q at *;repeat'(first|(refine Xq (X3 @bC @iA @cy) ?_;intro K hK)|refine Xo (X3 @bC @iA @cy) ?_|refine Xc (VK m p (hm.bj p bP) aH.2 aH.1) ?_|refine Xc (VI q p) ?_|(refine hK _ ?_;clear hK K)|(refine Xg (X3 @bC @iA @cy) ?_ ?_<;>try intro hb)|(refine Xi ?_ ?_<;>try intro ht)|refine Xz ?_|refine Xh ?_|(refine Xe ?_;first|refine aQ rfl ?_|refine Xl ?_ ?_)|refine Xd ?_ ?_|exact Xx|fail)
  ·have zg:fG m p=false:=by assumption
   rw[zg,oU,oU]at hr;rw[if_pos hr]at aq;rw[<- aq]
  ·rw[decide_eq_false (p:=k=0) Bv,decide_eq_false (p:=o8 q p<0) Bv,Bool.or_false,Bool.and_false,oU]at hr;rw[if_pos hr]at aq;rw[<- aq]
  ·have zg:fG m p=true:=by assumption
   rw[zg,decide_eq_true (p:=o8 q p<0) Bv,Bool.or_true,eR,eR]at hr;refine an _ (k+1) ⟨Bv,?_⟩ Bv (Xs false [0] X0);rw[sO,bC];exact hr
  ·have zg:fG m p=true:=by assumption
   rw[zg,decide_eq_true (p:=k=0) Bv,vh,eR,eR]at hr;refine an _ (k+1) ⟨Bv,?_⟩ Bv (Xs false [0] X0);rw[sO,bC];exact hr
 rw[dW Bv,iB]at hr;rw[if_neg (by rw[hr];simp)]at aq;((repeat'(first|refine Va X0 ?_|(refine Xi ?_ ?_<;>try intro ht)|exact Xx|fail)))
 refine aw _ _ rfl ?_;clear an aw Ql;clear hr aY hk;repeat(refine Xu ?_)
 have fX:=VB m.aI 62 [.ptr 0 0 0] [.var (aB m)] (λc=>!fP m c) hm.aI (λc hc=>by simpa using VP m c (hm.e9 c hc));repeat'(first|(refine Xr X0 ?_;intro K hK)|refine Xz ?_|fail)
 refine eT fX (aM _) ?_;repeat'(first|(refine Xr X0 ?_;intro K hK)|(refine hK _ ?_;clear hK K)|(refine Xi ?_ ?_<;>try intro ht)|refine Xz ?_|(refine Xe ?_;first|refine aQ rfl ?_|refine Xl ?_ ?_)|fail)
 ·rw[if_pos ht]at aq;rw[<- aq]
 ·rw[if_neg (by rw[ht];simp)]at aq;rw[<- aq]
def VQ(m:ah)(hm:MB m):ak Tryz.prog 50 [.agg (aB m)] [] (.lit (.bool (!o7 m))) []:=by
 have pY:=hm.cls;have j9:=hm.aj;have VR:=hm.aI;unfold o7;generalize zh:m.cls.any (λl=>decide (24<l.length))=b;refine ak.aL 44 0 [.tmp 2] Tryz.func50 ?_;refine Vb X0 ?_;refine aW (λi:Nat=>(⟨ao [(1,.ptr 0 0 0),(3,aam i)],[.var (aB m)]⟩:St)) (λi=>i<=m.cls.length/\(m.cls.drop i).any (λl=>decide (24<l.length))=b) (λi=>m.cls.length-i) 0 ⟨aS _,zh⟩ (Xv X0) ?_;rintro i⟨hi,hr⟩Ql an aw;by_cases hi':i<m.cls.length
 ·have iV:=hm.opt _ (aF (d:=(default:List bF)) hi');rw[zf hi']at hr;generalize cJ:m.cls.getD i default=l at *;((repeat'(first|refine Va @cJ ?_|(refine Xi ?_ ?_<;>try intro ht)|exact Xx|fail)))
  ·rw[decide_eq_true (p:=24<l.length) Bv,vh]at hr;subst hr;refine Vb X0 ?_;exact aQ rfl Jy
  ·rw[decide_eq_false (p:=24<l.length) Bv,nZ]at hr;exact an _ (i+1) ⟨Bv,hr⟩ Bv (Xv X0)
 ·rw[dW Bv,yN]at hr;subst hr;((repeat'(first|refine Va X0 ?_|(refine Xi ?_ ?_<;>try intro ht)|exact Xx|fail)))
  refine aw _ _ rfl ?_;clear an aw Ql;repeat(refine Xu ?_)
  ((repeat'(first|refine Vb X0 ?_|(refine V2 X0 ?_ ?_<;>try with_reducible intro hb)|fail)))
  all_goals refine aQ rfl ?_
  all_goals(refine congrArg (λb=>AV.lit (Value.bool b)) ?_;rw[ld];simp only[or_true,true_or,or_false,false_or,decide_eq_true_eq,beq_iff_eq,bne_iff_ne,bb,lR,jd,decide_eq_false_iff_not,iT,reduceCtorEq,iff_true,iff_false,true_iff,false_iff,eq_self];omega)
def VS(m:ah)(k:Nat)(hk:k<m.aj.length)(hp:∀ p∈m.aj,p.bj.length<9223372036854775808)(hm:∀ l∈m.cls,l.length<=24)(hl:m.cls.length<=24)(eL:m.aj.length<9223372036854775808):
  ak Tryz.prog 53 [.agg (aB m),aam k] [] (.lit (.bool (fG m (m.aj.getD k default)&&(decide (k=0)||decide (o8 (m.aj.getD (k-1) default) (m.aj.getD k default)<0))))) []:=by
 have iA:((k:Int)-1).toNat=k-1:=Bv;have xi:=hp _ (aF (d:=(default:Pr)) hk);generalize cy:m.aj.getD k default=p at *;generalize sQ:m.aj.getD (k-1) default=q at *;have hg:∀ i,(m.cls.getD i default).length<=24:=λi=>by
  rcases dr i m.cls.length with h|h
  ·exact hm _ (aF h)
  ·rw[ax,fO h];decide
 have h1:=hg p.fst.toNat;have h2:=hg p.snd.toNat;have hmul:(0:Int)<=(m.cls.getD p.fst.toNat default).length*(m.cls.getD p.snd.toNat default).length/\((m.cls.getD p.fst.toNat default).length:Int)*(m.cls.getD p.snd.toNat default).length<=24*24:=⟨vg Bv Bv,wY Bv Bv Bv Bv⟩;have VT:decide (o8 q p<0)=(decide (q.dN<p.dN)||decide (q.dN=p.dN)&&(decide (q.fst<p.fst)||decide (q.fst=p.fst)&&decide (q.snd<p.snd))):=by
  rw[ld];simp only[decide_eq_true_eq,lR,bb,J7]
 have VU:=Fi m p.dN;rw[VT];unfold fG;generalize zh:p.bj.any mH=bad;generalize vu:((m.cls.getD p.fst.toNat default).length:Int)*(m.cls.getD p.snd.toNat default).length=mm at *;generalize hD:decide (0<=p.fst/\p.fst<p.snd/\p.snd<m.cls.length/\(p.bj.length:Int)=mm)=D;generalize hO:(decide (q.dN<p.dN)||decide (q.dN=p.dN)&&(decide (q.fst<p.fst)||decide (q.fst=p.fst)&&decide (q.snd<p.snd)))=O;refine ak.aL 114 0 [.tmp 4] Tryz.func53 ?_;((repeat'(first|refine Vd (X2 @cy @vu) VU ?_|(refine V2 (X2 @cy @vu) ?_ ?_<;>try with_reducible intro hb)|(refine Xi ?_ ?_<;>try intro ht)|exact Xx|fail)))
 all_goals try(refine aQ rfl ?_;first|(rw[hb];rfl)|(rw[show D=false by rw[<- hD];exact decide_eq_false Bv];simp;done))
 have Fj:D=true:=by rw[<- hD];exact decide_eq_true Bv
 subst Fj;have Fk:g6 m.rules p.dN=true:=by assumption
 refine aW (λi:Nat=>(⟨ao [(1,aam k),(2,.ptr 0 0 0),(5,.ptr 1 0 0),(6,aam i)],[.var (aB m),.var (aO p)]⟩:St)) (λi=>i<=p.bj.length/\(p.bj.drop i).any mH=bad) (λi=>p.bj.length-i) 0 ⟨aS _,zh⟩ (Xv X0) ?_;rintro i⟨hi,hr⟩Ql an aw;by_cases hi':i<p.bj.length
 ·rw[dL p.bj i 0 hi',Jr]at hr;generalize br:p.bj.getD i 0=x at *;((repeat'(first|refine Vc @br (Fl x) ?_|(refine V2 @br ?_ ?_<;>try with_reducible intro hb)|(refine Xi ?_ ?_<;>try intro ht)|exact Xx|fail)))
  ·rw[show mH x=true by simp[mH, *],vh]at hr;subst hr;refine Vb X0 ?_;exact aQ rfl Jy
  ·rw[show mH x=false by simp[mH, *],nZ]at hr;exact an _ (i+1) ⟨Bv,hr⟩ Bv (Xs false [0,1] X0)
  ·rw[show mH x=false by simp[mH, *],nZ]at hr;exact an _ (i+1) ⟨Bv,hr⟩ Bv (Xs false [0,1] X0)
 ·rw[dW Bv,yN]at hr;subst hr;((repeat'(first|refine Va X0 ?_|(refine V2 X0 ?_ ?_<;>try with_reducible intro hb)|(refine Xi ?_ ?_<;>try intro ht)|exact Xx|fail)))
  refine aw _ _ rfl ?_;clear an aw Ql;repeat(refine Xu ?_)
  ((repeat'(first|refine Vb (X2 @sQ @iA) ?_|(refine Xi ?_ ?_<;>try intro ht)|fail)))
  all_goals refine aQ rfl ?_
  all_goals rw[Fk,eR,eR]
  ·rw[decide_eq_true (p:=k=0) Bv];simp
  all_goals rw[decide_eq_false (p:=k=0) Bv,<- hO]
  all_goals(refine congrArg (λb=>AV.lit (Value.bool b)) ?_;rw[ld];simp only[nZ,mC,true_and,decide_eq_true_eq,beq_iff_eq,bne_iff_ne,bb,lR,jd,decide_eq_false_iff_not,iT,reduceCtorEq,iff_true,iff_false,true_iff,false_iff,eq_self];omega)
def VV(m:ah)(c:Ct)(hc:c.bQ.length<9223372036854775808):ak Tryz.prog 54 [.agg (aB m),.agg (cN c)] [] (.lit (.bool (fP m c))) []:=by
 have ze:=Fi m c.dN;have uj:=Fl c.bW;generalize aq:fP m c=res;unfold fP at aq;generalize hD:decide (0<=c.most/\c.most<=1048576)=D at *;refine ak.aL 85 0 [.tmp 4] Tryz.func54 ?_;((repeat'(first|refine Vd X0 (X2 ze uj) ?_|(refine V2 X0 ?_ ?_<;>try with_reducible intro hb)|(refine Xi ?_ ?_<;>try intro ht)|exact Xx|fail)))
 all_goals try(refine aQ rfl ?_;first|(rw[<- aq,hb];rfl)|(rw[<- aq,show D=false by rw[<- hD];exact decide_eq_false Bv];simp;done)|(rw[<- aq,ht];simp;done))
 have Fj:D=true:=by rw[<- hD];exact decide_eq_true Bv
 subst Fj;have eE:(g6 m.rules c.dN&&true&&fv c.bW)=true:=by simp[*]
 rw[eE,eR]at aq;refine aW (λk:Nat=>(⟨ao [(2,.ptr 0 0 0),(3,.ptr 1 0 0),(5,aam k)],[.var (aB m),.var (cN c)]⟩:St)) (λk=>k<=c.bQ.length/\gK m (ny c.bQ k) (c.bQ.drop k)=res) (λk=>c.bQ.length-k) 0 ⟨aS _,aq⟩ (Xv X0) ?_;rintro k⟨hk,hr⟩Ql an aw;by_cases aY:k<c.bQ.length
 ·have hd:=dL c.bQ k default aY;generalize bC:c.bQ.getD k default=x at *;rw[hd,J5]at hr;have iA:((k:Int)-1).toNat=k-1:=Bv;generalize cy:c.bQ.getD (k-1) default=y at *;generalize a9:fH m x.cls x.opt=ob at *;have lY:=VW m x.cls x.opt;rw[a9]at lY;generalize hW:decide (1<=x.wt/\x.wt<=1000)=wb at *;generalize hO:decide (pX y x<0)=O at *;have J8:O=true↔y.cls<x.cls\/(y.cls=x.cls/\y.opt<x.opt):=by rw[<- hO,decide_eq_true_eq,Fm]
  ((repeat'(first|refine Vc (X3 @bC @cy @iA) lY ?_|(refine V2 (X3 @bC @cy @iA) ?_ ?_<;>try with_reducible intro hb)|(refine Xi ?_ ?_<;>try intro ht)|exact Xx|fail)))
  iterate 5
   ·obtain rfl:res=false:=by
     rw[<- hr];first
      | (rw[show ob=false by assumption];rfl)
      | (rw[show wb=false by rw[<- hW];exact decide_eq_false Bv];simp;done)
      | (rw[decide_eq_false (p:=k=0) Bv,show O=false from Bool.eq_false_iff.2 λh=>by have:=J8.1 h;omega];simp;done)
    ((repeat'(first|refine Vb X0 ?_|fail)))
    exact aQ rfl rfl
  all_goals
   refine an _ (k+1) ⟨Bv,?_⟩ Bv (Xs false [0,1] X0);rw[sO,bC,<- hr,show ob=true by assumption,show wb=true by rw[<- hW];exact decide_eq_true Bv];first
    | (rw[J8.2 Bv];simp;done)
    | (rw[decide_eq_true (p:=k=0) Bv];simp;done)
 ·rw[dW Bv,gK]at hr;subst hr;((repeat'(first|refine Va X0 ?_|(refine Xi ?_ ?_<;>try intro ht)|exact Xx|fail)))
  refine aw _ _ rfl ?_;clear an aw Ql;repeat(refine Xu ?_)
  refine Vb X0 ?_;exact aQ rfl rfl
def VX(m:ah)(hm:MB m):ak Tryz.prog 23 [.agg (aB m)] [] (aam (mI m)) []:=by
 generalize aq:mI m=res;unfold mI at aq;have pY:=hm.cls;have j9:=hm.aj;have VR:=hm.aI;have J9:=VQ m hm;generalize uk:o7 m=lb at *;cases lb;rotate_left
 ·rw[if_pos rfl]at aq;subst aq;refine ak.aL 105 0 [.tmp 2] Tryz.func23 ?_;((repeat'(first|refine Vd @lS J9 ?_|(refine Xi ?_ ?_<;>try intro ht)|exact Xx|fail)))
  all_goals first|exact aQ rfl rfl|(exfalso;simp at *;done)
 rw[if_neg Jy]at aq;have aH:m.cls.length<=24/\∀ l∈m.cls,l.length<=24:=by
  have h:=uk;unfold o7 at h;rw[decide_eq_false_iff_not]at h;refine⟨Bv,λl hl=>?_⟩;rcases dr 24 l.length with h1|h1
  ·exact absurd (.inr (.inl (np.2 ⟨l,hl,by simpa using h1⟩))) h
  ·exact h1
 generalize h1:(m.cls.any λl=>l.any λo=>!du m.rules none o.ch)=b1 at *;refine ak.aL 105 0 [.tmp 2] Tryz.func23 ?_;((repeat'(first|refine Vd @mC J9 ?_|(refine Xi ?_ ?_<;>try intro ht)|exact Xx|fail)))
 refine aW (λi:Nat=>(⟨ao [(1,.ptr 0 0 0),(3,aam i)],[.var (aB m)]⟩:St)) (λi=>i<=m.cls.length/\((m.cls.drop i).any λl=>l.any λo=>!du m.rules none o.ch)=b1) (λi=>m.cls.length-i) 0 ⟨aS _,h1⟩ (Xv X0) ?_;rintro i⟨hi,hr⟩Ql an aw;by_cases hi':i<m.cls.length
 ·have Fo:=aF (d:=(default:List bF)) hi';have pZ:=hm.opt _ Fo;have cz:=hm.ch _ Fo;have Fp:=aH.2 _ Fo;rw[zf hi']at hr;generalize cJ:m.cls.getD i default=l at *;generalize vv:((m.cls.drop (i+1)).any λl=>l.any λo=>!du m.rules none o.ch)=rest at *;((repeat'(first|refine Va X0 ?_|(refine Xi ?_ ?_<;>try intro ht)|exact Xx|fail)))
  refine aW (λk:Nat=>(⟨ao [(1,.ptr 0 0 0),(3,aam i),(4,aam k)],[.var (aB m)]⟩:St)) (λk=>k<=l.length/\(((l.drop k).any λo=>!du m.rules none o.ch)||rest)=b1) (λk=>l.length-k) 0 ⟨aS _,hr⟩ (Xv X0) ?_;clear hr;rintro k⟨hk,hr⟩dh bc bz;by_cases aY:k<l.length
  ·have xj:=aF (d:=(default:bF)) aY;have nA:=cz _ xj;rw[zf aY]at hr;generalize jP:l.getD k default=o at *;generalize VY:((l.drop (k+1)).any λo=>!du m.rules none o.ch)=VZ at *;((repeat'(first|refine Va (X2 @cJ @jP) ?_|(refine Xi ?_ ?_<;>try intro ht)|exact Xx|fail)))
   refine aW (λj:Nat=>(⟨ao [(1,.ptr 0 0 0),(3,aam i),(4,aam k),(5,.tree 2 (rowsOf av o.ch)),(6,aam j)],[.var (aB m)]⟩:St)) (λj=>j<=o.ch.length/\(!du m.rules (ny o.ch j) (o.ch.drop j)||VZ||rest)=b1) (λj=>o.ch.length-j) 0 ⟨aS _,hr⟩ (Xv X0) ?_;clear hr;rintro j⟨hj,hr⟩nB g7 gz;by_cases eF:j<o.ch.length
   ·have hd:=dL o.ch j default eF;generalize bC:o.ch.getD j default=c at *;rw[hd,J4]at hr;have iA:((j:Int)-1).toNat=j-1:=Bv;generalize cy:o.ch.getD (j-1) default=q at *;have dK:=Fi m c.1;generalize hrb:g6 m.rules c.1=rb at *;have eL:=Fl c.2;generalize jl:fv c.2=pb at *;((repeat'(first|refine Vc (X3 @bC @cy @iA) (X2 dK eL) ?_|(refine V2 (X3 @bC @cy @iA) ?_ ?_<;>try with_reducible intro hb)|(refine Xi ?_ ?_<;>try intro ht)|exact Xx|fail)))
    iterate 3
     ·obtain rfl:b1=true:=by
       rw[<- hr];first
        | (rw[show rb=false by assumption];rfl)
        | (rw[show pb=false by assumption];simp;done)
        | (rw[decide_eq_false (p:=j=0) Bv,decide_eq_false (p:=q.1<c.1) Bv];simp;done)
      rw[if_pos rfl]at aq;repeat(refine Xu ?_)
      ((repeat'(first|refine Vb X0 ?_|fail)))
      exact aQ rfl (by rw[aq])
    all_goals
     refine g7 _ (j+1) ⟨Bv,?_⟩ Bv (Xv X0);rw[sO,bC,<- hr,show rb=true by assumption,show pb=true by assumption];first
      | (rw[decide_eq_true (p:=q.1<c.1) Bv];simp;done)
      | (rw[decide_eq_true (p:=j=0) Bv];simp;done)
   ·rw[dW Bv,du]at hr;simp only[lS,nZ]at hr;((repeat'(first|refine Va X0 ?_|(refine Xi ?_ ?_<;>try intro ht)|exact Xx|fail)))
    refine gz _ _ rfl ?_;clear g7 gz nB;repeat(refine Xu ?_)
    refine Va X0 ?_;exact bc _ (k+1) ⟨Bv,by rw[VY];exact hr⟩ Bv (Xv X0)
  ·rw[dW Bv,yN,nZ]at hr;((repeat'(first|refine Va @cJ ?_|(refine Xi ?_ ?_<;>try intro ht)|exact Xx|fail)))
   refine bz _ _ rfl ?_;clear bc bz dh;repeat(refine Xu ?_)
   refine Va X0 ?_;exact an _ (i+1) ⟨Bv,by rw[vv];exact hr⟩ Bv (Xv X0)
 rw[dW Bv,yN]at hr;subst hr;rw[if_neg Jy]at aq;((repeat'(first|refine Va X0 ?_|(refine Xi ?_ ?_<;>try intro ht)|exact Xx|fail)))
 refine aw _ _ rfl ?_;clear an aw Ql;clear hi hi';repeat(refine Xu ?_)
 refine Vb X0 ?_;refine aW (λk:Nat=>(⟨ao [(1,.ptr 0 0 0),(7,aam k)],[.var (aB m)]⟩:St)) (λk=>k<=m.aj.length/\iB m none m.aj=iB m (ny m.aj k) (m.aj.drop k)) (λk=>m.aj.length-k) 0 ⟨aS _,rfl⟩ (Xv X0) ?_;rintro k⟨hk,hr⟩Ql an aw;by_cases aY:k<m.aj.length
 ·have hd:=dL m.aj k default aY;have uj:=VS m k aY hm.bj aH.2 aH.1 hm.aj;rw[hd,J6]at hr;generalize (fG m (m.aj.getD k default)&&(decide (k=0)||decide (o8 (m.aj.getD (k-1) default) (m.aj.getD k default)<0)))=pb at *;((repeat'(first|refine Vc X0 uj ?_|(refine Xi ?_ ?_<;>try intro ht)|exact Xx|fail)))
  ·obtain rfl:pb=false:=by assumption
   rw[oU]at hr;rw[if_pos hr]at aq;subst aq;refine Vb X0 ?_;exact aQ rfl rfl
  ·obtain rfl:pb=true:=by assumption
   rw[eR]at hr;exact an _ (k+1) ⟨Bv,by rw[sO];exact hr⟩ Bv (Xv X0)
 rw[dW Bv,iB]at hr;rw[if_neg (by rw[hr];simp)]at aq;((repeat'(first|refine Va X0 ?_|(refine Xi ?_ ?_<;>try intro ht)|exact Xx|fail)))
 refine aw _ _ rfl ?_;clear an aw Ql;clear hr hk aY;repeat(refine Xu ?_)
 refine Vb X0 ?_;generalize h2:(m.aI.any λc=>!fP m c)=b2 at *;refine aW (λk:Nat=>(⟨ao [(1,.ptr 0 0 0),(8,aam k)],[.var (aB m)]⟩:St)) (λk=>k<=m.aI.length/\((m.aI.drop k).any λc=>!fP m c)=b2) (λk=>m.aI.length-k) 0 ⟨aS _,h2⟩ (Xv X0) ?_;rintro k⟨hk,hr⟩Ql an aw;by_cases aY:k<m.aI.length
 ·have lk:=aF (d:=(default:Ct)) aY;have cJ:=hm.e9 _ lk;rw[zf aY]at hr;generalize bC:m.aI.getD k default=c at *;have xk:=VV m c cJ;generalize fP m c=cb at *;((repeat'(first|refine Vc @bC xk ?_|(refine Xi ?_ ?_<;>try intro ht)|exact Xx|fail)))
  ·obtain rfl:cb=false:=by assumption
   simp only[mC,vh]at hr;rw[if_pos hr.symm]at aq;subst aq;refine Vb X0 ?_;exact aQ rfl rfl
  ·obtain rfl:cb=true:=by assumption
   rw[lS,nZ]at hr;exact an _ (k+1) ⟨Bv,hr⟩ Bv (Xv X0)
 rw[dW Bv,yN]at hr;subst hr;rw[if_neg Jy]at aq;subst aq;((repeat'(first|refine Va X0 ?_|(refine Xi ?_ ?_<;>try intro ht)|exact Xx|fail)))
 refine aw _ _ rfl ?_;clear an aw Ql;repeat(refine Xu ?_)
 refine Vb X0 ?_;exact aQ rfl rfl
end T

