import Derived.Test.YtdipcmigdbnheaaGreatX09
set_option linter.all false
set_option maxHeartbeats 0
set_option maxRecDepth 20000
open List renaming any_cons→Ke,cons_append→dS,nil_append→dY,drop_eq_nil_of_le→cR
open Nat renaming zero_le→aI,le_refl→aN,add_zero→iS,lt_or_ge→fK
open Bool renaming eq_iff_iff→mI,and_eq_true→bw,or_eq_true→l9,not_eq_true'→ld,false_eq_true→jQ,true_and→eQ,true_or→uB,false_and→jR,or_true→xl
open Go Go.Am Go.Proofs
namespace T
def dG{α:Type}(p:α->Bool):Nat->List α->Int
 |_,[]=>-1
 |k,x::r=>if p x=true then(k:Int) else dG p (k+1) r
def zG{α:Type}(p:α->Bool):∀ (l:List α) (k:Nat),decide (0<=dG p k l)=l.any p
 |[],k=>rfl
 |x::r,k=>by
  rw[dG,Ke];split
  ·rename_i h;rw[h];simp
  ·rename_i h;rw[zG p r (k+1)];simp_all
def ahS(l:List (List bU))(g:FuncId)(bj:List AV)(aa:List Ob)(p:(List bU)->Bool)(hl:l.length<9223372036854775808)(hg:∀ x∈l,ao Tryz.prog g ([.tree 6 (rowsOf cQ x)]++bj) aa (.lit (.bool (p x))) aa):
  ao Tryz.prog 181 [.tree 1 (rowsOf bu l),.fn g bj] aa (aaC (dG p 0 l)) aa:=by
 generalize ak:dG p 0 l=res;refine ao.aD 19 aa.length [.tmp 4] Tryz.func181 ?_;refine Vb (X3 @b8 @gf @bu.eq_1) ?_;refine aM (λk:Nat=>(⟨aw [(0,.tree 1 (rowsOf bu l)),(1,.fn g bj),(7,aaC l.length),(8,aaC k)],aa⟩:St)) (λk=>k<=l.length/\dG p k (l.drop k)=res) (λk=>l.length-k) 0 ⟨aI _,ak⟩ (Xv X0) ?_;rintro k⟨hk,hr⟩Ql an ar;by_cases aK:k<l.length
 ·have hx:=hg _ (ay (d:=default) aK);have hd:=cP l k default aK;generalize aS:l.getD k default=x at *;rw[hd,dG]at hr;simp only[dS,dY,bu]at hx;((repeat'(first|refine Vb (X4 @b8 @gf @bu.eq_1 @aS) ?_|(refine Xi ?_ ?_<;>try intro ht)|exact Xx|fail))<;>try with_reducible intro K hK)
  refine ig hx (aN _) ?_;((try revert hK K);(repeat'(first|refine Vb (X3 @b8 @gf @bu.eq_1) ?_|(refine Xi ?_ ?_<;>try intro ht)|fail)))
  ·rw[if_pos (by assumption)]at hr;rw[<- hr];exact eu rfl (aN _) rfl
  ·rw[if_neg (by simp_all)]at hr;exact an _ (k+1) ⟨GC,hr⟩ GC (Xv X0)
 ·((repeat'(first|refine Vb (X3 @b8 @gf @bu.eq_1) ?_|(refine Xi ?_ ?_<;>try intro ht)|exact Xx|fail)))
  rw[cR GC,dG]at hr;rw[<- hr];exact eu rfl (aN _) rfl
def ahT(l:List (List bU))(g:FuncId)(bj:List AV)(aa:List Ob)(p:(List bU)->Bool)(hl:l.length<9223372036854775808)(hg:∀ x∈l,ao Tryz.prog g ([.tree 6 (rowsOf cQ x)]++bj) aa (.lit (.bool (p x))) aa):
  ao Tryz.prog 137 [.tree 1 (rowsOf bu l),.fn g bj] aa (.lit (.bool (l.any p))) aa:=by
 rw[<- zG p l 0];refine ao.aD 9 aa.length [.tmp 4] Tryz.func137 ?_;((refine Vb (X3 @b8 @gf @bu.eq_1) ?_)<;>try with_reducible intro K hK)
 refine ig (ahS l g bj aa p hl hg) (aN _) ?_;((try revert hK K);(refine Vb (X3 @b8 @gf @bu.eq_1) ?_))
 exact eu rfl (aN _) rfl
def ahU(l:List bU)(g:FuncId)(bj:List AV)(aa:List Ob)(p:bU->Bool)(hl:l.length<9223372036854775808)(hg:∀ x∈l,ao Tryz.prog g ([.agg (cQ x)]++bj) aa (.lit (.bool (p x))) aa):
  ao Tryz.prog 138 [.tree 6 (rowsOf cQ l),.fn g bj] aa (aaC (dG p 0 l)) aa:=by
 generalize ak:dG p 0 l=res;refine ao.aD 19 aa.length [.tmp 4] Tryz.func138 ?_;refine Vb (X3 @b8 @gf @cQ.eq_1) ?_;refine aM (λk:Nat=>(⟨aw [(0,.tree 6 (rowsOf cQ l)),(1,.fn g bj),(7,aaC l.length),(8,aaC k)],aa⟩:St)) (λk=>k<=l.length/\dG p k (l.drop k)=res) (λk=>l.length-k) 0 ⟨aI _,ak⟩ (Xv X0) ?_;rintro k⟨hk,hr⟩Ql an ar;by_cases aK:k<l.length
 ·have hx:=hg _ (ay (d:=default) aK);have hd:=cP l k default aK;generalize aS:l.getD k default=x at *;rw[hd,dG]at hr;simp only[dS,dY,cQ]at hx;((repeat'(first|refine Vb (X4 @b8 @gf @cQ.eq_1 @aS) ?_|(refine Xi ?_ ?_<;>try intro ht)|exact Xx|fail))<;>try with_reducible intro K hK)
  refine ig hx (aN _) ?_;((try revert hK K);(repeat'(first|refine Vb (X3 @b8 @gf @cQ.eq_1) ?_|(refine Xi ?_ ?_<;>try intro ht)|fail)))
  ·rw[if_pos (by assumption)]at hr;rw[<- hr];exact eu rfl (aN _) rfl
  ·rw[if_neg (by simp_all)]at hr;exact an _ (k+1) ⟨GC,hr⟩ GC (Xv X0)
 ·((repeat'(first|refine Vb (X3 @b8 @gf @cQ.eq_1) ?_|(refine Xi ?_ ?_<;>try intro ht)|exact Xx|fail)))
  rw[cR GC,dG]at hr;rw[<- hr];exact eu rfl (aN _) rfl
def ahV(l:List bU)(g:FuncId)(bj:List AV)(aa:List Ob)(p:bU->Bool)(hl:l.length<9223372036854775808)(hg:∀ x∈l,ao Tryz.prog g ([.agg (cQ x)]++bj) aa (.lit (.bool (p x))) aa):
  ao Tryz.prog 81 [.tree 6 (rowsOf cQ l),.fn g bj] aa (.lit (.bool (l.any p))) aa:=by
 rw[<- zG p l 0];refine ao.aD 9 aa.length [.tmp 4] Tryz.func81 ?_;((refine Vb (X3 @b8 @gf @cQ.eq_1) ?_)<;>try with_reducible intro K hK)
 refine ig (ahU l g bj aa p hl hg) (aN _) ?_;((try revert hK K);(refine Vb (X3 @b8 @gf @cQ.eq_1) ?_))
 exact eu rfl (aN _) rfl
def Y3(l:List Ct)(g:FuncId)(bj:List AV)(aa:List Ob)(p:Ct->Bool)(hl:l.length<9223372036854775808)(hg:∀ x∈l,ao Tryz.prog g ([.agg (aV x)]++bj) aa (.lit (.bool (p x))) aa):
  ao Tryz.prog 93 [.tree 4 (rowsOf aV l),.fn g bj] aa (aaC (dG p 0 l)) aa:=by
 generalize ak:dG p 0 l=res;refine ao.aD 19 aa.length [.tmp 4] Tryz.func93 ?_;refine Vb (X3 @b8 @gf @aV.eq_1) ?_;refine aM (λk:Nat=>(⟨aw [(0,.tree 4 (rowsOf aV l)),(1,.fn g bj),(7,aaC l.length),(8,aaC k)],aa⟩:St)) (λk=>k<=l.length/\dG p k (l.drop k)=res) (λk=>l.length-k) 0 ⟨aI _,ak⟩ (Xv X0) ?_;rintro k⟨hk,hr⟩Ql an ar;by_cases aK:k<l.length
 ·have hx:=hg _ (ay (d:=default) aK);have hd:=cP l k default aK;generalize aS:l.getD k default=x at *;rw[hd,dG]at hr;simp only[dS,dY,aV]at hx;((repeat'(first|refine Vb (X4 @b8 @gf @aV.eq_1 @aS) ?_|(refine Xi ?_ ?_<;>try intro ht)|exact Xx|fail))<;>try with_reducible intro K hK)
  refine ig hx (aN _) ?_;((try revert hK K);(repeat'(first|refine Vb (X3 @b8 @gf @aV.eq_1) ?_|(refine Xi ?_ ?_<;>try intro ht)|fail)))
  ·rw[if_pos (by assumption)]at hr;rw[<- hr];exact eu rfl (aN _) rfl
  ·rw[if_neg (by simp_all)]at hr;exact an _ (k+1) ⟨GC,hr⟩ GC (Xv X0)
 ·((repeat'(first|refine Vb (X3 @b8 @gf @aV.eq_1) ?_|(refine Xi ?_ ?_<;>try intro ht)|exact Xx|fail)))
  rw[cR GC,dG]at hr;rw[<- hr];exact eu rfl (aN _) rfl
def ahW(l:List Ct)(g:FuncId)(bj:List AV)(aa:List Ob)(p:Ct->Bool)(hl:l.length<9223372036854775808)(hg:∀ x∈l,ao Tryz.prog g ([.agg (aV x)]++bj) aa (.lit (.bool (p x))) aa):
  ao Tryz.prog 86 [.tree 4 (rowsOf aV l),.fn g bj] aa (.lit (.bool (l.any p))) aa:=by
 rw[<- zG p l 0];refine ao.aD 9 aa.length [.tmp 4] Tryz.func86 ?_;((refine Vb (X3 @b8 @gf @aV.eq_1) ?_)<;>try with_reducible intro K hK)
 refine ig (Y3 l g bj aa p hl hg) (aN _) ?_;((try revert hK K);(refine Vb (X3 @b8 @gf @aV.eq_1) ?_))
 exact eu rfl (aN _) rfl
def ahX(l:List Int)(g:FuncId)(bj:List AV)(aa:List Ob)(p:Int->Bool)(hl:l.length<9223372036854775808)(hg:∀ x∈l,ao Tryz.prog g ([aaC x]++bj) aa (.lit (.bool (p x))) aa):
  ao Tryz.prog 182 [.tree 1 (ints l),.fn g bj] aa (aaC (dG p 0 l)) aa:=by
 generalize ak:dG p 0 l=res;refine ao.aD 19 aa.length [.tmp 4] Tryz.func182 ?_;refine Vb @iS ?_;refine aM (λk:Nat=>(⟨aw [(0,.tree 1 (ints l)),(1,.fn g bj),(7,aaC l.length),(8,aaC k)],aa⟩:St)) (λk=>k<=l.length/\dG p k (l.drop k)=res) (λk=>l.length-k) 0 ⟨aI _,ak⟩ (Xv X0) ?_;rintro k⟨hk,hr⟩Ql an ar;by_cases aK:k<l.length
 ·have hx:=hg _ (ay (d:=0) aK);have hd:=cP l k 0 aK;generalize aS:l.getD k 0=x at *;rw[hd,dG]at hr;simp only[dS,dY]at hx;((repeat'(first|refine Vb (X2 @iS @aS) ?_|(refine Xi ?_ ?_<;>try intro ht)|exact Xx|fail))<;>try with_reducible intro K hK)
  refine ig hx (aN _) ?_;((try revert hK K);(repeat'(first|refine Vb @iS ?_|(refine Xi ?_ ?_<;>try intro ht)|fail)))
  ·rw[if_pos (by assumption)]at hr;rw[<- hr];exact eu rfl (aN _) rfl
  ·rw[if_neg (by simp_all)]at hr;exact an _ (k+1) ⟨GC,hr⟩ GC (Xv X0)
 ·((repeat'(first|refine Vb @iS ?_|(refine Xi ?_ ?_<;>try intro ht)|exact Xx|fail)))
  rw[cR GC,dG]at hr;rw[<- hr];exact eu rfl (aN _) rfl
def Y4(l:List Int)(g:FuncId)(bj:List AV)(aa:List Ob)(p:Int->Bool)(hl:l.length<9223372036854775808)(hg:∀ x∈l,ao Tryz.prog g ([aaC x]++bj) aa (.lit (.bool (p x))) aa):
  ao Tryz.prog 141 [.tree 1 (ints l),.fn g bj] aa (.lit (.bool (l.any p))) aa:=by
 rw[<- zG p l 0];refine ao.aD 9 aa.length [.tmp 4] Tryz.func141 ?_;((refine Vb @iS ?_)<;>try with_reducible intro K hK)
 refine ig (ahX l g bj aa p hl hg) (aN _) ?_;((try revert hK K);(refine Vb @iS ?_))
 exact eu rfl (aN _) rfl
def ahY(l:List bU):ao Tryz.prog 136 [.tree 6 (rowsOf cQ l)] [] (.lit (.bool (decide (24<l.length)))) []:=by
 refine ao.aD 6 0 [.tmp 2] Tryz.func136 ?_;repeat'(first|(refine Xr X0 ?_;intro K hK)|(refine hK _ ?_;clear hK K)|refine Xz ?_|(refine Xe ?_;first|refine aE rfl ?_|refine Xl ?_ ?_)|fail)
 (refine congrArg (λb=>AV.lit (Value.bool b)) ?_;rw[mI];simp only[gt_iff_lt,decide_eq_true_eq,beq_iff_eq,bne_iff_ne,bw,l9,ld,decide_eq_false_iff_not,jQ,reduceCtorEq,iff_true,iff_false,true_iff,false_iff,eq_self];omega)
def ahZ(m:aj)(hm:MB m):ao Tryz.prog 80 [.agg (aq m)] [] (.lit (.bool (ue m))) []:=by
 have h1:=hm.cls;have h2:=ahT m.cls 136 [] [] (λl=>decide (24<l.length)) h1 (λx _=>by simpa using ahY x);unfold ue;generalize m.cls.any (λl=>decide (24<l.length))=b at *;cases b;all_goals refine ao.aD 36 0 [.tmp 2] Tryz.func80 ?_
 all_goals repeat'(first|(refine Xq X0 ?_;intro K hK)|refine Xo X0 ?_|refine Xc (h2) ?_|(refine hK _ ?_;clear hK K)|(refine Xg X0 ?_ ?_<;>try intro hb)|refine Xz ?_|(refine Xe ?_;first|refine aE rfl ?_|refine Xl ?_ ?_)|fail)
 all_goals first|rfl|(simp;done)|(refine congrArg (λb=>AV.lit (Value.bool b)) ?_;rw[mI];simp only[or_true,true_or,or_false,false_or,decide_eq_true_eq,beq_iff_eq,bne_iff_ne,bw,l9,ld,decide_eq_false_iff_not,jQ,reduceCtorEq,iff_true,iff_false,true_iff,false_iff,eq_self];omega)
def ah0(m:aj)(o:bU)(ho:o.ch.length<9223372036854775808):ao Tryz.prog 83 [.agg (aq m),.agg (cQ o)] [] (.lit (.bool (eo m.rules none o.ch))) []:=by
 generalize ak:eo m.rules none o.ch=res;refine ao.aD 43 0 [.tmp 4] Tryz.func83 ?_;repeat'(first|(refine Xr X0 ?_;intro K hK)|(refine hK _ ?_;clear hK K)|refine Xz ?_|fail)
 refine aM (λk:Nat=>(⟨aw [(2,.ptr 0 0 0),(3,.ptr 1 0 0),(8,.tree 2 (rowsOf aL o.ch)),(9,aaC o.ch.length),(10,aaC k)],[.var (aq m),.var (cQ o)]⟩:St)) (λk=>k<=o.ch.length/\eo m.rules (mU o.ch k) (o.ch.drop k)=res) (λk=>o.ch.length-k) 0 ⟨aI _,ak⟩ (Xv X0) ?_;rintro k⟨hk,hr⟩Ql an ar;by_cases aK:k<o.ch.length
 ·have hd:=cP o.ch k default aK;generalize aR:o.ch.getD k default=c at *;rw[hd,Yx]at hr;have AP:=ME m c.1;have jb:((k:Int)-1).toNat=k-1:=GC;repeat'(first|(refine Xq (X2 @aR @jb) ?_;intro K hK)|refine Xo (X2 @aR @jb) ?_|refine Xc (AP) ?_|refine Xc (MC c.2) ?_|(refine hK _ ?_;clear hK K)|(refine Xg (X2 @aR @jb) ?_ ?_<;>try intro hb)|(refine Xi ?_ ?_<;>try intro ht)|refine Xz ?_|refine Xh ?_|(refine Xe ?_;first|refine aE rfl ?_|refine Xl ?_ ?_)|refine Xd ?_ ?_|exact Xx|fail)
  ·rw[<- hr];simp[*]
  ·rw[<- hr];simp[*]
  ·rw[<- hr,decide_eq_false (p:=k=0) GC,decide_eq_false (p:=_<c.1) GC];simp
  ·refine an _ (k+1) ⟨GC,?_⟩ GC (Xs false [0,1] X0);rw[wB,aR,<- hr,decide_eq_true (p:=_<c.1) ht];simp[*]
  ·refine an _ (k+1) ⟨GC,?_⟩ GC (Xs false [0,1] X0);rw[wB,aR,<- hr,decide_eq_true (p:=k=0) GC];simp[*]
 ·repeat'(first|(refine Xr X0 ?_;intro K hK)|(refine hK _ ?_;clear hK K)|(refine Xi ?_ ?_<;>try intro ht)|refine Xz ?_|refine Xh ?_|(refine Xe ?_;first|refine aE rfl ?_|refine Xl ?_ ?_)|refine Xd ?_ ?_|exact Xx|fail)
  rw[cR GC,eo]at hr;rw[<- hr]
def ah1(a b:Pr):ao Tryz.prog 85 [.agg (aP a),.agg (aP b)] [] (aaC (po a b)) []:=by
 refine ao.aD 22 0 [.tmp 4] Tryz.func85 ?_;repeat'(first|(refine Xr X0 ?_;intro K hK)|(refine hK _ ?_;clear hK K)|refine Xz ?_|fail)
 (try(refine Cf [4,9,14] rfl Px (by decide +kernel) ?_);intro K hK;simp(disch:=omega)only[Ac,↓Pc,simprocAttr])
 repeat'(first|refine Xo X0 ?_|refine Xc (Ys _ _) ?_|fail)
 refine nM [] (Yt [pX a.bz b.bz,pX a.fst b.fst,pX a.snd b.snd] GF) Px trivial ⟨aJ.cC rfl (rH _) rfl Px (sL _),trivial⟩ rfl GF ?_;repeat'(first|refine Xo X0 ?_|(refine hK _ ?_;clear hK K)|refine Xz ?_|(refine Xe ?_;first|refine aE rfl ?_|refine Xl ?_ ?_)|fail)
 ·rfl
def ah2(n:Int):ao Tryz.prog 142 [aaC n] [] (.lit (.bool (pY n))) []:=by
 refine ao.aD 10 0 [.tmp 2] Tryz.func142 ?_;repeat'(first|(refine Xq X0 ?_;intro K hK)|refine Xo X0 ?_|refine Xc (MC n) ?_|(refine hK _ ?_;clear hK K)|(refine Xg X0 ?_ ?_<;>try intro hb)|refine Xz ?_|(refine Xe ?_;first|refine aE rfl ?_|refine Xl ?_ ?_)|fail)
 all_goals(simp[pY, *]<;>omega)
def ah3(m:aj)(p:Pr)(hp:p.aB.length<9223372036854775808)(hm:∀ l∈m.cls,l.length<=24)(hl:m.cls.length<=24):ao Tryz.prog 84 [.agg (aq m),.agg (aP p)] [] (.lit (.bool (gH m p))) []:=by
 have hg:∀ i,(m.cls.getD i default).length<=24:=λi=>by
  rcases fK i m.cls.length with h|h
  ·exact hm _ (ay h)
  ·rw[List.getD_eq_getElem?_getD,List.getElem?_eq_none h];decide
 have h1:=hg p.fst.toNat;have h2:=hg p.snd.toNat;have hmul:(0:Int)<=(m.cls.getD p.fst.toNat default).length*(m.cls.getD p.snd.toNat default).length/\((m.cls.getD p.fst.toNat default).length:Int)*(m.cls.getD p.snd.toNat default).length<=24*24:=⟨Int.mul_nonneg GC GC,Int.mul_le_mul GC GC GC GC⟩;have hc:=Y4 p.aB 142 [] [] pY hp (λx _=>by simpa using ah2 x);unfold gH;generalize xR:((m.cls.getD p.fst.toNat default).length:Int)*(m.cls.getD p.snd.toNat default).length=mm at *;refine ao.aD 55 0 [.tmp 4] Tryz.func84 ?_;repeat'(first|(refine Xq @xR ?_;intro K hK)|refine Xo @xR ?_|refine Xc (ME m p.bz) ?_|refine Xc (hc) ?_|(refine hK _ ?_;clear hK K)|(refine Xg @xR ?_ ?_<;>try intro hb)|(refine Xi ?_ ?_<;>try intro ht)|refine Xz ?_|(refine Xe ?_;first|refine aE rfl ?_|refine Xl ?_ ?_)|refine Xd ?_ ?_|exact Xx|fail)
 ·rw[hb];rfl
 iterate 4
  ·rw[decide_eq_false GC];simp
 ·rw[decide_eq_true GC];simp[*]
def ah4(m:aj)(c:Ct)(hc:c.aH.length<9223372036854775808):ao Tryz.prog 88 [.agg (aq m),.agg (aV c)] [] (.lit (.bool (iQ m c))) []:=by
 have MW:=ME m c.bz;have ky:=MC c.bM;generalize ak:iQ m c=res;unfold iQ at ak;refine ao.aD 81 0 [.tmp 4] Tryz.func88 ?_;repeat'(first|(refine Xq X0 ?_;intro K hK)|refine Xo X0 ?_|refine Xc (MW) ?_|refine Xc (ky) ?_|(refine hK _ ?_;clear hK K)|(refine Xg X0 ?_ ?_<;>try intro hb)|(refine Xi ?_ ?_<;>try intro ht)|refine Xz ?_|(refine Xe ?_;first|refine aE rfl ?_|refine Xl ?_ ?_)|exact Xx|fail)
 ·rw[<- ak,hb];rfl
 ·rw[<- ak,decide_eq_false GC];simp
 ·rw[<- ak,decide_eq_false GC];simp
 ·rw[<- ak,ht];simp
 have ez:(jI m.rules c.bz&&decide (0<=c.most/\c.most<=1048576)&&jY c.bM)=true:=by rw[decide_eq_true GC];simp[*]
 rw[ez,eQ]at ak;refine aM (λk:Nat=>(⟨aw [(2,.ptr 0 0 0),(3,.ptr 1 0 0),(29,.tree 3 (rowsOf iM c.aH)),(30,aaC c.aH.length),(31,aaC k)],[.var (aq m),.var (aV c)]⟩:St)) (λk=>k<=c.aH.length/\eI m (mU c.aH k) (c.aH.drop k)=res) (λk=>c.aH.length-k) 0 ⟨aI _,ak⟩ (Xv X0) ?_;rintro k⟨hk,hr⟩Ql an ar;by_cases aK:k<c.aH.length
 ·have hd:=cP c.aH k default aK;generalize aR:c.aH.getD k default=x at *;rw[hd,Yz]at hr;have jb:((k:Int)-1).toNat=k-1:=GC;generalize b6:c.aH.getD (k-1) default=y at *;repeat'(first|(refine Xr (X2 @aR @jb) ?_;intro K hK)|refine Xo (X2 @aR @jb) ?_|refine Xc (Yu m x.cls x.opt) ?_|(refine hK _ ?_;clear hK K)|(refine Xg (X2 @aR @jb) ?_ ?_<;>try intro hb)|(refine Xi ?_ ?_<;>try intro ht)|refine Xz ?_|refine Xh ?_|(refine Xe ?_;first|refine aE rfl ?_|refine Xl ?_ ?_)|refine Xd ?_ ?_|exact Xx|fail)
  ·rw[<- hr,hb];simp
  ·rw[<- hr,decide_eq_false (p:=1<=x.wt/\x.wt<=1000) GC];simp
  ·rw[<- hr,decide_eq_false (p:=1<=x.wt/\x.wt<=1000) GC];simp
  have hw:decide (1<=x.wt/\x.wt<=1000)=true:=decide_eq_true GC;have bk:eW m x.cls x.opt=true:=by assumption
  rw[bk,hw,eQ,eQ]at hr;(try(refine Cf [12,22] rfl Px (by decide +kernel) ?_);intro K hK;simp(disch:=omega)only[Ac,↓Pc,simprocAttr,aR,jb,b6])
  repeat'(first|(refine Xq (X3 @aR @jb @b6) ?_;intro K hK)|refine Xo (X3 @aR @jb @b6) ?_|refine Xc (Ys _ _) ?_|(refine hK _ ?_;clear hK K)|(refine Xg (X3 @aR @jb @b6) ?_ ?_<;>try intro hb)|(refine Xi ?_ ?_<;>try intro ht)|refine Xz ?_|refine Xd ?_ ?_|exact Xx|fail)
  ·refine nM [] (Yt [pX y.cls x.cls,pX y.opt x.opt] GF) Px trivial ⟨aJ.cC rfl (rH _) rfl Px (sL _),trivial⟩ rfl GF ?_;repeat'(first|(refine Xr (X3 @aR @jb @b6) ?_;intro K hK)|refine Xo (X3 @aR @jb @b6) ?_|(refine hK _ ?_;clear hK K)|(refine Xi ?_ ?_<;>try intro ht)|refine Xz ?_|refine Xh ?_|(refine Xe ?_;first|refine aE rfl ?_|refine Xl ?_ ?_)|refine Xd ?_ ?_|exact Xx|fail)
   ·rw[<- hr,decide_eq_false (p:=k=0) GC,decide_eq_false (p:=vw y x<0) (by unfold vw;omega)];simp
   ·refine an _ (k+1) ⟨GC,?_⟩ GC (Xs false [0,1] X0);rw[wB,aR,<- hr,decide_eq_true (p:=vw y x<0) (by unfold vw;omega)];simp
  ·refine an _ (k+1) ⟨GC,?_⟩ GC (Xs false [0,1] X0);rw[wB,aR,<- hr,decide_eq_true (p:=k=0) GC];simp
 ·repeat'(first|(refine Xr X0 ?_;intro K hK)|(refine hK _ ?_;clear hK K)|(refine Xi ?_ ?_<;>try intro ht)|refine Xz ?_|refine Xh ?_|(refine Xe ?_;first|refine aE rfl ?_|refine Xl ?_ ?_)|refine Xd ?_ ?_|exact Xx|fail)
  rw[cR GC,eI]at hr;rw[<- hr]
def ah5(m:aj)(o:bU)(ho:o.ch.length<9223372036854775808):ao Tryz.prog 82 [.agg (cQ o),.ptr 0 0 0] [.var (aq m)] (.lit (.bool (!eo m.rules none o.ch))) [.var (aq m)]:=by
 refine ao.aD 8 1 [.tmp 3] Tryz.func82 ?_;refine Vd X0 (ah0 m o ho) ?_;exact Xw false [0] X0
def ah6(m:aj)(c:Ct)(hc:c.aH.length<9223372036854775808):ao Tryz.prog 87 [.agg (aV c),.ptr 0 0 0] [.var (aq m)] (.lit (.bool (!iQ m c))) [.var (aq m)]:=by
 refine ao.aD 8 1 [.tmp 3] Tryz.func87 ?_;refine Vd X0 (ah4 m c hc) ?_;exact Xw false [0] X0
def E6{α:Type}[Inhabited α]{l:List α}{f:α->Bool}{k:Nat}(hk:k<l.length):(l.drop k).any f=(f (l.getD k default)||(l.drop (k+1)).any f):=by
 rw[cP l k default hk,Ke]
def tV(m:aj)(hm:MB m):ao Tryz.prog 45 [.agg (aq m)] [] (aaC (df m)) []:=by
 generalize ak:df m=res;unfold df at ak;have rR:=hm.cls;have rS:=hm.ae;refine ao.aD 52 0 [.tmp 2] Tryz.func45 ?_;repeat'(first|(refine Xq X0 ?_;intro K hK)|refine Xc (ahZ m hm) ?_|(refine hK _ ?_;clear hK K)|(refine Xi ?_ ?_<;>try intro ht)|refine Xz ?_|(refine Xe ?_;first|refine aE rfl ?_|refine Xl ?_ ?_)|fail)
 ·rw[if_pos ht]at ak;rw[<- ak]
 rw[if_neg (by simp[ht])]at ak;have bx:m.cls.length<=24/\∀ l∈m.cls,l.length<=24:=by
  have h:=ht;unfold ue at h;rw[decide_eq_false_iff_not]at h;refine⟨GC,λl hl=>?_⟩;rcases fK 24 l.length with h1|h1
  ·exact absurd (.inr (.inl (List.any_eq_true.2 ⟨l,hl,by simpa using h1⟩))) h
  ·exact h1
 clear ht;refine aM (λk:Nat=>(⟨aw [(1,.ptr 0 0 0),(10,.tree 1 (rowsOf bu m.cls)),(11,aaC m.cls.length),(12,aaC k)],[.var (aq m)]⟩:St)) (λk=>k<=m.cls.length/\(m.cls.any λl=>l.any λo=>!eo m.rules none o.ch)=(m.cls.drop k).any λl=>l.any λo=>!eo m.rules none o.ch) (λk=>m.cls.length-k) 0 ⟨aI _,rfl⟩ (Xv X0) ?_;rintro k⟨hk,hr⟩Ql an ar;by_cases aK:k<m.cls.length
 ·have bO:=ay (d:=(default:List bU)) aK;rw[E6 aK]at hr;generalize aR:m.cls.getD k default=l at *;have kT:=ahV l 82 [.ptr 0 0 0] [.var (aq m)] (λo=>!eo m.rules none o.ch) (hm.opt l bO) (λo ho=>by simpa using ah5 m o (hm.ch l bO o ho));repeat'(first|(refine Xr @aR ?_;intro K hK)|(refine hK _ ?_;clear hK K)|(refine Xi ?_ ?_<;>try intro ht)|refine Xz ?_|refine Xh ?_|refine Xd ?_ ?_|exact Xx|fail)
  refine ig kT (aN _) ?_;repeat'(first|(refine Xr @aR ?_;intro K hK)|(refine hK _ ?_;clear hK K)|(refine Xi ?_ ?_<;>try intro ht)|refine Xz ?_|refine Xh ?_|(refine Xe ?_;first|refine aE rfl ?_|refine Xl ?_ ?_)|refine Xd ?_ ?_|exact Xx|fail)
  ·rw[ht,uB]at hr;rw[if_pos hr]at ak;rw[<- ak]
  ·rw[ht,Bool.false_or]at hr;exact an _ (k+1) ⟨GC,hr⟩ GC (Xv X0)
 rw[cR GC,List.any_nil]at hr;rw[if_neg (by rw[hr];simp)]at ak;((repeat'(first|refine Va X0 ?_|(refine Xi ?_ ?_<;>try intro ht)|exact Xx|fail)))
 refine ar _ _ rfl ?_;clear an ar Ql;clear hr aK hk;repeat(refine Xu ?_)
 repeat'(first|(refine Xr X0 ?_;intro K hK)|(refine hK _ ?_;clear hK K)|refine Xz ?_|fail)
 refine aM (λk:Nat=>(⟨aw [(1,.ptr 0 0 0),(21,.tree 4 (rowsOf aP m.ae)),(22,aaC m.ae.length),(23,aaC k)],[.var (aq m)]⟩:St)) (λk=>k<=m.ae.length/\fH m none m.ae=fH m (mU m.ae k) (m.ae.drop k)) (λk=>m.ae.length-k) 0 ⟨aI _,rfl⟩ (Xv X0) ?_;rintro k⟨hk,hr⟩Ql an ar;by_cases aK:k<m.ae.length
 ·have bO:=ay (d:=(default:Pr)) aK;have hd:=cP m.ae k default aK;have jb:((k:Int)-1).toNat=k-1:=GC;generalize aR:m.ae.getD k default=p at *;rw[hd,Yy]at hr;generalize b6:m.ae.getD (k-1) default=q at *;repeat'(first|(refine Xq (X3 @aR @jb @b6) ?_;intro K hK)|refine Xo (X3 @aR @jb @b6) ?_|refine Xc (ah3 m p (hm.aB p bO) bx.2 bx.1) ?_|refine Xc (ah1 q p) ?_|(refine hK _ ?_;clear hK K)|(refine Xg (X3 @aR @jb @b6) ?_ ?_<;>try intro hb)|(refine Xi ?_ ?_<;>try intro ht)|refine Xz ?_|refine Xh ?_|(refine Xe ?_;first|refine aE rfl ?_|refine Xl ?_ ?_)|refine Xd ?_ ?_|exact Xx|fail)
  ·have E7:gH m p=false:=by assumption
   rw[E7,jR,jR]at hr;rw[if_pos hr]at ak;rw[<- ak]
  ·rw[decide_eq_false (p:=k=0) GC,decide_eq_false (p:=po q p<0) GC,Bool.or_false,Bool.and_false,jR]at hr;rw[if_pos hr]at ak;rw[<- ak]
  ·have E7:gH m p=true:=by assumption
   rw[E7,decide_eq_true (p:=po q p<0) GC,xl,eQ,eQ]at hr;refine an _ (k+1) ⟨GC,?_⟩ GC (Xs false [0] X0);rw[wB,aR];exact hr
  ·have E7:gH m p=true:=by assumption
   rw[E7,decide_eq_true (p:=k=0) GC,uB,eQ,eQ]at hr;refine an _ (k+1) ⟨GC,?_⟩ GC (Xs false [0] X0);rw[wB,aR];exact hr
 rw[cR GC,fH]at hr;rw[if_neg (by rw[hr];simp)]at ak;((repeat'(first|refine Va X0 ?_|(refine Xi ?_ ?_<;>try intro ht)|exact Xx|fail)))
 refine ar _ _ rfl ?_;clear an ar Ql;clear hr aK hk;repeat(refine Xu ?_)
 have kT:=ahW m.av 87 [.ptr 0 0 0] [.var (aq m)] (λc=>!iQ m c) hm.av (λc hc=>by simpa using ah6 m c (hm.mW c hc));repeat'(first|(refine Xr X0 ?_;intro K hK)|refine Xz ?_|fail)
 refine ig kT (aN _) ?_;repeat'(first|(refine Xr X0 ?_;intro K hK)|(refine hK _ ?_;clear hK K)|(refine Xi ?_ ?_<;>try intro ht)|refine Xz ?_|(refine Xe ?_;first|refine aE rfl ?_|refine Xl ?_ ?_)|fail)
 ·rw[if_pos ht]at ak;rw[<- ak]
 ·rw[if_neg (by rw[ht];simp)]at ak;rw[<- ak]
def Y5(m:aj)(plan:List Int)(hp:plan.length<9223372036854775808):ao Tryz.prog 121 [.agg (aq m),.tree 1 (ints plan)] [] (.lit (.bool (qU m plan))) []:=by
 generalize ak:qU m plan=res;unfold qU at ak;refine ao.aD 30 0 [.tmp 4] Tryz.func121 ?_;repeat'(first|(refine Xr X0 ?_;intro K hK)|(refine hK _ ?_;clear hK K)|(refine Xi ?_ ?_<;>try intro ht)|refine Xz ?_|(refine Xe ?_;first|refine aE rfl ?_|refine Xl ?_ ?_)|fail)
 ·rw[if_pos GC]at ak;rw[<- ak]
 rw[if_neg GC]at ak;refine aM (λk:Nat=>(⟨aw [(2,.ptr 0 0 0),(13,.tree 1 (ints plan)),(14,aaC plan.length),(15,aaC k)],[.var (aq m)]⟩:St)) (λk=>k<=plan.length/\qT m k (plan.drop k)=res) (λk=>plan.length-k) 0 ⟨aI _,ak⟩ (Xv X0) ?_;rintro k⟨hk,hr⟩Ql an ar;by_cases aK:k<plan.length
 ·have hd:=cP plan k 0 aK;generalize aR:plan.getD k 0=o at *;rw[hd,qT]at hr;repeat'(first|(refine Xq @aR ?_;intro K hK)|refine Xo @aR ?_|refine Xc (Yu m k o) ?_|(refine hK _ ?_;clear hK K)|(refine Xg @aR ?_ ?_<;>try intro hb)|(refine Xi ?_ ?_<;>try intro ht)|refine Xz ?_|refine Xh ?_|(refine Xe ?_;first|refine aE rfl ?_|refine Xl ?_ ?_)|refine Xd ?_ ?_|exact Xx|fail)
  ·rw[decide_eq_false (p:=o = -1) GC,ht]at hr;rw[<- hr];rfl
  ·rw[decide_eq_false (p:=o = -1) GC,ht,xl,eQ]at hr;exact an _ (k+1) ⟨GC,hr⟩ GC (Xv X0)
  ·rw[decide_eq_true (p:=o = -1) GC,uB,eQ]at hr;exact an _ (k+1) ⟨GC,hr⟩ GC (Xv X0)
 ·repeat'(first|(refine Xr X0 ?_;intro K hK)|(refine hK _ ?_;clear hK K)|(refine Xg X0 ?_ ?_<;>try intro hb)|(refine Xi ?_ ?_<;>try intro ht)|refine Xz ?_|refine Xh ?_|(refine Xe ?_;first|refine aE rfl ?_|refine Xl ?_ ?_)|refine Xd ?_ ?_|exact Xx|fail)
  rw[cR GC,qT]at hr;rw[<- hr]
end T

