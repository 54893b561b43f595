import Derived.Test.YtdipcmigdbnheaaGreatX10
set_option linter.all false
set_option maxHeartbeats 0
set_option maxRecDepth 20000
open Nat renaming zero_le→aQ,le_refl→aG,add_zero→jb,lt_or_ge→eh
open List renaming cons_append→cW,nil_append→da,drop_eq_nil_of_le→cU
open Bool renaming eq_iff_iff→my,and_eq_true→ba,or_eq_true→ke,not_eq_true'→jW,false_eq_true→jy,true_and→iq,true_or→rQ,false_and→lY,or_true→xo
open Go Go.Am Go.Proofs
namespace T
def dV{α:Type}(p:α->Bool):Nat->List α->Int
 |_,[]=>-1
 |k,x::r=>if p x=true then(k:Int) else dV p (k+1) r
def AA{α:Type}(p:α->Bool):∀ (l:List α) (k:Nat),decide (0<=dV p k l)=l.any p
 |[],k=>rfl
 |x::r,k=>by
  rw[dV,List.any_cons];split
  ·rename_i h;rw[h];simp
  ·rename_i h;rw[AA p r (k+1)];simp_all
def aag(l:List (List br))(g:FuncId)(aT:List AV)(aa:List Ob)(p:(List br)->Bool)(hl:l.length<9223372036854775808)(hg:∀ x∈l,an Tryz.prog g ([.tree 6 (rowsOf cw x)]++aT) aa (.lit (.bool (p x))) aa):
  an Tryz.prog 181 [.tree 1 (rowsOf bD l),.fn g aT] aa (aa3 (dV p 0 l)) aa:=by
 generalize ao:dV p 0 l=res;refine an.aF 19 aa.length [.tmp 4] Tryz.func181 ?_;refine Vb (X3 @bW @hU @bD.eq_1) ?_;refine aW (λk:Nat=>(⟨ax [(0,.tree 1 (rowsOf bD l)),(1,.fn g aT),(7,aa3 l.length),(8,aa3 k)],aa⟩:St)) (λk=>k<=l.length/\dV p k (l.drop k)=res) (λk=>l.length-k) 0 ⟨aQ _,ao⟩ (Xv X0) ?_;rintro k⟨hk,hr⟩Ql aq au;by_cases aJ:k<l.length
 ·have hx:=hg _ (aC (d:=default) aJ);have hd:=cS l k default aJ;generalize bG:l.getD k default=x at *;rw[hd,dV]at hr;simp only[cW,da,bD]at hx;((repeat'(first|refine Vb (X4 @bW @hU @bD.eq_1 @bG) ?_|(refine Xi ?_ ?_<;>try intro ht)|exact Xx|fail))<;>try with_reducible intro K hK)
  refine lh hx (aG _) ?_;((try revert hK K);(repeat'(first|refine Vb (X3 @bW @hU @bD.eq_1) ?_|(refine Xi ?_ ?_<;>try intro ht)|fail)))
  ·rw[if_pos (by assumption)]at hr;rw[<- hr];exact fB rfl (aG _) rfl
  ·rw[if_neg (by simp_all)]at hr;exact aq _ (k+1) ⟨I6,hr⟩ I6 (Xv X0)
 ·((repeat'(first|refine Vb (X3 @bW @hU @bD.eq_1) ?_|(refine Xi ?_ ?_<;>try intro ht)|exact Xx|fail)))
  rw[cU I6,dV]at hr;rw[<- hr];exact fB rfl (aG _) rfl
def aah(l:List (List br))(g:FuncId)(aT:List AV)(aa:List Ob)(p:(List br)->Bool)(hl:l.length<9223372036854775808)(hg:∀ x∈l,an Tryz.prog g ([.tree 6 (rowsOf cw x)]++aT) aa (.lit (.bool (p x))) aa):
  an Tryz.prog 137 [.tree 1 (rowsOf bD l),.fn g aT] aa (.lit (.bool (l.any p))) aa:=by
 rw[<- AA p l 0];refine an.aF 9 aa.length [.tmp 4] Tryz.func137 ?_;((refine Vb (X3 @bW @hU @bD.eq_1) ?_)<;>try with_reducible intro K hK)
 refine lh (aag l g aT aa p hl hg) (aG _) ?_;((try revert hK K);(refine Vb (X3 @bW @hU @bD.eq_1) ?_))
 exact fB rfl (aG _) rfl
def aai(l:List br)(g:FuncId)(aT:List AV)(aa:List Ob)(p:br->Bool)(hl:l.length<9223372036854775808)(hg:∀ x∈l,an Tryz.prog g ([.agg (cw x)]++aT) aa (.lit (.bool (p x))) aa):
  an Tryz.prog 138 [.tree 6 (rowsOf cw l),.fn g aT] aa (aa3 (dV p 0 l)) aa:=by
 generalize ao:dV p 0 l=res;refine an.aF 19 aa.length [.tmp 4] Tryz.func138 ?_;refine Vb (X3 @bW @hU @cw.eq_1) ?_;refine aW (λk:Nat=>(⟨ax [(0,.tree 6 (rowsOf cw l)),(1,.fn g aT),(7,aa3 l.length),(8,aa3 k)],aa⟩:St)) (λk=>k<=l.length/\dV p k (l.drop k)=res) (λk=>l.length-k) 0 ⟨aQ _,ao⟩ (Xv X0) ?_;rintro k⟨hk,hr⟩Ql aq au;by_cases aJ:k<l.length
 ·have hx:=hg _ (aC (d:=default) aJ);have hd:=cS l k default aJ;generalize bG:l.getD k default=x at *;rw[hd,dV]at hr;simp only[cW,da,cw]at hx;((repeat'(first|refine Vb (X4 @bW @hU @cw.eq_1 @bG) ?_|(refine Xi ?_ ?_<;>try intro ht)|exact Xx|fail))<;>try with_reducible intro K hK)
  refine lh hx (aG _) ?_;((try revert hK K);(repeat'(first|refine Vb (X3 @bW @hU @cw.eq_1) ?_|(refine Xi ?_ ?_<;>try intro ht)|fail)))
  ·rw[if_pos (by assumption)]at hr;rw[<- hr];exact fB rfl (aG _) rfl
  ·rw[if_neg (by simp_all)]at hr;exact aq _ (k+1) ⟨I6,hr⟩ I6 (Xv X0)
 ·((repeat'(first|refine Vb (X3 @bW @hU @cw.eq_1) ?_|(refine Xi ?_ ?_<;>try intro ht)|exact Xx|fail)))
  rw[cU I6,dV]at hr;rw[<- hr];exact fB rfl (aG _) rfl
def aaj(l:List br)(g:FuncId)(aT:List AV)(aa:List Ob)(p:br->Bool)(hl:l.length<9223372036854775808)(hg:∀ x∈l,an Tryz.prog g ([.agg (cw x)]++aT) aa (.lit (.bool (p x))) aa):
  an Tryz.prog 81 [.tree 6 (rowsOf cw l),.fn g aT] aa (.lit (.bool (l.any p))) aa:=by
 rw[<- AA p l 0];refine an.aF 9 aa.length [.tmp 4] Tryz.func81 ?_;((refine Vb (X3 @bW @hU @cw.eq_1) ?_)<;>try with_reducible intro K hK)
 refine lh (aai l g aT aa p hl hg) (aG _) ?_;((try revert hK K);(refine Vb (X3 @bW @hU @cw.eq_1) ?_))
 exact fB rfl (aG _) rfl
def Rf(l:List Ct)(g:FuncId)(aT:List AV)(aa:List Ob)(p:Ct->Bool)(hl:l.length<9223372036854775808)(hg:∀ x∈l,an Tryz.prog g ([.agg (aK x)]++aT) aa (.lit (.bool (p x))) aa):
  an Tryz.prog 93 [.tree 4 (rowsOf aK l),.fn g aT] aa (aa3 (dV p 0 l)) aa:=by
 generalize ao:dV p 0 l=res;refine an.aF 19 aa.length [.tmp 4] Tryz.func93 ?_;refine Vb (X3 @bW @hU @aK.eq_1) ?_;refine aW (λk:Nat=>(⟨ax [(0,.tree 4 (rowsOf aK l)),(1,.fn g aT),(7,aa3 l.length),(8,aa3 k)],aa⟩:St)) (λk=>k<=l.length/\dV p k (l.drop k)=res) (λk=>l.length-k) 0 ⟨aQ _,ao⟩ (Xv X0) ?_;rintro k⟨hk,hr⟩Ql aq au;by_cases aJ:k<l.length
 ·have hx:=hg _ (aC (d:=default) aJ);have hd:=cS l k default aJ;generalize bG:l.getD k default=x at *;rw[hd,dV]at hr;simp only[cW,da,aK]at hx;((repeat'(first|refine Vb (X4 @bW @hU @aK.eq_1 @bG) ?_|(refine Xi ?_ ?_<;>try intro ht)|exact Xx|fail))<;>try with_reducible intro K hK)
  refine lh hx (aG _) ?_;((try revert hK K);(repeat'(first|refine Vb (X3 @bW @hU @aK.eq_1) ?_|(refine Xi ?_ ?_<;>try intro ht)|fail)))
  ·rw[if_pos (by assumption)]at hr;rw[<- hr];exact fB rfl (aG _) rfl
  ·rw[if_neg (by simp_all)]at hr;exact aq _ (k+1) ⟨I6,hr⟩ I6 (Xv X0)
 ·((repeat'(first|refine Vb (X3 @bW @hU @aK.eq_1) ?_|(refine Xi ?_ ?_<;>try intro ht)|exact Xx|fail)))
  rw[cU I6,dV]at hr;rw[<- hr];exact fB rfl (aG _) rfl
def aak(l:List Ct)(g:FuncId)(aT:List AV)(aa:List Ob)(p:Ct->Bool)(hl:l.length<9223372036854775808)(hg:∀ x∈l,an Tryz.prog g ([.agg (aK x)]++aT) aa (.lit (.bool (p x))) aa):
  an Tryz.prog 86 [.tree 4 (rowsOf aK l),.fn g aT] aa (.lit (.bool (l.any p))) aa:=by
 rw[<- AA p l 0];refine an.aF 9 aa.length [.tmp 4] Tryz.func86 ?_;((refine Vb (X3 @bW @hU @aK.eq_1) ?_)<;>try with_reducible intro K hK)
 refine lh (Rf l g aT aa p hl hg) (aG _) ?_;((try revert hK K);(refine Vb (X3 @bW @hU @aK.eq_1) ?_))
 exact fB rfl (aG _) rfl
def aal(l:List Int)(g:FuncId)(aT:List AV)(aa:List Ob)(p:Int->Bool)(hl:l.length<9223372036854775808)(hg:∀ x∈l,an Tryz.prog g ([aa3 x]++aT) aa (.lit (.bool (p x))) aa):
  an Tryz.prog 182 [.tree 1 (ints l),.fn g aT] aa (aa3 (dV p 0 l)) aa:=by
 generalize ao:dV p 0 l=res;refine an.aF 19 aa.length [.tmp 4] Tryz.func182 ?_;refine Vb @jb ?_;refine aW (λk:Nat=>(⟨ax [(0,.tree 1 (ints l)),(1,.fn g aT),(7,aa3 l.length),(8,aa3 k)],aa⟩:St)) (λk=>k<=l.length/\dV p k (l.drop k)=res) (λk=>l.length-k) 0 ⟨aQ _,ao⟩ (Xv X0) ?_;rintro k⟨hk,hr⟩Ql aq au;by_cases aJ:k<l.length
 ·have hx:=hg _ (aC (d:=0) aJ);have hd:=cS l k 0 aJ;generalize bG:l.getD k 0=x at *;rw[hd,dV]at hr;simp only[cW,da]at hx;((repeat'(first|refine Vb (X2 @jb @bG) ?_|(refine Xi ?_ ?_<;>try intro ht)|exact Xx|fail))<;>try with_reducible intro K hK)
  refine lh hx (aG _) ?_;((try revert hK K);(repeat'(first|refine Vb @jb ?_|(refine Xi ?_ ?_<;>try intro ht)|fail)))
  ·rw[if_pos (by assumption)]at hr;rw[<- hr];exact fB rfl (aG _) rfl
  ·rw[if_neg (by simp_all)]at hr;exact aq _ (k+1) ⟨I6,hr⟩ I6 (Xv X0)
 ·((repeat'(first|refine Vb @jb ?_|(refine Xi ?_ ?_<;>try intro ht)|exact Xx|fail)))
  rw[cU I6,dV]at hr;rw[<- hr];exact fB rfl (aG _) rfl
def Rg(l:List Int)(g:FuncId)(aT:List AV)(aa:List Ob)(p:Int->Bool)(hl:l.length<9223372036854775808)(hg:∀ x∈l,an Tryz.prog g ([aa3 x]++aT) aa (.lit (.bool (p x))) aa):
  an Tryz.prog 141 [.tree 1 (ints l),.fn g aT] aa (.lit (.bool (l.any p))) aa:=by
 rw[<- AA p l 0];refine an.aF 9 aa.length [.tmp 4] Tryz.func141 ?_;((refine Vb @jb ?_)<;>try with_reducible intro K hK)
 refine lh (aal l g aT aa p hl hg) (aG _) ?_;((try revert hK K);(refine Vb @jb ?_))
 exact fB rfl (aG _) rfl
def aam(l:List br):an Tryz.prog 136 [.tree 6 (rowsOf cw l)] [] (.lit (.bool (decide (24<l.length)))) []:=by
 refine an.aF 6 0 [.tmp 2] Tryz.func136 ?_;repeat'(first|(refine Xr X0 ?_;intro K hK)|(refine hK _ ?_;clear hK K)|refine Xz ?_|(refine Xe ?_;first|refine aO rfl ?_|refine Xl ?_ ?_)|fail)
 (refine congrArg (λb=>AV.lit (Value.bool b)) ?_;rw[my];simp only[gt_iff_lt,decide_eq_true_eq,beq_iff_eq,bne_iff_ne,ba,ke,jW,decide_eq_false_iff_not,jy,reduceCtorEq,iff_true,iff_false,true_iff,false_iff,eq_self];omega)
def aan(m:aj)(hm:MB m):an Tryz.prog 80 [.agg (av m)] [] (.lit (.bool (qa m))) []:=by
 have h1:=hm.cls;have h2:=aah m.cls 136 [] [] (λl=>decide (24<l.length)) h1 (λx _=>by simpa using aam x);unfold qa;generalize m.cls.any (λl=>decide (24<l.length))=b at *;cases b;all_goals refine an.aF 36 0 [.tmp 2] Tryz.func80 ?_
 all_goals repeat'(first|(refine Xq X0 ?_;intro K hK)|refine Xo X0 ?_|refine Xc (h2) ?_|(refine hK _ ?_;clear hK K)|(refine Xg X0 ?_ ?_<;>try intro hb)|refine Xz ?_|(refine Xe ?_;first|refine aO rfl ?_|refine Xl ?_ ?_)|fail)
 all_goals first|rfl|(simp;done)|(refine congrArg (λb=>AV.lit (Value.bool b)) ?_;rw[my];simp only[or_true,true_or,or_false,false_or,decide_eq_true_eq,beq_iff_eq,bne_iff_ne,ba,ke,jW,decide_eq_false_iff_not,jy,reduceCtorEq,iff_true,iff_false,true_iff,false_iff,eq_self];omega)
def aao(m:aj)(o:br)(ho:o.ch.length<9223372036854775808):an Tryz.prog 83 [.agg (av m),.agg (cw o)] [] (.lit (.bool (db m.rules none o.ch))) []:=by
 generalize ao:db m.rules none o.ch=res;refine an.aF 43 0 [.tmp 4] Tryz.func83 ?_;repeat'(first|(refine Xr X0 ?_;intro K hK)|(refine hK _ ?_;clear hK K)|refine Xz ?_|fail)
 refine aW (λk:Nat=>(⟨ax [(2,.ptr 0 0 0),(3,.ptr 1 0 0),(8,.tree 2 (rowsOf bz o.ch)),(9,aa3 o.ch.length),(10,aa3 k)],[.var (av m),.var (cw o)]⟩:St)) (λk=>k<=o.ch.length/\db m.rules (kr o.ch k) (o.ch.drop k)=res) (λk=>o.ch.length-k) 0 ⟨aQ _,ao⟩ (Xv X0) ?_;rintro k⟨hk,hr⟩Ql aq au;by_cases aJ:k<o.ch.length
 ·have hd:=cS o.ch k default aJ;generalize bb:o.ch.getD k default=c at *;rw[hd,QJ]at hr;have Dp:=GK m c.1;have fZ:((k:Int)-1).toNat=k-1:=I6;repeat'(first|(refine Xq (X2 @bb @fZ) ?_;intro K hK)|refine Xo (X2 @bb @fZ) ?_|refine Xc (Dp) ?_|refine Xc (GH c.2) ?_|(refine hK _ ?_;clear hK K)|(refine Xg (X2 @bb @fZ) ?_ ?_<;>try intro hb)|(refine Xi ?_ ?_<;>try intro ht)|refine Xz ?_|refine Xh ?_|(refine Xe ?_;first|refine aO rfl ?_|refine Xl ?_ ?_)|refine Xd ?_ ?_|exact Xx|fail)
  ·rw[<- hr];simp[*]
  ·rw[<- hr];simp[*]
  ·rw[<- hr,decide_eq_false (p:=k=0) I6,decide_eq_false (p:=_<c.1) I6];simp
  ·refine aq _ (k+1) ⟨I6,?_⟩ I6 (Xs false [0,1] X0);rw[sA,bb,<- hr,decide_eq_true (p:=_<c.1) ht];simp[*]
  ·refine aq _ (k+1) ⟨I6,?_⟩ I6 (Xs false [0,1] X0);rw[sA,bb,<- hr,decide_eq_true (p:=k=0) I6];simp[*]
 ·repeat'(first|(refine Xr X0 ?_;intro K hK)|(refine hK _ ?_;clear hK K)|(refine Xi ?_ ?_<;>try intro ht)|refine Xz ?_|refine Xh ?_|(refine Xe ?_;first|refine aO rfl ?_|refine Xl ?_ ?_)|refine Xd ?_ ?_|exact Xx|fail)
  rw[cU I6,db]at hr;rw[<- hr]
def aap(a b:Pr):an Tryz.prog 85 [.agg (bu a),.agg (bu b)] [] (aa3 (mh a b)) []:=by
 refine an.aF 22 0 [.tmp 4] Tryz.func85 ?_;repeat'(first|(refine Xr X0 ?_;intro K hK)|(refine hK _ ?_;clear hK K)|refine Xz ?_|fail)
 (try(refine x9 [4,9,14] rfl aab (by decide +kernel) ?_);intro K hK;simp(disch:=omega)only[Ac,↓Pc,simprocAttr])
 repeat'(first|refine Xo X0 ?_|refine Xc (QF _ _) ?_|fail)
 refine n6 [] (QG [mQ a.aV b.aV,mQ a.fst b.fst,mQ a.snd b.snd] Jd) aab trivial ⟨aE.bS rfl (pO _) rfl aab (qD _),trivial⟩ rfl Jd ?_;repeat'(first|refine Xo X0 ?_|(refine hK _ ?_;clear hK K)|refine Xz ?_|(refine Xe ?_;first|refine aO rfl ?_|refine Xl ?_ ?_)|fail)
 ·rfl
def aaq(n:Int):an Tryz.prog 142 [aa3 n] [] (.lit (.bool (mR n))) []:=by
 refine an.aF 10 0 [.tmp 2] Tryz.func142 ?_;repeat'(first|(refine Xq X0 ?_;intro K hK)|refine Xo X0 ?_|refine Xc (GH n) ?_|(refine hK _ ?_;clear hK K)|(refine Xg X0 ?_ ?_<;>try intro hb)|refine Xz ?_|(refine Xe ?_;first|refine aO rfl ?_|refine Xl ?_ ?_)|fail)
 all_goals(simp[mR, *]<;>omega)
def aar(m:aj)(p:Pr)(hp:p.ay.length<9223372036854775808)(hm:∀ l∈m.cls,l.length<=24)(hl:m.cls.length<=24):an Tryz.prog 84 [.agg (av m),.agg (bu p)] [] (.lit (.bool (eS m p))) []:=by
 have hg:∀ i,(m.cls.getD i default).length<=24:=λi=>by
  rcases eh i m.cls.length with h|h
  ·exact hm _ (aC h)
  ·rw[List.getD_eq_getElem?_getD,List.getElem?_eq_none h];decide
 have h1:=hg p.fst.toNat;have h2:=hg p.snd.toNat;have hmul:(0:Int)<=(m.cls.getD p.fst.toNat default).length*(m.cls.getD p.snd.toNat default).length/\((m.cls.getD p.fst.toNat default).length:Int)*(m.cls.getD p.snd.toNat default).length<=24*24:=⟨Int.mul_nonneg I6 I6,Int.mul_le_mul I6 I6 I6 I6⟩;have hc:=Rg p.ay 142 [] [] mR hp (λx _=>by simpa using aaq x);unfold eS;generalize tM:((m.cls.getD p.fst.toNat default).length:Int)*(m.cls.getD p.snd.toNat default).length=mm at *;refine an.aF 55 0 [.tmp 4] Tryz.func84 ?_;repeat'(first|(refine Xq @tM ?_;intro K hK)|refine Xo @tM ?_|refine Xc (GK m p.aV) ?_|refine Xc (hc) ?_|(refine hK _ ?_;clear hK K)|(refine Xg @tM ?_ ?_<;>try intro hb)|(refine Xi ?_ ?_<;>try intro ht)|refine Xz ?_|(refine Xe ?_;first|refine aO rfl ?_|refine Xl ?_ ?_)|refine Xd ?_ ?_|exact Xx|fail)
 ·rw[hb];rfl
 iterate 4
  ·rw[decide_eq_false I6];simp
 ·rw[decide_eq_true I6];simp[*]
def aas(m:aj)(c:Ct)(hc:c.aS.length<9223372036854775808):an Tryz.prog 88 [.agg (av m),.agg (aK c)] [] (.lit (.bool (fN m c))) []:=by
 have GZ:=GK m c.aV;have mL:=GH c.bM;generalize ao:fN m c=res;unfold fN at ao;refine an.aF 81 0 [.tmp 4] Tryz.func88 ?_;repeat'(first|(refine Xq X0 ?_;intro K hK)|refine Xo X0 ?_|refine Xc (GZ) ?_|refine Xc (mL) ?_|(refine hK _ ?_;clear hK K)|(refine Xg X0 ?_ ?_<;>try intro hb)|(refine Xi ?_ ?_<;>try intro ht)|refine Xz ?_|(refine Xe ?_;first|refine aO rfl ?_|refine Xl ?_ ?_)|exact Xx|fail)
 ·rw[<- ao,hb];rfl
 ·rw[<- ao,decide_eq_false I6];simp
 ·rw[<- ao,decide_eq_false I6];simp
 ·rw[<- ao,ht];simp
 have dL:(ij m.rules c.aV&&decide (0<=c.most/\c.most<=1048576)&&iF c.bM)=true:=by rw[decide_eq_true I6];simp[*]
 rw[dL,iq]at ao;refine aW (λk:Nat=>(⟨ax [(2,.ptr 0 0 0),(3,.ptr 1 0 0),(29,.tree 3 (rowsOf gL c.aS)),(30,aa3 c.aS.length),(31,aa3 k)],[.var (av m),.var (aK c)]⟩:St)) (λk=>k<=c.aS.length/\dm m (kr c.aS k) (c.aS.drop k)=res) (λk=>c.aS.length-k) 0 ⟨aQ _,ao⟩ (Xv X0) ?_;rintro k⟨hk,hr⟩Ql aq au;by_cases aJ:k<c.aS.length
 ·have hd:=cS c.aS k default aJ;generalize bb:c.aS.getD k default=x at *;rw[hd,QL]at hr;have fZ:((k:Int)-1).toNat=k-1:=I6;generalize cG:c.aS.getD (k-1) default=y at *;repeat'(first|(refine Xr (X2 @bb @fZ) ?_;intro K hK)|refine Xo (X2 @bb @fZ) ?_|refine Xc (QH m x.cls x.opt) ?_|(refine hK _ ?_;clear hK K)|(refine Xg (X2 @bb @fZ) ?_ ?_<;>try intro hb)|(refine Xi ?_ ?_<;>try intro ht)|refine Xz ?_|refine Xh ?_|(refine Xe ?_;first|refine aO rfl ?_|refine Xl ?_ ?_)|refine Xd ?_ ?_|exact Xx|fail)
  ·rw[<- hr,hb];simp
  ·rw[<- hr,decide_eq_false (p:=1<=x.wt/\x.wt<=1000) I6];simp
  ·rw[<- hr,decide_eq_false (p:=1<=x.wt/\x.wt<=1000) I6];simp
  have hw:decide (1<=x.wt/\x.wt<=1000)=true:=decide_eq_true I6;have aP:gW m x.cls x.opt=true:=by assumption
  rw[aP,hw,iq,iq]at hr;(try(refine x9 [12,22] rfl aab (by decide +kernel) ?_);intro K hK;simp(disch:=omega)only[Ac,↓Pc,simprocAttr,bb,fZ,cG])
  repeat'(first|(refine Xq (X3 @bb @fZ @cG) ?_;intro K hK)|refine Xo (X3 @bb @fZ @cG) ?_|refine Xc (QF _ _) ?_|(refine hK _ ?_;clear hK K)|(refine Xg (X3 @bb @fZ @cG) ?_ ?_<;>try intro hb)|(refine Xi ?_ ?_<;>try intro ht)|refine Xz ?_|refine Xd ?_ ?_|exact Xx|fail)
  ·refine n6 [] (QG [mQ y.cls x.cls,mQ y.opt x.opt] Jd) aab trivial ⟨aE.bS rfl (pO _) rfl aab (qD _),trivial⟩ rfl Jd ?_;repeat'(first|(refine Xr (X3 @bb @fZ @cG) ?_;intro K hK)|refine Xo (X3 @bb @fZ @cG) ?_|(refine hK _ ?_;clear hK K)|(refine Xi ?_ ?_<;>try intro ht)|refine Xz ?_|refine Xh ?_|(refine Xe ?_;first|refine aO rfl ?_|refine Xl ?_ ?_)|refine Xd ?_ ?_|exact Xx|fail)
   ·rw[<- hr,decide_eq_false (p:=k=0) I6,decide_eq_false (p:=rf y x<0) (by unfold rf;omega)];simp
   ·refine aq _ (k+1) ⟨I6,?_⟩ I6 (Xs false [0,1] X0);rw[sA,bb,<- hr,decide_eq_true (p:=rf y x<0) (by unfold rf;omega)];simp
  ·refine aq _ (k+1) ⟨I6,?_⟩ I6 (Xs false [0,1] X0);rw[sA,bb,<- hr,decide_eq_true (p:=k=0) I6];simp
 ·repeat'(first|(refine Xr X0 ?_;intro K hK)|(refine hK _ ?_;clear hK K)|(refine Xi ?_ ?_<;>try intro ht)|refine Xz ?_|refine Xh ?_|(refine Xe ?_;first|refine aO rfl ?_|refine Xl ?_ ?_)|refine Xd ?_ ?_|exact Xx|fail)
  rw[cU I6,dm]at hr;rw[<- hr]
def aat(m:aj)(o:br)(ho:o.ch.length<9223372036854775808):an Tryz.prog 82 [.agg (cw o),.ptr 0 0 0] [.var (av m)] (.lit (.bool (!db m.rules none o.ch))) [.var (av m)]:=by
 refine an.aF 8 1 [.tmp 3] Tryz.func82 ?_;refine Vd X0 (aao m o ho) ?_;exact Xw false [0] X0
def aau(m:aj)(c:Ct)(hc:c.aS.length<9223372036854775808):an Tryz.prog 87 [.agg (aK c),.ptr 0 0 0] [.var (av m)] (.lit (.bool (!fN m c))) [.var (av m)]:=by
 refine an.aF 8 1 [.tmp 3] Tryz.func87 ?_;refine Vd X0 (aas m c hc) ?_;exact Xw false [0] X0
def Az{α:Type}[Inhabited α]{l:List α}{f:α->Bool}{k:Nat}(hk:k<l.length):(l.drop k).any f=(f (l.getD k default)||(l.drop (k+1)).any f):=by
 rw[cS l k default hk,List.any_cons]
def p5(m:aj)(hm:MB m):an Tryz.prog 45 [.agg (av m)] [] (aa3 (eJ m)) []:=by
 generalize ao:eJ m=res;unfold eJ at ao;have vc:=hm.cls;have vd:=hm.ae;refine an.aF 52 0 [.tmp 2] Tryz.func45 ?_;repeat'(first|(refine Xq X0 ?_;intro K hK)|refine Xc (aan m hm) ?_|(refine hK _ ?_;clear hK K)|(refine Xi ?_ ?_<;>try intro ht)|refine Xz ?_|(refine Xe ?_;first|refine aO rfl ?_|refine Xl ?_ ?_)|fail)
 ·rw[if_pos ht]at ao;rw[<- ao]
 rw[if_neg (by simp[ht])]at ao;have a6:m.cls.length<=24/\∀ l∈m.cls,l.length<=24:=by
  have h:=ht;unfold qa at h;rw[decide_eq_false_iff_not]at h;refine⟨I6,λl hl=>?_⟩;rcases eh 24 l.length with h1|h1
  ·exact absurd (.inr (.inl (List.any_eq_true.2 ⟨l,hl,by simpa using h1⟩))) h
  ·exact h1
 clear ht;refine aW (λk:Nat=>(⟨ax [(1,.ptr 0 0 0),(10,.tree 1 (rowsOf bD m.cls)),(11,aa3 m.cls.length),(12,aa3 k)],[.var (av m)]⟩:St)) (λk=>k<=m.cls.length/\(m.cls.any λl=>l.any λo=>!db m.rules none o.ch)=(m.cls.drop k).any λl=>l.any λo=>!db m.rules none o.ch) (λk=>m.cls.length-k) 0 ⟨aQ _,rfl⟩ (Xv X0) ?_;rintro k⟨hk,hr⟩Ql aq au;by_cases aJ:k<m.cls.length
 ·have cR:=aC (d:=(default:List br)) aJ;rw[Az aJ]at hr;generalize bb:m.cls.getD k default=l at *;have jf:=aaj l 82 [.ptr 0 0 0] [.var (av m)] (λo=>!db m.rules none o.ch) (hm.opt l cR) (λo ho=>by simpa using aat m o (hm.ch l cR o ho));repeat'(first|(refine Xr @bb ?_;intro K hK)|(refine hK _ ?_;clear hK K)|(refine Xi ?_ ?_<;>try intro ht)|refine Xz ?_|refine Xh ?_|refine Xd ?_ ?_|exact Xx|fail)
  refine lh jf (aG _) ?_;repeat'(first|(refine Xr @bb ?_;intro K hK)|(refine hK _ ?_;clear hK K)|(refine Xi ?_ ?_<;>try intro ht)|refine Xz ?_|refine Xh ?_|(refine Xe ?_;first|refine aO rfl ?_|refine Xl ?_ ?_)|refine Xd ?_ ?_|exact Xx|fail)
  ·rw[ht,rQ]at hr;rw[if_pos hr]at ao;rw[<- ao]
  ·rw[ht,Bool.false_or]at hr;exact aq _ (k+1) ⟨I6,hr⟩ I6 (Xv X0)
 rw[cU I6,List.any_nil]at hr;rw[if_neg (by rw[hr];simp)]at ao;((repeat'(first|refine Va X0 ?_|(refine Xi ?_ ?_<;>try intro ht)|exact Xx|fail)))
 refine au _ _ rfl ?_;clear aq au Ql;clear hr aJ hk;repeat(refine Xu ?_)
 repeat'(first|(refine Xr X0 ?_;intro K hK)|(refine hK _ ?_;clear hK K)|refine Xz ?_|fail)
 refine aW (λk:Nat=>(⟨ax [(1,.ptr 0 0 0),(21,.tree 4 (rowsOf bu m.ae)),(22,aa3 m.ae.length),(23,aa3 k)],[.var (av m)]⟩:St)) (λk=>k<=m.ae.length/\dW m none m.ae=dW m (kr m.ae k) (m.ae.drop k)) (λk=>m.ae.length-k) 0 ⟨aQ _,rfl⟩ (Xv X0) ?_;rintro k⟨hk,hr⟩Ql aq au;by_cases aJ:k<m.ae.length
 ·have cR:=aC (d:=(default:Pr)) aJ;have hd:=cS m.ae k default aJ;have fZ:((k:Int)-1).toNat=k-1:=I6;generalize bb:m.ae.getD k default=p at *;rw[hd,QK]at hr;generalize cG:m.ae.getD (k-1) default=q at *;repeat'(first|(refine Xq (X3 @bb @fZ @cG) ?_;intro K hK)|refine Xo (X3 @bb @fZ @cG) ?_|refine Xc (aar m p (hm.ay p cR) a6.2 a6.1) ?_|refine Xc (aap q p) ?_|(refine hK _ ?_;clear hK K)|(refine Xg (X3 @bb @fZ @cG) ?_ ?_<;>try intro hb)|(refine Xi ?_ ?_<;>try intro ht)|refine Xz ?_|refine Xh ?_|(refine Xe ?_;first|refine aO rfl ?_|refine Xl ?_ ?_)|refine Xd ?_ ?_|exact Xx|fail)
  ·have AB:eS m p=false:=by assumption
   rw[AB,lY,lY]at hr;rw[if_pos hr]at ao;rw[<- ao]
  ·rw[decide_eq_false (p:=k=0) I6,decide_eq_false (p:=mh q p<0) I6,Bool.or_false,Bool.and_false,lY]at hr;rw[if_pos hr]at ao;rw[<- ao]
  ·have AB:eS m p=true:=by assumption
   rw[AB,decide_eq_true (p:=mh q p<0) I6,xo,iq,iq]at hr;refine aq _ (k+1) ⟨I6,?_⟩ I6 (Xs false [0] X0);rw[sA,bb];exact hr
  ·have AB:eS m p=true:=by assumption
   rw[AB,decide_eq_true (p:=k=0) I6,rQ,iq,iq]at hr;refine aq _ (k+1) ⟨I6,?_⟩ I6 (Xs false [0] X0);rw[sA,bb];exact hr
 rw[cU I6,dW]at hr;rw[if_neg (by rw[hr];simp)]at ao;((repeat'(first|refine Va X0 ?_|(refine Xi ?_ ?_<;>try intro ht)|exact Xx|fail)))
 refine au _ _ rfl ?_;clear aq au Ql;clear hr aJ hk;repeat(refine Xu ?_)
 have jf:=aak m.ar 87 [.ptr 0 0 0] [.var (av m)] (λc=>!fN m c) hm.ar (λc hc=>by simpa using aau m c (hm.ku c hc));repeat'(first|(refine Xr X0 ?_;intro K hK)|refine Xz ?_|fail)
 refine lh jf (aG _) ?_;repeat'(first|(refine Xr X0 ?_;intro K hK)|(refine hK _ ?_;clear hK K)|(refine Xi ?_ ?_<;>try intro ht)|refine Xz ?_|(refine Xe ?_;first|refine aO rfl ?_|refine Xl ?_ ?_)|fail)
 ·rw[if_pos ht]at ao;rw[<- ao]
 ·rw[if_neg (by rw[ht];simp)]at ao;rw[<- ao]
def Rh(m:aj)(plan:List Int)(hp:plan.length<9223372036854775808):an Tryz.prog 121 [.agg (av m),.tree 1 (ints plan)] [] (.lit (.bool (tI m plan))) []:=by
 generalize ao:tI m plan=res;unfold tI at ao;refine an.aF 30 0 [.tmp 4] Tryz.func121 ?_;repeat'(first|(refine Xr X0 ?_;intro K hK)|(refine hK _ ?_;clear hK K)|(refine Xi ?_ ?_<;>try intro ht)|refine Xz ?_|(refine Xe ?_;first|refine aO rfl ?_|refine Xl ?_ ?_)|fail)
 ·rw[if_pos I6]at ao;rw[<- ao]
 rw[if_neg I6]at ao;refine aW (λk:Nat=>(⟨ax [(2,.ptr 0 0 0),(13,.tree 1 (ints plan)),(14,aa3 plan.length),(15,aa3 k)],[.var (av m)]⟩:St)) (λk=>k<=plan.length/\tH m k (plan.drop k)=res) (λk=>plan.length-k) 0 ⟨aQ _,ao⟩ (Xv X0) ?_;rintro k⟨hk,hr⟩Ql aq au;by_cases aJ:k<plan.length
 ·have hd:=cS plan k 0 aJ;generalize bb:plan.getD k 0=o at *;rw[hd,tH]at hr;repeat'(first|(refine Xq @bb ?_;intro K hK)|refine Xo @bb ?_|refine Xc (QH m k o) ?_|(refine hK _ ?_;clear hK K)|(refine Xg @bb ?_ ?_<;>try intro hb)|(refine Xi ?_ ?_<;>try intro ht)|refine Xz ?_|refine Xh ?_|(refine Xe ?_;first|refine aO rfl ?_|refine Xl ?_ ?_)|refine Xd ?_ ?_|exact Xx|fail)
  ·rw[decide_eq_false (p:=o = -1) I6,ht]at hr;rw[<- hr];rfl
  ·rw[decide_eq_false (p:=o = -1) I6,ht,xo,iq]at hr;exact aq _ (k+1) ⟨I6,hr⟩ I6 (Xv X0)
  ·rw[decide_eq_true (p:=o = -1) I6,rQ,iq]at hr;exact aq _ (k+1) ⟨I6,hr⟩ I6 (Xv X0)
 ·repeat'(first|(refine Xr X0 ?_;intro K hK)|(refine hK _ ?_;clear hK K)|(refine Xg X0 ?_ ?_<;>try intro hb)|(refine Xi ?_ ?_<;>try intro ht)|refine Xz ?_|refine Xh ?_|(refine Xe ?_;first|refine aO rfl ?_|refine Xl ?_ ?_)|refine Xd ?_ ?_|exact Xx|fail)
  rw[cU I6,tH]at hr;rw[<- hr]
end T

