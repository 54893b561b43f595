import Derived.Test.YtodilglobhifaaaGreatDoorX17
import Derived.Test.YtodilglobhifaaaGreatDoorX19
set_option linter.all false
set_option maxHeartbeats 0
set_option maxRecDepth 20000
open Nat renaming zero_le→aN,le_refl→aM,add_zero→kX
open List renaming drop_eq_nil_of_le→dw,cons_append→fR,nil_append→dT
open Bool renaming eq_iff_iff→kz,and_eq_true→bd,or_eq_true→jI,not_eq_true'→g7,false_eq_true→j7
open Go Go.Am Go.Proofs
namespace T
def WA(n m:Int)(hm:df m):ao Tryz.prog 49 [aah n,aah m] [] (aah (td n m)) []:=by
 unfold df at hm;refine ao.aO 16 0 [.tmp 4] Tryz.func49 ?_;repeat'(first|(refine Xr X0 ?_;intro K hK)|(refine hK _ ?_;clear hK K)|(refine Xi ?_ ?_<;>try intro ht)|refine Xz ?_|(refine Xe ?_;first|refine aT rfl ?_|refine Xl ?_ ?_)|refine Xd ?_ ?_|exact Xx|fail)
 ·rw[td,if_pos ht]
 ·have:=EX n m Ay;omega
 ·rw[td,if_neg Ay,(EX n m Ay).1 ht]
 ·rw[td,if_neg Ay,(EX n m Ay).2.1 ht]
def WB(xs:List Int):ao Tryz.prog 5 [.tree 1 (ints xs)] [] (.lit (.bool (decide (xs.length<=400)))) []:=by
 refine ao.aO 6 0 [.tmp 2] Tryz.func5 ?_;repeat'(first|(refine Xr X0 ?_;intro K hK)|(refine hK _ ?_;clear hK K)|refine Xz ?_|(refine Xe ?_;first|refine aT rfl ?_|refine Xl ?_ ?_)|fail)
 ·congr 3;simp;omega
def fP(L:List Int)(k:Nat)(n:Int)(hn:df n)(hk:k<=L.length)(hL:L.length<1000000):ao Tryz.prog 22 [.ptr 0 0 0,aah n] [.var [.tree 1 (ints L),aah k]] (aah (cJ L k n))
  [.var [.tree 1 (ints L),aah (bH L k)]]:=by
 refine ao.aO 35 1 [.tmp 4] Tryz.func22 ?_;repeat'(first|(refine Xq X0 ?_;intro K hK)|refine Xo X0 ?_|refine Xc (WA _ _ hn) ?_|(refine hK _ ?_;clear hK K)|(refine Xi ?_ ?_<;>try intro ht)|refine Xz ?_|(refine Xe ?_;first|refine aT rfl ?_|refine Xl ?_ ?_)|refine Xd ?_ ?_|exact Xx|fail)
 ·rw[bH,if_pos Ay]
 ·rw[cJ,if_pos Ay]
 ·rw[bH,if_neg Ay,Int.natCast_add];rfl
 ·rw[cJ,if_neg Ay,show((k:Int)+1-1).toNat=k by omega]
def rZ(L:List Int)(k:Nat)(n:Int)(hn:df n)(lV:0<n)(hk:k<=L.length)(hL:L.length<1000000):ao Tryz.prog 9 [.ptr 0 0 0,aah n] [.var [.tree 1 (ints L),aah k]] (.lit (.bool (oA L k n)))
  [.var [.tree 1 (ints L),aah (bH L k)]]:=by
 refine ao.aO 11 1 [.tmp 4] Tryz.func9 ?_;repeat'(first|(refine Xr X0 ?_;intro K hK)|(refine hK _ ?_;clear hK K)|fail)
 refine jU (fP L k n hn hk hL) Dg ?_;unfold df at hn;repeat'(first|refine Xo X0 ?_|(refine hK _ ?_;clear hK K)|refine Xz ?_|(refine Xe ?_;first|refine aT rfl ?_|refine Xl ?_ ?_)|refine Xd ?_ ?_|exact Xx|fail)
 ·rfl
def FZ(L:List Int)(k:Nat)(hk:k<=L.length)(hL:L.length<1000000):ao Tryz.prog 45 [.ptr 0 0 0] [.var [.tree 1 (ints L),aah k]] (aah (l5 L k))
  [.var [.tree 1 (ints L),aah (qv L k)]]:=by
 have h6:=iA (L:=L) (k:=k) (n:=6) Ay;have VP:=iA (L:=L) (k:=bH L k) (n:=20) Ay;refine ao.aO 14 1 [.tmp 2] Tryz.func45 ?_;repeat'(first|(refine Xr X0 ?_;intro K hK)|(refine hK _ ?_;clear hK K)|refine Xz ?_|fail)
 refine jU (fP L k 6 (by unfold df;omega) hk hL) Dg ?_;have c1:cJ L k 6<=3->qv L k=bH L k:=λh=>by rw[qv,if_pos h]
 have c2:cJ L k 6<3->l5 L k=0:=λh=>by rw[l5,if_pos h]
 have c3:cJ L k 6=3->l5 L k=1099511627776:=λh=>by rw[l5,if_neg Ay,if_pos h]
 have c4:¬ cJ L k 6<=3->qv L k=bH L (bH L k):=λh=>by rw[qv,if_neg h]
 have c5:¬ cJ L k 6<=3->l5 L k=1+cJ L (bH L k) 20:=λh=>by rw[l5,if_neg Ay,if_neg Ay]
 repeat'(first|(refine Xr X0 ?_;intro K hK)|(refine hK _ ?_;clear hK K)|(refine Xi ?_ ?_<;>try intro ht)|refine Xz ?_|(refine Xe ?_;first|refine aT rfl ?_|refine Xl ?_ ?_)|exact Xx|fail)
 iterate 3
  ·rw[c1 Ay]
  ·rw[c2 Ay]
 ·rw[c1 Ay]
 ·rw[c3 Ay]
 ·refine jU (fP L (bH L k) 20 (by unfold df;omega) (dg hk) hL) Dg ?_;repeat'(first|refine Xo X0 ?_|(refine hK _ ?_;clear hK K)|refine Xz ?_|(refine Xe ?_;first|refine aT rfl ?_|refine Xl ?_ ?_)|refine Xd ?_ ?_|exact Xx|fail)
  ·rw[c4 Ay]
  ·rw[c5 Ay]
def P4(L:List Int):ao Tryz.prog 7 [.tree 1 (ints L)] [] (.ptr 0 0 0) [.var [.tree 1 (ints L),aah (0:Nat)]]:=by
 refine ao.aO 6 0 [.tmp 2] Tryz.func7 ?_;refine Vb X0 ?_;rw[show(0:Int)=((0:Nat):Int) from rfl];exact iy rfl Dg rfl
def Cl(a b:List Int)(hl:a.length<9223372036854775808):ao Tryz.prog 15 [.tree 1 (ints a),.tree 1 (ints b)] [] (.lit (.bool (decide (a=b)))) []:=by
 refine ao.aO 26 0 [.tmp 4] Tryz.func15 ?_;repeat'(first|(refine Xr X0 ?_;intro K hK)|(refine hK _ ?_;clear hK K)|(refine Xi ?_ ?_<;>try intro ht)|refine Xz ?_|(refine Xe ?_;first|refine aT rfl ?_|refine Xl ?_ ?_)|fail)
 ·congr 2;simp;intro h;subst h;exact absurd rfl ht
 ·refine aX (λk:Nat=>(⟨au [(0,.tree 1 (ints a)),(1,.tree 1 (ints b)),(5,aah k)],[]⟩:St)) (λk=>k<=a.length/\(a=b↔a.drop k=b.drop k)) (λk=>a.length-k) 0 ⟨aN _,Dg⟩ (Xv X0) ?_;intro k ⟨hk,hc⟩ Ql an ay;repeat'(first|(refine Xr X0 ?_;intro K hK)|(refine hK _ ?_;clear hK K)|(refine Xi ?_ ?_<;>try intro ht)|refine Xz ?_|refine Xh ?_|(refine Xe ?_;first|refine aT rfl ?_|refine Xl ?_ ?_)|refine Xd ?_ ?_|exact Xx|fail)
  ·congr 2;simp only[decide_eq_false_iff_not,eq_comm (a:=false)];rw[hc,cF _ _ 0 Ay,cF b _ 0 Ay];simp only[List.cons.injEq];exact λh=>ht h.1
  ·refine an _ (k+1) ⟨Ay,?_⟩ Ay (Xv X0);rw[hc,cF _ _ 0 Ay,cF b _ 0 Ay,ht];simp
  ·congr 2;rw[show a=b by rw[hc,dw Ay,dw Ay]];simp
def FQ(n:Int):ao Tryz.prog 97 [aah n] [] (.lit (.bool (fw n))) []:=by
 refine ao.aO 13 0 [.tmp 2] Tryz.func97 ?_;repeat'(first|(refine Xr X0 ?_;intro K hK)|(refine hK _ ?_;clear hK K)|(refine Xg X0 ?_ ?_<;>try intro hb)|refine Xz ?_|(refine Xe ?_;first|refine aT rfl ?_|refine Xl ?_ ?_)|fail)
 all_goals(refine congrArg (λb=>AV.lit (Value.bool b)) ?_;rw[kz];simp only[fw,decide_eq_true_eq,beq_iff_eq,bne_iff_ne,bd,jI,g7,decide_eq_false_iff_not,j7,reduceCtorEq,iff_true,iff_false,true_iff,false_iff,eq_self];omega)
def FW(n:Int):ao Tryz.prog 52 [aah n] [] (.lit (.bool (fw n))) []:=by
 refine ao.aO 13 0 [.tmp 2] Tryz.func52 ?_;repeat'(first|(refine Xr X0 ?_;intro K hK)|(refine hK _ ?_;clear hK K)|(refine Xg X0 ?_ ?_<;>try intro hb)|refine Xz ?_|(refine Xe ?_;first|refine aT rfl ?_|refine Xl ?_ ?_)|fail)
 all_goals(refine congrArg (λb=>AV.lit (Value.bool b)) ?_;rw[kz];simp only[fw,decide_eq_true_eq,beq_iff_eq,bne_iff_ne,bd,jI,g7,decide_eq_false_iff_not,j7,reduceCtorEq,iff_true,iff_false,true_iff,false_iff,eq_self];omega)
def FO(m:ah)(n:Int):ao Tryz.prog 96 [.agg (aA m),aah n] [] (.lit (.bool (gY m.rules n))) []:=by
 refine ao.aO 13 0 [.tmp 4] Tryz.func96 ?_;repeat'(first|(refine Xr @aA.eq_1 ?_;intro K hK)|(refine hK _ ?_;clear hK K)|(refine Xg @aA.eq_1 ?_ ?_<;>try intro hb)|refine Xz ?_|(refine Xe ?_;first|refine aT rfl ?_|refine Xl ?_ ?_)|fail)
 all_goals(refine congrArg (λb=>AV.lit (Value.bool b)) ?_;rw[kz];simp only[gY,decide_eq_true_eq,beq_iff_eq,bne_iff_ne,bd,jI,g7,decide_eq_false_iff_not,j7,reduceCtorEq,iff_true,iff_false,true_iff,false_iff,eq_self];omega)
def FU(m:ah)(n:Int):ao Tryz.prog 51 [.agg (aA m),aah n] [] (.lit (.bool (gY m.rules n))) []:=by
 refine ao.aO 13 0 [.tmp 4] Tryz.func51 ?_;repeat'(first|(refine Xr @aA.eq_1 ?_;intro K hK)|(refine hK _ ?_;clear hK K)|(refine Xg @aA.eq_1 ?_ ?_<;>try intro hb)|refine Xz ?_|(refine Xe ?_;first|refine aT rfl ?_|refine Xl ?_ ?_)|fail)
 all_goals(refine congrArg (λb=>AV.lit (Value.bool b)) ?_;rw[kz];simp only[gY,decide_eq_true_eq,beq_iff_eq,bne_iff_ne,bd,jI,g7,decide_eq_false_iff_not,j7,reduceCtorEq,iff_true,iff_false,true_iff,false_iff,eq_self];omega)
def WC(n:Int):ao Tryz.prog 72 [aah n] [] (.lit (.bool false)) []:=by
 refine ao.aO 6 0 [.tmp 2] Tryz.func72 ?_;repeat'(first|(refine Xr @bne_self_eq_false.{0} ?_;intro K hK)|(refine hK _ ?_;clear hK K)|refine Xz ?_|(refine Xe ?_;first|refine aT rfl ?_|refine Xl ?_ ?_)|exact Xx|fail)
def Ck(a b:Int):ao Tryz.prog 33 [aah a,aah b] [] (aah (gk a b)) []:=by
 refine ao.aO 20 0 [.tmp 4] Tryz.func33 ?_;repeat'(first|(refine Xq X0 ?_;intro K hK)|refine Xo X0 ?_|refine Xc (WC _) ?_|(refine hK _ ?_;clear hK K)|(refine Xi ?_ ?_<;>try intro ht)|refine Xz ?_|(refine Xe ?_;first|refine aT rfl ?_|refine Xl ?_ ?_)|exact Xx|fail)
 all_goals(unfold gk;congr 2;(repeat' split)<;>omega)
def FR(l:List Int)(hl:l.length<1000000):ao Tryz.prog 32 [.tree 1 (ints l)] [] (aah (l4 l)) []:=by
 generalize az:l4 l=res;refine ao.aO 18 0 [.tmp 2] Tryz.func32 ?_;repeat'(first|(refine Xr X0 ?_;intro K hK)|(refine hK _ ?_;clear hK K)|refine Xz ?_|fail)
 refine aX (λk:Nat=>(⟨au [(3,aah 0),(6,.tree 1 (ints l)),(7,aah l.length),(8,aah k)],[]⟩:St)) (λk=>k<=l.length/\l4 (l.drop k)=res) (λk=>l.length-k) 0 ⟨aN _,az⟩ (Xv X0) ?_;rintro k⟨hk,hr⟩Ql an ay;repeat'(first|(refine Xr X0 ?_;intro K hK)|(refine hK _ ?_;clear hK K)|(refine Xi ?_ ?_<;>try intro ht)|refine Xz ?_|refine Xh ?_|(refine Xe ?_;first|refine aT rfl ?_|refine Xl ?_ ?_)|refine Xd ?_ ?_|exact Xx|fail)
 ·rw[cF _ _ 0 Ay,l4,if_pos (by assumption)]at hr;rw[hr]
 ·rw[cF _ _ 0 Ay,l4,if_neg Ay]at hr;exact an _ (k+1) ⟨Ay,hr⟩ Ay (Xv X0)
 ·rw[dw Ay,l4]at hr;rw[hr]
def Wh(m:ah)(c o:Int):ao Tryz.prog 101 [.agg (aA m),aah c,aah o] [] (.lit (.bool (iN m c o))) []:=by
 refine ao.aO 30 0 [.tmp 6] Tryz.func101 ?_;repeat'(first|(refine Xr (X4 @aA.eq_1 @cH @ia @bk.eq_1) ?_;intro K hK)|(refine hK _ ?_;clear hK K)|(refine Xg (X4 @aA.eq_1 @cH @ia @bk.eq_1) ?_ ?_<;>try intro hb)|refine Xz ?_|(refine Xe ?_;first|refine aT rfl ?_|refine Xl ?_ ?_)|refine Xd ?_ ?_|exact Xx|fail)
 all_goals(refine congrArg (λb=>AV.lit (Value.bool b)) ?_;rw[kz];simp only[iN,decide_eq_true_eq,beq_iff_eq,bne_iff_ne,bd,jI,g7,decide_eq_false_iff_not,j7,reduceCtorEq,iff_true,iff_false,true_iff,false_iff,eq_self];omega)
def Wu(m:ah)(c o:Int):ao Tryz.prog 92 [.agg (aA m),aah c,aah o] [] (.lit (.bool (iN m c o))) []:=by
 refine ao.aO 30 0 [.tmp 6] Tryz.func92 ?_;repeat'(first|(refine Xr (X4 @aA.eq_1 @cH @ia @bk.eq_1) ?_;intro K hK)|(refine hK _ ?_;clear hK K)|(refine Xg (X4 @aA.eq_1 @cH @ia @bk.eq_1) ?_ ?_<;>try intro hb)|refine Xz ?_|(refine Xe ?_;first|refine aT rfl ?_|refine Xl ?_ ?_)|refine Xd ?_ ?_|exact Xx|fail)
 all_goals(refine congrArg (λb=>AV.lit (Value.bool b)) ?_;rw[kz];simp only[iN,decide_eq_true_eq,beq_iff_eq,bne_iff_ne,bd,jI,g7,decide_eq_false_iff_not,j7,reduceCtorEq,iff_true,iff_false,true_iff,false_iff,eq_self];omega)
def eQ{α:Type}(p:α->Bool):Nat->List α->Int
 |_,[]=>-1
 |k,x::r=>if p x=true then(k:Int) else eQ p (k+1) r
def zE{α:Type}(p:α->Bool):∀ (l:List α) (k:Nat),decide (0<=eQ p k l)=l.any p
 |[],k=>rfl
 |x::r,k=>by
  rw[eQ,List.any_cons];split
  ·rename_i h;rw[h];simp
  ·rename_i h;rw[zE p r (k+1)];simp_all
def WE(l:List (List bh))(g:FuncId)(bB:List AV)(aa:List Ob)(p:(List bh)->Bool)(hl:l.length<9223372036854775808)(hg:∀ x∈l,ao Tryz.prog g ([.tree 6 (rowsOf bA x)]++bB) aa (.lit (.bool (p x))) aa):
  ao Tryz.prog 131 [.tree 1 (rowsOf bk l),.fn g bB] aa (aah (eQ p 0 l)) aa:=by
 generalize az:eQ p 0 l=res;refine ao.aO 19 aa.length [.tmp 4] Tryz.func131 ?_;refine Vb (X3 @cH @ia @bk.eq_1) ?_;refine aX (λk:Nat=>(⟨au [(0,.tree 1 (rowsOf bk l)),(1,.fn g bB),(7,aah l.length),(8,aah k)],aa⟩:St)) (λk=>k<=l.length/\eQ p k (l.drop k)=res) (λk=>l.length-k) 0 ⟨aN _,az⟩ (Xv X0) ?_;rintro k⟨hk,hr⟩Ql an ay;by_cases aQ:k<l.length
 ·have hx:=hg _ (aG (d:=default) aQ);have hd:=cF l k default aQ;generalize bK:l.getD k default=x at *;rw[hd,eQ]at hr;simp only[fR,dT,bk]at hx;((repeat'(first|refine Vb (X4 @cH @ia @bk.eq_1 @bK) ?_|(refine Xi ?_ ?_<;>try intro ht)|exact Xx|fail))<;>try with_reducible intro K hK)
  refine jU hx (aM _) ?_;((try revert hK K);(repeat'(first|refine Vb (X3 @cH @ia @bk.eq_1) ?_|(refine Xi ?_ ?_<;>try intro ht)|fail)))
  ·rw[if_pos (by assumption)]at hr;rw[<- hr];exact iy rfl (aM _) rfl
  ·rw[if_neg (by simp_all)]at hr;exact an _ (k+1) ⟨Ay,hr⟩ Ay (Xv X0)
 ·((repeat'(first|refine Vb (X3 @cH @ia @bk.eq_1) ?_|(refine Xi ?_ ?_<;>try intro ht)|exact Xx|fail)))
  rw[dw Ay,eQ]at hr;rw[<- hr];exact iy rfl (aM _) rfl
def V8(l:List (List bh))(g:FuncId)(bB:List AV)(aa:List Ob)(p:(List bh)->Bool)(hl:l.length<9223372036854775808)(hg:∀ x∈l,ao Tryz.prog g ([.tree 6 (rowsOf bA x)]++bB) aa (.lit (.bool (p x))) aa):
  ao Tryz.prog 94 [.tree 1 (rowsOf bk l),.fn g bB] aa (.lit (.bool (l.any p))) aa:=by
 rw[<- zE p l 0];refine ao.aO 9 aa.length [.tmp 4] Tryz.func94 ?_;((refine Vb (X3 @cH @ia @bk.eq_1) ?_)<;>try with_reducible intro K hK)
 refine jU (WE l g bB aa p hl hg) (aM _) ?_;((try revert hK K);(refine Vb (X3 @cH @ia @bk.eq_1) ?_))
 exact iy rfl (aM _) rfl
def WG(l:List bh)(g:FuncId)(bB:List AV)(aa:List Ob)(p:bh->Bool)(hl:l.length<9223372036854775808)(hg:∀ x∈l,ao Tryz.prog g ([.agg (bA x)]++bB) aa (.lit (.bool (p x))) aa):
  ao Tryz.prog 95 [.tree 6 (rowsOf bA l),.fn g bB] aa (aah (eQ p 0 l)) aa:=by
 generalize az:eQ p 0 l=res;refine ao.aO 19 aa.length [.tmp 4] Tryz.func95 ?_;refine Vb (X3 @cH @ia @bA.eq_1) ?_;refine aX (λk:Nat=>(⟨au [(0,.tree 6 (rowsOf bA l)),(1,.fn g bB),(7,aah l.length),(8,aah k)],aa⟩:St)) (λk=>k<=l.length/\eQ p k (l.drop k)=res) (λk=>l.length-k) 0 ⟨aN _,az⟩ (Xv X0) ?_;rintro k⟨hk,hr⟩Ql an ay;by_cases aQ:k<l.length
 ·have hx:=hg _ (aG (d:=default) aQ);have hd:=cF l k default aQ;generalize bK:l.getD k default=x at *;rw[hd,eQ]at hr;simp only[fR,dT,bA]at hx;((repeat'(first|refine Vb (X4 @cH @ia @bA.eq_1 @bK) ?_|(refine Xi ?_ ?_<;>try intro ht)|exact Xx|fail))<;>try with_reducible intro K hK)
  refine jU hx (aM _) ?_;((try revert hK K);(repeat'(first|refine Vb (X3 @cH @ia @bA.eq_1) ?_|(refine Xi ?_ ?_<;>try intro ht)|fail)))
  ·rw[if_pos (by assumption)]at hr;rw[<- hr];exact iy rfl (aM _) rfl
  ·rw[if_neg (by simp_all)]at hr;exact an _ (k+1) ⟨Ay,hr⟩ Ay (Xv X0)
 ·((repeat'(first|refine Vb (X3 @cH @ia @bA.eq_1) ?_|(refine Xi ?_ ?_<;>try intro ht)|exact Xx|fail)))
  rw[dw Ay,eQ]at hr;rw[<- hr];exact iy rfl (aM _) rfl
def Wl(l:List bh)(g:FuncId)(bB:List AV)(aa:List Ob)(p:bh->Bool)(hl:l.length<9223372036854775808)(hg:∀ x∈l,ao Tryz.prog g ([.agg (bA x)]++bB) aa (.lit (.bool (p x))) aa):
  ao Tryz.prog 56 [.tree 6 (rowsOf bA l),.fn g bB] aa (.lit (.bool (l.any p))) aa:=by
 rw[<- zE p l 0];refine ao.aO 9 aa.length [.tmp 4] Tryz.func56 ?_;((refine Vb (X3 @cH @ia @bA.eq_1) ?_)<;>try with_reducible intro K hK)
 refine jU (WG l g bB aa p hl hg) (aM _) ?_;((try revert hK K);(refine Vb (X3 @cH @ia @bA.eq_1) ?_))
 exact iy rfl (aM _) rfl
def WH(l:List Ct)(g:FuncId)(bB:List AV)(aa:List Ob)(p:Ct->Bool)(hl:l.length<9223372036854775808)(hg:∀ x∈l,ao Tryz.prog g ([.agg (dE x)]++bB) aa (.lit (.bool (p x))) aa):
  ao Tryz.prog 100 [.tree 4 (rowsOf dE l),.fn g bB] aa (aah (eQ p 0 l)) aa:=by
 generalize az:eQ p 0 l=res;refine ao.aO 19 aa.length [.tmp 4] Tryz.func100 ?_;refine Vb (X3 @cH @ia @dE.eq_1) ?_;refine aX (λk:Nat=>(⟨au [(0,.tree 4 (rowsOf dE l)),(1,.fn g bB),(7,aah l.length),(8,aah k)],aa⟩:St)) (λk=>k<=l.length/\eQ p k (l.drop k)=res) (λk=>l.length-k) 0 ⟨aN _,az⟩ (Xv X0) ?_;rintro k⟨hk,hr⟩Ql an ay;by_cases aQ:k<l.length
 ·have hx:=hg _ (aG (d:=default) aQ);have hd:=cF l k default aQ;generalize bK:l.getD k default=x at *;rw[hd,eQ]at hr;simp only[fR,dT,dE]at hx;((repeat'(first|refine Vb (X4 @cH @ia @dE.eq_1 @bK) ?_|(refine Xi ?_ ?_<;>try intro ht)|exact Xx|fail))<;>try with_reducible intro K hK)
  refine jU hx (aM _) ?_;((try revert hK K);(repeat'(first|refine Vb (X3 @cH @ia @dE.eq_1) ?_|(refine Xi ?_ ?_<;>try intro ht)|fail)))
  ·rw[if_pos (by assumption)]at hr;rw[<- hr];exact iy rfl (aM _) rfl
  ·rw[if_neg (by simp_all)]at hr;exact an _ (k+1) ⟨Ay,hr⟩ Ay (Xv X0)
 ·((repeat'(first|refine Vb (X3 @cH @ia @dE.eq_1) ?_|(refine Xi ?_ ?_<;>try intro ht)|exact Xx|fail)))
  rw[dw Ay,eQ]at hr;rw[<- hr];exact iy rfl (aM _) rfl
def Wm(l:List Ct)(g:FuncId)(bB:List AV)(aa:List Ob)(p:Ct->Bool)(hl:l.length<9223372036854775808)(hg:∀ x∈l,ao Tryz.prog g ([.agg (dE x)]++bB) aa (.lit (.bool (p x))) aa):
  ao Tryz.prog 61 [.tree 4 (rowsOf dE l),.fn g bB] aa (.lit (.bool (l.any p))) aa:=by
 rw[<- zE p l 0];refine ao.aO 9 aa.length [.tmp 4] Tryz.func61 ?_;((refine Vb (X3 @cH @ia @dE.eq_1) ?_)<;>try with_reducible intro K hK)
 refine jU (WH l g bB aa p hl hg) (aM _) ?_;((try revert hK K);(refine Vb (X3 @cH @ia @dE.eq_1) ?_))
 exact iy rfl (aM _) rfl
def WI(l:List Int)(g:FuncId)(bB:List AV)(aa:List Ob)(p:Int->Bool)(hl:l.length<9223372036854775808)(hg:∀ x∈l,ao Tryz.prog g ([aah x]++bB) aa (.lit (.bool (p x))) aa):
  ao Tryz.prog 132 [.tree 1 (ints l),.fn g bB] aa (aah (eQ p 0 l)) aa:=by
 generalize az:eQ p 0 l=res;refine ao.aO 19 aa.length [.tmp 4] Tryz.func132 ?_;refine Vb @kX ?_;refine aX (λk:Nat=>(⟨au [(0,.tree 1 (ints l)),(1,.fn g bB),(7,aah l.length),(8,aah k)],aa⟩:St)) (λk=>k<=l.length/\eQ p k (l.drop k)=res) (λk=>l.length-k) 0 ⟨aN _,az⟩ (Xv X0) ?_;rintro k⟨hk,hr⟩Ql an ay;by_cases aQ:k<l.length
 ·have hx:=hg _ (aG (d:=0) aQ);have hd:=cF l k 0 aQ;generalize bK:l.getD k 0=x at *;rw[hd,eQ]at hr;simp only[fR,dT]at hx;((repeat'(first|refine Vb (X2 @kX @bK) ?_|(refine Xi ?_ ?_<;>try intro ht)|exact Xx|fail))<;>try with_reducible intro K hK)
  refine jU hx (aM _) ?_;((try revert hK K);(repeat'(first|refine Vb @kX ?_|(refine Xi ?_ ?_<;>try intro ht)|fail)))
  ·rw[if_pos (by assumption)]at hr;rw[<- hr];exact iy rfl (aM _) rfl
  ·rw[if_neg (by simp_all)]at hr;exact an _ (k+1) ⟨Ay,hr⟩ Ay (Xv X0)
 ·((repeat'(first|refine Vb @kX ?_|(refine Xi ?_ ?_<;>try intro ht)|exact Xx|fail)))
  rw[dw Ay,eQ]at hr;rw[<- hr];exact iy rfl (aM _) rfl
def Wf(l:List Int)(g:FuncId)(bB:List AV)(aa:List Ob)(p:Int->Bool)(hl:l.length<9223372036854775808)(hg:∀ x∈l,ao Tryz.prog g ([aah x]++bB) aa (.lit (.bool (p x))) aa):
  ao Tryz.prog 98 [.tree 1 (ints l),.fn g bB] aa (.lit (.bool (l.any p))) aa:=by
 rw[<- zE p l 0];refine ao.aO 9 aa.length [.tmp 4] Tryz.func98 ?_;((refine Vb @kX ?_)<;>try with_reducible intro K hK)
 refine jU (WI l g bB aa p hl hg) (aM _) ?_;((try revert hK K);(refine Vb @kX ?_))
 exact iy rfl (aM _) rfl
def r8(v:Int):List Int->Int->Int
 |[],_=>-1
 |x::r,k=>if v=x then k else r8 v r (k+1)
def P5(v:Int):∀ (l:List Int) (k:Int),0<=k->(0<=r8 v l k↔v∈l)
 |[],k,hk=>by simp[r8]
 |x::r,k,hk=>by
  rw[r8];split
  ·rename_i h;simp[h,hk]
  ·rename_i h;rw[P5 v r (k+1) Ay];simp[h]
def WJ(l:List Int)(v:Int)(hl:l.length<9223372036854775808):ao Tryz.prog 69 [.tree 1 (ints l),aah v] [] (aah (r8 v l 0)) []:=by
 generalize az:r8 v l 0=res;refine ao.aO 19 0 [.tmp 4] Tryz.func69 ?_;repeat'(first|(refine Xr X0 ?_;intro K hK)|(refine hK _ ?_;clear hK K)|refine Xz ?_|fail)
 refine aX (λk:Nat=>(⟨au [(0,.tree 1 (ints l)),(1,aah v),(7,aah l.length),(8,aah k)],[]⟩:St)) (λk=>k<=l.length/\r8 v (l.drop k) k=res) (λk=>l.length-k) 0 ⟨aN _,az⟩ (Xv X0) ?_;rintro k⟨hk,hr⟩Ql an ay;by_cases aQ:k<l.length
 ·have hd:=cF l k 0 aQ;generalize bJ:l.getD k 0=x at *;rw[hd,r8]at hr;((repeat'(first|refine Va @bJ ?_|(refine Xi ?_ ?_<;>try intro ht)|exact Xx|fail)))
  ·rw[if_pos (by assumption)]at hr;repeat(refine Xu ?_)
   refine Vb X0 ?_;rw[<- hr];exact oT rfl
  ·rw[if_neg (by assumption)]at hr;exact an _ (k+1) ⟨Ay,hr⟩ Ay (Xv X0)
 ·((repeat'(first|refine Va X0 ?_|(refine Xi ?_ ?_<;>try intro ht)|exact Xx|fail)))
  rw[dw Ay,r8]at hr;refine ay _ _ rfl ?_;clear an ay Ql;repeat(refine Xu ?_)
  refine Vb X0 ?_;rw[<- hr];exact oT rfl
def WL(l:List Int)(v:Int)(hl:l.length<9223372036854775808):ao Tryz.prog 29 [.tree 1 (ints l),aah v] [] (.lit (.bool (l.contains v))) []:=by
 have h:=P5 v l 0 Ay;refine ao.aO 9 0 [.tmp 4] Tryz.func29 ?_;repeat'(first|(refine Xq X0 ?_;intro K hK)|refine Xo X0 ?_|refine Xc (WJ l v hl) ?_|(refine hK _ ?_;clear hK K)|refine Xz ?_|(refine Xe ?_;first|refine aT rfl ?_|refine Xl ?_ ?_)|fail)
 rw[<- List.contains_iff_mem]at h;cases hb:l.contains v<;>rw[hb]at h
 ·rw[decide_eq_false (by simpa using h)]
 ·rw[decide_eq_true (by simpa using h)]
end T

