import Derived.Test.YtdipcmigdbnheaaGreatX10
set_option linter.unusedVariables false
set_option linter.unusedSimpArgs false
set_option linter.unnecessarySimpa false
set_option linter.unusedSectionVars false
set_option maxHeartbeats 64000000
set_option maxRecDepth 20000
open Nat renaming zero_le→aM,le_refl→aG,add_zero→jr,lt_or_ge→eF
open List renaming cons_append→da,nil_append→dh,drop_eq_nil_of_le→cB
open Bool renaming eq_iff_iff→oC,and_eq_true→bk,or_eq_true→kv,not_eq_true'→kx,false_eq_true→jF,true_and→ic,true_or→qV,false_and→mq,or_true→wc
open Go Go.Am Go.Proofs
open Nat (reduceEqDiff reduceAdd reduceLeDiff reduceMul)
open Int (reduceNeg reduceLE reduceToNat)
namespace T
def ed {α:Type} (p:α→Bool):Nat→List α→Int
  | _,[]=>-1
  | k,x::r=>if p x=true then (k:Int) else ed p (k+1) r
theorem A1 {α:Type} (p:α→Bool):∀ (l:List α) (k:Nat),decide (0≤ed p k l)=l.any p
  | [],k=>rfl
  | x::r,k=>by
    rw[ed,List.any_cons]
    split
    · rename_i h;rw[h];simp
    · rename_i h;rw[A1 p r (k+1)];simp_all
theorem aa1 (l:List (List bx)) (g:FuncId) (aW:List AV) (aa:List Ob) (p:(List bx)→Bool) (hl:l.length<9223372036854775808) (hg:∀ x∈l,an Tryz.prog g ([.tree 6 (rowsOf cD x)]++aW) aa (.lit (.bool (p x))) aa) :
    an Tryz.prog 181 [.tree 1 (rowsOf bD l),.fn g aW] aa (.lit (.int .i64 (ed p 0 l))) aa:=by
  generalize ao:ed p 0 l=res
  refine an.aD (fn:=Tryz.f181) 19 aa.length [.tmp 4] Tryz.func181 rfl rfl rfl rfl rfl (by simp) ?_
  refine Vb (X3 @b8 @iB @bD.eq_1) ?_
  refine aU (fun k:Nat=>(⟨aw [(0,.tree 1 (rowsOf bD l)),(1,.fn g aW),(7,.lit (.int .i64 l.length)),(8,.lit (.int .i64 k))],aa⟩:St)) (fun k=>k≤l.length∧ed p k (l.drop k)=res) (fun k=>l.length - k) 0 ⟨aM _,ao⟩ (Xv X0) ?_
  rintro k ⟨hk,hr⟩ Ql aq av
  by_cases aH:k<l.length
  · have hx:=hg _ (aC (d:=default) aH)
    have hd:=cA l k default aH
    generalize bE:l.getD k default=x at *
    rw[hd,ed] at hr
    simp only[da,dh,bD] at hx
    ((repeat' (first|refine Vb (X4 @b8 @iB @bD.eq_1 @bE) ?_|(refine Xi ?_ ?_<;>try intro ht)|exact Xx|fail))<;>try with_reducible intro K hK)
    refine lB hx (aG _) ?_
    ((try revert hK K);(repeat' (first|refine Vb (X3 @b8 @iB @bD.eq_1) ?_|(refine Xi ?_ ?_<;>try intro ht)|fail)))
    · rw[if_pos (by assumption)] at hr
      rw[← hr]
      exact fJ rfl (aG _) rfl
    · rw[if_neg (by simp_all)] at hr
      exact aq _ (k+1) ⟨by omega,hr⟩ (by omega) (Xv X0)
  · ((repeat' (first|refine Vb (X3 @b8 @iB @bD.eq_1) ?_|(refine Xi ?_ ?_<;>try intro ht)|exact Xx|fail)))
    rw[cB (by omega),ed] at hr
    rw[← hr]
    exact fJ rfl (aG _) rfl
theorem aa2 (l:List (List bx)) (g:FuncId) (aW:List AV) (aa:List Ob) (p:(List bx)→Bool) (hl:l.length<9223372036854775808) (hg:∀ x∈l,an Tryz.prog g ([.tree 6 (rowsOf cD x)]++aW) aa (.lit (.bool (p x))) aa) :
    an Tryz.prog 137 [.tree 1 (rowsOf bD l),.fn g aW] aa (.lit (.bool (l.any p))) aa:=by
  rw[← A1 p l 0]
  refine an.aD (fn:=Tryz.f137) 9 aa.length [.tmp 4] Tryz.func137 rfl rfl rfl rfl rfl (by simp) ?_
  ((refine Vb (X3 @b8 @iB @bD.eq_1) ?_)<;>try with_reducible intro K hK)
  refine lB (aa1 l g aW aa p hl hg) (aG _) ?_
  ((try revert hK K);(refine Vb (X3 @b8 @iB @bD.eq_1) ?_))
  exact fJ rfl (aG _) rfl
theorem aa3 (l:List bx) (g:FuncId) (aW:List AV) (aa:List Ob) (p:bx→Bool) (hl:l.length<9223372036854775808) (hg:∀ x∈l,an Tryz.prog g ([.agg (cD x)]++aW) aa (.lit (.bool (p x))) aa) :
    an Tryz.prog 138 [.tree 6 (rowsOf cD l),.fn g aW] aa (.lit (.int .i64 (ed p 0 l))) aa:=by
  generalize ao:ed p 0 l=res
  refine an.aD (fn:=Tryz.f138) 19 aa.length [.tmp 4] Tryz.func138 rfl rfl rfl rfl rfl (by simp) ?_
  refine Vb (X3 @b8 @iB @cD.eq_1) ?_
  refine aU (fun k:Nat=>(⟨aw [(0,.tree 6 (rowsOf cD l)),(1,.fn g aW),(7,.lit (.int .i64 l.length)),(8,.lit (.int .i64 k))],aa⟩:St)) (fun k=>k≤l.length∧ed p k (l.drop k)=res) (fun k=>l.length - k) 0 ⟨aM _,ao⟩ (Xv X0) ?_
  rintro k ⟨hk,hr⟩ Ql aq av
  by_cases aH:k<l.length
  · have hx:=hg _ (aC (d:=default) aH)
    have hd:=cA l k default aH
    generalize bE:l.getD k default=x at *
    rw[hd,ed] at hr
    simp only[da,dh,cD] at hx
    ((repeat' (first|refine Vb (X4 @b8 @iB @cD.eq_1 @bE) ?_|(refine Xi ?_ ?_<;>try intro ht)|exact Xx|fail))<;>try with_reducible intro K hK)
    refine lB hx (aG _) ?_
    ((try revert hK K);(repeat' (first|refine Vb (X3 @b8 @iB @cD.eq_1) ?_|(refine Xi ?_ ?_<;>try intro ht)|fail)))
    · rw[if_pos (by assumption)] at hr
      rw[← hr]
      exact fJ rfl (aG _) rfl
    · rw[if_neg (by simp_all)] at hr
      exact aq _ (k+1) ⟨by omega,hr⟩ (by omega) (Xv X0)
  · ((repeat' (first|refine Vb (X3 @b8 @iB @cD.eq_1) ?_|(refine Xi ?_ ?_<;>try intro ht)|exact Xx|fail)))
    rw[cB (by omega),ed] at hr
    rw[← hr]
    exact fJ rfl (aG _) rfl
theorem aa4 (l:List bx) (g:FuncId) (aW:List AV) (aa:List Ob) (p:bx→Bool) (hl:l.length<9223372036854775808) (hg:∀ x∈l,an Tryz.prog g ([.agg (cD x)]++aW) aa (.lit (.bool (p x))) aa) :
    an Tryz.prog 81 [.tree 6 (rowsOf cD l),.fn g aW] aa (.lit (.bool (l.any p))) aa:=by
  rw[← A1 p l 0]
  refine an.aD (fn:=Tryz.f81) 9 aa.length [.tmp 4] Tryz.func81 rfl rfl rfl rfl rfl (by simp) ?_
  ((refine Vb (X3 @b8 @iB @cD.eq_1) ?_)<;>try with_reducible intro K hK)
  refine lB (aa3 l g aW aa p hl hg) (aG _) ?_
  ((try revert hK K);(refine Vb (X3 @b8 @iB @cD.eq_1) ?_))
  exact fJ rfl (aG _) rfl
theorem R0 (l:List Ct) (g:FuncId) (aW:List AV) (aa:List Ob) (p:Ct→Bool) (hl:l.length<9223372036854775808) (hg:∀ x∈l,an Tryz.prog g ([.agg (aO x)]++aW) aa (.lit (.bool (p x))) aa) :
    an Tryz.prog 93 [.tree 4 (rowsOf aO l),.fn g aW] aa (.lit (.int .i64 (ed p 0 l))) aa:=by
  generalize ao:ed p 0 l=res
  refine an.aD (fn:=Tryz.f93) 19 aa.length [.tmp 4] Tryz.func93 rfl rfl rfl rfl rfl (by simp) ?_
  refine Vb (X3 @b8 @iB @aO.eq_1) ?_
  refine aU (fun k:Nat=>(⟨aw [(0,.tree 4 (rowsOf aO l)),(1,.fn g aW),(7,.lit (.int .i64 l.length)),(8,.lit (.int .i64 k))],aa⟩:St)) (fun k=>k≤l.length∧ed p k (l.drop k)=res) (fun k=>l.length - k) 0 ⟨aM _,ao⟩ (Xv X0) ?_
  rintro k ⟨hk,hr⟩ Ql aq av
  by_cases aH:k<l.length
  · have hx:=hg _ (aC (d:=default) aH)
    have hd:=cA l k default aH
    generalize bE:l.getD k default=x at *
    rw[hd,ed] at hr
    simp only[da,dh,aO] at hx
    ((repeat' (first|refine Vb (X4 @b8 @iB @aO.eq_1 @bE) ?_|(refine Xi ?_ ?_<;>try intro ht)|exact Xx|fail))<;>try with_reducible intro K hK)
    refine lB hx (aG _) ?_
    ((try revert hK K);(repeat' (first|refine Vb (X3 @b8 @iB @aO.eq_1) ?_|(refine Xi ?_ ?_<;>try intro ht)|fail)))
    · rw[if_pos (by assumption)] at hr
      rw[← hr]
      exact fJ rfl (aG _) rfl
    · rw[if_neg (by simp_all)] at hr
      exact aq _ (k+1) ⟨by omega,hr⟩ (by omega) (Xv X0)
  · ((repeat' (first|refine Vb (X3 @b8 @iB @aO.eq_1) ?_|(refine Xi ?_ ?_<;>try intro ht)|exact Xx|fail)))
    rw[cB (by omega),ed] at hr
    rw[← hr]
    exact fJ rfl (aG _) rfl
theorem aa5 (l:List Ct) (g:FuncId) (aW:List AV) (aa:List Ob) (p:Ct→Bool) (hl:l.length<9223372036854775808) (hg:∀ x∈l,an Tryz.prog g ([.agg (aO x)]++aW) aa (.lit (.bool (p x))) aa) :
    an Tryz.prog 86 [.tree 4 (rowsOf aO l),.fn g aW] aa (.lit (.bool (l.any p))) aa:=by
  rw[← A1 p l 0]
  refine an.aD (fn:=Tryz.f86) 9 aa.length [.tmp 4] Tryz.func86 rfl rfl rfl rfl rfl (by simp) ?_
  ((refine Vb (X3 @b8 @iB @aO.eq_1) ?_)<;>try with_reducible intro K hK)
  refine lB (R0 l g aW aa p hl hg) (aG _) ?_
  ((try revert hK K);(refine Vb (X3 @b8 @iB @aO.eq_1) ?_))
  exact fJ rfl (aG _) rfl
theorem aa6 (l:List Int) (g:FuncId) (aW:List AV) (aa:List Ob) (p:Int→Bool) (hl:l.length<9223372036854775808) (hg:∀ x∈l,an Tryz.prog g ([.lit (.int .i64 x)]++aW) aa (.lit (.bool (p x))) aa) :
    an Tryz.prog 182 [.tree 1 (ints l),.fn g aW] aa (.lit (.int .i64 (ed p 0 l))) aa:=by
  generalize ao:ed p 0 l=res
  refine an.aD (fn:=Tryz.f182) 19 aa.length [.tmp 4] Tryz.func182 rfl rfl rfl rfl rfl (by simp) ?_
  refine Vb @jr ?_
  refine aU (fun k:Nat=>(⟨aw [(0,.tree 1 (ints l)),(1,.fn g aW),(7,.lit (.int .i64 l.length)),(8,.lit (.int .i64 k))],aa⟩:St)) (fun k=>k≤l.length∧ed p k (l.drop k)=res) (fun k=>l.length - k) 0 ⟨aM _,ao⟩ (Xv X0) ?_
  rintro k ⟨hk,hr⟩ Ql aq av
  by_cases aH:k<l.length
  · have hx:=hg _ (aC (d:=0) aH)
    have hd:=cA l k 0 aH
    generalize bE:l.getD k 0=x at *
    rw[hd,ed] at hr
    simp only[da,dh] at hx
    ((repeat' (first|refine Vb (X2 @jr @bE) ?_|(refine Xi ?_ ?_<;>try intro ht)|exact Xx|fail))<;>try with_reducible intro K hK)
    refine lB hx (aG _) ?_
    ((try revert hK K);(repeat' (first|refine Vb @jr ?_|(refine Xi ?_ ?_<;>try intro ht)|fail)))
    · rw[if_pos (by assumption)] at hr
      rw[← hr]
      exact fJ rfl (aG _) rfl
    · rw[if_neg (by simp_all)] at hr
      exact aq _ (k+1) ⟨by omega,hr⟩ (by omega) (Xv X0)
  · ((repeat' (first|refine Vb @jr ?_|(refine Xi ?_ ?_<;>try intro ht)|exact Xx|fail)))
    rw[cB (by omega),ed] at hr
    rw[← hr]
    exact fJ rfl (aG _) rfl
theorem R3 (l:List Int) (g:FuncId) (aW:List AV) (aa:List Ob) (p:Int→Bool) (hl:l.length<9223372036854775808) (hg:∀ x∈l,an Tryz.prog g ([.lit (.int .i64 x)]++aW) aa (.lit (.bool (p x))) aa) :
    an Tryz.prog 141 [.tree 1 (ints l),.fn g aW] aa (.lit (.bool (l.any p))) aa:=by
  rw[← A1 p l 0]
  refine an.aD (fn:=Tryz.f141) 9 aa.length [.tmp 4] Tryz.func141 rfl rfl rfl rfl rfl (by simp) ?_
  ((refine Vb @jr ?_)<;>try with_reducible intro K hK)
  refine lB (aa6 l g aW aa p hl hg) (aG _) ?_
  ((try revert hK K);(refine Vb @jr ?_))
  exact fJ rfl (aG _) rfl
theorem aa7 (l:List bx):an Tryz.prog 136 [.tree 6 (rowsOf cD l)] [] (.lit (.bool (decide (24<l.length)))) []:=by
  refine an.aD (fn:=Tryz.f136) 6 0 [.tmp 2] Tryz.func136 rfl rfl rfl rfl rfl (by simp) ?_
  repeat' (first|(refine Xr X0 ?_;intro K hK)|(refine hK _ ?_;clear hK K)|refine Xz ?_|(refine Xe ?_;first|refine aK rfl ?_|refine Xl ?_ ?_)|fail)
  (refine congrArg (fun b=>AV.lit (Value.bool b)) ?_;rw[oC];simp only[gt_iff_lt,decide_eq_true_eq,beq_iff_eq,bne_iff_ne,bk,kv,kx,decide_eq_false_iff_not,jF,reduceCtorEq,iff_true,iff_false,true_iff,false_iff,eq_self];omega)
theorem aa8 (m:aj) (hm:MB m):an Tryz.prog 80 [.agg (ar m)] [] (.lit (.bool (qH m))) []:=by
  have h1:=hm.cls
  have h2:=aa2 m.cls 136 [] [] (fun l=>decide (24<l.length)) h1 (fun x _=>by simpa using aa7 x)
  unfold qH
  generalize m.cls.any (fun l=>decide (24<l.length))=b at *
  cases b
  all_goals refine an.aD (fn:=Tryz.f80) 36 0 [.tmp 2] Tryz.func80 rfl rfl rfl rfl rfl (by simp) ?_
  all_goals repeat' (first|(refine Xq X0 ?_;intro K hK)|refine Xo X0 ?_|refine Xc (h2) ?_|(refine hK _ ?_;clear hK K)|(refine Xg X0 ?_ ?_<;>try intro hb)|refine Xz ?_|(refine Xe ?_;first|refine aK rfl ?_|refine Xl ?_ ?_)|fail)
  all_goals first|rfl|(simp;done)|(refine congrArg (fun b=>AV.lit (Value.bool b)) ?_;rw[oC];simp only[or_true,true_or,or_false,false_or,decide_eq_true_eq,beq_iff_eq,bne_iff_ne,bk,kv,kx,decide_eq_false_iff_not,jF,reduceCtorEq,iff_true,iff_false,true_iff,false_iff,eq_self];omega)
theorem aa9 (m:aj) (o:bx) (ho:o.ch.length<9223372036854775808):an Tryz.prog 83 [.agg (ar m),.agg (cD o)] [] (.lit (.bool (dj m.rules none o.ch))) []:=by
  generalize ao:dj m.rules none o.ch=res
  refine an.aD (fn:=Tryz.f83) 43 0 [.tmp 4] Tryz.func83 rfl rfl rfl rfl rfl (by simp) ?_
  repeat' (first|(refine Xr X0 ?_;intro K hK)|(refine hK _ ?_;clear hK K)|refine Xz ?_|fail)
  refine aU (fun k:Nat=>(⟨aw [(2,.ptr 0 0 0),(3,.ptr 1 0 0),(8,.tree 2 (rowsOf bA o.ch)),(9,.lit (.int .i64 o.ch.length)),(10,.lit (.int .i64 k))],[.var (ar m),.var (cD o)]⟩:St)) (fun k=>k≤o.ch.length∧dj m.rules (kH o.ch k) (o.ch.drop k)=res) (fun k=>o.ch.length - k) 0 ⟨aM _,ao⟩ (Xv X0) ?_
  rintro k ⟨hk,hr⟩ Ql aq av
  by_cases aH:k<o.ch.length
  · have hd:=cA o.ch k default aH
    generalize aR:o.ch.getD k default=c at *
    rw[hd,Ru] at hr
    have w8:=Hl m c.1
    have gy:((k:Int) - 1).toNat=k - 1:=by omega
    repeat' (first|(refine Xq (X2 @aR @gy) ?_;intro K hK)|refine Xo (X2 @aR @gy) ?_|refine Xc (w8) ?_|refine Xc (Hj c.2) ?_|(refine hK _ ?_;clear hK K)|(refine Xg (X2 @aR @gy) ?_ ?_<;>try intro hb)|(refine Xi ?_ ?_<;>try intro ht)|refine Xz ?_|refine Xh ?_|(refine Xe ?_;first|refine aK rfl ?_|refine Xl ?_ ?_)|refine Xd ?_ ?_|exact Xx|fail)
    · rw[← hr];simp[*]
    · rw[← hr];simp[*]
    · rw[← hr,decide_eq_false (p:=k=0) (by omega),decide_eq_false (p:=_<c.1) (by omega)];simp
    · refine aq _ (k+1) ⟨by omega,?_⟩ (by omega) (Xs false [0,1] X0)
      rw[s0,aR,← hr,decide_eq_true (p:=_<c.1) ht];simp[*]
    · refine aq _ (k+1) ⟨by omega,?_⟩ (by omega) (Xs false [0,1] X0)
      rw[s0,aR,← hr,decide_eq_true (p:=k=0) (by omega)];simp[*]
  · repeat' (first|(refine Xr X0 ?_;intro K hK)|(refine hK _ ?_;clear hK K)|(refine Xi ?_ ?_<;>try intro ht)|refine Xz ?_|refine Xh ?_|(refine Xe ?_;first|refine aK rfl ?_|refine Xl ?_ ?_)|refine Xd ?_ ?_|exact Xx|fail)
    rw[cB (by omega),dj] at hr
    rw[← hr]
theorem aa' (a b:Pr):an Tryz.prog 85 [.agg (bu a),.agg (bu b)] [] (.lit (.int .i64 (mJ a b))) []:=by
  refine an.aD (fn:=Tryz.f85) 22 0 [.tmp 4] Tryz.func85 rfl rfl rfl rfl rfl (by simp) ?_
  repeat' (first|(refine Xr X0 ?_;intro K hK)|(refine hK _ ?_;clear hK K)|refine Xz ?_|fail)
  (try (refine yz [4,9,14] rfl (by decide) (by decide +kernel) ?_);intro K hK;simp (disch:=omega) only[Ac,↓Pc,simprocAttr])
  repeat' (first|refine Xo X0 ?_|refine Xc (Rq _ _) ?_|fail)
  refine nI [] (Rr [m9 a.aV b.aV,m9 a.fst b.fst,m9 a.snd b.snd] (by simp)) (by decide) trivial ⟨aE.bW rfl (oE _) rfl (by decide) (pw _),trivial⟩ rfl (by simp) ?_
  repeat' (first|refine Xo X0 ?_|(refine hK _ ?_;clear hK K)|refine Xz ?_|(refine Xe ?_;first|refine aK rfl ?_|refine Xl ?_ ?_)|fail)
  · rfl
theorem aba (n:Int):an Tryz.prog 142 [.lit (.int .i64 n)] [] (.lit (.bool (nf n))) []:=by
  refine an.aD (fn:=Tryz.f142) 10 0 [.tmp 2] Tryz.func142 rfl rfl rfl rfl rfl (by simp) ?_
  repeat' (first|(refine Xq X0 ?_;intro K hK)|refine Xo X0 ?_|refine Xc (Hj n) ?_|(refine hK _ ?_;clear hK K)|(refine Xg X0 ?_ ?_<;>try intro hb)|refine Xz ?_|(refine Xe ?_;first|refine aK rfl ?_|refine Xl ?_ ?_)|fail)
  all_goals (simp[nf, *]<;>omega)
theorem abb (m:aj) (p:Pr) (hp:p.az.length<9223372036854775808) (hm:∀ l∈m.cls,l.length≤24) (hl:m.cls.length≤24):an Tryz.prog 84 [.agg (ar m),.agg (bu p)] [] (.lit (.bool (eW m p))) []:=by
  have hg:∀ i,(m.cls.getD i default).length≤24:=fun i=>by
    rcases eF i m.cls.length with h | h
    · exact hm _ (aC h)
    · rw[List.getD_eq_getElem?_getD,List.getElem?_eq_none h];decide
  have h1:=hg p.fst.toNat
  have h2:=hg p.snd.toNat
  have hmul:(0:Int)≤(m.cls.getD p.fst.toNat default).length * (m.cls.getD p.snd.toNat default).length∧((m.cls.getD p.fst.toNat default).length:Int) * (m.cls.getD p.snd.toNat default).length≤24 * 24:=⟨Int.mul_nonneg (by omega) (by omega),Int.mul_le_mul (by omega) (by omega) (by omega) (by omega)⟩
  have hc:=R3 p.az 142 [] [] nf hp (fun x _=>by simpa using aba x)
  unfold eW
  generalize ur:((m.cls.getD p.fst.toNat default).length:Int) * (m.cls.getD p.snd.toNat default).length=mm at *
  refine an.aD (fn:=Tryz.f84) 55 0 [.tmp 4] Tryz.func84 rfl rfl rfl rfl rfl (by simp) ?_
  repeat' (first|(refine Xq @ur ?_;intro K hK)|refine Xo @ur ?_|refine Xc (Hl m p.aV) ?_|refine Xc (hc) ?_|(refine hK _ ?_;clear hK K)|(refine Xg @ur ?_ ?_<;>try intro hb)|(refine Xi ?_ ?_<;>try intro ht)|refine Xz ?_|(refine Xe ?_;first|refine aK rfl ?_|refine Xl ?_ ?_)|refine Xd ?_ ?_|exact Xx|fail)
  · rw[hb];rfl
  iterate 4
    · rw[decide_eq_false (by omega)];simp
  · rw[decide_eq_true (by omega)];simp[*]
theorem abc (m:aj) (c:Ct) (hc:c.aS.length<9223372036854775808):an Tryz.prog 88 [.agg (ar m),.agg (aO c)] [] (.lit (.bool (fY m c))) []:=by
  have AL:=Hl m c.aV
  have m6:=Hj c.bL
  generalize ao:fY m c=res
  unfold fY at ao
  refine an.aD (fn:=Tryz.f88) 81 0 [.tmp 4] Tryz.func88 rfl rfl rfl rfl rfl (by simp) ?_
  repeat' (first|(refine Xq X0 ?_;intro K hK)|refine Xo X0 ?_|refine Xc (AL) ?_|refine Xc (m6) ?_|(refine hK _ ?_;clear hK K)|(refine Xg X0 ?_ ?_<;>try intro hb)|(refine Xi ?_ ?_<;>try intro ht)|refine Xz ?_|(refine Xe ?_;first|refine aK rfl ?_|refine Xl ?_ ?_)|exact Xx|fail)
  · rw[← ao,hb];rfl
  · rw[← ao,decide_eq_false (by omega)];simp
  · rw[← ao,decide_eq_false (by omega)];simp
  · rw[← ao,ht];simp
  have ei:(iu m.rules c.aV && decide (0≤c.most∧c.most≤1048576) && iR c.bL)=true:=by rw[decide_eq_true (by omega)];simp[*]
  rw[ei,ic] at ao
  refine aU (fun k:Nat=>(⟨aw [(2,.ptr 0 0 0),(3,.ptr 1 0 0),(29,.tree 3 (rowsOf g6 c.aS)),(30,.lit (.int .i64 c.aS.length)),(31,.lit (.int .i64 k))],[.var (ar m),.var (aO c)]⟩:St)) (fun k=>k≤c.aS.length∧dx m (kH c.aS k) (c.aS.drop k)=res) (fun k=>c.aS.length - k) 0 ⟨aM _,ao⟩ (Xv X0) ?_
  rintro k ⟨hk,hr⟩ Ql aq av
  by_cases aH:k<c.aS.length
  · have hd:=cA c.aS k default aH
    generalize aR:c.aS.getD k default=x at *
    rw[hd,Rx] at hr
    have gy:((k:Int) - 1).toNat=k - 1:=by omega
    generalize cT:c.aS.getD (k - 1) default=y at *
    repeat' (first|(refine Xr (X2 @aR @gy) ?_;intro K hK)|refine Xo (X2 @aR @gy) ?_|refine Xc (Rs m x.cls x.opt) ?_|(refine hK _ ?_;clear hK K)|(refine Xg (X2 @aR @gy) ?_ ?_<;>try intro hb)|(refine Xi ?_ ?_<;>try intro ht)|refine Xz ?_|refine Xh ?_|(refine Xe ?_;first|refine aK rfl ?_|refine Xl ?_ ?_)|refine Xd ?_ ?_|exact Xx|fail)
    · rw[← hr,hb];simp
    · rw[← hr,decide_eq_false (p:=1≤x.wt∧x.wt≤1000) (by omega)];simp
    · rw[← hr,decide_eq_false (p:=1≤x.wt∧x.wt≤1000) (by omega)];simp
    have hw:decide (1≤x.wt∧x.wt≤1000)=true:=decide_eq_true (by omega)
    have aT:g7 m x.cls x.opt=true:=by assumption
    rw[aT,hw,ic,ic] at hr
    (try (refine yz [12,22] rfl (by decide) (by decide +kernel) ?_);intro K hK;simp (disch:=omega) only[Ac,↓Pc,simprocAttr,aR,gy,cT])
    repeat' (first|(refine Xq (X3 @aR @gy @cT) ?_;intro K hK)|refine Xo (X3 @aR @gy @cT) ?_|refine Xc (Rq _ _) ?_|(refine hK _ ?_;clear hK K)|(refine Xg (X3 @aR @gy @cT) ?_ ?_<;>try intro hb)|(refine Xi ?_ ?_<;>try intro ht)|refine Xz ?_|refine Xd ?_ ?_|exact Xx|fail)
    · refine nI [] (Rr [m9 y.cls x.cls,m9 y.opt x.opt] (by simp)) (by decide) trivial ⟨aE.bW rfl (oE _) rfl (by decide) (pw _),trivial⟩ rfl (by simp) ?_
      repeat' (first|(refine Xr (X3 @aR @gy @cT) ?_;intro K hK)|refine Xo (X3 @aR @gy @cT) ?_|(refine hK _ ?_;clear hK K)|(refine Xi ?_ ?_<;>try intro ht)|refine Xz ?_|refine Xh ?_|(refine Xe ?_;first|refine aK rfl ?_|refine Xl ?_ ?_)|refine Xd ?_ ?_|exact Xx|fail)
      · rw[← hr,decide_eq_false (p:=k=0) (by omega),decide_eq_false (p:=rP y x<0) (by unfold rP;omega)];simp
      · refine aq _ (k+1) ⟨by omega,?_⟩ (by omega) (Xs false [0,1] X0)
        rw[s0,aR,← hr,decide_eq_true (p:=rP y x<0) (by unfold rP;omega)];simp
    · refine aq _ (k+1) ⟨by omega,?_⟩ (by omega) (Xs false [0,1] X0)
      rw[s0,aR,← hr,decide_eq_true (p:=k=0) (by omega)];simp
  · repeat' (first|(refine Xr X0 ?_;intro K hK)|(refine hK _ ?_;clear hK K)|(refine Xi ?_ ?_<;>try intro ht)|refine Xz ?_|refine Xh ?_|(refine Xe ?_;first|refine aK rfl ?_|refine Xl ?_ ?_)|refine Xd ?_ ?_|exact Xx|fail)
    rw[cB (by omega),dx] at hr
    rw[← hr]
theorem abd (m:aj) (o:bx) (ho:o.ch.length<9223372036854775808):an Tryz.prog 82 [.agg (cD o),.ptr 0 0 0] [.var (ar m)] (.lit (.bool (!dj m.rules none o.ch))) [.var (ar m)]:=by
  refine an.aD (fn:=Tryz.f82) 8 1 [.tmp 3] Tryz.func82 rfl rfl rfl rfl rfl (by simp) ?_
  refine Vd X0 (aa9 m o ho) ?_
  exact Xw false [0] X0
theorem abe (m:aj) (c:Ct) (hc:c.aS.length<9223372036854775808):an Tryz.prog 87 [.agg (aO c),.ptr 0 0 0] [.var (ar m)] (.lit (.bool (!fY m c))) [.var (ar m)]:=by
  refine an.aD (fn:=Tryz.f87) 8 1 [.tmp 3] Tryz.func87 rfl rfl rfl rfl rfl (by simp) ?_
  refine Vd X0 (abc m c hc) ?_
  exact Xw false [0] X0
theorem A0 {α:Type} [Inhabited α] {l:List α} {f:α→Bool} {k:Nat} (hk:k<l.length):(l.drop k).any f=(f (l.getD k default) || (l.drop (k+1)).any f):=by
  rw[cA l k default hk,List.any_cons]
theorem qz (m:aj) (hm:MB m):an Tryz.prog 45 [.agg (ar m)] [] (.lit (.int .i64 (dz m))) []:=by
  generalize ao:dz m=res
  unfold dz at ao
  have sZ:=hm.cls
  have uo:=hm.ae
  refine an.aD (fn:=Tryz.f45) 52 0 [.tmp 2] Tryz.func45 rfl rfl rfl rfl rfl (by simp) ?_
  repeat' (first|(refine Xq X0 ?_;intro K hK)|refine Xc (aa8 m hm) ?_|(refine hK _ ?_;clear hK K)|(refine Xi ?_ ?_<;>try intro ht)|refine Xz ?_|(refine Xe ?_;first|refine aK rfl ?_|refine Xl ?_ ?_)|fail)
  · rw[if_pos ht] at ao;rw[← ao]
  rw[if_neg (by simp[ht])] at ao
  have a9:m.cls.length≤24∧∀ l∈m.cls,l.length≤24:=by
    have h:=ht
    unfold qH at h
    rw[decide_eq_false_iff_not] at h
    refine⟨by omega,fun l hl=>?_⟩
    rcases eF 24 l.length with h1 | h1
    · exact absurd (.inr (.inl (List.any_eq_true.2 ⟨l,hl,by simpa using h1⟩))) h
    · exact h1
  clear ht
  refine aU (fun k:Nat=>(⟨aw [(1,.ptr 0 0 0),(10,.tree 1 (rowsOf bD m.cls)),(11,.lit (.int .i64 m.cls.length)),(12,.lit (.int .i64 k))],[.var (ar m)]⟩:St)) (fun k=>k≤m.cls.length∧(m.cls.any fun l=>l.any fun o=>!dj m.rules none o.ch)=(m.cls.drop k).any fun l=>l.any fun o=>!dj m.rules none o.ch) (fun k=>m.cls.length - k) 0 ⟨aM _,rfl⟩ (Xv X0) ?_
  rintro k ⟨hk,hr⟩ Ql aq av
  by_cases aH:k<m.cls.length
  · have cX:=aC (d:=(default:List bx)) aH
    rw[A0 aH] at hr
    generalize aR:m.cls.getD k default=l at *
    have jv:=aa4 l 82 [.ptr 0 0 0] [.var (ar m)] (fun o=>!dj m.rules none o.ch) (hm.opt l cX) (fun o ho=>by simpa using abd m o (hm.ch l cX o ho))
    repeat' (first|(refine Xr @aR ?_;intro K hK)|(refine hK _ ?_;clear hK K)|(refine Xi ?_ ?_<;>try intro ht)|refine Xz ?_|refine Xh ?_|refine Xd ?_ ?_|exact Xx|fail)
    refine lB jv (aG _) ?_
    repeat' (first|(refine Xr @aR ?_;intro K hK)|(refine hK _ ?_;clear hK K)|(refine Xi ?_ ?_<;>try intro ht)|refine Xz ?_|refine Xh ?_|(refine Xe ?_;first|refine aK rfl ?_|refine Xl ?_ ?_)|refine Xd ?_ ?_|exact Xx|fail)
    · rw[ht,qV] at hr
      rw[if_pos hr] at ao;rw[← ao]
    · rw[ht,Bool.false_or] at hr
      exact aq _ (k+1) ⟨by omega,hr⟩ (by omega) (Xv X0)
  rw[cB (by omega),List.any_nil] at hr
  rw[if_neg (by rw[hr];simp)] at ao
  ((repeat' (first|refine Va X0 ?_|(refine Xi ?_ ?_<;>try intro ht)|exact Xx|fail)))
  refine av _ _ rfl ?_;clear aq av Ql
  clear hr aH hk
  repeat (refine Xu ?_)
  repeat' (first|(refine Xr X0 ?_;intro K hK)|(refine hK _ ?_;clear hK K)|refine Xz ?_|fail)
  refine aU (fun k:Nat=>(⟨aw [(1,.ptr 0 0 0),(21,.tree 4 (rowsOf bu m.ae)),(22,.lit (.int .i64 m.ae.length)),(23,.lit (.int .i64 k))],[.var (ar m)]⟩:St)) (fun k=>k≤m.ae.length∧ee m none m.ae=ee m (kH m.ae k) (m.ae.drop k)) (fun k=>m.ae.length - k) 0 ⟨aM _,rfl⟩ (Xv X0) ?_
  rintro k ⟨hk,hr⟩ Ql aq av
  by_cases aH:k<m.ae.length
  · have cX:=aC (d:=(default:Pr)) aH
    have hd:=cA m.ae k default aH
    have gy:((k:Int) - 1).toNat=k - 1:=by omega
    generalize aR:m.ae.getD k default=p at *
    rw[hd,Rv] at hr
    generalize cT:m.ae.getD (k - 1) default=q at *
    repeat' (first|(refine Xq (X3 @aR @gy @cT) ?_;intro K hK)|refine Xo (X3 @aR @gy @cT) ?_|refine Xc (abb m p (hm.az p cX) a9.2 a9.1) ?_|refine Xc (aa' q p) ?_|(refine hK _ ?_;clear hK K)|(refine Xg (X3 @aR @gy @cT) ?_ ?_<;>try intro hb)|(refine Xi ?_ ?_<;>try intro ht)|refine Xz ?_|refine Xh ?_|(refine Xe ?_;first|refine aK rfl ?_|refine Xl ?_ ?_)|refine Xd ?_ ?_|exact Xx|fail)
    · have A2:eW m p=false:=by assumption
      rw[A2,mq,mq] at hr
      rw[if_pos hr] at ao;rw[← ao]
    · rw[decide_eq_false (p:=k=0) (by omega),decide_eq_false (p:=mJ q p<0) (by omega),Bool.or_false,Bool.and_false,mq] at hr
      rw[if_pos hr] at ao;rw[← ao]
    · have A2:eW m p=true:=by assumption
      rw[A2,decide_eq_true (p:=mJ q p<0) (by omega),wc,ic,ic] at hr
      refine aq _ (k+1) ⟨by omega,?_⟩ (by omega) (Xs false [0] X0)
      rw[s0,aR];exact hr
    · have A2:eW m p=true:=by assumption
      rw[A2,decide_eq_true (p:=k=0) (by omega),qV,ic,ic] at hr
      refine aq _ (k+1) ⟨by omega,?_⟩ (by omega) (Xs false [0] X0)
      rw[s0,aR];exact hr
  rw[cB (by omega),ee] at hr
  rw[if_neg (by rw[hr];simp)] at ao
  ((repeat' (first|refine Va X0 ?_|(refine Xi ?_ ?_<;>try intro ht)|exact Xx|fail)))
  refine av _ _ rfl ?_;clear aq av Ql
  clear hr aH hk
  repeat (refine Xu ?_)
  have jv:=aa5 m.au 87 [.ptr 0 0 0] [.var (ar m)] (fun c=>!fY m c) hm.au (fun c hc=>by simpa using abe m c (hm.kK c hc))
  repeat' (first|(refine Xr X0 ?_;intro K hK)|refine Xz ?_|fail)
  refine lB jv (aG _) ?_
  repeat' (first|(refine Xr X0 ?_;intro K hK)|(refine hK _ ?_;clear hK K)|(refine Xi ?_ ?_<;>try intro ht)|refine Xz ?_|(refine Xe ?_;first|refine aK rfl ?_|refine Xl ?_ ?_)|fail)
  · rw[if_pos ht] at ao;rw[← ao]
  · rw[if_neg (by rw[ht];simp)] at ao;rw[← ao]
theorem R4 (m:aj) (plan:List Int) (hp:plan.length<9223372036854775808):an Tryz.prog 121 [.agg (ar m),.tree 1 (ints plan)] [] (.lit (.bool (oX m plan))) []:=by
  generalize ao:oX m plan=res
  unfold oX at ao
  refine an.aD (fn:=Tryz.f121) 30 0 [.tmp 4] Tryz.func121 rfl rfl rfl rfl rfl (by simp) ?_
  repeat' (first|(refine Xr X0 ?_;intro K hK)|(refine hK _ ?_;clear hK K)|(refine Xi ?_ ?_<;>try intro ht)|refine Xz ?_|(refine Xe ?_;first|refine aK rfl ?_|refine Xl ?_ ?_)|fail)
  · rw[if_pos (by omega)] at ao;rw[← ao]
  rw[if_neg (by omega)] at ao
  refine aU (fun k:Nat=>(⟨aw [(2,.ptr 0 0 0),(13,.tree 1 (ints plan)),(14,.lit (.int .i64 plan.length)),(15,.lit (.int .i64 k))],[.var (ar m)]⟩:St)) (fun k=>k≤plan.length∧qI m k (plan.drop k)=res) (fun k=>plan.length - k) 0 ⟨aM _,ao⟩ (Xv X0) ?_
  rintro k ⟨hk,hr⟩ Ql aq av
  by_cases aH:k<plan.length
  · have hd:=cA plan k 0 aH
    generalize aR:plan.getD k 0=o at *
    rw[hd,qI] at hr
    repeat' (first|(refine Xq @aR ?_;intro K hK)|refine Xo @aR ?_|refine Xc (Rs m k o) ?_|(refine hK _ ?_;clear hK K)|(refine Xg @aR ?_ ?_<;>try intro hb)|(refine Xi ?_ ?_<;>try intro ht)|refine Xz ?_|refine Xh ?_|(refine Xe ?_;first|refine aK rfl ?_|refine Xl ?_ ?_)|refine Xd ?_ ?_|exact Xx|fail)
    · rw[decide_eq_false (p:=o = -1) (by omega),ht] at hr;rw[← hr];rfl
    · rw[decide_eq_false (p:=o = -1) (by omega),ht,wc,ic] at hr
      exact aq _ (k+1) ⟨by omega,hr⟩ (by omega) (Xv X0)
    · rw[decide_eq_true (p:=o = -1) (by omega),qV,ic] at hr
      exact aq _ (k+1) ⟨by omega,hr⟩ (by omega) (Xv X0)
  · repeat' (first|(refine Xr X0 ?_;intro K hK)|(refine hK _ ?_;clear hK K)|(refine Xg X0 ?_ ?_<;>try intro hb)|(refine Xi ?_ ?_<;>try intro ht)|refine Xz ?_|refine Xh ?_|(refine Xe ?_;first|refine aK rfl ?_|refine Xl ?_ ?_)|refine Xd ?_ ?_|exact Xx|fail)
    rw[cB (by omega),qI] at hr
    rw[← hr]
end T

