import Derived.Test.YtdipcmigdbnheaaGreatX17
set_option linter.unusedVariables false
set_option linter.unusedSimpArgs false
set_option linter.unnecessarySimpa false
set_option linter.unusedSectionVars false
set_option maxHeartbeats 64000000
set_option maxRecDepth 20000
open Bool renaming eq_iff_iff→mB,and_eq_true→bh,or_eq_true→kB,not_eq_true'→j4,false_eq_true→jv,true_and→g9,true_or→tU,false_and→qc
open Nat renaming zero_le→aD,lt_or_ge→eK,le_refl→aH
open List renaming drop_eq_nil_of_le→dw
open Go Go.Am Go.Proofs
open Nat (reduceEqDiff reduceAdd reduceLeDiff reduceMul)
open Int (reduceNeg reduceLE reduceToNat)
namespace T
theorem abQ (l:List bK):ao Tryz.prog 136 [.tree 6 (rowsOf bX l)] [] (.lit (.bool (decide (24<l.length)))) []:=by
  refine ao.aF (fn:=Tryz.f136) 6 0 [.tmp 2] Tryz.func136 rfl rfl rfl rfl rfl (by simp) ?_
  repeat' (first|(refine Xr X0 ?_;intro K hK)|(refine hK _ ?_;clear hK K)|refine Xz ?_|(refine Xe ?_;first|refine aC rfl ?_|refine Xl ?_ ?_)|fail)
  (refine congrArg (fun b=>AV.lit (Value.bool b)) ?_;rw[mB];simp only[gt_iff_lt,decide_eq_true_eq,beq_iff_eq,bne_iff_ne,bh,kB,j4,decide_eq_false_iff_not,jv,reduceCtorEq,iff_true,iff_false,true_iff,false_iff,eq_self];omega)
theorem abR (m:ah) (hm:MB m):ao Tryz.prog 80 [.agg (ar m)] [] (.lit (.bool (qK m))) []:=by
  have h1:=hm.cls
  have h2:=abS m.cls 136 [] [] (fun l=>decide (24<l.length)) h1 (fun x _=>by simpa using abQ x)
  unfold qK
  generalize m.cls.any (fun l=>decide (24<l.length))=b at *
  cases b
  all_goals refine ao.aF (fn:=Tryz.f80) 36 0 [.tmp 2] Tryz.func80 rfl rfl rfl rfl rfl (by simp) ?_
  all_goals repeat' (first|(refine Xq X0 ?_;intro K hK)|refine Xo X0 ?_|refine Xc (h2) ?_|(refine hK _ ?_;clear hK K)|(refine Xg X0 ?_ ?_<;>try intro hb)|refine Xz ?_|(refine Xe ?_;first|refine aC rfl ?_|refine Xl ?_ ?_)|fail)
  all_goals first|rfl|(simp;done)|(refine congrArg (fun b=>AV.lit (Value.bool b)) ?_;rw[mB];simp only[or_true,true_or,or_false,false_or,decide_eq_true_eq,beq_iff_eq,bne_iff_ne,bh,kB,j4,decide_eq_false_iff_not,jv,reduceCtorEq,iff_true,iff_false,true_iff,false_iff,eq_self];omega)
theorem abT (m:ah) (o:bK) (ho:o.ch.length<9223372036854775808):ao Tryz.prog 83 [.agg (ar m),.agg (bX o)] [] (.lit (.bool (dF m.rules none o.ch))) []:=by
  generalize an:dF m.rules none o.ch=res
  refine ao.aF (fn:=Tryz.f83) 43 0 [.tmp 4] Tryz.func83 rfl rfl rfl rfl rfl (by simp) ?_
  repeat' (first|(refine Xr X0 ?_;intro K hK)|(refine hK _ ?_;clear hK K)|refine Xz ?_|fail)
  refine aI (fun k:Nat=>(⟨av [(2,.ptr 0 0 0),(3,.ptr 1 0 0),(8,.tree 2 (rowsOf aG o.ch)),(9,.lit (.int .i64 o.ch.length)),(10,.lit (.int .i64 k))],[.var (ar m),.var (bX o)]⟩:St)) (fun k=>k≤o.ch.length∧dF m.rules (kQ o.ch k) (o.ch.drop k)=res) (fun k=>o.ch.length - k) 0 ⟨aD _,an⟩ (Xv X0) ?_
  rintro k ⟨hk,hr⟩ Ql ak aq
  by_cases aP:k<o.ch.length
  · have hd:=dr o.ch k default aP
    generalize aO:o.ch.getD k default=c at *
    rw[hd,Ph] at hr
    have tj:=IM m c.1
    have gv:((k:Int) - 1).toNat=k - 1:=by omega
    repeat' (first|(refine Xq (X2 @aO @gv) ?_;intro K hK)|refine Xo (X2 @aO @gv) ?_|refine Xc (tj) ?_|refine Xc (IN c.2) ?_|(refine hK _ ?_;clear hK K)|(refine Xg (X2 @aO @gv) ?_ ?_<;>try intro hb)|(refine Xi ?_ ?_<;>try intro ht)|refine Xz ?_|refine Xh ?_|(refine Xe ?_;first|refine aC rfl ?_|refine Xl ?_ ?_)|refine Xd ?_ ?_|exact Xx|fail)
    · rw[← hr];simp[*]
    · rw[← hr];simp[*]
    · rw[← hr,decide_eq_false (p:=k=0) (by omega),decide_eq_false (p:=_<c.1) (by omega)];simp
    · refine ak _ (k+1) ⟨by omega,?_⟩ (by omega) (Xs false [0,1] X0)
      rw[td,aO,← hr,decide_eq_true (p:=_<c.1) ht];simp[*]
    · refine ak _ (k+1) ⟨by omega,?_⟩ (by omega) (Xs false [0,1] X0)
      rw[td,aO,← hr,decide_eq_true (p:=k=0) (by omega)];simp[*]
  · repeat' (first|(refine Xr X0 ?_;intro K hK)|(refine hK _ ?_;clear hK K)|(refine Xi ?_ ?_<;>try intro ht)|refine Xz ?_|refine Xh ?_|(refine Xe ?_;first|refine aC rfl ?_|refine Xl ?_ ?_)|refine Xd ?_ ?_|exact Xx|fail)
    rw[dw (by omega),dF] at hr
    rw[← hr]
theorem abU (a b:Pr):ao Tryz.prog 85 [.agg (aV a),.agg (aV b)] [] (.lit (.int .i64 (mS a b))) []:=by
  refine ao.aF (fn:=Tryz.f85) 22 0 [.tmp 4] Tryz.func85 rfl rfl rfl rfl rfl (by simp) ?_
  repeat' (first|(refine Xr X0 ?_;intro K hK)|(refine hK _ ?_;clear hK K)|refine Xz ?_|fail)
  (try (refine D8 [4,9,14] rfl (by decide) (by decide +kernel) ?_);intro K hK;simp (disch:=omega) only[Ac,↓Pc,simprocAttr])
  repeat' (first|refine Xo X0 ?_|refine Xc (Q2 _ _) ?_|fail)
  refine nR [] (Q3 [nA a.cB b.cB,nA a.fst b.fst,nA a.snd b.snd] (by simp)) (by decide) trivial ⟨aN.cd rfl (qq _) rfl (by decide) (sL _),trivial⟩ rfl (by simp) ?_
  repeat' (first|refine Xo X0 ?_|(refine hK _ ?_;clear hK K)|refine Xz ?_|(refine Xe ?_;first|refine aC rfl ?_|refine Xl ?_ ?_)|fail)
  · rfl
theorem abV (n:Int):ao Tryz.prog 142 [.lit (.int .i64 n)] [] (.lit (.bool (nt n))) []:=by
  refine ao.aF (fn:=Tryz.f142) 10 0 [.tmp 2] Tryz.func142 rfl rfl rfl rfl rfl (by simp) ?_
  repeat' (first|(refine Xq X0 ?_;intro K hK)|refine Xo X0 ?_|refine Xc (IN n) ?_|(refine hK _ ?_;clear hK K)|(refine Xg X0 ?_ ?_<;>try intro hb)|refine Xz ?_|(refine Xe ?_;first|refine aC rfl ?_|refine Xl ?_ ?_)|fail)
  all_goals (simp[nt, *]<;>omega)
theorem abW (m:ah) (p:Pr) (hp:p.ax.length<9223372036854775808) (hm:∀ l∈m.cls,l.length≤24) (hl:m.cls.length≤24):ao Tryz.prog 84 [.agg (ar m),.agg (aV p)] [] (.lit (.bool (fJ m p))) []:=by
  have hg:∀ i,(m.cls.getD i default).length≤24:=fun i=>by
    rcases eK i m.cls.length with h | h
    · exact hm _ (az h)
    · rw[List.getD_eq_getElem?_getD,List.getElem?_eq_none h];decide
  have h1:=hg p.fst.toNat
  have h2:=hg p.snd.toNat
  have hmul:(0:Int)≤(m.cls.getD p.fst.toNat default).length * (m.cls.getD p.snd.toNat default).length∧((m.cls.getD p.fst.toNat default).length:Int) * (m.cls.getD p.snd.toNat default).length≤24 * 24:=⟨Int.mul_nonneg (by omega) (by omega),Int.mul_le_mul (by omega) (by omega) (by omega) (by omega)⟩
  have hc:=OA p.ax 142 [] [] nt hp (fun x _=>by simpa using abV x)
  unfold fJ
  generalize xQ:((m.cls.getD p.fst.toNat default).length:Int) * (m.cls.getD p.snd.toNat default).length=mm at *
  refine ao.aF (fn:=Tryz.f84) 55 0 [.tmp 4] Tryz.func84 rfl rfl rfl rfl rfl (by simp) ?_
  repeat' (first|(refine Xq @xQ ?_;intro K hK)|refine Xo @xQ ?_|refine Xc (IM m p.cB) ?_|refine Xc (hc) ?_|(refine hK _ ?_;clear hK K)|(refine Xg @xQ ?_ ?_<;>try intro hb)|(refine Xi ?_ ?_<;>try intro ht)|refine Xz ?_|(refine Xe ?_;first|refine aC rfl ?_|refine Xl ?_ ?_)|refine Xd ?_ ?_|exact Xx|fail)
  · rw[hb];rfl
  iterate 4
    · rw[decide_eq_false (by omega)];simp
  · rw[decide_eq_true (by omega)];simp[*]
theorem abX (m:ah) (c:Ct) (hc:c.aK.length<9223372036854775808):ao Tryz.prog 88 [.agg (ar m),.agg (aU c)] [] (.lit (.bool (gV m c))) []:=by
  have IP:=IM m c.cB
  have n8:=IN c.bE
  generalize an:gV m c=res
  unfold gV at an
  refine ao.aF (fn:=Tryz.f88) 81 0 [.tmp 4] Tryz.func88 rfl rfl rfl rfl rfl (by simp) ?_
  repeat' (first|(refine Xq X0 ?_;intro K hK)|refine Xo X0 ?_|refine Xc (IP) ?_|refine Xc (n8) ?_|(refine hK _ ?_;clear hK K)|(refine Xg X0 ?_ ?_<;>try intro hb)|(refine Xi ?_ ?_<;>try intro ht)|refine Xz ?_|(refine Xe ?_;first|refine aC rfl ?_|refine Xl ?_ ?_)|exact Xx|fail)
  · rw[← an,hb];rfl
  · rw[← an,decide_eq_false (by omega)];simp
  · rw[← an,decide_eq_false (by omega)];simp
  · rw[← an,ht];simp
  have gp:(iL m.rules c.cB && decide (0≤c.most∧c.most≤1048576) && iM c.bE)=true:=by rw[decide_eq_true (by omega)];simp[*]
  rw[gp,g9] at an
  refine aI (fun k:Nat=>(⟨av [(2,.ptr 0 0 0),(3,.ptr 1 0 0),(29,.tree 3 (rowsOf gG c.aK)),(30,.lit (.int .i64 c.aK.length)),(31,.lit (.int .i64 k))],[.var (ar m),.var (aU c)]⟩:St)) (fun k=>k≤c.aK.length∧dR m (kQ c.aK k) (c.aK.drop k)=res) (fun k=>c.aK.length - k) 0 ⟨aD _,an⟩ (Xv X0) ?_
  rintro k ⟨hk,hr⟩ Ql ak aq
  by_cases aP:k<c.aK.length
  · have hd:=dr c.aK k default aP
    generalize aO:c.aK.getD k default=x at *
    rw[hd,Pk] at hr
    have gv:((k:Int) - 1).toNat=k - 1:=by omega
    generalize bT:c.aK.getD (k - 1) default=y at *
    repeat' (first|(refine Xr (X2 @aO @gv) ?_;intro K hK)|refine Xo (X2 @aO @gv) ?_|refine Xc (abY m x.cls x.opt) ?_|(refine hK _ ?_;clear hK K)|(refine Xg (X2 @aO @gv) ?_ ?_<;>try intro hb)|(refine Xi ?_ ?_<;>try intro ht)|refine Xz ?_|refine Xh ?_|(refine Xe ?_;first|refine aC rfl ?_|refine Xl ?_ ?_)|refine Xd ?_ ?_|exact Xx|fail)
    · rw[← hr,hb];simp
    · rw[← hr,decide_eq_false (p:=1≤x.wt∧x.wt≤1000) (by omega)];simp
    · rw[← hr,decide_eq_false (p:=1≤x.wt∧x.wt≤1000) (by omega)];simp
    have hw:decide (1≤x.wt∧x.wt≤1000)=true:=decide_eq_true (by omega)
    have aZ:eP m x.cls x.opt=true:=by assumption
    rw[aZ,hw,g9,g9] at hr
    (try (refine D8 [12,22] rfl (by decide) (by decide +kernel) ?_);intro K hK;simp (disch:=omega) only[Ac,↓Pc,simprocAttr,aO,gv,bT])
    repeat' (first|(refine Xq (X3 @aO @gv @bT) ?_;intro K hK)|refine Xo (X3 @aO @gv @bT) ?_|refine Xc (Q2 _ _) ?_|(refine hK _ ?_;clear hK K)|(refine Xg (X3 @aO @gv @bT) ?_ ?_<;>try intro hb)|(refine Xi ?_ ?_<;>try intro ht)|refine Xz ?_|refine Xd ?_ ?_|exact Xx|fail)
    · refine nR [] (Q3 [nA y.cls x.cls,nA y.opt x.opt] (by simp)) (by decide) trivial ⟨aN.cd rfl (qq _) rfl (by decide) (sL _),trivial⟩ rfl (by simp) ?_
      repeat' (first|(refine Xr (X3 @aO @gv @bT) ?_;intro K hK)|refine Xo (X3 @aO @gv @bT) ?_|(refine hK _ ?_;clear hK K)|(refine Xi ?_ ?_<;>try intro ht)|refine Xz ?_|refine Xh ?_|(refine Xe ?_;first|refine aC rfl ?_|refine Xl ?_ ?_)|refine Xd ?_ ?_|exact Xx|fail)
      · rw[← hr,decide_eq_false (p:=k=0) (by omega),decide_eq_false (p:=rV y x<0) (by unfold rV;omega)];simp
      · refine ak _ (k+1) ⟨by omega,?_⟩ (by omega) (Xs false [0,1] X0)
        rw[td,aO,← hr,decide_eq_true (p:=rV y x<0) (by unfold rV;omega)];simp
    · refine ak _ (k+1) ⟨by omega,?_⟩ (by omega) (Xs false [0,1] X0)
      rw[td,aO,← hr,decide_eq_true (p:=k=0) (by omega)];simp
  · repeat' (first|(refine Xr X0 ?_;intro K hK)|(refine hK _ ?_;clear hK K)|(refine Xi ?_ ?_<;>try intro ht)|refine Xz ?_|refine Xh ?_|(refine Xe ?_;first|refine aC rfl ?_|refine Xl ?_ ?_)|refine Xd ?_ ?_|exact Xx|fail)
    rw[dw (by omega),dR] at hr
    rw[← hr]
theorem abZ (m:ah) (o:bK) (ho:o.ch.length<9223372036854775808):ao Tryz.prog 82 [.agg (bX o),.ptr 0 0 0] [.var (ar m)] (.lit (.bool (!dF m.rules none o.ch))) [.var (ar m)]:=by
  refine ao.aF (fn:=Tryz.f82) 8 1 [.tmp 3] Tryz.func82 rfl rfl rfl rfl rfl (by simp) ?_
  refine Vd X0 (abT m o ho) ?_
  exact Xw false [0] X0
theorem ab0 (m:ah) (c:Ct) (hc:c.aK.length<9223372036854775808):ao Tryz.prog 87 [.agg (aU c),.ptr 0 0 0] [.var (ar m)] (.lit (.bool (!gV m c))) [.var (ar m)]:=by
  refine ao.aF (fn:=Tryz.f87) 8 1 [.tmp 3] Tryz.func87 rfl rfl rfl rfl rfl (by simp) ?_
  refine Vd X0 (abX m c hc) ?_
  exact Xw false [0] X0
theorem B3 {α:Type} [Inhabited α] {l:List α} {f:α→Bool} {k:Nat} (hk:k<l.length):(l.drop k).any f=(f (l.getD k default) || (l.drop (k+1)).any f):=by
  rw[dr l k default hk,List.any_cons]
theorem vI (m:ah) (hm:MB m):ao Tryz.prog 45 [.agg (ar m)] [] (.lit (.int .i64 (dI m))) []:=by
  generalize an:dI m=res
  unfold dI at an
  have qF:=hm.cls
  have B4:=hm.ae
  refine ao.aF (fn:=Tryz.f45) 52 0 [.tmp 2] Tryz.func45 rfl rfl rfl rfl rfl (by simp) ?_
  repeat' (first|(refine Xq X0 ?_;intro K hK)|refine Xc (abR m hm) ?_|(refine hK _ ?_;clear hK K)|(refine Xi ?_ ?_<;>try intro ht)|refine Xz ?_|(refine Xe ?_;first|refine aC rfl ?_|refine Xl ?_ ?_)|fail)
  · rw[if_pos ht] at an;rw[← an]
  rw[if_neg (by simp[ht])] at an
  have aW:m.cls.length≤24∧∀ l∈m.cls,l.length≤24:=by
    have h:=ht
    unfold qK at h
    rw[decide_eq_false_iff_not] at h
    refine⟨by omega,fun l hl=>?_⟩
    rcases eK 24 l.length with h1 | h1
    · exact absurd (.inr (.inl (List.any_eq_true.2 ⟨l,hl,by simpa using h1⟩))) h
    · exact h1
  clear ht
  refine aI (fun k:Nat=>(⟨av [(1,.ptr 0 0 0),(10,.tree 1 (rowsOf bn m.cls)),(11,.lit (.int .i64 m.cls.length)),(12,.lit (.int .i64 k))],[.var (ar m)]⟩:St)) (fun k=>k≤m.cls.length∧(m.cls.any fun l=>l.any fun o=>!dF m.rules none o.ch)=(m.cls.drop k).any fun l=>l.any fun o=>!dF m.rules none o.ch) (fun k=>m.cls.length - k) 0 ⟨aD _,rfl⟩ (Xv X0) ?_
  rintro k ⟨hk,hr⟩ Ql ak aq
  by_cases aP:k<m.cls.length
  · have cp:=az (d:=(default:List bK)) aP
    rw[B3 aP] at hr
    generalize aO:m.cls.getD k default=l at *
    have nf:=ab1 l 82 [.ptr 0 0 0] [.var (ar m)] (fun o=>!dF m.rules none o.ch) (hm.opt l cp) (fun o ho=>by simpa using abZ m o (hm.ch l cp o ho))
    repeat' (first|(refine Xr @aO ?_;intro K hK)|(refine hK _ ?_;clear hK K)|(refine Xi ?_ ?_<;>try intro ht)|refine Xz ?_|refine Xh ?_|refine Xd ?_ ?_|exact Xx|fail)
    refine mD nf (aH _) ?_
    repeat' (first|(refine Xr @aO ?_;intro K hK)|(refine hK _ ?_;clear hK K)|(refine Xi ?_ ?_<;>try intro ht)|refine Xz ?_|refine Xh ?_|(refine Xe ?_;first|refine aC rfl ?_|refine Xl ?_ ?_)|refine Xd ?_ ?_|exact Xx|fail)
    · rw[ht,tU] at hr
      rw[if_pos hr] at an;rw[← an]
    · rw[ht,Bool.false_or] at hr
      exact ak _ (k+1) ⟨by omega,hr⟩ (by omega) (Xv X0)
  rw[dw (by omega),List.any_nil] at hr
  rw[if_neg (by rw[hr];simp)] at an
  ((repeat' (first|refine Va X0 ?_|(refine Xi ?_ ?_<;>try intro ht)|exact Xx|fail)))
  refine aq _ _ rfl ?_;clear ak aq Ql
  clear hr aP hk
  repeat (refine Xu ?_)
  repeat' (first|(refine Xr X0 ?_;intro K hK)|(refine hK _ ?_;clear hK K)|refine Xz ?_|fail)
  refine aI (fun k:Nat=>(⟨av [(1,.ptr 0 0 0),(21,.tree 4 (rowsOf aV m.ae)),(22,.lit (.int .i64 m.ae.length)),(23,.lit (.int .i64 k))],[.var (ar m)]⟩:St)) (fun k=>k≤m.ae.length∧eI m none m.ae=eI m (kQ m.ae k) (m.ae.drop k)) (fun k=>m.ae.length - k) 0 ⟨aD _,rfl⟩ (Xv X0) ?_
  rintro k ⟨hk,hr⟩ Ql ak aq
  by_cases aP:k<m.ae.length
  · have cp:=az (d:=(default:Pr)) aP
    have hd:=dr m.ae k default aP
    have gv:((k:Int) - 1).toNat=k - 1:=by omega
    generalize aO:m.ae.getD k default=p at *
    rw[hd,Pj] at hr
    generalize bT:m.ae.getD (k - 1) default=q at *
    repeat' (first|(refine Xq (X3 @aO @gv @bT) ?_;intro K hK)|refine Xo (X3 @aO @gv @bT) ?_|refine Xc (abW m p (hm.ax p cp) aW.2 aW.1) ?_|refine Xc (abU q p) ?_|(refine hK _ ?_;clear hK K)|(refine Xg (X3 @aO @gv @bT) ?_ ?_<;>try intro hb)|(refine Xi ?_ ?_<;>try intro ht)|refine Xz ?_|refine Xh ?_|(refine Xe ?_;first|refine aC rfl ?_|refine Xl ?_ ?_)|refine Xd ?_ ?_|exact Xx|fail)
    · have B5:fJ m p=false:=by assumption
      rw[B5,qc,qc] at hr
      rw[if_pos hr] at an;rw[← an]
    · rw[decide_eq_false (p:=k=0) (by omega),decide_eq_false (p:=mS q p<0) (by omega),Bool.or_false,Bool.and_false,qc] at hr
      rw[if_pos hr] at an;rw[← an]
    · have B5:fJ m p=true:=by assumption
      rw[B5,decide_eq_true (p:=mS q p<0) (by omega),Bool.or_true,g9,g9] at hr
      refine ak _ (k+1) ⟨by omega,?_⟩ (by omega) (Xs false [0] X0)
      rw[td,aO];exact hr
    · have B5:fJ m p=true:=by assumption
      rw[B5,decide_eq_true (p:=k=0) (by omega),tU,g9,g9] at hr
      refine ak _ (k+1) ⟨by omega,?_⟩ (by omega) (Xs false [0] X0)
      rw[td,aO];exact hr
  rw[dw (by omega),eI] at hr
  rw[if_neg (by rw[hr];simp)] at an
  ((repeat' (first|refine Va X0 ?_|(refine Xi ?_ ?_<;>try intro ht)|exact Xx|fail)))
  refine aq _ _ rfl ?_;clear ak aq Ql
  clear hr aP hk
  repeat (refine Xu ?_)
  have nf:=ab2 m.au 87 [.ptr 0 0 0] [.var (ar m)] (fun c=>!gV m c) hm.au (fun c hc=>by simpa using ab0 m c (hm.kr c hc))
  repeat' (first|(refine Xr X0 ?_;intro K hK)|refine Xz ?_|fail)
  refine mD nf (aH _) ?_
  repeat' (first|(refine Xr X0 ?_;intro K hK)|(refine hK _ ?_;clear hK K)|(refine Xi ?_ ?_<;>try intro ht)|refine Xz ?_|(refine Xe ?_;first|refine aC rfl ?_|refine Xl ?_ ?_)|fail)
  · rw[if_pos ht] at an;rw[← an]
  · rw[if_neg (by rw[ht];simp)] at an;rw[← an]
end T

