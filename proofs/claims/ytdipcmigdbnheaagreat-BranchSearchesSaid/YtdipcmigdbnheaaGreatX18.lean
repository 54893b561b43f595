import Derived.Test.YtdipcmigdbnheaaGreatX17
set_option linter.unusedVariables false
set_option linter.unusedSimpArgs false
set_option linter.unnecessarySimpa false
set_option linter.unusedSectionVars false
set_option maxHeartbeats 64000000
set_option maxRecDepth 20000
open Bool renaming eq_iff_iff→mq,and_eq_true→a7,or_eq_true→jE,not_eq_true'→jh,false_eq_true→iJ,true_and→gV,true_or→rU,false_and→qI,or_true→vV
open Nat renaming zero_le→aH,lt_or_ge→dG,le_refl→aV
open List renaming drop_eq_nil_of_le→b6
open Go Go.Am Go.Proofs
open Nat (reduceEqDiff reduceAdd reduceLeDiff reduceMul)
open Int (reduceNeg reduceLE reduceToNat)
namespace T
theorem adN (l:List cB):ao Tryz.prog 136 [.tree 6 (rowsOf dJ l)] [] (.lit (.bool (decide (24<l.length)))) []:=by
  refine ao.aD (fn:=Tryz.f136) 6 0 [.tmp 2] Tryz.func136 rfl rfl rfl rfl rfl (by simp) ?_
  repeat' (first|(refine Xr X0 ?_;intro K hK)|(refine hK _ ?_;clear hK K)|refine Xz ?_|(refine Xe ?_;first|refine aE rfl ?_|refine Xl ?_ ?_)|fail)
  (refine congrArg (fun b=>AV.lit (Value.bool b)) ?_;rw[mq];simp only[gt_iff_lt,decide_eq_true_eq,beq_iff_eq,bne_iff_ne,a7,jE,jh,decide_eq_false_iff_not,iJ,reduceCtorEq,iff_true,iff_false,true_iff,false_iff,eq_self];omega)
theorem adO (m:ae) (hm:MB m):ao Tryz.prog 80 [.agg (au m)] [] (.lit (.bool (rC m))) []:=by
  have h1:=hm.cls
  have h2:=adP m.cls 136 [] [] (fun l=>decide (24<l.length)) h1 (fun x _=>by simpa using adN x)
  unfold rC
  generalize m.cls.any (fun l=>decide (24<l.length))=b at *
  cases b
  all_goals refine ao.aD (fn:=Tryz.f80) 36 0 [.tmp 2] Tryz.func80 rfl rfl rfl rfl rfl (by simp) ?_
  all_goals repeat' (first|(refine Xq X0 ?_;intro K hK)|refine Xo X0 ?_|refine Xc (h2) ?_|(refine hK _ ?_;clear hK K)|(refine Xg X0 ?_ ?_<;>try intro hb)|refine Xz ?_|(refine Xe ?_;first|refine aE rfl ?_|refine Xl ?_ ?_)|fail)
  all_goals first|rfl|(simp;done)|(refine congrArg (fun b=>AV.lit (Value.bool b)) ?_;rw[mq];simp only[or_true,true_or,or_false,false_or,decide_eq_true_eq,beq_iff_eq,bne_iff_ne,a7,jE,jh,decide_eq_false_iff_not,iJ,reduceCtorEq,iff_true,iff_false,true_iff,false_iff,eq_self];omega)
theorem adQ (m:ae) (o:cB) (ho:o.ch.length<9223372036854775808):ao Tryz.prog 83 [.agg (au m),.agg (dJ o)] [] (.lit (.bool (eA m.rules none o.ch))) []:=by
  generalize aj:eA m.rules none o.ch=res
  refine ao.aD (fn:=Tryz.f83) 43 0 [.tmp 4] Tryz.func83 rfl rfl rfl rfl rfl (by simp) ?_
  repeat' (first|(refine Xr X0 ?_;intro K hK)|(refine hK _ ?_;clear hK K)|refine Xz ?_|fail)
  refine aG (fun k:Nat=>(⟨aw [(2,.ptr 0 0 0),(3,.ptr 1 0 0),(8,.tree 2 (rowsOf bP o.ch)),(9,.lit (.int .i64 o.ch.length)),(10,.lit (.int .i64 k))],[.var (au m),.var (dJ o)]⟩:St)) (fun k=>k≤o.ch.length∧eA m.rules (lq o.ch k) (o.ch.drop k)=res) (fun k=>o.ch.length - k) 0 ⟨aH _,aj⟩ (Xv X0) ?_
  rintro k ⟨hk,hr⟩ Ql ak aq
  by_cases aF:k<o.ch.length
  · have hd:=b7 o.ch k default aF
    generalize aJ:o.ch.getD k default=c at *
    rw[hd,Sv] at hr
    have tV:=JS m c.1
    have fl:((k:Int) - 1).toNat=k - 1:=by omega
    repeat' (first|(refine Xq (X2 @aJ @fl) ?_;intro K hK)|refine Xo (X2 @aJ @fl) ?_|refine Xc (tV) ?_|refine Xc (JT c.2) ?_|(refine hK _ ?_;clear hK K)|(refine Xg (X2 @aJ @fl) ?_ ?_<;>try intro hb)|(refine Xi ?_ ?_<;>try intro ht)|refine Xz ?_|refine Xh ?_|(refine Xe ?_;first|refine aE rfl ?_|refine Xl ?_ ?_)|refine Xd ?_ ?_|exact Xx|fail)
    · rw[← hr];simp[*]
    · rw[← hr];simp[*]
    · rw[← hr,decide_eq_false (p:=k=0) (by omega),decide_eq_false (p:=_<c.1) (by omega)];simp
    · refine ak _ (k+1) ⟨by omega,?_⟩ (by omega) (Xs false [0,1] X0)
      rw[uu,aJ,← hr,decide_eq_true (p:=_<c.1) ht];simp[*]
    · refine ak _ (k+1) ⟨by omega,?_⟩ (by omega) (Xs false [0,1] X0)
      rw[uu,aJ,← hr,decide_eq_true (p:=k=0) (by omega)];simp[*]
  · repeat' (first|(refine Xr X0 ?_;intro K hK)|(refine hK _ ?_;clear hK K)|(refine Xi ?_ ?_<;>try intro ht)|refine Xz ?_|refine Xh ?_|(refine Xe ?_;first|refine aE rfl ?_|refine Xl ?_ ?_)|refine Xd ?_ ?_|exact Xx|fail)
    rw[b6 (by omega),eA] at hr
    rw[← hr]
theorem adR (a b:Pr):ao Tryz.prog 85 [.agg (bc a),.agg (bc b)] [] (.lit (.int .i64 (nw a b))) []:=by
  refine ao.aD (fn:=Tryz.f85) 22 0 [.tmp 4] Tryz.func85 rfl rfl rfl rfl rfl (by simp) ?_
  repeat' (first|(refine Xr X0 ?_;intro K hK)|(refine hK _ ?_;clear hK K)|refine Xz ?_|fail)
  (try (refine Ak [4,9,14] rfl (by decide) (by decide +kernel) ?_);intro K hK;simp (disch:=omega) only[Ac,↓Pc,simprocAttr])
  repeat' (first|refine Xo X0 ?_|refine Xc (C3 _ _) ?_|fail)
  refine oz [] (JU [jg a.db b.db,jg a.fst b.fst,jg a.snd b.snd] (by simp)) (by decide) trivial ⟨aO.cI rfl (oB _) rfl (by decide) (pw _),trivial⟩ rfl (by simp) ?_
  repeat' (first|refine Xo X0 ?_|(refine hK _ ?_;clear hK K)|refine Xz ?_|(refine Xe ?_;first|refine aE rfl ?_|refine Xl ?_ ?_)|fail)
  · rfl
theorem adS (n:Int):ao Tryz.prog 142 [.lit (.int .i64 n)] [] (.lit (.bool (n5 n))) []:=by
  refine ao.aD (fn:=Tryz.f142) 10 0 [.tmp 2] Tryz.func142 rfl rfl rfl rfl rfl (by simp) ?_
  repeat' (first|(refine Xq X0 ?_;intro K hK)|refine Xo X0 ?_|refine Xc (JT n) ?_|(refine hK _ ?_;clear hK K)|(refine Xg X0 ?_ ?_<;>try intro hb)|refine Xz ?_|(refine Xe ?_;first|refine aE rfl ?_|refine Xl ?_ ?_)|fail)
  all_goals (simp[n5, *]<;>omega)
theorem adT (m:ae) (p:Pr) (hp:p.aP.length<9223372036854775808) (hm:∀ l∈m.cls,l.length≤24) (hl:m.cls.length≤24):ao Tryz.prog 84 [.agg (au m),.agg (bc p)] [] (.lit (.bool (eG m p))) []:=by
  have hg:∀ i,(m.cls.getD i default).length≤24:=fun i=>by
    rcases dG i m.cls.length with h | h
    · exact hm _ (az h)
    · rw[List.getD_eq_getElem?_getD,List.getElem?_eq_none h];decide
  have h1:=hg p.fst.toNat
  have h2:=hg p.snd.toNat
  have hmul:(0:Int)≤(m.cls.getD p.fst.toNat default).length * (m.cls.getD p.snd.toNat default).length∧((m.cls.getD p.fst.toNat default).length:Int) * (m.cls.getD p.snd.toNat default).length≤24 * 24:=⟨Int.mul_nonneg (by omega) (by omega),Int.mul_le_mul (by omega) (by omega) (by omega) (by omega)⟩
  have hc:=QV p.aP 142 [] [] n5 hp (fun x _=>by simpa using adS x)
  unfold eG
  generalize y7:((m.cls.getD p.fst.toNat default).length:Int) * (m.cls.getD p.snd.toNat default).length=mm at *
  refine ao.aD (fn:=Tryz.f84) 55 0 [.tmp 4] Tryz.func84 rfl rfl rfl rfl rfl (by simp) ?_
  repeat' (first|(refine Xq @y7 ?_;intro K hK)|refine Xo @y7 ?_|refine Xc (JS m p.db) ?_|refine Xc (hc) ?_|(refine hK _ ?_;clear hK K)|(refine Xg @y7 ?_ ?_<;>try intro hb)|(refine Xi ?_ ?_<;>try intro ht)|refine Xz ?_|(refine Xe ?_;first|refine aE rfl ?_|refine Xl ?_ ?_)|refine Xd ?_ ?_|exact Xx|fail)
  · rw[hb];rfl
  iterate 4
    · rw[decide_eq_false (by omega)];simp
  · rw[decide_eq_true (by omega)];simp[*]
theorem adU (m:ae) (c:Ct) (hc:c.aA.length<9223372036854775808):ao Tryz.prog 88 [.agg (au m),.agg (bu c)] [] (.lit (.bool (fP m c))) []:=by
  have JV:=JS m c.db
  have qq:=JT c.bg
  generalize aj:fP m c=res
  unfold fP at aj
  refine ao.aD (fn:=Tryz.f88) 81 0 [.tmp 4] Tryz.func88 rfl rfl rfl rfl rfl (by simp) ?_
  repeat' (first|(refine Xq X0 ?_;intro K hK)|refine Xo X0 ?_|refine Xc (JV) ?_|refine Xc (qq) ?_|(refine hK _ ?_;clear hK K)|(refine Xg X0 ?_ ?_<;>try intro hb)|(refine Xi ?_ ?_<;>try intro ht)|refine Xz ?_|(refine Xe ?_;first|refine aE rfl ?_|refine Xl ?_ ?_)|exact Xx|fail)
  · rw[← aj,hb];rfl
  · rw[← aj,decide_eq_false (by omega)];simp
  · rw[← aj,decide_eq_false (by omega)];simp
  · rw[← aj,ht];simp
  have dE:(iP m.rules c.db && decide (0≤c.most∧c.most≤1048576) && fK c.bg)=true:=by rw[decide_eq_true (by omega)];simp[*]
  rw[dE,gV] at aj
  refine aG (fun k:Nat=>(⟨aw [(2,.ptr 0 0 0),(3,.ptr 1 0 0),(29,.tree 3 (rowsOf dF c.aA)),(30,.lit (.int .i64 c.aA.length)),(31,.lit (.int .i64 k))],[.var (au m),.var (bu c)]⟩:St)) (fun k=>k≤c.aA.length∧eo m (lq c.aA k) (c.aA.drop k)=res) (fun k=>c.aA.length - k) 0 ⟨aH _,aj⟩ (Xv X0) ?_
  rintro k ⟨hk,hr⟩ Ql ak aq
  by_cases aF:k<c.aA.length
  · have hd:=b7 c.aA k default aF
    generalize aJ:c.aA.getD k default=x at *
    rw[hd,Sx] at hr
    have fl:((k:Int) - 1).toNat=k - 1:=by omega
    generalize bQ:c.aA.getD (k - 1) default=y at *
    repeat' (first|(refine Xr (X2 @aJ @fl) ?_;intro K hK)|refine Xo (X2 @aJ @fl) ?_|refine Xc (S3 m x.cls x.opt) ?_|(refine hK _ ?_;clear hK K)|(refine Xg (X2 @aJ @fl) ?_ ?_<;>try intro hb)|(refine Xi ?_ ?_<;>try intro ht)|refine Xz ?_|refine Xh ?_|(refine Xe ?_;first|refine aE rfl ?_|refine Xl ?_ ?_)|refine Xd ?_ ?_|exact Xx|fail)
    · rw[← hr,hb];simp
    · rw[← hr,decide_eq_false (p:=1≤x.wt∧x.wt≤1000) (by omega)];simp
    · rw[← hr,decide_eq_false (p:=1≤x.wt∧x.wt≤1000) (by omega)];simp
    have hw:decide (1≤x.wt∧x.wt≤1000)=true:=decide_eq_true (by omega)
    have cj:ez m x.cls x.opt=true:=by assumption
    rw[cj,hw,gV,gV] at hr
    (try (refine Ak [12,22] rfl (by decide) (by decide +kernel) ?_);intro K hK;simp (disch:=omega) only[Ac,↓Pc,simprocAttr,aJ,fl,bQ])
    repeat' (first|(refine Xq (X3 @aJ @fl @bQ) ?_;intro K hK)|refine Xo (X3 @aJ @fl @bQ) ?_|refine Xc (C3 _ _) ?_|(refine hK _ ?_;clear hK K)|(refine Xg (X3 @aJ @fl @bQ) ?_ ?_<;>try intro hb)|(refine Xi ?_ ?_<;>try intro ht)|refine Xz ?_|refine Xd ?_ ?_|exact Xx|fail)
    · refine oz [] (JU [jg y.cls x.cls,jg y.opt x.opt] (by simp)) (by decide) trivial ⟨aO.cI rfl (oB _) rfl (by decide) (pw _),trivial⟩ rfl (by simp) ?_
      repeat' (first|(refine Xr (X3 @aJ @fl @bQ) ?_;intro K hK)|refine Xo (X3 @aJ @fl @bQ) ?_|(refine hK _ ?_;clear hK K)|(refine Xi ?_ ?_<;>try intro ht)|refine Xz ?_|refine Xh ?_|(refine Xe ?_;first|refine aE rfl ?_|refine Xl ?_ ?_)|refine Xd ?_ ?_|exact Xx|fail)
      · rw[← hr,decide_eq_false (p:=k=0) (by omega),decide_eq_false (p:=sO y x<0) (by unfold sO;omega)];simp
      · refine ak _ (k+1) ⟨by omega,?_⟩ (by omega) (Xs false [0,1] X0)
        rw[uu,aJ,← hr,decide_eq_true (p:=sO y x<0) (by unfold sO;omega)];simp
    · refine ak _ (k+1) ⟨by omega,?_⟩ (by omega) (Xs false [0,1] X0)
      rw[uu,aJ,← hr,decide_eq_true (p:=k=0) (by omega)];simp
  · repeat' (first|(refine Xr X0 ?_;intro K hK)|(refine hK _ ?_;clear hK K)|(refine Xi ?_ ?_<;>try intro ht)|refine Xz ?_|refine Xh ?_|(refine Xe ?_;first|refine aE rfl ?_|refine Xl ?_ ?_)|refine Xd ?_ ?_|exact Xx|fail)
    rw[b6 (by omega),eo] at hr
    rw[← hr]
theorem adV (m:ae) (o:cB) (ho:o.ch.length<9223372036854775808):ao Tryz.prog 82 [.agg (dJ o),.ptr 0 0 0] [.var (au m)] (.lit (.bool (!eA m.rules none o.ch))) [.var (au m)]:=by
  refine ao.aD (fn:=Tryz.f82) 8 1 [.tmp 3] Tryz.func82 rfl rfl rfl rfl rfl (by simp) ?_
  refine Vd X0 (adQ m o ho) ?_
  exact Xw false [0] X0
theorem adW (m:ae) (c:Ct) (hc:c.aA.length<9223372036854775808):ao Tryz.prog 87 [.agg (bu c),.ptr 0 0 0] [.var (au m)] (.lit (.bool (!fP m c))) [.var (au m)]:=by
  refine ao.aD (fn:=Tryz.f87) 8 1 [.tmp 3] Tryz.func87 rfl rfl rfl rfl rfl (by simp) ?_
  refine Vd X0 (adU m c hc) ?_
  exact Xw false [0] X0
theorem C4 {α:Type} [Inhabited α] {l:List α} {f:α→Bool} {k:Nat} (hk:k<l.length):(l.drop k).any f=(f (l.getD k default) || (l.drop (k+1)).any f):=by
  rw[b7 l k default hk,List.any_cons]
theorem sI (m:ae) (hm:MB m):ao Tryz.prog 45 [.agg (au m)] [] (.lit (.int .i64 (dW m))) []:=by
  generalize aj:dW m=res
  unfold dW at aj
  have me:=hm.cls
  have vB:=hm.ah
  refine ao.aD (fn:=Tryz.f45) 52 0 [.tmp 2] Tryz.func45 rfl rfl rfl rfl rfl (by simp) ?_
  repeat' (first|(refine Xq X0 ?_;intro K hK)|refine Xc (adO m hm) ?_|(refine hK _ ?_;clear hK K)|(refine Xi ?_ ?_<;>try intro ht)|refine Xz ?_|(refine Xe ?_;first|refine aE rfl ?_|refine Xl ?_ ?_)|fail)
  · rw[if_pos ht] at aj;rw[← aj]
  rw[if_neg (by simp[ht])] at aj
  have a5:m.cls.length≤24∧∀ l∈m.cls,l.length≤24:=by
    have h:=ht
    unfold rC at h
    rw[decide_eq_false_iff_not] at h
    refine⟨by omega,fun l hl=>?_⟩
    rcases dG 24 l.length with h1 | h1
    · exact absurd (.inr (.inl (List.any_eq_true.2 ⟨l,hl,by simpa using h1⟩))) h
    · exact h1
  clear ht
  refine aG (fun k:Nat=>(⟨aw [(1,.ptr 0 0 0),(10,.tree 1 (rowsOf bA m.cls)),(11,.lit (.int .i64 m.cls.length)),(12,.lit (.int .i64 k))],[.var (au m)]⟩:St)) (fun k=>k≤m.cls.length∧(m.cls.any fun l=>l.any fun o=>!eA m.rules none o.ch)=(m.cls.drop k).any fun l=>l.any fun o=>!eA m.rules none o.ch) (fun k=>m.cls.length - k) 0 ⟨aH _,rfl⟩ (Xv X0) ?_
  rintro k ⟨hk,hr⟩ Ql ak aq
  by_cases aF:k<m.cls.length
  · have cd:=az (d:=(default:List cB)) aF
    rw[C4 aF] at hr
    generalize aJ:m.cls.getD k default=l at *
    have fe:=adX l 82 [.ptr 0 0 0] [.var (au m)] (fun o=>!eA m.rules none o.ch) (hm.opt l cd) (fun o ho=>by simpa using adV m o (hm.ch l cd o ho))
    repeat' (first|(refine Xr @aJ ?_;intro K hK)|(refine hK _ ?_;clear hK K)|(refine Xi ?_ ?_<;>try intro ht)|refine Xz ?_|refine Xh ?_|refine Xd ?_ ?_|exact Xx|fail)
    refine mu fe (aV _) ?_
    repeat' (first|(refine Xr @aJ ?_;intro K hK)|(refine hK _ ?_;clear hK K)|(refine Xi ?_ ?_<;>try intro ht)|refine Xz ?_|refine Xh ?_|(refine Xe ?_;first|refine aE rfl ?_|refine Xl ?_ ?_)|refine Xd ?_ ?_|exact Xx|fail)
    · rw[ht,rU] at hr
      rw[if_pos hr] at aj;rw[← aj]
    · rw[ht,Bool.false_or] at hr
      exact ak _ (k+1) ⟨by omega,hr⟩ (by omega) (Xv X0)
  rw[b6 (by omega),List.any_nil] at hr
  rw[if_neg (by rw[hr];simp)] at aj
  ((repeat' (first|refine Va X0 ?_|(refine Xi ?_ ?_<;>try intro ht)|exact Xx|fail)))
  refine aq _ _ rfl ?_;clear ak aq Ql
  clear hr aF hk
  repeat (refine Xu ?_)
  repeat' (first|(refine Xr X0 ?_;intro K hK)|(refine hK _ ?_;clear hK K)|refine Xz ?_|fail)
  refine aG (fun k:Nat=>(⟨aw [(1,.ptr 0 0 0),(21,.tree 4 (rowsOf bc m.ah)),(22,.lit (.int .i64 m.ah.length)),(23,.lit (.int .i64 k))],[.var (au m)]⟩:St)) (fun k=>k≤m.ah.length∧fQ m none m.ah=fQ m (lq m.ah k) (m.ah.drop k)) (fun k=>m.ah.length - k) 0 ⟨aH _,rfl⟩ (Xv X0) ?_
  rintro k ⟨hk,hr⟩ Ql ak aq
  by_cases aF:k<m.ah.length
  · have cd:=az (d:=(default:Pr)) aF
    have hd:=b7 m.ah k default aF
    have fl:((k:Int) - 1).toNat=k - 1:=by omega
    generalize aJ:m.ah.getD k default=p at *
    rw[hd,Sw] at hr
    generalize bQ:m.ah.getD (k - 1) default=q at *
    repeat' (first|(refine Xq (X3 @aJ @fl @bQ) ?_;intro K hK)|refine Xo (X3 @aJ @fl @bQ) ?_|refine Xc (adT m p (hm.aP p cd) a5.2 a5.1) ?_|refine Xc (adR q p) ?_|(refine hK _ ?_;clear hK K)|(refine Xg (X3 @aJ @fl @bQ) ?_ ?_<;>try intro hb)|(refine Xi ?_ ?_<;>try intro ht)|refine Xz ?_|refine Xh ?_|(refine Xe ?_;first|refine aE rfl ?_|refine Xl ?_ ?_)|refine Xd ?_ ?_|exact Xx|fail)
    · have C5:eG m p=false:=by assumption
      rw[C5,qI,qI] at hr
      rw[if_pos hr] at aj;rw[← aj]
    · rw[decide_eq_false (p:=k=0) (by omega),decide_eq_false (p:=nw q p<0) (by omega),Bool.or_false,Bool.and_false,qI] at hr
      rw[if_pos hr] at aj;rw[← aj]
    · have C5:eG m p=true:=by assumption
      rw[C5,decide_eq_true (p:=nw q p<0) (by omega),vV,gV,gV] at hr
      refine ak _ (k+1) ⟨by omega,?_⟩ (by omega) (Xs false [0] X0)
      rw[uu,aJ];exact hr
    · have C5:eG m p=true:=by assumption
      rw[C5,decide_eq_true (p:=k=0) (by omega),rU,gV,gV] at hr
      refine ak _ (k+1) ⟨by omega,?_⟩ (by omega) (Xs false [0] X0)
      rw[uu,aJ];exact hr
  rw[b6 (by omega),fQ] at hr
  rw[if_neg (by rw[hr];simp)] at aj
  ((repeat' (first|refine Va X0 ?_|(refine Xi ?_ ?_<;>try intro ht)|exact Xx|fail)))
  refine aq _ _ rfl ?_;clear ak aq Ql
  clear hr aF hk
  repeat (refine Xu ?_)
  have fe:=adY m.av 87 [.ptr 0 0 0] [.var (au m)] (fun c=>!fP m c) hm.av (fun c hc=>by simpa using adW m c (hm.lr c hc))
  repeat' (first|(refine Xr X0 ?_;intro K hK)|refine Xz ?_|fail)
  refine mu fe (aV _) ?_
  repeat' (first|(refine Xr X0 ?_;intro K hK)|(refine hK _ ?_;clear hK K)|(refine Xi ?_ ?_<;>try intro ht)|refine Xz ?_|(refine Xe ?_;first|refine aE rfl ?_|refine Xl ?_ ?_)|fail)
  · rw[if_pos ht] at aj;rw[← aj]
  · rw[if_neg (by rw[ht];simp)] at aj;rw[← aj]
theorem S4 (m:ae) (plan:List Int) (hp:plan.length<9223372036854775808):ao Tryz.prog 121 [.agg (au m),.tree 1 (ints plan)] [] (.lit (.bool (oS m plan))) []:=by
  generalize aj:oS m plan=res
  unfold oS at aj
  refine ao.aD (fn:=Tryz.f121) 30 0 [.tmp 4] Tryz.func121 rfl rfl rfl rfl rfl (by simp) ?_
  repeat' (first|(refine Xr X0 ?_;intro K hK)|(refine hK _ ?_;clear hK K)|(refine Xi ?_ ?_<;>try intro ht)|refine Xz ?_|(refine Xe ?_;first|refine aE rfl ?_|refine Xl ?_ ?_)|fail)
  · rw[if_pos (by omega)] at aj;rw[← aj]
  rw[if_neg (by omega)] at aj
  refine aG (fun k:Nat=>(⟨aw [(2,.ptr 0 0 0),(13,.tree 1 (ints plan)),(14,.lit (.int .i64 plan.length)),(15,.lit (.int .i64 k))],[.var (au m)]⟩:St)) (fun k=>k≤plan.length∧oR m k (plan.drop k)=res) (fun k=>plan.length - k) 0 ⟨aH _,aj⟩ (Xv X0) ?_
  rintro k ⟨hk,hr⟩ Ql ak aq
  by_cases aF:k<plan.length
  · have hd:=b7 plan k 0 aF
    generalize aJ:plan.getD k 0=o at *
    rw[hd,oR] at hr
    repeat' (first|(refine Xq @aJ ?_;intro K hK)|refine Xo @aJ ?_|refine Xc (S3 m k o) ?_|(refine hK _ ?_;clear hK K)|(refine Xg @aJ ?_ ?_<;>try intro hb)|(refine Xi ?_ ?_<;>try intro ht)|refine Xz ?_|refine Xh ?_|(refine Xe ?_;first|refine aE rfl ?_|refine Xl ?_ ?_)|refine Xd ?_ ?_|exact Xx|fail)
    · rw[decide_eq_false (p:=o = -1) (by omega),ht] at hr;rw[← hr];rfl
    · rw[decide_eq_false (p:=o = -1) (by omega),ht,vV,gV] at hr
      exact ak _ (k+1) ⟨by omega,hr⟩ (by omega) (Xv X0)
    · rw[decide_eq_true (p:=o = -1) (by omega),rU,gV] at hr
      exact ak _ (k+1) ⟨by omega,hr⟩ (by omega) (Xv X0)
  · repeat' (first|(refine Xr X0 ?_;intro K hK)|(refine hK _ ?_;clear hK K)|(refine Xg X0 ?_ ?_<;>try intro hb)|(refine Xi ?_ ?_<;>try intro ht)|refine Xz ?_|refine Xh ?_|(refine Xe ?_;first|refine aE rfl ?_|refine Xl ?_ ?_)|refine Xd ?_ ?_|exact Xx|fail)
    rw[b6 (by omega),oR] at hr
    rw[← hr]
end T

