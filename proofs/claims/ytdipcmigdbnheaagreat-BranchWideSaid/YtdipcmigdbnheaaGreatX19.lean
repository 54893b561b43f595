import Derived.Test.YtdipcmigdbnheaaGreatX18
import Derived.Test.YtdipcmigdbnheaaGreatX13
set_option linter.unusedVariables false
set_option linter.unusedSimpArgs false
set_option linter.unnecessarySimpa false
set_option linter.unusedSectionVars false
set_option maxHeartbeats 64000000
set_option maxRecDepth 20000
open Nat renaming zero_le→aH,lt_or_ge→dG
open Bool renaming true_or→rU,false_or→lA,eq_iff_iff→mq,and_eq_true→a7,or_eq_true→jE,not_eq_true'→jh,false_eq_true→iJ,true_and→gV,not_false→kl,not_true→hU
open List renaming drop_eq_nil_of_le→b6,any_nil→Eb,replicate→aW
open Int renaming toNat_natCast→dg,toNat_of_nonneg→mr,le_refl→c9
open Go Go.Am Go.Proofs
open Nat (reduceEqDiff reduceAdd reduceLeDiff reduceMul)
open Int (reduceNeg reduceLE reduceToNat)
namespace T
theorem ae4 (m:ae) (hm:MB m):ao Tryz.prog 58 [.agg (au m)] [] (.lit (.bool (!rC m))) []:=by
  have me:=hm.cls
  have vB:=hm.ah
  have Ba:=hm.av
  unfold rC
  generalize vF:m.cls.any (fun l=>decide (24<l.length))=b
  refine ao.aD (fn:=Tryz.f58) 44 0 [.tmp 2] Tryz.func58 rfl rfl rfl rfl rfl (by simp) ?_
  refine Vb X0 ?_
  refine aG (fun i:Nat=>(⟨aw [(1,.ptr 0 0 0),(3,.lit (.int .i64 i))],[.var (au m)]⟩:St)) (fun i=>i≤m.cls.length∧(m.cls.drop i).any (fun l=>decide (24<l.length))=b) (fun i=>m.cls.length - i) 0 ⟨aH _,vF⟩ (Xv X0) ?_
  rintro i ⟨hi,hr⟩ Ql ak aq
  by_cases ax:i<m.cls.length
  · have jn:=hm.opt _ (az (d:=(default:List cB)) ax)
    rw[C4 ax] at hr
    generalize eV:m.cls.getD i default=l at *
    ((repeat' (first|refine Va @eV ?_|(refine Xi ?_ ?_<;>try intro ht)|exact Xx|fail)))
    · rw[decide_eq_true (p:=24<l.length) (by omega),rU] at hr
      subst hr
      refine Vb X0 ?_
      exact aE rfl (by simp)
    · rw[decide_eq_false (p:=24<l.length) (by omega),lA] at hr
      exact ak _ (i+1) ⟨by omega,hr⟩ (by omega) (Xv X0)
  · rw[b6 (by omega),Eb] at hr
    subst hr
    ((repeat' (first|refine Va X0 ?_|(refine Xi ?_ ?_<;>try intro ht)|exact Xx|fail)))
    refine aq _ _ rfl ?_;clear ak aq Ql
    repeat (refine Xu ?_)
    ((repeat' (first|refine Vb X0 ?_|(refine V2 X0 ?_ ?_<;>try with_reducible intro hb)|fail)))
    all_goals refine aE rfl ?_
    all_goals (refine congrArg (fun b=>AV.lit (Value.bool b)) ?_;rw[mq];simp only[or_true,true_or,or_false,false_or,decide_eq_true_eq,beq_iff_eq,bne_iff_ne,a7,jE,jh,decide_eq_false_iff_not,iJ,reduceCtorEq,iff_true,iff_false,true_iff,false_iff,eq_self];omega)
theorem ae5 (m:ae) (k:Nat) (hk:k<m.ah.length) (hp:∀ p∈m.ah,p.aP.length<9223372036854775808) (hm:∀ l∈m.cls,l.length≤24) (hl:m.cls.length≤24) (b9:m.ah.length<9223372036854775808) :
    ao Tryz.prog 61 [.agg (au m),.lit (.int .i64 k)] [] (.lit (.bool (eG m (m.ah.getD k default) && (decide (k=0) || decide (nw (m.ah.getD (k - 1) default) (m.ah.getD k default)<0))))) []:=by
  have fl:((k:Int) - 1).toNat=k - 1:=by omega
  have Gb:=hp _ (az (d:=(default:Pr)) hk)
  generalize bQ:m.ah.getD k default=p at *
  generalize Wn:m.ah.getD (k - 1) default=q at *
  have hg:∀ i,(m.cls.getD i default).length≤24:=fun i=>by
    rcases dG i m.cls.length with h | h
    · exact hm _ (az h)
    · rw[List.getD_eq_getElem?_getD,List.getElem?_eq_none h];decide
  have h1:=hg p.fst.toNat
  have h2:=hg p.snd.toNat
  have hmul:(0:Int)≤(m.cls.getD p.fst.toNat default).length * (m.cls.getD p.snd.toNat default).length∧((m.cls.getD p.fst.toNat default).length:Int) * (m.cls.getD p.snd.toNat default).length≤24 * 24:=⟨Int.mul_nonneg (by omega) (by omega),Int.mul_le_mul (by omega) (by omega) (by omega) (by omega)⟩
  have ae6:decide (nw q p<0)=(decide (q.db<p.db) || decide (q.db=p.db) && (decide (q.fst<p.fst) || decide (q.fst=p.fst) && decide (q.snd<p.snd))):=by
    rw[mq]
    simp only[decide_eq_true_eq,jE,a7,Jn]
  have Kr:=JZ m p.db
  rw[ae6]
  unfold eG
  generalize vF:p.aP.any n5=bad
  generalize y7:((m.cls.getD p.fst.toNat default).length:Int) * (m.cls.getD p.snd.toNat default).length=mm at *
  generalize hD:decide (0≤p.fst∧p.fst<p.snd∧p.snd<m.cls.length∧(p.aP.length:Int)=mm)=D
  generalize hO:(decide (q.db<p.db) || decide (q.db=p.db) && (decide (q.fst<p.fst) || decide (q.fst=p.fst) && decide (q.snd<p.snd)))=O
  refine ao.aD (fn:=Tryz.f61) 114 0 [.tmp 4] Tryz.func61 rfl rfl rfl rfl rfl (by simp) ?_
  ((repeat' (first|refine Vd (X2 @bQ @y7) Kr ?_|(refine V2 (X2 @bQ @y7) ?_ ?_<;>try with_reducible intro hb)|(refine Xi ?_ ?_<;>try intro ht)|exact Xx|fail)))
  all_goals try (refine aE rfl ?_;first|(rw[hb];rfl)|(rw[show D=false by rw[← hD];exact decide_eq_false (by omega)];simp;done))
  have Ks:D=true:=by rw[← hD];exact decide_eq_true (by omega)
  subst Ks
  have ux:iP m.rules p.db=true:=by assumption
  refine aG (fun i:Nat=>(⟨aw [(1,.lit (.int .i64 k)),(2,.ptr 0 0 0),(5,.ptr 1 0 0),(6,.lit (.int .i64 i))],[.var (au m),.var (bc p)]⟩:St)) (fun i=>i≤p.aP.length∧(p.aP.drop i).any n5=bad) (fun i=>p.aP.length - i) 0 ⟨aH _,vF⟩ (Xv X0) ?_
  rintro i ⟨hi,hr⟩ Ql ak aq
  by_cases ax:i<p.aP.length
  · rw[b7 p.aP i 0 ax,List.any_cons] at hr
    generalize bS:p.aP.getD i 0=x at *
    ((repeat' (first|refine Vc @bS (JY x) ?_|(refine V2 @bS ?_ ?_<;>try with_reducible intro hb)|(refine Xi ?_ ?_<;>try intro ht)|exact Xx|fail)))
    · rw[show n5 x=true by simp[n5, *],rU] at hr
      subst hr
      refine Vb X0 ?_
      exact aE rfl (by simp)
    · rw[show n5 x=false by simp[n5, *],lA] at hr
      exact ak _ (i+1) ⟨by omega,hr⟩ (by omega) (Xs false [0,1] X0)
    · rw[show n5 x=false by simp[n5, *],lA] at hr
      exact ak _ (i+1) ⟨by omega,hr⟩ (by omega) (Xs false [0,1] X0)
  · rw[b6 (by omega),Eb] at hr
    subst hr
    ((repeat' (first|refine Va X0 ?_|(refine V2 X0 ?_ ?_<;>try with_reducible intro hb)|(refine Xi ?_ ?_<;>try intro ht)|exact Xx|fail)))
    refine aq _ _ rfl ?_;clear ak aq Ql
    repeat (refine Xu ?_)
    ((repeat' (first|refine Vb (X2 @Wn @fl) ?_|(refine Xi ?_ ?_<;>try intro ht)|fail)))
    all_goals refine aE rfl ?_
    all_goals rw[ux,gV,gV]
    · rw[decide_eq_true (p:=k=0) (by omega)];simp
    all_goals rw[decide_eq_false (p:=k=0) (by omega),← hO]
    all_goals (refine congrArg (fun b=>AV.lit (Value.bool b)) ?_;rw[mq];simp only[lA,kl,true_and,decide_eq_true_eq,beq_iff_eq,bne_iff_ne,a7,jE,jh,decide_eq_false_iff_not,iJ,reduceCtorEq,iff_true,iff_false,true_iff,false_iff,eq_self];omega)
theorem ae7 (m:ae) (c:Ct) (hc:c.aA.length<9223372036854775808):ao Tryz.prog 62 [.agg (au m),.agg (bu c)] [] (.lit (.bool (fP m c))) []:=by
  have JV:=JZ m c.db
  have qq:=JY c.bg
  generalize aj:fP m c=res
  unfold fP at aj
  generalize hD:decide (0≤c.most∧c.most≤1048576)=D at *
  refine ao.aD (fn:=Tryz.f62) 85 0 [.tmp 4] Tryz.func62 rfl rfl rfl rfl rfl (by simp) ?_
  ((repeat' (first|refine Vd X0 (X2 JV qq) ?_|(refine V2 X0 ?_ ?_<;>try with_reducible intro hb)|(refine Xi ?_ ?_<;>try intro ht)|exact Xx|fail)))
  all_goals try (refine aE rfl ?_;first|(rw[← aj,hb];rfl)|(rw[← aj,show D=false by rw[← hD];exact decide_eq_false (by omega)];simp;done)|(rw[← aj,ht];simp;done))
  have Ks:D=true:=by rw[← hD];exact decide_eq_true (by omega)
  subst Ks
  have dE:(iP m.rules c.db && true && fK c.bg)=true:=by simp[*]
  rw[dE,gV] at aj
  refine aG (fun k:Nat=>(⟨aw [(2,.ptr 0 0 0),(3,.ptr 1 0 0),(5,.lit (.int .i64 k))],[.var (au m),.var (bu c)]⟩:St)) (fun k=>k≤c.aA.length∧eo m (lq c.aA k) (c.aA.drop k)=res) (fun k=>c.aA.length - k) 0 ⟨aH _,aj⟩ (Xv X0) ?_
  rintro k ⟨hk,hr⟩ Ql ak aq
  by_cases aF:k<c.aA.length
  · have hd:=b7 c.aA k default aF
    generalize aJ:c.aA.getD k default=x at *
    rw[hd,Sx] at hr
    have fl:((k:Int) - 1).toNat=k - 1:=by omega
    generalize bQ:c.aA.getD (k - 1) default=y at *
    generalize cj:ez m x.cls x.opt=ob at *
    have lQ:=C8 m x.cls x.opt
    rw[cj] at lQ
    generalize hW:decide (1≤x.wt∧x.wt≤1000)=wb at *
    generalize hO:decide (sO y x<0)=O at *
    have Wo:O=true↔y.cls<x.cls∨(y.cls=x.cls∧y.opt<x.opt):=by rw[← hO,decide_eq_true_eq,Fz]
    ((repeat' (first|refine Vc (X3 @aJ @bQ @fl) lQ ?_|(refine V2 (X3 @aJ @bQ @fl) ?_ ?_<;>try with_reducible intro hb)|(refine Xi ?_ ?_<;>try intro ht)|exact Xx|fail)))
    iterate 5
      · obtain rfl:res=false:=by
          rw[← hr]
          first
            | (rw[show ob=false by assumption];rfl)
            | (rw[show wb=false by rw[← hW];exact decide_eq_false (by omega)];simp;done)
            | (rw[decide_eq_false (p:=k=0) (by omega),show O=false from Bool.eq_false_iff.2 fun h=>by have:=Wo.1 h;omega];simp;done)
        ((repeat' (first|refine Vb X0 ?_|fail)))
        exact aE rfl rfl
    all_goals
      refine ak _ (k+1) ⟨by omega,?_⟩ (by omega) (Xs false [0,1] X0)
      rw[uu,aJ,← hr,show ob=true by assumption,show wb=true by rw[← hW];exact decide_eq_true (by omega)]
      first
        | (rw[Wo.2 (by omega)];simp;done)
        | (rw[decide_eq_true (p:=k=0) (by omega)];simp;done)
  · rw[b6 (by omega),eo] at hr
    subst hr
    ((repeat' (first|refine Va X0 ?_|(refine Xi ?_ ?_<;>try intro ht)|exact Xx|fail)))
    refine aq _ _ rfl ?_;clear ak aq Ql
    repeat (refine Xu ?_)
    refine Vb X0 ?_
    exact aE rfl rfl
theorem yD (m:ae) (hm:MB m):ao Tryz.prog 25 [.agg (au m)] [] (.lit (.int .i64 (dW m))) []:=by
  generalize aj:dW m=res
  unfold dW at aj
  have me:=hm.cls
  have vB:=hm.ah
  have Ba:=hm.av
  have Wp:=ae4 m hm
  generalize pO:rC m=lb at *
  cases lb
  rotate_left
  · rw[if_pos rfl] at aj
    subst aj
    refine ao.aD (fn:=Tryz.f25) 105 0 [.tmp 2] Tryz.func25 rfl rfl rfl rfl rfl (by simp) ?_
    ((repeat' (first|refine Vd @hU Wp ?_|(refine Xi ?_ ?_<;>try intro ht)|exact Xx|fail)))
    all_goals first|exact aE rfl rfl|(exfalso;simp at *;done)
  rw[if_neg (by simp)] at aj
  have a5:m.cls.length≤24∧∀ l∈m.cls,l.length≤24:=by
    have h:=pO
    unfold rC at h
    rw[decide_eq_false_iff_not] at h
    refine⟨by omega,fun l hl=>?_⟩
    rcases dG 24 l.length with h1 | h1
    · exact absurd (.inr (.inl (List.any_eq_true.2 ⟨l,hl,by simpa using h1⟩))) h
    · exact h1
  generalize h1:(m.cls.any fun l=>l.any fun o=>!eA m.rules none o.ch)=b1 at *
  refine ao.aD (fn:=Tryz.f25) 105 0 [.tmp 2] Tryz.func25 rfl rfl rfl rfl rfl (by simp) ?_
  ((repeat' (first|refine Vd @kl Wp ?_|(refine Xi ?_ ?_<;>try intro ht)|exact Xx|fail)))
  refine aG (fun i:Nat=>(⟨aw [(1,.ptr 0 0 0),(3,.lit (.int .i64 i))],[.var (au m)]⟩:St)) (fun i=>i≤m.cls.length∧((m.cls.drop i).any fun l=>l.any fun o=>!eA m.rules none o.ch)=b1) (fun i=>m.cls.length - i) 0 ⟨aH _,h1⟩ (Xv X0) ?_
  rintro i ⟨hi,hr⟩ Ql ak aq
  by_cases ax:i<m.cls.length
  · have ns:=az (d:=(default:List cB)) ax
    have fG:=hm.opt _ ns
    have bL:=hm.ch _ ns
    have sW:=a5.2 _ ns
    rw[C4 ax] at hr
    generalize eV:m.cls.getD i default=l at *
    generalize Kt:((m.cls.drop (i+1)).any fun l=>l.any fun o=>!eA m.rules none o.ch)=rest at *
    ((repeat' (first|refine Va X0 ?_|(refine Xi ?_ ?_<;>try intro ht)|exact Xx|fail)))
    refine aG (fun k:Nat=>(⟨aw [(1,.ptr 0 0 0),(3,.lit (.int .i64 i)),(4,.lit (.int .i64 k))],[.var (au m)]⟩:St)) (fun k=>k≤l.length∧(((l.drop k).any fun o=>!eA m.rules none o.ch) || rest)=b1) (fun k=>l.length - k) 0 ⟨aH _,hr⟩ (Xv X0) ?_
    clear hr
    rintro k ⟨hk,hr⟩ cR ba bd
    by_cases aF:k<l.length
    · have fq:=az (d:=(default:cB)) aF
      have ej:=bL _ fq
      rw[C4 aF] at hr
      generalize lP:l.getD k default=o at *
      generalize Wq:((l.drop (k+1)).any fun o=>!eA m.rules none o.ch)=ae8 at *
      ((repeat' (first|refine Va (X2 @eV @lP) ?_|(refine Xi ?_ ?_<;>try intro ht)|exact Xx|fail)))
      refine aG (fun j:Nat=>(⟨aw [(1,.ptr 0 0 0),(3,.lit (.int .i64 i)),(4,.lit (.int .i64 k)),(5,.tree 2 (rowsOf bP o.ch)),(6,.lit (.int .i64 j))],[.var (au m)]⟩:St)) (fun j=>j≤o.ch.length∧(!eA m.rules (lq o.ch j) (o.ch.drop j) || ae8 || rest)=b1) (fun j=>o.ch.length - j) 0 ⟨aH _,hr⟩ (Xv X0) ?_
      clear hr
      rintro j ⟨hj,hr⟩ mh eS eI
      by_cases cq:j<o.ch.length
      · have hd:=b7 o.ch j default cq
        generalize aJ:o.ch.getD j default=c at *
        rw[hd,Sv] at hr
        have fl:((j:Int) - 1).toNat=j - 1:=by omega
        generalize bQ:o.ch.getD (j - 1) default=q at *
        have bX:=JZ m c.1
        generalize Wr:iP m.rules c.1=rb at *
        have b9:=JY c.2
        generalize ca:fK c.2=pb at *
        ((repeat' (first|refine Vc (X3 @aJ @bQ @fl) (X2 bX b9) ?_|(refine V2 (X3 @aJ @bQ @fl) ?_ ?_<;>try with_reducible intro hb)|(refine Xi ?_ ?_<;>try intro ht)|exact Xx|fail)))
        iterate 3
          · obtain rfl:b1=true:=by
              rw[← hr]
              first
                | (rw[show rb=false by assumption];rfl)
                | (rw[show pb=false by assumption];simp;done)
                | (rw[decide_eq_false (p:=j=0) (by omega),decide_eq_false (p:=q.1<c.1) (by omega)];simp;done)
            rw[if_pos rfl] at aj
            repeat (refine Xu ?_)
            ((repeat' (first|refine Vb X0 ?_|fail)))
            exact aE rfl (by rw[aj])
        all_goals
          refine eS _ (j+1) ⟨by omega,?_⟩ (by omega) (Xv X0)
          rw[uu,aJ,← hr,show rb=true by assumption,show pb=true by assumption]
          first
            | (rw[decide_eq_true (p:=q.1<c.1) (by omega)];simp;done)
            | (rw[decide_eq_true (p:=j=0) (by omega)];simp;done)
      · rw[b6 (by omega),eA] at hr
        simp only[hU,lA] at hr
        ((repeat' (first|refine Va X0 ?_|(refine Xi ?_ ?_<;>try intro ht)|exact Xx|fail)))
        refine eI _ _ rfl ?_
        clear eS eI mh
        repeat (refine Xu ?_)
        refine Va X0 ?_
        exact ba _ (k+1) ⟨by omega,by rw[Wq];exact hr⟩ (by omega) (Xv X0)
    · rw[b6 (by omega),Eb,lA] at hr
      ((repeat' (first|refine Va @eV ?_|(refine Xi ?_ ?_<;>try intro ht)|exact Xx|fail)))
      refine bd _ _ rfl ?_
      clear ba bd cR
      repeat (refine Xu ?_)
      refine Va X0 ?_
      exact ak _ (i+1) ⟨by omega,by rw[Kt];exact hr⟩ (by omega) (Xv X0)
  rw[b6 (by omega),Eb] at hr
  subst hr
  rw[if_neg (by simp)] at aj
  ((repeat' (first|refine Va X0 ?_|(refine Xi ?_ ?_<;>try intro ht)|exact Xx|fail)))
  refine aq _ _ rfl ?_;clear ak aq Ql
  clear hi ax
  repeat (refine Xu ?_)
  refine Vb X0 ?_
  refine aG (fun k:Nat=>(⟨aw [(1,.ptr 0 0 0),(7,.lit (.int .i64 k))],[.var (au m)]⟩:St)) (fun k=>k≤m.ah.length∧fQ m none m.ah=fQ m (lq m.ah k) (m.ah.drop k)) (fun k=>m.ah.length - k) 0 ⟨aH _,rfl⟩ (Xv X0) ?_
  rintro k ⟨hk,hr⟩ Ql ak aq
  by_cases aF:k<m.ah.length
  · have hd:=b7 m.ah k default aF
    have qq:=ae5 m k aF hm.aP a5.2 a5.1 hm.ah
    rw[hd,Sw] at hr
    generalize (eG m (m.ah.getD k default) && (decide (k=0) || decide (nw (m.ah.getD (k - 1) default) (m.ah.getD k default)<0)))=pb at *
    ((repeat' (first|refine Vc X0 qq ?_|(refine Xi ?_ ?_<;>try intro ht)|exact Xx|fail)))
    · obtain rfl:pb=false:=by assumption
      rw[Bool.false_and] at hr
      rw[if_pos hr] at aj
      subst aj
      refine Vb X0 ?_
      exact aE rfl rfl
    · obtain rfl:pb=true:=by assumption
      rw[gV] at hr
      exact ak _ (k+1) ⟨by omega,by rw[uu];exact hr⟩ (by omega) (Xv X0)
  rw[b6 (by omega),fQ] at hr
  rw[if_neg (by rw[hr];simp)] at aj
  ((repeat' (first|refine Va X0 ?_|(refine Xi ?_ ?_<;>try intro ht)|exact Xx|fail)))
  refine aq _ _ rfl ?_;clear ak aq Ql
  clear hr hk aF
  repeat (refine Xu ?_)
  refine Vb X0 ?_
  generalize h2:(m.av.any fun c=>!fP m c)=b2 at *
  refine aG (fun k:Nat=>(⟨aw [(1,.ptr 0 0 0),(8,.lit (.int .i64 k))],[.var (au m)]⟩:St)) (fun k=>k≤m.av.length∧((m.av.drop k).any fun c=>!fP m c)=b2) (fun k=>m.av.length - k) 0 ⟨aH _,h2⟩ (Xv X0) ?_
  rintro k ⟨hk,hr⟩ Ql ak aq
  by_cases aF:k<m.av.length
  · have gJ:=az (d:=(default:Ct)) aF
    have eV:=hm.lr _ gJ
    rw[C4 aF] at hr
    generalize aJ:m.av.getD k default=c at *
    have o6:=ae7 m c eV
    generalize fP m c=cb at *
    ((repeat' (first|refine Vc @aJ o6 ?_|(refine Xi ?_ ?_<;>try intro ht)|exact Xx|fail)))
    · obtain rfl:cb=false:=by assumption
      simp only[kl,rU] at hr
      rw[if_pos hr.symm] at aj
      subst aj
      refine Vb X0 ?_
      exact aE rfl rfl
    · obtain rfl:cb=true:=by assumption
      rw[hU,lA] at hr
      exact ak _ (k+1) ⟨by omega,hr⟩ (by omega) (Xv X0)
  rw[b6 (by omega),Eb] at hr
  subst hr
  rw[if_neg (by simp)] at aj
  subst aj
  ((repeat' (first|refine Va X0 ?_|(refine Xi ?_ ?_<;>try intro ht)|exact Xx|fail)))
  refine aq _ _ rfl ?_;clear ak aq Ql
  repeat (refine Xu ?_)
  refine Vb X0 ?_
  exact aE rfl rfl
theorem ae9 (m:ae) (plan:List Int) (hm:VM m) (hp:PM m plan):ao Tryz.prog 123 [.agg (au m),.tree 1 (ints plan)] [] (.bM [.lit (.int .i64 (A0 m plan).1),.tree 1 (ints (A0 m plan).2)]) []:=by
  have me:=hm.cls
  have vB:=hm.ah
  have Ba:=hm.av
  have zg:=hm.mP
  have b9:=hp.len
  unfold A0 gZ
  generalize h1:j8 m 0 plan (aW m.rules.toNat 0)=o1
  generalize h2:lM m plan m.ah o1=o2
  generalize h3:lN plan m.av o2=o3
  have sE:=fj.rep zg.1
  refine ao.aD (fn:=Tryz.f123) 155 0 [.tmp 4,.tmp 5] Tryz.func123 rfl rfl rfl rfl rfl (by simp) ?_
  refine Vb X0 ?_
  refine aG (fun z:Nat × List Int=>(⟨aw [(1,.tree 1 (ints plan)),(2,.ptr 0 0 0),(6,.ptr 2 0 0),(28,.tree 1 (ints plan)),(29,.lit (.int .i64 plan.length)),(30,.lit (.int .i64 z.1))],[.var (au m),.arr 1 (ints z.2),.var [.ref 1 1 0 m.rules.toNat]]⟩:St))
    (fun z=>z.1≤plan.length∧fj m.rules z.2∧j8 m z.1 (plan.drop z.1) z.2=o1) (fun z=>plan.length - z.1) (0,aW m.rules.toNat 0) ⟨aH _,sE,h1⟩ (Xv X0) ?_
  rintro ⟨k,out⟩ ⟨hk,aC,hr⟩ Ql ak aq
  dsimp only at hk aC hr ⊢
  have fG:out.length=m.rules.toNat:=by have:=aC.1;omega
  by_cases aF:k<plan.length
  · have hd:=b7 plan k 0 aF
    have gX:=hp.get k aF
    generalize aJ:plan.getD k 0=o at *
    rw[hd,j8] at hr
    by_cases ho:o<0
    · rw[if_pos ho] at hr
      ((repeat' (first|refine Va @aJ ?_|(refine Xi ?_ ?_<;>try intro ht)|exact Xx|fail)))
      exact ak _ (k+1,out) ⟨by dsimp only;omega,aC,hr⟩ (by dsimp only;omega) (Xv X0)
    · rw[if_neg ho] at hr
      obtain ⟨b1,b2,b3,b4⟩:=cV.1 (gX.resolve_left (by omega))
      have hl:=az (l:=m.cls) (i:=k) (d:=default) (by omega)
      generalize eV:m.cls.getD k default=l at *
      rw[dg,eV] at b4
      have zh:=az (l:=l) (i:=o.toNat) (d:=default) (by omega)
      have ej:=hm.mf l hl _ zh
      generalize lP:l.getD o.toNat default=op at *
      ((repeat' (first|refine Va (X3 @aJ @eV @lP) ?_|(refine Xi ?_ ?_<;>try intro ht)|exact Xx|fail)))
      generalize kJ:nu op.ch out=Dp at hr
      have bL:=AL zg.1 ej
      refine aG (fun z:Nat × List Int=>(⟨aw [(1,.tree 1 (ints plan)),(2,.ptr 0 0 0),(6,.ptr 2 0 0),(28,.tree 1 (ints plan)),(29,.lit (.int .i64 plan.length)),(30,.lit (.int .i64 k)),(45,.tree 2 (rowsOf bP op.ch)),(46,.lit (.int .i64 op.ch.length)),(47,.lit (.int .i64 z.1))],[.var (au m),.arr 1 (ints z.2),.var [.ref 1 1 0 m.rules.toNat]]⟩:St))
        (fun z=>z.1≤op.ch.length∧fj m.rules z.2∧nu (op.ch.drop z.1) z.2=Dp) (fun z=>op.ch.length - z.1) (0,out) ⟨aH _,aC,kJ⟩ (Xv X0) ?_
      rintro ⟨j,pP⟩ ⟨hj,jo,bK⟩ cR ba bd
      dsimp only at hj jo bK ⊢
      have Ws:pP.length=m.rules.toNat:=by have:=jo.1;omega
      by_cases cq:j<op.ch.length
      · have gT:=b7 op.ch j default cq
        have gJ:=vv ej _ (az (d:=default) cq)
        generalize lS:op.ch.getD j default=c at *
        rw[gT,nu] at bK
        obtain ⟨oE,Dq⟩:=gJ
        rw[iP,decide_eq_true_eq] at oE
        have fe:=J0 pP c.1 c.2 (by omega) (g7 Dq) (jo.get _)
        rw[Ws] at fe
        ((repeat' (first|refine Va @lS ?_|(refine Xi ?_ ?_<;>try intro ht)|exact Xx|fail))<;>try with_reducible intro K hK)
        refine ig [2,1] fe (by decide) ⟨rfl,by rw[wg];rfl,trivial⟩ ⟨.eq rfl,.pure rfl,.pure rfl,trivial⟩ ?_
        ((try revert hK K);(refine Va X0 ?_))
        refine ba _ (j+1,ed pP c.1 c.2) ⟨by dsimp only;omega,jo.add (g7 Dq),bK⟩ (by dsimp only;omega) ?_
        unfold ed
        exact Xs false [0,1,2] X0
      · ((repeat' (first|refine Va X0 ?_|(refine Xi ?_ ?_<;>try intro ht)|exact Xx|fail)))
        rw[b6 (by omega),nu] at bK
        subst bK
        refine bd _ _ rfl ?_
        clear ba bd cR
        repeat (refine Xu ?_)
        refine Va X0 ?_
        exact ak _ (k+1,pP) ⟨by dsimp only;omega,jo,hr⟩ (by dsimp only;omega) (Xv X0)
  · ((repeat' (first|refine Va X0 ?_|(refine Xi ?_ ?_<;>try intro ht)|exact Xx|fail)))
    rw[b6 (by omega),j8] at hr
    subst hr
    refine aq _ _ rfl ?_;clear ak aq Ql
    repeat (refine Xu ?_)
    refine Vb X0 ?_
    refine aG (fun z:Nat × List Int=>(⟨aw [(1,.tree 1 (ints plan)),(2,.ptr 0 0 0),(6,.ptr 2 0 0),(60,.tree 4 (rowsOf bc m.ah)),(61,.lit (.int .i64 m.ah.length)),(62,.lit (.int .i64 z.1))],[.var (au m),.arr 1 (ints z.2),.var [.ref 1 1 0 m.rules.toNat]]⟩:St))
      (fun z=>z.1≤m.ah.length∧fj m.rules z.2∧lM m plan (m.ah.drop z.1) z.2=o2) (fun z=>m.ah.length - z.1) (0,out) ⟨aH _,aC,h2⟩ (Xv X0) ?_
    clear hk aC fG aF h2
    rintro ⟨k,out⟩ ⟨hk,aC,hr⟩ Ql ak aq
    dsimp only at hk aC hr ⊢
    have fG:out.length=m.rules.toNat:=by have:=aC.1;omega
    by_cases aF:k<m.ah.length
    · have hd:=b7 m.ah k default aF
      have ca:=fY hm.pr _ (az (d:=default) aF)
      generalize aJ:m.ah.getD k default=p at *
      rw[hd,lM] at hr
      obtain ⟨q1,q2,q3,q4,q5⟩:=iY ca
      have g1:=hp.get p.fst.toNat (by omega)
      have g2:=hp.get p.snd.toNat (by omega)
      rw[mr (by omega)] at g1 g2
      have rJ:=vo ca (plan.getD p.fst.toNat 0) (plan.getD p.snd.toNat 0)
      unfold jP at rJ hr
      generalize hx:plan.getD p.fst.toNat 0=x at *
      generalize hy:plan.getD p.snd.toNat 0=y at *
      generalize eF:m.cls.getD p.snd.toNat default=lb at *
      have pO:lb.length≤24:=by rw[← eF];exact hm.opt _ (az (by omega))
      have uy:=hm.opt _ (az (l:=m.cls) (i:=p.fst.toNat) (d:=default) (by omega))
      have Bb:0≤x→0≤y→0≤x * lb.length∧x * lb.length≤576∧x * lb.length+y<p.aP.length∧y<24:=fun h0 h0'=>by
        have a1:=(cV.1 (g1.resolve_left (by omega)))
        have a2:=(cV.1 (g2.resolve_left (by omega)))
        rw[eF] at a2
        have:=sQ (x:=x) (y:=y) (a:=(m.cls.getD p.fst.toNat default).length) (b:=lb.length) ⟨by omega,by omega⟩ ⟨by omega,by omega⟩ (by omega) (by omega)
        rw[q5]
        omega
      generalize Ku:p.aP.getD (x * (lb.length:Int)+y).toNat 0=en at *
      generalize uz:x * (lb.length:Int)=xm at *
      have fe:=J0 out p.db en (by omega) rJ (aC.get _)
      rw[fG] at fe
      ((repeat' (first|refine Va (X5 @aJ @hx @hy @eF (X2 @uz @Ku)) ?_|(refine V2 (X5 @aJ @hx @hy @eF (X2 @uz @Ku)) ?_ ?_<;>try with_reducible intro hb)|(refine Xi ?_ ?_<;>try intro ht)|exact Xx|fail))<;>try with_reducible intro K hK)
      · rw[if_pos ⟨by assumption,by omega⟩] at hr
        refine ig [2,1] fe (by decide) ⟨rfl,by rw[wg];rfl,trivial⟩ ⟨.eq rfl,.pure rfl,.pure rfl,trivial⟩ ?_
        ((try revert hK K);(refine Va X0 ?_))
        refine ak _ (k+1,ed out p.db en) ⟨by dsimp only;omega,aC.add rJ,hr⟩ (by dsimp only;omega) ?_
        unfold ed
        exact Xs false [0,1,2] X0
      · rw[if_neg (by omega)] at hr
        exact ak _ (k+1,out) ⟨by dsimp only;omega,aC,hr⟩ (by dsimp only;omega) (Xs false [0,1,2] X0)
      · rw[if_neg (by omega)] at hr
        exact ak _ (k+1,out) ⟨by dsimp only;omega,aC,hr⟩ (by dsimp only;omega) (Xs false [0,1,2] X0)
    · ((repeat' (first|refine Va X0 ?_|(refine V2 X0 ?_ ?_<;>try with_reducible intro hb)|(refine Xi ?_ ?_<;>try intro ht)|exact Xx|fail)))
      rw[b6 (by omega),lM] at hr
      subst hr
      refine aq _ _ rfl ?_;clear ak aq Ql
      repeat (refine Xu ?_)
      refine Vb X0 ?_
      refine aG (fun z:Nat × List Int=>(⟨aw [(1,.tree 1 (ints plan)),(2,.ptr 0 0 0),(6,.ptr 2 0 0),(103,.tree 4 (rowsOf bu m.av)),(104,.lit (.int .i64 m.av.length)),(105,.lit (.int .i64 z.1))],[.var (au m),.arr 1 (ints z.2),.var [.ref 1 1 0 m.rules.toNat]]⟩:St))
        (fun z=>z.1≤m.av.length∧fj m.rules z.2∧lN plan (m.av.drop z.1) z.2=o3) (fun z=>m.av.length - z.1) (0,out) ⟨aH _,aC,h3⟩ (Xv X0) ?_
      clear hk aC fG aF h3
      rintro ⟨k,out⟩ ⟨hk,aC,hr⟩ Ql ak aq
      dsimp only at hk aC hr ⊢
      have fG:out.length=m.rules.toNat:=by have:=aC.1;omega
      by_cases aF:k<m.av.length
      · have hd:=b7 m.av k default aF
        have mS:=hm.ct _ (az (d:=default) aF)
        generalize aJ:m.av.getD k default=c at *
        rw[hd,lN] at hr
        obtain ⟨q1,q2,q3,q4⟩:=ju mS
        have hlen:=uq hm q4
        have Dr:=CU (m:=m) (plan:=plan) (fun x hx=>(kF q4 x hx).2) 0
        have vG:=wR (most:=c.most) (sum:=dX plan c.aA 0) (g7 q3)
        have Gc:=ad1 c (dX plan c.aA 0) (by omega) (by omega) (by omega) (g7 q3)
        generalize zi:dX plan c.aA 0=sum at *
        generalize Wt:iZ c.most c.bg sum=xo at *
        have fe:=J0 out c.db xo (by omega) vG (aC.get _)
        rw[fG] at fe
        ((repeat' (first|refine Va @aJ ?_|(refine Xi ?_ ?_<;>try intro ht)|exact Xx|fail)))
        refine aG (fun z:Nat × Int=>(⟨aw [(1,.tree 1 (ints plan)),(2,.ptr 0 0 0),(6,.ptr 2 0 0),(103,.tree 4 (rowsOf bu m.av)),(104,.lit (.int .i64 m.av.length)),(105,.lit (.int .i64 k)),(16,.ptr 3 0 0),(17,.lit (.int .i64 z.2)),(110,.tree 3 (rowsOf dF c.aA)),(111,.lit (.int .i64 c.aA.length)),(112,.lit (.int .i64 z.1))],[.var (au m),.arr 1 (ints out),.var [.ref 1 1 0 m.rules.toNat],.var (bu c)]⟩:St))
          (fun z=>z.1≤c.aA.length∧0≤z.2∧z.2≤1000 * z.1∧dX plan (c.aA.drop z.1) z.2=sum) (fun z=>c.aA.length - z.1) (0,0) ⟨aH _,c9 _,by dsimp only;omega,zi⟩ (Xv X0) ?_
        rintro ⟨j,n⟩ ⟨hj,cy,eh,bK⟩ cR ba bd
        dsimp only at hj cy eh bK ⊢
        by_cases cq:j<c.aA.length
        · have gT:=b7 c.aA j default cq
          have ns:=kF q4 _ (az (d:=default) cq)
          generalize lS:c.aA.getD j default=x at *
          rw[gT,dX] at bK
          obtain ⟨b1,b2,b3,b4⟩:=cV.1 ns.1
          have Kv:=ns.2
          generalize n8:plan.getD x.cls.toNat 0=px at *
          ((repeat' (first|refine Va (X2 @lS @n8) ?_|(refine Xi ?_ ?_<;>try intro ht)|exact Xx|fail)))
          · rw[if_pos (by assumption)] at bK
            exact ba _ (j+1,n+x.wt) ⟨by dsimp only;omega,by dsimp only;omega,by dsimp only;omega,bK⟩ (by dsimp only;omega) (Xs false [0,1,2,3] X0)
          · rw[if_neg (by assumption)] at bK
            exact ba _ (j+1,n) ⟨by dsimp only;omega,by dsimp only;omega,by dsimp only;omega,bK⟩ (by dsimp only;omega) (Xs false [0,1,2,3] X0)
        · ((repeat' (first|refine Va X0 ?_|(refine Xi ?_ ?_<;>try intro ht)|exact Xx|fail)))
          rw[b6 (by omega),dX] at bK
          subst bK
          refine bd _ _ rfl ?_
          clear ba bd cR
          repeat (refine Xu ?_)
          ((skip))
          (try (refine Ak [5] rfl (by decide) (by decide +kernel) ?_);intro K hK;simp (disch:=omega) only[Ac,↓Pc,simprocAttr])
          ((try revert hK K);(refine Vc X0 Gc ?_)<;>try with_reducible intro K hK)
          refine ig [2,1] fe (by decide) ⟨rfl,by rw[wg];rfl,trivial⟩ ⟨.eq rfl,.pure rfl,.pure rfl,trivial⟩ ?_
          ((try revert hK K);(refine Va X0 ?_))
          refine ak _ (k+1,ed out c.db xo) ⟨by dsimp only;omega,aC.add vG,hr⟩ (by dsimp only;omega) ?_
          unfold ed
          exact Xs false [0,1,2] X0
      · ((repeat' (first|refine Va X0 ?_|(refine Xi ?_ ?_<;>try intro ht)|exact Xx|fail)))
        rw[b6 (by omega),lN] at hr
        subst hr
        refine aq _ _ rfl ?_;clear ak aq Ql
        repeat (refine Xu ?_)
        refine Vb X0 ?_
        refine aG (fun z:Nat × Int=>(⟨aw [(6,.ptr 2 0 0),(20,.lit (.int .i64 z.2)),(140,.ref 1 1 0 m.rules.toNat),(141,.lit (.int .i64 m.rules.toNat)),(142,.lit (.int .i64 z.1))],[.var (au m),.arr 1 (ints out),.var [.ref 1 1 0 m.rules.toNat]]⟩:St))
          (fun z=>z.1≤out.length∧aS z.2∧gY (out.drop z.1) z.2=gY out 0) (fun z=>out.length - z.1) (0,0) ⟨aH _,by unfold aS;decide,rfl⟩ (Xv X0) ?_
        rintro ⟨j,n⟩ ⟨hj,cy,bK⟩ Ql ak aq
        dsimp only at hj cy bK ⊢
        by_cases cq:j<out.length
        · have gT:=b7 out j 0 cq
          have Ds:=aC.get j
          generalize lS:out.getD j 0=x at *
          rw[gT,gY] at bK
          ((repeat' (first|refine Vc @lS (JX n x cy Ds) ?_|(refine Xi ?_ ?_<;>try intro ht)|exact Xx|fail)))
          exact ak _ (j+1,cS n x) ⟨by dsimp only;omega,oT cy Ds,bK⟩ (by dsimp only;omega) (Xv X0)
        · ((repeat' (first|refine Va X0 ?_|(refine Xi ?_ ?_<;>try intro ht)|exact Xx|fail)))
          rw[b6 (by omega),gY] at bK
          refine aq _ _ rfl ?_;clear ak aq Ql
          repeat (refine Xu ?_)
          refine Vb X0 ?_
          subst bK
          refine dR [] true (by decide) trivial (by decide) (by decide) (aO.qL (.pure rfl) ?_)
          rw[← fG]
          first|exact .pure rfl|exact .eq rfl|exact .fz rfl (by simp only[Bc,Rc])
theorem abT (m:ae) (plan:List Int) (hb:MB m) (b9:plan.length<9223372036854775808):ao Tryz.prog 72 [.agg (au m),.tree 1 (ints plan)] [] (.bM [.lit (.int .i64 (rn m plan).1),.tree 1 (ints (rn m plan).2.1),.lit (.int .i64 (rn m plan).2.2)]) []:=by
  generalize aj:rn m plan=res
  unfold rn at aj
  refine ao.aD (fn:=Tryz.f72) 25 0 [.tmp 4,.tmp 5,.tmp 6] Tryz.func72 rfl rfl rfl rfl rfl (by simp) ?_
  ((repeat' (first|refine Vd X0 (sI m hb) ?_|(refine Xi ?_ ?_<;>try intro ht)|fail))<;>try with_reducible intro K hK)
  · rw[if_pos ht] at aj
    rw[← aj]
    exact dR [] true (by decide) trivial (by decide) (by decide) (tT (.pure rfl) aO.nil (.pure rfl))
  rw[if_neg (by omega)] at aj
  ((try revert hK K);(repeat' (first|refine Vd X0 (S4 m plan b9) ?_|(refine Xi ?_ ?_<;>try intro ht)|fail))<;>try with_reducible intro K hK)
  · rw[if_pos ht] at aj
    rw[← aj]
    exact dR [] true (by decide) trivial (by decide) (by decide) (tT (.pure rfl) aO.nil (.pure rfl))
  rw[if_neg (by simp[*])] at aj
  rename_i hv
  have eZ:=ae9 m plan (iu.1 hv) (JC ht)
  ((try revert hK K);(refine Vd X0 eZ ?_))
  rw[← aj]
  exact BO rfl
theorem afa (m:ae) (plan:List Int) (hp:plan.length<9223372036854775808):ao Tryz.prog 98 [.agg (au m),.tree 1 (ints plan)] [] (.lit (.bool (oS m plan))) []:=by
  generalize aj:oS m plan=res
  unfold oS at aj
  refine ao.aD (fn:=Tryz.f98) 33 0 [.tmp 4] Tryz.func98 rfl rfl rfl rfl rfl (by simp) ?_
  by_cases hl:plan.length≠m.cls.length
  · rw[if_pos hl] at aj
    ((repeat' (first|refine Vb X0 ?_|(refine Xi ?_ ?_<;>try intro ht)|exact Xx|fail)))
    all_goals first|exact aE rfl (by rw[aj])|(exfalso;omega)
  rw[if_neg hl] at aj
  ((repeat' (first|refine Vb X0 ?_|(refine Xi ?_ ?_<;>try intro ht)|exact Xx|fail)))
  refine aG (fun k:Nat=>(⟨aw [(1,.tree 1 (ints plan)),(2,.ptr 0 0 0),(5,.lit (.int .i64 k))],[.var (au m)]⟩:St)) (fun k=>k≤plan.length∧oR m k (plan.drop k)=res) (fun k=>plan.length - k) 0 ⟨aH _,aj⟩ (Xv X0) ?_
  rintro k ⟨hk,hr⟩ Ql ak aq
  by_cases aF:k<plan.length
  · have hd:=b7 plan k 0 aF
    generalize aJ:plan.getD k 0=o at *
    rw[hd,oR] at hr
    have cO:=C8 m k o
    generalize ez m k o=ob at *
    ((repeat' (first|refine Vc @aJ cO ?_|(refine V2 @aJ ?_ ?_<;>try with_reducible intro hb)|(refine Xi ?_ ?_<;>try intro ht)|exact Xx|fail)))
    · have hrf:res=false:=by rw[← hr,decide_eq_false (p:=o = -1) (by omega),show ob=false by assumption];rfl
      repeat (refine Xu ?_)
      refine Vb X0 ?_
      exact aE rfl (by rw[hrf])
    · rw[show ob=true by assumption,Bool.or_true,gV] at hr
      exact ak _ (k+1) ⟨by omega,hr⟩ (by omega) (Xv X0)
    · rw[decide_eq_true (p:=o = -1) (by omega),rU,gV] at hr
      exact ak _ (k+1) ⟨by omega,hr⟩ (by omega) (Xv X0)
  · ((repeat' (first|refine Va X0 ?_|(refine V2 X0 ?_ ?_<;>try with_reducible intro hb)|(refine Xi ?_ ?_<;>try intro ht)|exact Xx|fail)))
    rw[b6 (by omega),oR] at hr
    refine aq _ _ rfl ?_;clear ak aq Ql
    repeat (refine Xu ?_)
    refine Vb X0 ?_
    exact aE rfl (by rw[hr])
theorem afc (m:ae) (p:Pr) (x y:Int) (ca:eG m p=true) (vH:∀ l∈m.cls,l.length≤24) (hx:0≤x∧x<(m.cls.getD p.fst.toNat default).length) (hy:0≤y∧y<(m.cls.getD p.snd.toNat default).length) :
    ao Tryz.prog 155 [.agg (au m),.agg (bc p),.lit (.int .i64 x),.lit (.int .i64 y)] [] (.lit (.int .i64 (jP m p x y))) []:=by
  obtain ⟨q1,q2,q3,q4,q5⟩:=iY ca
  have uy:=vH _ (az (l:=m.cls) (i:=p.fst.toNat) (d:=default) (by omega))
  have pO:=vH _ (az (l:=m.cls) (i:=p.snd.toNat) (d:=default) (by omega))
  have Bb:=sQ (x:=x) (y:=y) (a:=(m.cls.getD p.fst.toNat default).length) (b:=(m.cls.getD p.snd.toNat default).length) hx hy (by omega) (by omega)
  unfold jP
  rw[← q5] at Bb
  generalize eF:m.cls.getD p.snd.toNat default=lb at *
  generalize uz:x * (lb.length:Int)=xm at *
  refine ao.aD (fn:=Tryz.f155) 24 0 [.tmp 8] Tryz.func155 rfl rfl rfl rfl rfl (by simp) ?_
  refine Vb (X2 @eF @uz) ?_
  exact aE rfl rfl
theorem We {most bg n:Int} (hp:aS bg):rp (n - most) bg=iZ most bg n:=by
  unfold rp iZ aS at *
  by_cases h:n≤most
  · rw[if_pos (by omega),if_pos h]
  · rw[if_neg (by omega),if_neg h]
    split
    · have:bg=1099511627776:=by omega
      subst this
      omega
    · rfl
theorem afd (m:ae) (plan:List Int) (hm:VM m) (hp:PM m plan):ao Tryz.prog 99 [.agg (au m),.tree 1 (ints plan)] [] (.tree 1 (ints (gZ m plan))) []:=by
  have me:=hm.cls
  have vB:=hm.ah
  have Ba:=hm.av
  have zg:=hm.mP
  have b9:=hp.len
  unfold gZ
  generalize h1:j8 m 0 plan (aW m.rules.toNat 0)=o1
  generalize h2:lM m plan m.ah o1=o2
  generalize h3:lN plan m.av o2=o3
  have sE:=fj.rep zg.1
  refine ao.aD (fn:=Tryz.f99) 178 0 [.tmp 4] Tryz.func99 rfl rfl rfl rfl rfl (by simp) ?_
  refine Vb X0 ?_
  refine aG (fun z:Nat × List Int=>(⟨aw [(1,.tree 1 (ints plan)),(2,.ptr 0 0 0),(5,.ref 1 1 0 m.rules.toNat),(6,.lit (.int .i64 z.1))],[.var (au m),.arr 1 (ints z.2)]⟩:St))
    (fun z=>z.1≤plan.length∧fj m.rules z.2∧j8 m z.1 (plan.drop z.1) z.2=o1) (fun z=>plan.length - z.1) (0,aW m.rules.toNat 0) ⟨aH _,sE,h1⟩ (Xv X0) ?_
  rintro ⟨k,out⟩ ⟨hk,aC,hr⟩ Ql ak aq
  dsimp only at hk aC hr ⊢
  have fG:out.length=m.rules.toNat:=by have:=aC.1;omega
  by_cases aF:k<plan.length
  · have hd:=b7 plan k 0 aF
    have gX:=hp.get k aF
    generalize aJ:plan.getD k 0=o at *
    rw[hd,j8] at hr
    by_cases ho:o<0
    · rw[if_pos ho] at hr
      ((repeat' (first|refine Va @aJ ?_|(refine Xi ?_ ?_<;>try intro ht)|exact Xx|fail)))
      exact ak _ (k+1,out) ⟨by dsimp only;omega,aC,hr⟩ (by dsimp only;omega) (Xv X0)
    · rw[if_neg ho] at hr
      obtain ⟨b1,b2,b3,b4⟩:=cV.1 (gX.resolve_left (by omega))
      have hl:=az (l:=m.cls) (i:=k) (d:=default) (by omega)
      generalize eV:m.cls.getD k default=l at *
      rw[dg,eV] at b4
      have zh:=az (l:=l) (i:=o.toNat) (d:=default) (by omega)
      have ej:=hm.mf l hl _ zh
      generalize lP:l.getD o.toNat default=op at *
      ((repeat' (first|refine Va (X3 @aJ @eV @lP) ?_|(refine Xi ?_ ?_<;>try intro ht)|exact Xx|fail)))
      generalize kJ:nu op.ch out=Dp at hr
      have bL:=AL zg.1 ej
      refine aG (fun z:Nat × List Int=>(⟨aw [(1,.tree 1 (ints plan)),(2,.ptr 0 0 0),(5,.ref 1 1 0 m.rules.toNat),(6,.lit (.int .i64 k)),(7,.tree 2 (rowsOf bP op.ch)),(8,.lit (.int .i64 z.1))],[.var (au m),.arr 1 (ints z.2)]⟩:St))
        (fun z=>z.1≤op.ch.length∧fj m.rules z.2∧nu (op.ch.drop z.1) z.2=Dp) (fun z=>op.ch.length - z.1) (0,out) ⟨aH _,aC,kJ⟩ (Xv X0) ?_
      rintro ⟨j,pP⟩ ⟨hj,jo,bK⟩ cR ba bd
      dsimp only at hj jo bK ⊢
      have Ws:pP.length=m.rules.toNat:=by have:=jo.1;omega
      by_cases cq:j<op.ch.length
      · have gT:=b7 op.ch j default cq
        have gJ:=vv ej _ (az (d:=default) cq)
        generalize lS:op.ch.getD j default=c at *
        rw[gT,nu] at bK
        obtain ⟨oE,Dq⟩:=gJ
        rw[iP,decide_eq_true_eq] at oE
        have n9:=C7 (pP.getD c.1.toNat 0) c.2 (jo.get _) (g7 Dq)
        generalize dD:pP.getD c.1.toNat 0=gx at *
        ((repeat' (first|refine Vc (X3 @lS @dD @ints_set) n9 ?_|(refine Xi ?_ ?_<;>try intro ht)|exact Xx|fail)))
        refine ba _ (j+1,ed pP c.1 c.2) ⟨by dsimp only;omega,jo.add (g7 Dq),bK⟩ (by dsimp only;omega) ?_
        unfold ed
        rw[dD]
        exact Xs false [0,1] X0
      · ((repeat' (first|refine Va X0 ?_|(refine Xi ?_ ?_<;>try intro ht)|exact Xx|fail)))
        rw[b6 (by omega),nu] at bK
        subst bK
        refine bd _ _ rfl ?_
        clear ba bd cR
        repeat (refine Xu ?_)
        refine Va X0 ?_
        exact ak _ (k+1,pP) ⟨by dsimp only;omega,jo,hr⟩ (by dsimp only;omega) (Xv X0)
  · ((repeat' (first|refine Va X0 ?_|(refine Xi ?_ ?_<;>try intro ht)|exact Xx|fail)))
    rw[b6 (by omega),j8] at hr
    subst hr
    refine aq _ _ rfl ?_;clear ak aq Ql
    repeat (refine Xu ?_)
    refine Vb X0 ?_
    refine aG (fun z:Nat × List Int=>(⟨aw [(1,.tree 1 (ints plan)),(2,.ptr 0 0 0),(5,.ref 1 1 0 m.rules.toNat),(9,.lit (.int .i64 z.1))],[.var (au m),.arr 1 (ints z.2)]⟩:St))
      (fun z=>z.1≤m.ah.length∧fj m.rules z.2∧lM m plan (m.ah.drop z.1) z.2=o2) (fun z=>m.ah.length - z.1) (0,out) ⟨aH _,aC,h2⟩ (Xv X0) ?_
    clear hk aC fG aF h2
    rintro ⟨k,out⟩ ⟨hk,aC,hr⟩ Ql ak aq
    dsimp only at hk aC hr ⊢
    have fG:out.length=m.rules.toNat:=by have:=aC.1;omega
    by_cases aF:k<m.ah.length
    · have hd:=b7 m.ah k default aF
      have ca:=fY hm.pr _ (az (d:=default) aF)
      generalize aJ:m.ah.getD k default=p at *
      rw[hd,lM] at hr
      obtain ⟨q1,q2,q3,q4,q5⟩:=iY ca
      have g1:=hp.get p.fst.toNat (by omega)
      have g2:=hp.get p.snd.toNat (by omega)
      rw[mr (by omega)] at g1 g2
      have rJ:=vo ca (plan.getD p.fst.toNat 0) (plan.getD p.snd.toNat 0)
      have Bd:0≤plan.getD p.fst.toNat 0→0≤plan.getD p.snd.toNat 0→ao Tryz.prog 155 [.agg (au m),.agg (bc p),.lit (.int .i64 (plan.getD p.fst.toNat 0)),.lit (.int .i64 (plan.getD p.snd.toNat 0))] [] (.lit (.int .i64 (jP m p (plan.getD p.fst.toNat 0) (plan.getD p.snd.toNat 0)))) []:=fun h0 h0'=>by
        have a1:=(cV.1 (g1.resolve_left (by omega)))
        have a2:=(cV.1 (g2.resolve_left (by omega)))
        exact afc m p _ _ ca hm.opt ⟨a1.2.2.1,a1.2.2.2⟩ ⟨a2.2.2.1,a2.2.2.2⟩
      generalize jP m p (plan.getD p.fst.toNat 0) (plan.getD p.snd.toNat 0)=en at *
      generalize hx:plan.getD p.fst.toNat 0=x at *
      generalize hy:plan.getD p.snd.toNat 0=y at *
      have n9:=C7 (out.getD p.db.toNat 0) en (aC.get _) rJ
      generalize dD:out.getD p.db.toNat 0=gx at *
      by_cases jZ:0≤x∧0≤y
      · rw[if_pos jZ] at hr
        have Bd:=Bd jZ.1 jZ.2
        ((repeat' (first|refine Vc (X5 @aJ @hx @hy @dD @ints_set) (X2 Bd n9) ?_|(refine V2 (X5 @aJ @hx @hy @dD @ints_set) ?_ ?_<;>try with_reducible intro hb)|(refine Xi ?_ ?_<;>try intro ht)|exact Xx|fail)))
        refine ak _ (k+1,ed out p.db en) ⟨by dsimp only;omega,aC.add rJ,hr⟩ (by dsimp only;omega) ?_
        unfold ed
        rw[dD]
        exact Xs false [0,1] X0
      · rw[if_neg jZ] at hr
        clear Bd
        ((repeat' (first|refine Va (X4 @aJ @hx @hy @dD) ?_|(refine V2 (X4 @aJ @hx @hy @dD) ?_ ?_<;>try with_reducible intro hb)|(refine Xi ?_ ?_<;>try intro ht)|exact Xx|fail)))
        all_goals exact ak _ (k+1,out) ⟨by dsimp only;omega,aC,hr⟩ (by dsimp only;omega) (Xs false [0,1] X0)
    · ((repeat' (first|refine Va X0 ?_|(refine V2 X0 ?_ ?_<;>try with_reducible intro hb)|(refine Xi ?_ ?_<;>try intro ht)|exact Xx|fail)))
      rw[b6 (by omega),lM] at hr
      subst hr
      refine aq _ _ rfl ?_;clear ak aq Ql
      repeat (refine Xu ?_)
      refine Vb X0 ?_
      refine aG (fun z:Nat × List Int=>(⟨aw [(1,.tree 1 (ints plan)),(2,.ptr 0 0 0),(5,.ref 1 1 0 m.rules.toNat),(11,.lit (.int .i64 z.1))],[.var (au m),.arr 1 (ints z.2)]⟩:St))
        (fun z=>z.1≤m.av.length∧fj m.rules z.2∧lN plan (m.av.drop z.1) z.2=o3) (fun z=>m.av.length - z.1) (0,out) ⟨aH _,aC,h3⟩ (Xv X0) ?_
      clear hk aC fG aF h3
      rintro ⟨k,out⟩ ⟨hk,aC,hr⟩ Ql ak aq
      dsimp only at hk aC hr ⊢
      have fG:out.length=m.rules.toNat:=by have:=aC.1;omega
      by_cases aF:k<m.av.length
      · have hd:=b7 m.av k default aF
        have mS:=hm.ct _ (az (d:=default) aF)
        generalize aJ:m.av.getD k default=c at *
        rw[hd,lN] at hr
        obtain ⟨q1,q2,q3,q4⟩:=ju mS
        have hlen:=uq hm q4
        have Dr:=CU (m:=m) (plan:=plan) (fun x hx=>(kF q4 x hx).2) 0
        have vG:=wR (most:=c.most) (sum:=dX plan c.aA 0) (g7 q3)
        have Gc:=VE (dX plan c.aA 0 - c.most) c.bg (by omega) (g7 q3)
        rw[We (g7 q3)] at Gc
        generalize zi:dX plan c.aA 0=sum at *
        generalize Wt:iZ c.most c.bg sum=xo at *
        have n9:=C7 (out.getD c.db.toNat 0) xo (aC.get _) vG
        generalize dD:out.getD c.db.toNat 0=gx at *
        ((repeat' (first|refine Va @aJ ?_|(refine Xi ?_ ?_<;>try intro ht)|exact Xx|fail)))
        refine aG (fun z:Nat × Int=>(⟨aw [(1,.tree 1 (ints plan)),(2,.ptr 0 0 0),(5,.ref 1 1 0 m.rules.toNat),(11,.lit (.int .i64 k)),(12,.ptr 2 0 0),(13,.lit (.int .i64 z.2)),(14,.lit (.int .i64 z.1))],[.var (au m),.arr 1 (ints out),.var (bu c)]⟩:St))
          (fun z=>z.1≤c.aA.length∧0≤z.2∧z.2≤1000 * z.1∧dX plan (c.aA.drop z.1) z.2=sum) (fun z=>c.aA.length - z.1) (0,0) ⟨aH _,c9 _,by dsimp only;omega,zi⟩ (Xv X0) ?_
        rintro ⟨j,n⟩ ⟨hj,cy,eh,bK⟩ cR ba bd
        dsimp only at hj cy eh bK ⊢
        by_cases cq:j<c.aA.length
        · have gT:=b7 c.aA j default cq
          have ns:=kF q4 _ (az (d:=default) cq)
          generalize lS:c.aA.getD j default=x at *
          rw[gT,dX] at bK
          obtain ⟨b1,b2,b3,b4⟩:=cV.1 ns.1
          have Kv:=ns.2
          generalize n8:plan.getD x.cls.toNat 0=px at *
          ((repeat' (first|refine Va (X2 @lS @n8) ?_|(refine Xi ?_ ?_<;>try intro ht)|exact Xx|fail)))
          · rw[if_pos (by assumption)] at bK
            exact ba _ (j+1,n+x.wt) ⟨by dsimp only;omega,by dsimp only;omega,by dsimp only;omega,bK⟩ (by dsimp only;omega) (Xs false [0,1,2] X0)
          · rw[if_neg (by assumption)] at bK
            exact ba _ (j+1,n) ⟨by dsimp only;omega,by dsimp only;omega,by dsimp only;omega,bK⟩ (by dsimp only;omega) (Xs false [0,1,2] X0)
        · ((repeat' (first|refine Va X0 ?_|(refine Xi ?_ ?_<;>try intro ht)|exact Xx|fail)))
          rw[b6 (by omega),dX] at bK
          subst bK
          refine bd _ _ rfl ?_
          clear ba bd cR
          repeat (refine Xu ?_)
          refine Vc (X2 @dD @ints_set) (X2 Gc n9) ?_
          refine ak _ (k+1,ed out c.db xo) ⟨by dsimp only;omega,aC.add vG,hr⟩ (by dsimp only;omega) ?_
          unfold ed
          rw[dD]
          exact Xs false [0,1] X0
      · ((repeat' (first|refine Va X0 ?_|(refine Xi ?_ ?_<;>try intro ht)|exact Xx|fail)))
        rw[b6 (by omega),lN] at hr
        refine aq _ _ rfl ?_;clear ak aq Ql
        repeat (refine Xu ?_)
        refine Vb X0 ?_
        subst hr
        refine dR [] true (by decide) trivial (by decide) (by decide) ?_
        rw[← fG]
        first|exact .pure rfl|exact .eq rfl|exact .fz rfl (by simp only[Bc,Rc])
theorem abY (m:ae) (plan:List Int) (hb:MB m) (b9:plan.length<9223372036854775808):ao Tryz.prog 54 [.agg (au m),.tree 1 (ints plan)] [] (.bM [.lit (.int .i64 (rn m plan).1),.tree 1 (ints (rn m plan).2.1),.lit (.int .i64 (rn m plan).2.2)]) []:=by
  generalize aj:rn m plan=res
  unfold rn at aj
  have hval:=yD m hb
  have Be:=afa m plan b9
  by_cases hv:dW m=0
  rotate_left
  · rw[if_pos hv] at aj
    subst aj
    refine ao.aD (fn:=Tryz.f54) 37 0 [.tmp 4,.tmp 5,.tmp 6] Tryz.func54 rfl rfl rfl rfl rfl (by simp) ?_
    ((repeat' (first|refine Vd X0 hval ?_|(refine Xi ?_ ?_<;>try intro ht)|exact Xx|fail)))
    all_goals first|exact dR [] true (by decide) trivial (by decide) (by decide) (tT (.pure rfl) aO.nil (.pure rfl))|(exfalso;omega)
  rw[if_neg (by omega)] at aj
  rw[hv] at hval
  have cu:=iu.1 hv
  by_cases Dt:oS m plan=true
  rotate_left
  · rw[if_pos (by simpa using Dt)] at aj
    rw[show oS m plan=false by simpa using Dt] at Be
    subst aj
    refine ao.aD (fn:=Tryz.f54) 37 0 [.tmp 4,.tmp 5,.tmp 6] Tryz.func54 rfl rfl rfl rfl rfl (by simp) ?_
    ((repeat' (first|refine Vd X0 (X2 hval Be) ?_|(refine Xi ?_ ?_<;>try intro ht)|exact Xx|fail)))
    all_goals first|exact dR [] true (by decide) trivial (by decide) (by decide) (tT (.pure rfl) aO.nil (.pure rfl))|(exfalso;omega)
  rw[if_neg (by simp[Dt])] at aj
  rw[Dt] at Be
  have hp:=JC Dt
  have Kr:=afd m plan cu hp
  have aC:=AD cu plan
  have gH:=cu.mP
  unfold A0 at aj
  dsimp only at aj
  generalize gZ m plan=l at *
  have eV:=aC.1
  generalize uf:gY l 0=aU at *
  subst aj
  refine ao.aD (fn:=Tryz.f54) 37 0 [.tmp 4,.tmp 5,.tmp 6] Tryz.func54 rfl rfl rfl rfl rfl (by simp) ?_
  ((repeat' (first|refine Vd X0 (X3 hval Be Kr) ?_|(refine Xi ?_ ?_<;>try intro ht)|exact Xx|fail)))
  refine aG (fun z:Nat × Int=>(⟨aw [(8,.tree 1 (ints l)),(9,.lit (.int .i64 z.2)),(10,.lit (.int .i64 z.1))],[.var (au m)]⟩:St))
    (fun z=>z.1≤l.length∧aS z.2∧gY (l.drop z.1) z.2=aU) (fun z=>l.length - z.1) (0,0) ⟨aH _,by unfold aS;decide,uf⟩ (Xv X0) ?_
  rintro ⟨j,n⟩ ⟨hj,cy,bK⟩ Ql ak aq
  dsimp only at hj cy bK ⊢
  by_cases cq:j<l.length
  · have gT:=b7 l j 0 cq
    have Ds:=aC.get j
    generalize lS:l.getD j 0=x at *
    rw[gT,gY] at bK
    ((repeat' (first|refine Vc @lS (C7 n x cy Ds) ?_|(refine Xi ?_ ?_<;>try intro ht)|exact Xx|fail)))
    exact ak _ (j+1,cS n x) ⟨by dsimp only;omega,oT cy Ds,bK⟩ (by dsimp only;omega) (Xv X0)
  · ((repeat' (first|refine Va X0 ?_|(refine Xi ?_ ?_<;>try intro ht)|exact Xx|fail)))
    rw[b6 (by omega),gY] at bK
    refine aq _ _ rfl ?_;clear ak aq Ql
    repeat (refine Xu ?_)
    refine Vb X0 ?_
    exact aE rfl (by rw[bK])
theorem abZ (m:ae) (plan:List Int) (hb:MB m) (b9:plan.length<9223372036854775808):ao Tryz.prog 55 [.agg (au m),.tree 1 (ints plan)] [] (.lit (.int .i64 (mK m plan))) []:=by
  generalize aj:mK m plan=res
  rw[adl] at aj
  have me:=hb.cls
  have hval:=yD m hb
  refine ao.aD (fn:=Tryz.f55) 32 0 [.tmp 4] Tryz.func55 rfl rfl rfl rfl rfl (by simp) ?_
  ((repeat' (first|refine Vd X0 hval ?_|(refine Xi ?_ ?_<;>try intro ht)|fail)))
  · rw[if_pos (by assumption)] at aj
    exact aE rfl (by rw[aj])
  · rw[if_neg (by omega),if_pos (by omega)] at aj
    exact aE rfl (by rw[aj])
  rw[if_neg (by omega),if_neg (by omega)] at aj
  refine aG (fun i:Nat=>(⟨aw [(1,.tree 1 (ints plan)),(2,.ptr 0 0 0),(6,.lit (.int .i64 i))],[.var (au m)]⟩:St)) (fun i=>i≤plan.length∧(if yY m i (plan.drop i)=false then 17 else 0)=res) (fun i=>plan.length - i) 0 ⟨aH _,aj⟩ (Xv X0) ?_
  rintro i ⟨hi,hr⟩ Ql ak aq
  by_cases ax:i<plan.length
  · have hd:=b7 plan i 0 ax
    generalize aJ:plan.getD i 0=o at *
    have lQ:=C8 m i o
    rw[hd,yY] at hr
    generalize ez m i o=ob at *
    ((repeat' (first|refine Vc @aJ lQ ?_|(refine Xi ?_ ?_<;>try intro ht)|exact Xx|fail)))
    · obtain rfl:ob=false:=by assumption
      refine Vb X0 ?_
      exact aE rfl (by rw[← hr];rfl)
    · obtain rfl:ob=true:=by assumption
      rw[gV] at hr
      exact ak _ (i+1) ⟨by omega,hr⟩ (by omega) (Xv X0)
  · ((repeat' (first|refine Va X0 ?_|(refine Xi ?_ ?_<;>try intro ht)|exact Xx|fail)))
    rw[b6 (by omega),yY] at hr
    refine aq _ _ rfl ?_;clear ak aq Ql
    repeat (refine Xu ?_)
    refine Vb X0 ?_
    exact aE rfl (by rw[← hr];rfl)
end T

