import Derived.Test.YtdipcmigdbnheaaGreatX18
import Derived.Test.YtdipcmigdbnheaaGreatX14
set_option linter.unusedVariables false
set_option linter.unusedSimpArgs false
set_option linter.unnecessarySimpa false
set_option linter.unusedSectionVars false
set_option maxHeartbeats 64000000
set_option maxRecDepth 20000
open Nat renaming zero_le→aD,lt_or_ge→eK,eq_zero_or_pos→mY,reduceEqDiff→Dj,reduceBEq→ri
open Bool renaming true_or→tU,false_or→lQ,eq_iff_iff→mB,and_eq_true→bh,or_eq_true→kB,not_eq_true'→j4,false_eq_true→jv,true_and→g9,not_false→jx,not_true→gQ
open List renaming drop_eq_nil_of_le→dw,any_nil→Dh,eq_nil_of_length_eq_zero→p7,nil_append→dK,length_nil→nJ,append_nil→jc,all_nil→Gq
open Option renaming isNone_none→K7
open Go Go.Am Go.Proofs
open Nat (reduceEqDiff reduceAdd reduceLeDiff reduceMul)
open Int (reduceNeg reduceLE reduceToNat)
namespace T
theorem ac' (m:ah) (hm:MB m):ao Tryz.prog 58 [.agg (ar m)] [] (.lit (.bool (!qK m))) []:=by
  have qF:=hm.cls
  have B4:=hm.ae
  have U3:=hm.au
  unfold qK
  generalize uH:m.cls.any (fun l=>decide (24<l.length))=b
  refine ao.aF (fn:=Tryz.f58) 44 0 [.tmp 2] Tryz.func58 rfl rfl rfl rfl rfl (by simp) ?_
  refine Vb X0 ?_
  refine aI (fun i:Nat=>(⟨av [(1,.ptr 0 0 0),(3,.lit (.int .i64 i))],[.var (ar m)]⟩:St)) (fun i=>i≤m.cls.length∧(m.cls.drop i).any (fun l=>decide (24<l.length))=b) (fun i=>m.cls.length - i) 0 ⟨aD _,uH⟩ (Xv X0) ?_
  rintro i ⟨hi,hr⟩ Ql ak aq
  by_cases hi':i<m.cls.length
  · have jf:=hm.opt _ (az (d:=(default:List bK)) hi')
    rw[B3 hi'] at hr
    generalize fA:m.cls.getD i default=l at *
    ((repeat' (first|refine Va @fA ?_|(refine Xi ?_ ?_<;>try intro ht)|exact Xx|fail)))
    · rw[decide_eq_true (p:=24<l.length) (by omega),tU] at hr
      subst hr
      refine Vb X0 ?_
      exact aC rfl (by simp)
    · rw[decide_eq_false (p:=24<l.length) (by omega),lQ] at hr
      exact ak _ (i+1) ⟨by omega,hr⟩ (by omega) (Xv X0)
  · rw[dw (by omega),Dh] at hr
    subst hr
    ((repeat' (first|refine Va X0 ?_|(refine Xi ?_ ?_<;>try intro ht)|exact Xx|fail)))
    refine aq _ _ rfl ?_;clear ak aq Ql
    repeat (refine Xu ?_)
    ((repeat' (first|refine Vb X0 ?_|(refine V2 X0 ?_ ?_<;>try with_reducible intro hb)|fail)))
    all_goals refine aC rfl ?_
    all_goals (refine congrArg (fun b=>AV.lit (Value.bool b)) ?_;rw[mB];simp only[or_true,true_or,or_false,false_or,decide_eq_true_eq,beq_iff_eq,bne_iff_ne,bh,kB,j4,decide_eq_false_iff_not,jv,reduceCtorEq,iff_true,iff_false,true_iff,false_iff,eq_self];omega)
theorem ada (m:ah) (k:Nat) (hk:k<m.ae.length) (hp:∀ p∈m.ae,p.ax.length<9223372036854775808) (hm:∀ l∈m.cls,l.length≤24) (hl:m.cls.length≤24) (dz:m.ae.length<9223372036854775808) :
    ao Tryz.prog 61 [.agg (ar m),.lit (.int .i64 k)] [] (.lit (.bool (fJ m (m.ae.getD k default) && (decide (k=0) || decide (mS (m.ae.getD (k - 1) default) (m.ae.getD k default)<0))))) []:=by
  have gv:((k:Int) - 1).toNat=k - 1:=by omega
  have Fu:=hp _ (az (d:=(default:Pr)) hk)
  generalize bT:m.ae.getD k default=p at *
  generalize U4:m.ae.getD (k - 1) default=q at *
  have hg:∀ i,(m.cls.getD i default).length≤24:=fun i=>by
    rcases eK i m.cls.length with h | h
    · exact hm _ (az h)
    · rw[List.getD_eq_getElem?_getD,List.getElem?_eq_none h];decide
  have h1:=hg p.fst.toNat
  have h2:=hg p.snd.toNat
  have hmul:(0:Int)≤(m.cls.getD p.fst.toNat default).length * (m.cls.getD p.snd.toNat default).length∧((m.cls.getD p.fst.toNat default).length:Int) * (m.cls.getD p.snd.toNat default).length≤24 * 24:=⟨Int.mul_nonneg (by omega) (by omega),Int.mul_le_mul (by omega) (by omega) (by omega) (by omega)⟩
  have adb:decide (mS q p<0)=(decide (q.cB<p.cB) || decide (q.cB=p.cB) && (decide (q.fst<p.fst) || decide (q.fst=p.fst) && decide (q.snd<p.snd))):=by
    rw[mB]
    simp only[decide_eq_true_eq,kB,bh,Ir]
  have Jt:=IU m p.cB
  rw[adb]
  unfold fJ
  generalize uH:p.ax.any nt=bad
  generalize xQ:((m.cls.getD p.fst.toNat default).length:Int) * (m.cls.getD p.snd.toNat default).length=mm at *
  generalize hD:decide (0≤p.fst∧p.fst<p.snd∧p.snd<m.cls.length∧(p.ax.length:Int)=mm)=D
  generalize hO:(decide (q.cB<p.cB) || decide (q.cB=p.cB) && (decide (q.fst<p.fst) || decide (q.fst=p.fst) && decide (q.snd<p.snd)))=O
  refine ao.aF (fn:=Tryz.f61) 114 0 [.tmp 4] Tryz.func61 rfl rfl rfl rfl rfl (by simp) ?_
  ((repeat' (first|refine Vd (X2 @bT @xQ) Jt ?_|(refine V2 (X2 @bT @xQ) ?_ ?_<;>try with_reducible intro hb)|(refine Xi ?_ ?_<;>try intro ht)|exact Xx|fail)))
  all_goals try (refine aC rfl ?_;first|(rw[hb];rfl)|(rw[show D=false by rw[← hD];exact decide_eq_false (by omega)];simp;done))
  have Ju:D=true:=by rw[← hD];exact decide_eq_true (by omega)
  subst Ju
  have pg:iL m.rules p.cB=true:=by assumption
  refine aI (fun i:Nat=>(⟨av [(1,.lit (.int .i64 k)),(2,.ptr 0 0 0),(5,.ptr 1 0 0),(6,.lit (.int .i64 i))],[.var (ar m),.var (aV p)]⟩:St)) (fun i=>i≤p.ax.length∧(p.ax.drop i).any nt=bad) (fun i=>p.ax.length - i) 0 ⟨aD _,uH⟩ (Xv X0) ?_
  rintro i ⟨hi,hr⟩ Ql ak aq
  by_cases hi':i<p.ax.length
  · rw[dr p.ax i 0 hi',List.any_cons] at hr
    generalize bA:p.ax.getD i 0=x at *
    ((repeat' (first|refine Vc @bA (IT x) ?_|(refine V2 @bA ?_ ?_<;>try with_reducible intro hb)|(refine Xi ?_ ?_<;>try intro ht)|exact Xx|fail)))
    · rw[show nt x=true by simp[nt, *],tU] at hr
      subst hr
      refine Vb X0 ?_
      exact aC rfl (by simp)
    · rw[show nt x=false by simp[nt, *],lQ] at hr
      exact ak _ (i+1) ⟨by omega,hr⟩ (by omega) (Xs false [0,1] X0)
    · rw[show nt x=false by simp[nt, *],lQ] at hr
      exact ak _ (i+1) ⟨by omega,hr⟩ (by omega) (Xs false [0,1] X0)
  · rw[dw (by omega),Dh] at hr
    subst hr
    ((repeat' (first|refine Va X0 ?_|(refine V2 X0 ?_ ?_<;>try with_reducible intro hb)|(refine Xi ?_ ?_<;>try intro ht)|exact Xx|fail)))
    refine aq _ _ rfl ?_;clear ak aq Ql
    repeat (refine Xu ?_)
    ((repeat' (first|refine Vb (X2 @U4 @gv) ?_|(refine Xi ?_ ?_<;>try intro ht)|fail)))
    all_goals refine aC rfl ?_
    all_goals rw[pg,g9,g9]
    · rw[decide_eq_true (p:=k=0) (by omega)];simp
    all_goals rw[decide_eq_false (p:=k=0) (by omega),← hO]
    all_goals (refine congrArg (fun b=>AV.lit (Value.bool b)) ?_;rw[mB];simp only[lQ,jx,true_and,decide_eq_true_eq,beq_iff_eq,bne_iff_ne,bh,kB,j4,decide_eq_false_iff_not,jv,reduceCtorEq,iff_true,iff_false,true_iff,false_iff,eq_self];omega)
theorem ade (m:ah) (c:Ct) (hc:c.aK.length<9223372036854775808):ao Tryz.prog 62 [.agg (ar m),.agg (aU c)] [] (.lit (.bool (gV m c))) []:=by
  have IP:=IU m c.cB
  have n8:=IT c.bE
  generalize an:gV m c=res
  unfold gV at an
  generalize hD:decide (0≤c.most∧c.most≤1048576)=D at *
  refine ao.aF (fn:=Tryz.f62) 85 0 [.tmp 4] Tryz.func62 rfl rfl rfl rfl rfl (by simp) ?_
  ((repeat' (first|refine Vd X0 (X2 IP n8) ?_|(refine V2 X0 ?_ ?_<;>try with_reducible intro hb)|(refine Xi ?_ ?_<;>try intro ht)|exact Xx|fail)))
  all_goals try (refine aC rfl ?_;first|(rw[← an,hb];rfl)|(rw[← an,show D=false by rw[← hD];exact decide_eq_false (by omega)];simp;done)|(rw[← an,ht];simp;done))
  have Ju:D=true:=by rw[← hD];exact decide_eq_true (by omega)
  subst Ju
  have gp:(iL m.rules c.cB && true && iM c.bE)=true:=by simp[*]
  rw[gp,g9] at an
  refine aI (fun k:Nat=>(⟨av [(2,.ptr 0 0 0),(3,.ptr 1 0 0),(5,.lit (.int .i64 k))],[.var (ar m),.var (aU c)]⟩:St)) (fun k=>k≤c.aK.length∧dR m (kQ c.aK k) (c.aK.drop k)=res) (fun k=>c.aK.length - k) 0 ⟨aD _,an⟩ (Xv X0) ?_
  rintro k ⟨hk,hr⟩ Ql ak aq
  by_cases aP:k<c.aK.length
  · have hd:=dr c.aK k default aP
    generalize aO:c.aK.getD k default=x at *
    rw[hd,Pk] at hr
    have gv:((k:Int) - 1).toNat=k - 1:=by omega
    generalize bT:c.aK.getD (k - 1) default=y at *
    generalize aZ:eP m x.cls x.opt=ob at *
    have qT:=B8 m x.cls x.opt
    rw[aZ] at qT
    generalize hW:decide (1≤x.wt∧x.wt≤1000)=wb at *
    generalize hO:decide (rV y x<0)=O at *
    have U5:O=true↔y.cls<x.cls∨(y.cls=x.cls∧y.opt<x.opt):=by rw[← hO,decide_eq_true_eq,EM]
    ((repeat' (first|refine Vc (X3 @aO @bT @gv) qT ?_|(refine V2 (X3 @aO @bT @gv) ?_ ?_<;>try with_reducible intro hb)|(refine Xi ?_ ?_<;>try intro ht)|exact Xx|fail)))
    iterate 5
      · obtain rfl:res=false:=by
          rw[← hr]
          first
            | (rw[show ob=false by assumption];rfl)
            | (rw[show wb=false by rw[← hW];exact decide_eq_false (by omega)];simp;done)
            | (rw[decide_eq_false (p:=k=0) (by omega),show O=false from Bool.eq_false_iff.2 fun h=>by have:=U5.1 h;omega];simp;done)
        ((repeat' (first|refine Vb X0 ?_|fail)))
        exact aC rfl rfl
    all_goals
      refine ak _ (k+1) ⟨by omega,?_⟩ (by omega) (Xs false [0,1] X0)
      rw[td,aO,← hr,show ob=true by assumption,show wb=true by rw[← hW];exact decide_eq_true (by omega)]
      first
        | (rw[U5.2 (by omega)];simp;done)
        | (rw[decide_eq_true (p:=k=0) (by omega)];simp;done)
  · rw[dw (by omega),dR] at hr
    subst hr
    ((repeat' (first|refine Va X0 ?_|(refine Xi ?_ ?_<;>try intro ht)|exact Xx|fail)))
    refine aq _ _ rfl ?_;clear ak aq Ql
    repeat (refine Xu ?_)
    refine Vb X0 ?_
    exact aC rfl rfl
theorem wg (m:ah) (hm:MB m):ao Tryz.prog 25 [.agg (ar m)] [] (.lit (.int .i64 (dI m))) []:=by
  generalize an:dI m=res
  unfold dI at an
  have qF:=hm.cls
  have B4:=hm.ae
  have U3:=hm.au
  have U6:=ac' m hm
  generalize tx:qK m=lb at *
  cases lb
  rotate_left
  · rw[if_pos rfl] at an
    subst an
    refine ao.aF (fn:=Tryz.f25) 105 0 [.tmp 2] Tryz.func25 rfl rfl rfl rfl rfl (by simp) ?_
    ((repeat' (first|refine Vd @gQ U6 ?_|(refine Xi ?_ ?_<;>try intro ht)|exact Xx|fail)))
    all_goals first|exact aC rfl rfl|(exfalso;simp at *;done)
  rw[if_neg (by simp)] at an
  have aW:m.cls.length≤24∧∀ l∈m.cls,l.length≤24:=by
    have h:=tx
    unfold qK at h
    rw[decide_eq_false_iff_not] at h
    refine⟨by omega,fun l hl=>?_⟩
    rcases eK 24 l.length with h1 | h1
    · exact absurd (.inr (.inl (List.any_eq_true.2 ⟨l,hl,by simpa using h1⟩))) h
    · exact h1
  generalize h1:(m.cls.any fun l=>l.any fun o=>!dF m.rules none o.ch)=b1 at *
  refine ao.aF (fn:=Tryz.f25) 105 0 [.tmp 2] Tryz.func25 rfl rfl rfl rfl rfl (by simp) ?_
  ((repeat' (first|refine Vd @jx U6 ?_|(refine Xi ?_ ?_<;>try intro ht)|exact Xx|fail)))
  refine aI (fun i:Nat=>(⟨av [(1,.ptr 0 0 0),(3,.lit (.int .i64 i))],[.var (ar m)]⟩:St)) (fun i=>i≤m.cls.length∧((m.cls.drop i).any fun l=>l.any fun o=>!dF m.rules none o.ch)=b1) (fun i=>m.cls.length - i) 0 ⟨aD _,h1⟩ (Xv X0) ?_
  rintro i ⟨hi,hr⟩ Ql ak aq
  by_cases hi':i<m.cls.length
  · have nF:=az (d:=(default:List bK)) hi'
    have jh:=hm.opt _ nF
    have ca:=hm.ch _ nF
    have qG:=aW.2 _ nF
    rw[B3 hi'] at hr
    generalize fA:m.cls.getD i default=l at *
    generalize Jm:((m.cls.drop (i+1)).any fun l=>l.any fun o=>!dF m.rules none o.ch)=rest at *
    ((repeat' (first|refine Va X0 ?_|(refine Xi ?_ ?_<;>try intro ht)|exact Xx|fail)))
    refine aI (fun k:Nat=>(⟨av [(1,.ptr 0 0 0),(3,.lit (.int .i64 i)),(4,.lit (.int .i64 k))],[.var (ar m)]⟩:St)) (fun k=>k≤l.length∧(((l.drop k).any fun o=>!dF m.rules none o.ch) || rest)=b1) (fun k=>l.length - k) 0 ⟨aD _,hr⟩ (Xv X0) ?_
    clear hr
    rintro k ⟨hk,hr⟩ cP a5 a8
    by_cases aP:k<l.length
    · have eh:=az (d:=(default:bK)) aP
      have gJ:=ca _ eh
      rw[B3 aP] at hr
      generalize jV:l.getD k default=o at *
      generalize UY:((l.drop (k+1)).any fun o=>!dF m.rules none o.ch)=adf at *
      ((repeat' (first|refine Va (X2 @fA @jV) ?_|(refine Xi ?_ ?_<;>try intro ht)|exact Xx|fail)))
      refine aI (fun j:Nat=>(⟨av [(1,.ptr 0 0 0),(3,.lit (.int .i64 i)),(4,.lit (.int .i64 k)),(5,.tree 2 (rowsOf aG o.ch)),(6,.lit (.int .i64 j))],[.var (ar m)]⟩:St)) (fun j=>j≤o.ch.length∧(!dF m.rules (kQ o.ch j) (o.ch.drop j) || adf || rest)=b1) (fun j=>o.ch.length - j) 0 ⟨aD _,hr⟩ (Xv X0) ?_
      clear hr
      rintro j ⟨hj,hr⟩ lH fl eX
      by_cases dZ:j<o.ch.length
      · have hd:=dr o.ch j default dZ
        generalize aO:o.ch.getD j default=c at *
        rw[hd,Ph] at hr
        have gv:((j:Int) - 1).toNat=j - 1:=by omega
        generalize bT:o.ch.getD (j - 1) default=q at *
        have cK:=IU m c.1
        generalize qV:iL m.rules c.1=rb at *
        have dz:=IT c.2
        generalize dJ:iM c.2=pb at *
        ((repeat' (first|refine Vc (X3 @aO @bT @gv) (X2 cK dz) ?_|(refine V2 (X3 @aO @bT @gv) ?_ ?_<;>try with_reducible intro hb)|(refine Xi ?_ ?_<;>try intro ht)|exact Xx|fail)))
        iterate 3
          · obtain rfl:b1=true:=by
              rw[← hr]
              first
                | (rw[show rb=false by assumption];rfl)
                | (rw[show pb=false by assumption];simp;done)
                | (rw[decide_eq_false (p:=j=0) (by omega),decide_eq_false (p:=q.1<c.1) (by omega)];simp;done)
            rw[if_pos rfl] at an
            repeat (refine Xu ?_)
            ((repeat' (first|refine Vb X0 ?_|fail)))
            exact aC rfl (by rw[an])
        all_goals
          refine fl _ (j+1) ⟨by omega,?_⟩ (by omega) (Xv X0)
          rw[td,aO,← hr,show rb=true by assumption,show pb=true by assumption]
          first
            | (rw[decide_eq_true (p:=q.1<c.1) (by omega)];simp;done)
            | (rw[decide_eq_true (p:=j=0) (by omega)];simp;done)
      · rw[dw (by omega),dF] at hr
        simp only[gQ,lQ] at hr
        ((repeat' (first|refine Va X0 ?_|(refine Xi ?_ ?_<;>try intro ht)|exact Xx|fail)))
        refine eX _ _ rfl ?_
        clear fl eX lH
        repeat (refine Xu ?_)
        refine Va X0 ?_
        exact a5 _ (k+1) ⟨by omega,by rw[UY];exact hr⟩ (by omega) (Xv X0)
    · rw[dw (by omega),Dh,lQ] at hr
      ((repeat' (first|refine Va @fA ?_|(refine Xi ?_ ?_<;>try intro ht)|exact Xx|fail)))
      refine a8 _ _ rfl ?_
      clear a5 a8 cP
      repeat (refine Xu ?_)
      refine Va X0 ?_
      exact ak _ (i+1) ⟨by omega,by rw[Jm];exact hr⟩ (by omega) (Xv X0)
  rw[dw (by omega),Dh] at hr
  subst hr
  rw[if_neg (by simp)] at an
  ((repeat' (first|refine Va X0 ?_|(refine Xi ?_ ?_<;>try intro ht)|exact Xx|fail)))
  refine aq _ _ rfl ?_;clear ak aq Ql
  clear hi hi'
  repeat (refine Xu ?_)
  refine Vb X0 ?_
  refine aI (fun k:Nat=>(⟨av [(1,.ptr 0 0 0),(7,.lit (.int .i64 k))],[.var (ar m)]⟩:St)) (fun k=>k≤m.ae.length∧eI m none m.ae=eI m (kQ m.ae k) (m.ae.drop k)) (fun k=>m.ae.length - k) 0 ⟨aD _,rfl⟩ (Xv X0) ?_
  rintro k ⟨hk,hr⟩ Ql ak aq
  by_cases aP:k<m.ae.length
  · have hd:=dr m.ae k default aP
    have n8:=ada m k aP hm.ax aW.2 aW.1 hm.ae
    rw[hd,Pj] at hr
    generalize (fJ m (m.ae.getD k default) && (decide (k=0) || decide (mS (m.ae.getD (k - 1) default) (m.ae.getD k default)<0)))=pb at *
    ((repeat' (first|refine Vc X0 n8 ?_|(refine Xi ?_ ?_<;>try intro ht)|exact Xx|fail)))
    · obtain rfl:pb=false:=by assumption
      rw[Bool.false_and] at hr
      rw[if_pos hr] at an
      subst an
      refine Vb X0 ?_
      exact aC rfl rfl
    · obtain rfl:pb=true:=by assumption
      rw[g9] at hr
      exact ak _ (k+1) ⟨by omega,by rw[td];exact hr⟩ (by omega) (Xv X0)
  rw[dw (by omega),eI] at hr
  rw[if_neg (by rw[hr];simp)] at an
  ((repeat' (first|refine Va X0 ?_|(refine Xi ?_ ?_<;>try intro ht)|exact Xx|fail)))
  refine aq _ _ rfl ?_;clear ak aq Ql
  clear hr hk aP
  repeat (refine Xu ?_)
  refine Vb X0 ?_
  generalize h2:(m.au.any fun c=>!gV m c)=b2 at *
  refine aI (fun k:Nat=>(⟨av [(1,.ptr 0 0 0),(8,.lit (.int .i64 k))],[.var (ar m)]⟩:St)) (fun k=>k≤m.au.length∧((m.au.drop k).any fun c=>!gV m c)=b2) (fun k=>m.au.length - k) 0 ⟨aD _,h2⟩ (Xv X0) ?_
  rintro k ⟨hk,hr⟩ Ql ak aq
  by_cases aP:k<m.au.length
  · have fY:=az (d:=(default:Ct)) aP
    have fA:=hm.kr _ fY
    rw[B3 aP] at hr
    generalize aO:m.au.getD k default=c at *
    have sc:=ade m c fA
    generalize gV m c=cb at *
    ((repeat' (first|refine Vc @aO sc ?_|(refine Xi ?_ ?_<;>try intro ht)|exact Xx|fail)))
    · obtain rfl:cb=false:=by assumption
      simp only[jx,tU] at hr
      rw[if_pos hr.symm] at an
      subst an
      refine Vb X0 ?_
      exact aC rfl rfl
    · obtain rfl:cb=true:=by assumption
      rw[gQ,lQ] at hr
      exact ak _ (k+1) ⟨by omega,hr⟩ (by omega) (Xv X0)
  rw[dw (by omega),Dh] at hr
  subst hr
  rw[if_neg (by simp)] at an
  subst an
  ((repeat' (first|refine Va X0 ?_|(refine Xi ?_ ?_<;>try intro ht)|exact Xx|fail)))
  refine aq _ _ rfl ?_;clear ak aq Ql
  repeat (refine Xu ?_)
  refine Vb X0 ?_
  exact aC rfl rfl
theorem adg (xs:List Int) (hl:xs.length<549755813888):ao Tryz.prog 90 [.tree 1 (ints xs)] [] (.tree 1 (ints xs)) []:=by
  rcases mY xs.length with h | h
  · obtain rfl:=p7 h
    refine ao.empty (pre:=[]) (post:=[]) (fun a cap=>?_)
    rw[dK]
    cases a with
    | none =>
      refine ao.aF (fn:=Tryz.f90) 8 0 [.tmp 2] Tryz.func90 rfl rfl rfl rfl rfl (by simp) ?_
      ((repeat' (first|refine Vb @K7.{0} ?_|(refine Xi ?_ ?_<;>try intro ht)|exact Xx|fail)))
      all_goals first|(refine eA [] true (by decide) trivial (by decide) (by decide) ?_;exact aN.nil)|(exfalso;simp at *;done)
    | some ad =>
      refine ao.aF (fn:=Tryz.f90) 8 0 [.tmp 2] Tryz.func90 rfl rfl rfl rfl rfl (by simp) ?_
      refine w8 (by decide) ?_
      intro K hK
      simp (disch:=omega) only[Ac,↓Pc,simprocAttr]
      refine hK _ ?_
      clear hK K
      refine Wk ?_
      intro Q hn he
      ((refine w8 (by decide) ?_);intro K hK;simp (disch:=omega) only[Ac,↓Pc,simprocAttr,Option.isNone_some];skip);(refine hK _ ?_;clear hK K)
      refine DK (t:=false) (by simp only[n7,Lc,↓reduceIte,Dj,ri]) (fun ht=>by simp at ht) (fun ht=>?_)
      refine DJ ?_
      refine hn _ ?_
      (try clear hn;try clear he;try clear Q;clear ht)
      refine cA (aA.Eb 0 1 (by (simp only[n7,pR,Rc,↓reduceIte,Dj,ri,ev,dY,St.put];exact rfl))) ?_
      refine Vb (X3 @nJ.{0} @jc.{0} @Gq.{0}) ?_
      refine eA [] true (by decide) trivial (by decide) (by decide) ?_
      exact aN.cd (rows:=[]) rfl (by simp) rfl (hU (by decide)) (by simp)
  · refine ao.aF (fn:=Tryz.f90) 8 0 [.tmp 2] Tryz.func90 rfl rfl rfl rfl rfl (by simp) ?_
    ((repeat' (first|refine Vb @AO ?_|(refine Xi ?_ ?_<;>try intro ht)|exact Xx|fail)))
    exact Xw true [] X0
theorem adh (xs:List Ld) (hl:xs.length<549755813888):ao Tryz.prog 91 [.tree 3 (rowsOf gG xs)] [] (.tree 3 (rowsOf gG xs)) []:=by
  rcases mY xs.length with h | h
  · obtain rfl:=p7 h
    refine ao.empty (pre:=[]) (post:=[]) (fun a cap=>?_)
    rw[dK]
    cases a with
    | none =>
      refine ao.aF (fn:=Tryz.f91) 8 0 [.tmp 2] Tryz.func91 rfl rfl rfl rfl rfl (by simp) ?_
      ((repeat' (first|refine Vb @K7.{0} ?_|(refine Xi ?_ ?_<;>try intro ht)|exact Xx|fail)))
      all_goals first|(refine eA [] true (by decide) trivial (by decide) (by decide) ?_;exact aN.nil)|(exfalso;simp at *;done)
    | some ad =>
      refine ao.aF (fn:=Tryz.f91) 8 0 [.tmp 2] Tryz.func91 rfl rfl rfl rfl rfl (by simp) ?_
      refine w8 (by decide) ?_
      intro K hK
      simp (disch:=omega) only[Ac,↓Pc,simprocAttr]
      refine hK _ ?_
      clear hK K
      refine Wk ?_
      intro Q hn he
      ((refine w8 (by decide) ?_);intro K hK;simp (disch:=omega) only[Ac,↓Pc,simprocAttr,Option.isNone_some];skip);(refine hK _ ?_;clear hK K)
      refine DK (t:=false) (by simp only[n7,Lc,↓reduceIte,Dj,ri]) (fun ht=>by simp at ht) (fun ht=>?_)
      refine DJ ?_
      refine hn _ ?_
      (try clear hn;try clear he;try clear Q;clear ht)
      refine cA (aA.Eb 0 3 (by (simp only[n7,pR,Rc,↓reduceIte,Dj,ri,ev,dY,St.put];exact rfl))) ?_
      refine Vb (X3 @nJ.{0} @jc.{0} @Gq.{0}) ?_
      refine eA [] true (by decide) trivial (by decide) (by decide) ?_
      exact aN.cd (rows:=[]) rfl (by simp) rfl (hU (by decide)) (by simp)
  · refine ao.aF (fn:=Tryz.f91) 8 0 [.tmp 2] Tryz.func91 rfl rfl rfl rfl rfl (by simp) ?_
    ((repeat' (first|refine Vb @Bh ?_|(refine Xi ?_ ?_<;>try intro ht)|exact Xx|fail)))
    exact Xw true [] X0
end T

