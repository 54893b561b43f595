import Derived.Test.YtdipcmigdbnheaaGreatX11
set_option linter.unusedVariables false
set_option linter.unusedSimpArgs false
set_option linter.unnecessarySimpa false
set_option linter.unusedSectionVars false
set_option maxHeartbeats 64000000
set_option maxRecDepth 20000
open Nat renaming zero_le→aM,lt_or_ge→eF
open Bool renaming true_or→qV,false_or→mS,eq_iff_iff→oC,and_eq_true→bk,or_eq_true→kv,not_eq_true'→kx,false_eq_true→jF,true_and→ic,not_false→nw,not_true→lR
open List renaming drop_eq_nil_of_le→cB,any_nil→Cb
open Go Go.Am Go.Proofs
open Nat (reduceEqDiff reduceAdd reduceLeDiff reduceMul)
open Int (reduceNeg reduceLE reduceToNat)
namespace T
theorem aaV (m:aj) (hm:MB m):an Tryz.prog 58 [.agg (ar m)] [] (.lit (.bool (!qH m))) []:=by
  have sZ:=hm.cls
  have uo:=hm.ae
  have Hy:=hm.au
  unfold qH
  generalize uq:m.cls.any (fun l=>decide (24<l.length))=b
  refine an.aD (fn:=Tryz.f58) 44 0 [.tmp 2] Tryz.func58 rfl rfl rfl rfl rfl (by simp) ?_
  refine Vb X0 ?_
  refine aU (fun i:Nat=>(⟨aw [(1,.ptr 0 0 0),(3,.lit (.int .i64 i))],[.var (ar m)]⟩:St)) (fun i=>i≤m.cls.length∧(m.cls.drop i).any (fun l=>decide (24<l.length))=b) (fun i=>m.cls.length - i) 0 ⟨aM _,uq⟩ (Xv X0) ?_
  rintro i ⟨hi,hr⟩ Ql aq av
  by_cases hi':i<m.cls.length
  · have gZ:=hm.opt _ (aC (d:=(default:List bx)) hi')
    rw[A0 hi'] at hr
    generalize gP:m.cls.getD i default=l at *
    ((repeat' (first|refine Va @gP ?_|(refine Xi ?_ ?_<;>try intro ht)|exact Xx|fail)))
    · rw[decide_eq_true (p:=24<l.length) (by omega),qV] at hr
      subst hr
      refine Vb X0 ?_
      exact aK rfl (by simp)
    · rw[decide_eq_false (p:=24<l.length) (by omega),mS] at hr
      exact aq _ (i+1) ⟨by omega,hr⟩ (by omega) (Xv X0)
  · rw[cB (by omega),Cb] at hr
    subst hr
    ((repeat' (first|refine Va X0 ?_|(refine Xi ?_ ?_<;>try intro ht)|exact Xx|fail)))
    refine av _ _ rfl ?_;clear aq av Ql
    repeat (refine Xu ?_)
    ((repeat' (first|refine Vb X0 ?_|(refine V2 X0 ?_ ?_<;>try with_reducible intro hb)|fail)))
    all_goals refine aK rfl ?_
    all_goals (refine congrArg (fun b=>AV.lit (Value.bool b)) ?_;rw[oC];simp only[or_true,true_or,or_false,false_or,decide_eq_true_eq,beq_iff_eq,bne_iff_ne,bk,kv,kx,decide_eq_false_iff_not,jF,reduceCtorEq,iff_true,iff_false,true_iff,false_iff,eq_self];omega)
theorem aaW (m:aj) (k:Nat) (hk:k<m.ae.length) (hp:∀ p∈m.ae,p.az.length<9223372036854775808) (hm:∀ l∈m.cls,l.length≤24) (hl:m.cls.length≤24) (cq:m.ae.length<9223372036854775808) :
    an Tryz.prog 61 [.agg (ar m),.lit (.int .i64 k)] [] (.lit (.bool (eW m (m.ae.getD k default) && (decide (k=0) || decide (mJ (m.ae.getD (k - 1) default) (m.ae.getD k default)<0))))) []:=by
  have gy:((k:Int) - 1).toNat=k - 1:=by omega
  have DZ:=hp _ (aC (d:=(default:Pr)) hk)
  generalize cT:m.ae.getD k default=p at *
  generalize hqq:m.ae.getD (k - 1) default=q at *
  have hg:∀ i,(m.cls.getD i default).length≤24:=fun i=>by
    rcases eF i m.cls.length with h | h
    · exact hm _ (aC h)
    · rw[List.getD_eq_getElem?_getD,List.getElem?_eq_none h];decide
  have h1:=hg p.fst.toNat
  have h2:=hg p.snd.toNat
  have hmul:(0:Int)≤(m.cls.getD p.fst.toNat default).length * (m.cls.getD p.snd.toNat default).length∧((m.cls.getD p.fst.toNat default).length:Int) * (m.cls.getD p.snd.toNat default).length≤24 * 24:=⟨Int.mul_nonneg (by omega) (by omega),Int.mul_le_mul (by omega) (by omega) (by omega) (by omega)⟩
  have aaY:decide (mJ q p<0)=(decide (q.aV<p.aV) || decide (q.aV=p.aV) && (decide (q.fst<p.fst) || decide (q.fst=p.fst) && decide (q.snd<p.snd))):=by
    rw[oC]
    simp only[decide_eq_true_eq,kv,bk,Ho]
  have l8:=Hm m p.aV
  rw[aaY]
  unfold eW
  generalize uq:p.az.any nf=bad
  generalize ur:((m.cls.getD p.fst.toNat default).length:Int) * (m.cls.getD p.snd.toNat default).length=mm at *
  generalize hD:decide (0≤p.fst∧p.fst<p.snd∧p.snd<m.cls.length∧(p.az.length:Int)=mm)=D
  generalize hO:(decide (q.aV<p.aV) || decide (q.aV=p.aV) && (decide (q.fst<p.fst) || decide (q.fst=p.fst) && decide (q.snd<p.snd)))=O
  refine an.aD (fn:=Tryz.f61) 114 0 [.tmp 4] Tryz.func61 rfl rfl rfl rfl rfl (by simp) ?_
  ((repeat' (first|refine Vd (X2 @cT @ur) l8 ?_|(refine V2 (X2 @cT @ur) ?_ ?_<;>try with_reducible intro hb)|(refine Xi ?_ ?_<;>try intro ht)|exact Xx|fail)))
  all_goals try (refine aK rfl ?_;first|(rw[hb];rfl)|(rw[show D=false by rw[← hD];exact decide_eq_false (by omega)];simp;done))
  have Hz:D=true:=by rw[← hD];exact decide_eq_true (by omega)
  subst Hz
  have qJ:iu m.rules p.aV=true:=by assumption
  refine aU (fun i:Nat=>(⟨aw [(1,.lit (.int .i64 k)),(2,.ptr 0 0 0),(5,.ptr 1 0 0),(6,.lit (.int .i64 i))],[.var (ar m),.var (bu p)]⟩:St)) (fun i=>i≤p.az.length∧(p.az.drop i).any nf=bad) (fun i=>p.az.length - i) 0 ⟨aM _,uq⟩ (Xv X0) ?_
  rintro i ⟨hi,hr⟩ Ql aq av
  by_cases hi':i<p.az.length
  · rw[cA p.az i 0 hi',List.any_cons] at hr
    generalize bE:p.az.getD i 0=x at *
    ((repeat' (first|refine Vc @bE (Hk x) ?_|(refine V2 @bE ?_ ?_<;>try with_reducible intro hb)|(refine Xi ?_ ?_<;>try intro ht)|exact Xx|fail)))
    · rw[show nf x=true by simp[nf, *],qV] at hr
      subst hr
      refine Vb X0 ?_
      exact aK rfl (by simp)
    · rw[show nf x=false by simp[nf, *],mS] at hr
      exact aq _ (i+1) ⟨by omega,hr⟩ (by omega) (Xs false [0,1] X0)
    · rw[show nf x=false by simp[nf, *],mS] at hr
      exact aq _ (i+1) ⟨by omega,hr⟩ (by omega) (Xs false [0,1] X0)
  · rw[cB (by omega),Cb] at hr
    subst hr
    ((repeat' (first|refine Va X0 ?_|(refine V2 X0 ?_ ?_<;>try with_reducible intro hb)|(refine Xi ?_ ?_<;>try intro ht)|exact Xx|fail)))
    refine av _ _ rfl ?_;clear aq av Ql
    repeat (refine Xu ?_)
    ((repeat' (first|refine Vb (X2 @hqq @gy) ?_|(refine Xi ?_ ?_<;>try intro ht)|fail)))
    all_goals refine aK rfl ?_
    all_goals rw[qJ,ic,ic]
    · rw[decide_eq_true (p:=k=0) (by omega)];simp
    all_goals rw[decide_eq_false (p:=k=0) (by omega),← hO]
    all_goals (refine congrArg (fun b=>AV.lit (Value.bool b)) ?_;rw[oC];simp only[mS,nw,true_and,decide_eq_true_eq,beq_iff_eq,bne_iff_ne,bk,kv,kx,decide_eq_false_iff_not,jF,reduceCtorEq,iff_true,iff_false,true_iff,false_iff,eq_self];omega)
theorem aaZ (m:aj) (c:Ct) (hc:c.aS.length<9223372036854775808):an Tryz.prog 62 [.agg (ar m),.agg (aO c)] [] (.lit (.bool (fY m c))) []:=by
  have AL:=Hm m c.aV
  have m6:=Hk c.bL
  generalize ao:fY m c=res
  unfold fY at ao
  generalize hD:decide (0≤c.most∧c.most≤1048576)=D at *
  refine an.aD (fn:=Tryz.f62) 85 0 [.tmp 4] Tryz.func62 rfl rfl rfl rfl rfl (by simp) ?_
  ((repeat' (first|refine Vd X0 (X2 AL m6) ?_|(refine V2 X0 ?_ ?_<;>try with_reducible intro hb)|(refine Xi ?_ ?_<;>try intro ht)|exact Xx|fail)))
  all_goals try (refine aK rfl ?_;first|(rw[← ao,hb];rfl)|(rw[← ao,show D=false by rw[← hD];exact decide_eq_false (by omega)];simp;done)|(rw[← ao,ht];simp;done))
  have Hz:D=true:=by rw[← hD];exact decide_eq_true (by omega)
  subst Hz
  have ei:(iu m.rules c.aV && true && iR c.bL)=true:=by simp[*]
  rw[ei,ic] at ao
  refine aU (fun k:Nat=>(⟨aw [(2,.ptr 0 0 0),(3,.ptr 1 0 0),(5,.lit (.int .i64 k))],[.var (ar m),.var (aO c)]⟩:St)) (fun k=>k≤c.aS.length∧dx m (kH c.aS k) (c.aS.drop k)=res) (fun k=>c.aS.length - k) 0 ⟨aM _,ao⟩ (Xv X0) ?_
  rintro k ⟨hk,hr⟩ Ql aq av
  by_cases aH:k<c.aS.length
  · have hd:=cA c.aS k default aH
    generalize aR:c.aS.getD k default=x at *
    rw[hd,Rx] at hr
    have gy:((k:Int) - 1).toNat=k - 1:=by omega
    generalize cT:c.aS.getD (k - 1) default=y at *
    generalize aT:g7 m x.cls x.opt=ob at *
    have vG:=Rt m x.cls x.opt
    rw[aT] at vG
    generalize hW:decide (1≤x.wt∧x.wt≤1000)=wb at *
    generalize hO:decide (rP y x<0)=O at *
    have RX:O=true↔y.cls<x.cls∨(y.cls=x.cls∧y.opt<x.opt):=by rw[← hO,decide_eq_true_eq,DV]
    ((repeat' (first|refine Vc (X3 @aR @cT @gy) vG ?_|(refine V2 (X3 @aR @cT @gy) ?_ ?_<;>try with_reducible intro hb)|(refine Xi ?_ ?_<;>try intro ht)|exact Xx|fail)))
    iterate 5
      · obtain rfl:res=false:=by
          rw[← hr]
          first
            | (rw[show ob=false by assumption];rfl)
            | (rw[show wb=false by rw[← hW];exact decide_eq_false (by omega)];simp;done)
            | (rw[decide_eq_false (p:=k=0) (by omega),show O=false from Bool.eq_false_iff.2 fun h=>by have:=RX.1 h;omega];simp;done)
        ((repeat' (first|refine Vb X0 ?_|fail)))
        exact aK rfl rfl
    all_goals
      refine aq _ (k+1) ⟨by omega,?_⟩ (by omega) (Xs false [0,1] X0)
      rw[s0,aR,← hr,show ob=true by assumption,show wb=true by rw[← hW];exact decide_eq_true (by omega)]
      first
        | (rw[RX.2 (by omega)];simp;done)
        | (rw[decide_eq_true (p:=k=0) (by omega)];simp;done)
  · rw[cB (by omega),dx] at hr
    subst hr
    ((repeat' (first|refine Va X0 ?_|(refine Xi ?_ ?_<;>try intro ht)|exact Xx|fail)))
    refine av _ _ rfl ?_;clear aq av Ql
    repeat (refine Xu ?_)
    refine Vb X0 ?_
    exact aK rfl rfl
theorem AH (m:aj) (hm:MB m):an Tryz.prog 25 [.agg (ar m)] [] (.lit (.int .i64 (dz m))) []:=by
  generalize ao:dz m=res
  unfold dz at ao
  have sZ:=hm.cls
  have uo:=hm.ae
  have Hy:=hm.au
  have RY:=aaV m hm
  generalize vB:qH m=lb at *
  cases lb
  rotate_left
  · rw[if_pos rfl] at ao
    subst ao
    refine an.aD (fn:=Tryz.f25) 105 0 [.tmp 2] Tryz.func25 rfl rfl rfl rfl rfl (by simp) ?_
    ((repeat' (first|refine Vd @lR RY ?_|(refine Xi ?_ ?_<;>try intro ht)|exact Xx|fail)))
    all_goals first|exact aK rfl rfl|(exfalso;simp at *;done)
  rw[if_neg (by simp)] at ao
  have a9:m.cls.length≤24∧∀ l∈m.cls,l.length≤24:=by
    have h:=vB
    unfold qH at h
    rw[decide_eq_false_iff_not] at h
    refine⟨by omega,fun l hl=>?_⟩
    rcases eF 24 l.length with h1 | h1
    · exact absurd (.inr (.inl (List.any_eq_true.2 ⟨l,hl,by simpa using h1⟩))) h
    · exact h1
  generalize h1:(m.cls.any fun l=>l.any fun o=>!dj m.rules none o.ch)=b1 at *
  refine an.aD (fn:=Tryz.f25) 105 0 [.tmp 2] Tryz.func25 rfl rfl rfl rfl rfl (by simp) ?_
  ((repeat' (first|refine Vd @nw RY ?_|(refine Xi ?_ ?_<;>try intro ht)|exact Xx|fail)))
  refine aU (fun i:Nat=>(⟨aw [(1,.ptr 0 0 0),(3,.lit (.int .i64 i))],[.var (ar m)]⟩:St)) (fun i=>i≤m.cls.length∧((m.cls.drop i).any fun l=>l.any fun o=>!dj m.rules none o.ch)=b1) (fun i=>m.cls.length - i) 0 ⟨aM _,h1⟩ (Xv X0) ?_
  rintro i ⟨hi,hr⟩ Ql aq av
  by_cases hi':i<m.cls.length
  · have oe:=aC (d:=(default:List bx)) hi'
    have fT:=hm.opt _ oe
    have cE:=hm.ch _ oe
    have vH:=a9.2 _ oe
    rw[A0 hi'] at hr
    generalize gP:m.cls.getD i default=l at *
    generalize HA:((m.cls.drop (i+1)).any fun l=>l.any fun o=>!dj m.rules none o.ch)=rest at *
    ((repeat' (first|refine Va X0 ?_|(refine Xi ?_ ?_<;>try intro ht)|exact Xx|fail)))
    refine aU (fun k:Nat=>(⟨aw [(1,.ptr 0 0 0),(3,.lit (.int .i64 i)),(4,.lit (.int .i64 k))],[.var (ar m)]⟩:St)) (fun k=>k≤l.length∧(((l.drop k).any fun o=>!dj m.rules none o.ch) || rest)=b1) (fun k=>l.length - k) 0 ⟨aM _,hr⟩ (Xv X0) ?_
    clear hr
    rintro k ⟨hk,hr⟩ eo bP bM
    by_cases aH:k<l.length
    · have eu:=aC (d:=(default:bx)) aH
      have ep:=cE _ eu
      rw[A0 aH] at hr
      generalize lH:l.getD k default=o at *
      generalize RZ:((l.drop (k+1)).any fun o=>!dj m.rules none o.ch)=aa0 at *
      ((repeat' (first|refine Va (X2 @gP @lH) ?_|(refine Xi ?_ ?_<;>try intro ht)|exact Xx|fail)))
      refine aU (fun j:Nat=>(⟨aw [(1,.ptr 0 0 0),(3,.lit (.int .i64 i)),(4,.lit (.int .i64 k)),(5,.tree 2 (rowsOf bA o.ch)),(6,.lit (.int .i64 j))],[.var (ar m)]⟩:St)) (fun j=>j≤o.ch.length∧(!dj m.rules (kH o.ch j) (o.ch.drop j) || aa0 || rest)=b1) (fun j=>o.ch.length - j) 0 ⟨aM _,hr⟩ (Xv X0) ?_
      clear hr
      rintro j ⟨hj,hr⟩ ma gM eV
      by_cases c9:j<o.ch.length
      · have hd:=cA o.ch j default c9
        generalize aR:o.ch.getD j default=c at *
        rw[hd,Ru] at hr
        have gy:((j:Int) - 1).toNat=j - 1:=by omega
        generalize cT:o.ch.getD (j - 1) default=q at *
        have cF:=Hm m c.1
        generalize qE:iu m.rules c.1=rb at *
        have cq:=Hk c.2
        generalize dG:iR c.2=pb at *
        ((repeat' (first|refine Vc (X3 @aR @cT @gy) (X2 cF cq) ?_|(refine V2 (X3 @aR @cT @gy) ?_ ?_<;>try with_reducible intro hb)|(refine Xi ?_ ?_<;>try intro ht)|exact Xx|fail)))
        iterate 3
          · obtain rfl:b1=true:=by
              rw[← hr]
              first
                | (rw[show rb=false by assumption];rfl)
                | (rw[show pb=false by assumption];simp;done)
                | (rw[decide_eq_false (p:=j=0) (by omega),decide_eq_false (p:=q.1<c.1) (by omega)];simp;done)
            rw[if_pos rfl] at ao
            repeat (refine Xu ?_)
            ((repeat' (first|refine Vb X0 ?_|fail)))
            exact aK rfl (by rw[ao])
        all_goals
          refine gM _ (j+1) ⟨by omega,?_⟩ (by omega) (Xv X0)
          rw[s0,aR,← hr,show rb=true by assumption,show pb=true by assumption]
          first
            | (rw[decide_eq_true (p:=q.1<c.1) (by omega)];simp;done)
            | (rw[decide_eq_true (p:=j=0) (by omega)];simp;done)
      · rw[cB (by omega),dj] at hr
        simp only[lR,mS] at hr
        ((repeat' (first|refine Va X0 ?_|(refine Xi ?_ ?_<;>try intro ht)|exact Xx|fail)))
        refine eV _ _ rfl ?_
        clear gM eV ma
        repeat (refine Xu ?_)
        refine Va X0 ?_
        exact bP _ (k+1) ⟨by omega,by rw[RZ];exact hr⟩ (by omega) (Xv X0)
    · rw[cB (by omega),Cb,mS] at hr
      ((repeat' (first|refine Va @gP ?_|(refine Xi ?_ ?_<;>try intro ht)|exact Xx|fail)))
      refine bM _ _ rfl ?_
      clear bP bM eo
      repeat (refine Xu ?_)
      refine Va X0 ?_
      exact aq _ (i+1) ⟨by omega,by rw[HA];exact hr⟩ (by omega) (Xv X0)
  rw[cB (by omega),Cb] at hr
  subst hr
  rw[if_neg (by simp)] at ao
  ((repeat' (first|refine Va X0 ?_|(refine Xi ?_ ?_<;>try intro ht)|exact Xx|fail)))
  refine av _ _ rfl ?_;clear aq av Ql
  clear hi hi'
  repeat (refine Xu ?_)
  refine Vb X0 ?_
  refine aU (fun k:Nat=>(⟨aw [(1,.ptr 0 0 0),(7,.lit (.int .i64 k))],[.var (ar m)]⟩:St)) (fun k=>k≤m.ae.length∧ee m none m.ae=ee m (kH m.ae k) (m.ae.drop k)) (fun k=>m.ae.length - k) 0 ⟨aM _,rfl⟩ (Xv X0) ?_
  rintro k ⟨hk,hr⟩ Ql aq av
  by_cases aH:k<m.ae.length
  · have hd:=cA m.ae k default aH
    have m6:=aaW m k aH hm.az a9.2 a9.1 hm.ae
    rw[hd,Rv] at hr
    generalize (eW m (m.ae.getD k default) && (decide (k=0) || decide (mJ (m.ae.getD (k - 1) default) (m.ae.getD k default)<0)))=pb at *
    ((repeat' (first|refine Vc X0 m6 ?_|(refine Xi ?_ ?_<;>try intro ht)|exact Xx|fail)))
    · obtain rfl:pb=false:=by assumption
      rw[Bool.false_and] at hr
      rw[if_pos hr] at ao
      subst ao
      refine Vb X0 ?_
      exact aK rfl rfl
    · obtain rfl:pb=true:=by assumption
      rw[ic] at hr
      exact aq _ (k+1) ⟨by omega,by rw[s0];exact hr⟩ (by omega) (Xv X0)
  rw[cB (by omega),ee] at hr
  rw[if_neg (by rw[hr];simp)] at ao
  ((repeat' (first|refine Va X0 ?_|(refine Xi ?_ ?_<;>try intro ht)|exact Xx|fail)))
  refine av _ _ rfl ?_;clear aq av Ql
  clear hr hk aH
  repeat (refine Xu ?_)
  refine Vb X0 ?_
  generalize h2:(m.au.any fun c=>!fY m c)=b2 at *
  refine aU (fun k:Nat=>(⟨aw [(1,.ptr 0 0 0),(8,.lit (.int .i64 k))],[.var (ar m)]⟩:St)) (fun k=>k≤m.au.length∧((m.au.drop k).any fun c=>!fY m c)=b2) (fun k=>m.au.length - k) 0 ⟨aM _,h2⟩ (Xv X0) ?_
  rintro k ⟨hk,hr⟩ Ql aq av
  by_cases aH:k<m.au.length
  · have gp:=aC (d:=(default:Ct)) aH
    have gP:=hm.kK _ gp
    rw[A0 aH] at hr
    generalize aR:m.au.getD k default=c at *
    have pL:=aaZ m c gP
    generalize fY m c=cb at *
    ((repeat' (first|refine Vc @aR pL ?_|(refine Xi ?_ ?_<;>try intro ht)|exact Xx|fail)))
    · obtain rfl:cb=false:=by assumption
      simp only[nw,qV] at hr
      rw[if_pos hr.symm] at ao
      subst ao
      refine Vb X0 ?_
      exact aK rfl rfl
    · obtain rfl:cb=true:=by assumption
      rw[lR,mS] at hr
      exact aq _ (k+1) ⟨by omega,hr⟩ (by omega) (Xv X0)
  rw[cB (by omega),Cb] at hr
  subst hr
  rw[if_neg (by simp)] at ao
  subst ao
  ((repeat' (first|refine Va X0 ?_|(refine Xi ?_ ?_<;>try intro ht)|exact Xx|fail)))
  refine av _ _ rfl ?_;clear aq av Ql
  repeat (refine Xu ?_)
  refine Vb X0 ?_
  exact aK rfl rfl
end T

