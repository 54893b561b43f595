import Derived.Test.YtafhoboejkcmiaaGreatX45
import Derived.Test.YtafhoboejkcmiaaGreatX13
set_option linter.unusedVariables false
set_option linter.unusedSimpArgs false
set_option linter.unnecessarySimpa false
set_option linter.unusedSectionVars false
set_option maxHeartbeats 64000000
set_option maxRecDepth 20000
open Go Go.Am Go.Proofs
open Nat (reduceEqDiff reduceAdd reduceLeDiff reduceMul)
open Int (reduceNeg reduceLE reduceToNat)
namespace T
def ejRR:Option (List Int × List Int)→AV
  | none=>.tup [.lit (.slice none 0 0),.lit (.slice none 0 0),.lit (.int .i64 60)]
  | some r=>.tup [.ref 0 1 0 r.1.length,.tree 1 (ints r.2),.lit (.int .i64 0)]
theorem rEjectM_ok (m:Mdl) (hm:VM m) (plan:List Int) (hp:PM m plan) (cl o:Int) (hob:optB m cl o=true) :
    Holds Tryz.prog 36 [.agg (eMdl m),.tree 1 (ints plan),.lit (.int .i64 cl),.lit (.int .i64 o)] [] (ejRR (ejV m plan cl o)) (ejOb (ejV m plan cl o)):=by
  have hpl:=hp.len
  have hc24:=hm.cls
  have hbr:=rBreaks_ok m plan hm.mb (by omega)
  unfold breaksT at hbr
  rw[if_neg (by rw[valid_iff.2 hm];simp),if_neg (by rw[pm_planned hp];simp)] at hbr
  have hop:=refOption_ok m cl o
  rw[hob] at hop
  generalize hres:ejV m plan cl o=res
  obtain ⟨b1,b2,b3,b4⟩:=optB_iff.1 hob
  have hla:=getD_mem (l:=m.cls) (i:=cl.toNat) (d:=default) (by omega)
  have hla24:=hm.opt _ hla
  have hchs:=hm.mb.ch _ hla
  have hcl:0≤cl∧cl<plan.length:=⟨b1,by omega⟩
  unfold ejV at hres
  generalize hlc:m.cls.getD cl.toNat default=lc at *
  have hfr:=rFree_ok (lc.getD o.toNat default) (hchs _ (getD_mem (by omega)))
  generalize hoo:lc.getD o.toNat default=op at *
  generalize freeB op=fb at *
  cases fb
  · rw[if_neg (by decide)] at hres
    subst hres
    unfold ejRR ejOb
    refine Holds.of_body' (fn:=Tryz.f36) 171 0 [.tmp 8,.tmp 9,.tmp 10] Tryz.func36 rfl rfl rfl rfl rfl (by simp) ?_
    ((try revert hK K);(repeat' (first|refine Vd (X2 @hlc @hoo) (X3 hbr hop hfr) ?_|(refine V2 (X2 @hlc @hoo) ?_ ?_<;>try with_reducible intro hb)|(refine Xi ?_ ?_<;>try intro ht)|refine VD ?_ ?_|exact Xx|fail))<;>try with_reducible intro K hK)
    all_goals try (exfalso;omega)
    exact RetOK_pure' rfl rfl
  rw[if_pos rfl] at hres
  generalize hn1:ejRef m cl o m.cls.length 0 (plan.set cl.toNat o)=n1 at hres
  have hpm0:PM m (plan.set cl.toNat o):=pm_set hp (.inr (by rw[Int.toNat_of_nonneg b1];exact hob))
  refine Holds.of_body' (fn:=Tryz.f36) 171 0 [.tmp 8,.tmp 9,.tmp 10] Tryz.func36 rfl rfl rfl rfl rfl (by simp) ?_
  ((try revert hK K);(repeat' (first|refine Vd (X2 @hlc @hoo) (X3 hbr hop hfr) ?_|(refine V2 (X2 @hlc @hoo) ?_ ?_<;>try with_reducible intro hb)|(refine Xi ?_ ?_<;>try intro ht)|refine VD ?_ ?_|exact Xx|fail))<;>try with_reducible intro K hK)
  all_goals try (exfalso;omega)
  refine W_loopS (fun z:Nat × List Int=>(⟨slots [(1,.tree 1 (ints plan)),(2,.lit (.int .i64 cl)),(3,.lit (.int .i64 o)),(4,.ptr 0 0 0),(13,.ref 1 1 0 plan.length),(14,.lit (.int .i64 z.1))],[.var (eMdl m),.arr 1 (ints z.2)]⟩:St))
    (fun z=>z.1≤plan.length∧PM m z.2∧ejRef m cl o (plan.length - z.1) z.1 z.2=n1) (fun z=>plan.length - z.1) (0,plan.set cl.toNat o) ⟨Nat.zero_le _,hpm0,by rw[← hn1,hpl];rfl⟩ (Xv @ints_set) ?_
  clear hpm0 hn1
  rintro ⟨c,nx⟩ ⟨hc,hpm,hr⟩ Ql hnl hel
  dsimp only at hc hpm hr ⊢
  have hnx:=hpm.len
  have hnp:nx.length=plan.length:=by omega
  by_cases hc':c<plan.length
  · rw[show plan.length - c=(plan.length - (c+1))+1 by omega,ejRef] at hr
    have hg:=hpm.get c (by omega)
    have hpm2:PM m (nx.set c (-1)):=pm_set hpm (.inl rfl)
    have hex:=rExcl_ok m cl o c (nx.getD c 0) hm hob
    generalize hy:nx.getD c 0=y at *
    by_cases hy0:0≤y
    · have hex:=hex (hg.resolve_left (by omega))
      generalize exclB m cl o c y=eb at *
      by_cases hcond:(c:Int)≠cl∧0≤y∧eb=true
      · rw[if_pos hcond] at hr
        ((try revert hK K);(repeat' (first|refine Vc (X3 @hy @hnp @ints_set) hex ?_|(refine V2 (X3 @hy @hnp @ints_set) ?_ ?_<;>try with_reducible intro hb)|(refine Xi ?_ ?_<;>try intro ht)|refine VD ?_ ?_|exact Xx|fail))<;>try with_reducible intro K hK)
        all_goals try (exfalso;simp_all;done)
        all_goals exact hnl _ (c+1,nx.set c (-1)) ⟨by dsimp only;omega,hpm2,hr⟩ (by dsimp only;omega) (Xv X0)
      · rw[if_neg hcond] at hr
        ((try revert hK K);(repeat' (first|refine Vc (X3 @hy @hnp @ints_set) hex ?_|(refine V2 (X3 @hy @hnp @ints_set) ?_ ?_<;>try with_reducible intro hb)|(refine Xi ?_ ?_<;>try intro ht)|refine VD ?_ ?_|exact Xx|fail))<;>try with_reducible intro K hK)
        all_goals try (exfalso;omega)
        all_goals try (exfalso;exact hcond ⟨by omega,by omega,by assumption⟩)
        all_goals exact hnl _ (c+1,nx) ⟨by dsimp only;omega,hpm,hr⟩ (by dsimp only;omega) (Xv X0)
    · rw[if_neg (fun h=>hy0 h.2.1)] at hr
      ((try revert hK K);(repeat' (first|refine Va (X2 @hy @hnp) ?_|(refine V2 (X2 @hy @hnp) ?_ ?_<;>try with_reducible intro hb)|(refine Xi ?_ ?_<;>try intro ht)|refine VD ?_ ?_|exact Xx|fail))<;>try with_reducible intro K hK)
      all_goals try (exfalso;omega)
      all_goals exact hnl _ (c+1,nx) ⟨by dsimp only;omega,hpm,hr⟩ (by dsimp only;omega) (Xv X0)
  · rw[show plan.length - c=0 by omega,ejRef] at hr
    subst hr
    ((try revert hK K);(repeat' (first|refine Va @hnp ?_|(refine V2 @hnp ?_ ?_<;>try with_reducible intro hb)|(refine Xi ?_ ?_<;>try intro ht)|refine VD ?_ ?_|exact Xx|fail))<;>try with_reducible intro K hK)
    refine hel _ _ rfl ?_;clear hnl hel Ql
    repeat (first|refine Xu ?_)
    clear hc hc'
    ((try revert hK K);(repeat' (first|refine Vb X0 ?_|(refine V2 X0 ?_ ?_<;>try with_reducible intro hb)|(refine Xi ?_ ?_<;>try intro ht)|refine VD ?_ ?_|exact Xx|fail))<;>try with_reducible intro K hK)
    refine W_loopS (fun z:Nat × List Int=>(⟨slots [(1,.tree 1 (ints plan)),(2,.lit (.int .i64 cl)),(4,.ptr 0 0 0),(13,.ref 1 1 0 plan.length),(15,.lit (.int .i64 z.1))],[.var (eMdl m),.arr 1 (ints z.2)]⟩:St))
      (fun z=>z.1≤m.cts.length∧PM m z.2∧((ejCts m.cls.length cl (m.cts.drop z.1) z.2).map fun nx=>(nx,goneL 0 plan nx))=res) (fun z=>m.cts.length - z.1) (0,nx) ⟨Nat.zero_le _,hpm,hres⟩ (Xv X0) ?_
    have hct8:=hm.cts
    clear hres hpm hnx hnp
    rintro ⟨k,nx⟩ ⟨hk,hpm,hr⟩ Ql hnl hel
    dsimp only at hk hpm hr ⊢
    have hnx:=hpm.len
    by_cases hk':k<m.cts.length
    · have hcb:=hm.ct _ (getD_mem (d:=default) hk')
      rw[getD_drop0 m.cts k default hk',ejCts] at hr
      generalize hcc:m.cts.getD k default=c at *
      have hhd:=rHard_ok c
      have hlen:=ldL_len0 hm (ctB_iff hcb).2.2.2
      ((try revert hK K);(repeat' (first|refine Va @hcc ?_|(refine V2 @hcc ?_ ?_<;>try with_reducible intro hb)|(refine Xi ?_ ?_<;>try intro ht)|refine VD ?_ ?_|exact Xx|fail))<;>try with_reducible intro K hK)
      refine W_loopS (fun nx:List Int=>(⟨slots [(1,.tree 1 (ints plan)),(2,.lit (.int .i64 cl)),(4,.ptr 0 0 0),(13,.ref 1 1 0 plan.length),(15,.lit (.int .i64 k)),(16,.ptr 2 0 0)],[.var (eMdl m),.arr 1 (ints nx),.var (eCt c)]⟩:St))
        (fun nx=>PM m nx∧(((ejOne m.cls.length c cl (nnL nx+1) nx).bind (ejCts m.cls.length cl (m.cts.drop (k+1)))).map fun nx=>(nx,goneL 0 plan nx))=res) (fun nx=>nnL nx) nx ⟨hpm,hr⟩ (Xv X0) ?_
      clear hr hpm hnx
      rintro nx ⟨hpm,hr⟩ Ql2 hnl2 hel2
      have hnx:=hpm.len
      have hnp:nx.length=plan.length:=by omega
      have hexc:=rExc_ok m nx c hm hnx hcb
      have hnn:=heav_nn hcb (nx:=nx) (cl:=cl)
      rw[ejOne_step hcb hnx] at hr
      generalize hheav:heavR c.loads nx cl m.cls.length 0 (-1)=h at *
      rw[← hpl] at hheav
      by_cases hgo:hardB c=true∧0<excN nx c
      · rw[if_pos hgo] at hr
        rw[hgo.1] at hhd
        generalize excN nx c=ev0 at *
        ((try revert hK K);(repeat' (first|refine Vc X0 hhd ?_|(refine V2 X0 ?_ ?_<;>try with_reducible intro hb)|(refine Xi ?_ ?_<;>try intro ht)|refine VD ?_ ?_|exact Xx|fail))<;>try with_reducible intro K hK)
        refine callK_snap [] hexc (by decide) trivial ⟨.pure rfl,ArgR.frz (rows:=ints nx) rfl (ints_wid _) (by simp only[Bc,Rc,hnp]) (by decide) (ints_frz _),trivial⟩ rfl (by simp) ?_
        ((try revert hK K);(repeat' (first|refine Va X0 ?_|(refine V2 X0 ?_ ?_<;>try with_reducible intro hb)|(refine Xi ?_ ?_<;>try intro ht)|refine VD ?_ ?_|exact Xx|fail))<;>try with_reducible intro K hK)
        all_goals try (exfalso;omega)
        refine W_loopS (fun z:Nat × Int=>(⟨slots [(1,.tree 1 (ints plan)),(2,.lit (.int .i64 cl)),(4,.ptr 0 0 0),(13,.ref 1 1 0 plan.length),(15,.lit (.int .i64 k)),(16,.ptr 2 0 0),(17,.lit (.int .i64 z.2)),(18,.lit (.int .i64 z.1))],[.var (eMdl m),.arr 1 (ints nx),.var (eCt c)]⟩:St))
          (fun z=>z.1≤plan.length∧(-1≤z.2∧z.2<plan.length)∧heavR c.loads nx cl (plan.length - z.1) z.1 z.2=h) (fun z=>plan.length - z.1) (0,-1) ⟨Nat.zero_le _,⟨by dsimp only;omega,by dsimp only;omega⟩,hheav⟩ (Xv X0) ?_
        clear hheav
        rintro ⟨d,b⟩ ⟨hd,hb2,hrh⟩ Ql3 hnl3 hel3
        dsimp only at hd hb2 hrh ⊢
        by_cases hd':d<plan.length
        · rw[show plan.length - d=(plan.length - (d+1))+1 by omega,heavR] at hrh
          unfold wtA at hrh
          rw[Int.toNat_natCast] at hrh
          generalize hx1:nx.getD d 0=x1 at *
          generalize hx2:nx.getD b.toNat 0=x2 at *
          have w1:=refWeight_ok c d x1 (by omega)
          have w2:=refWeight_ok c b x2 (by omega)
          generalize wtV c.loads d x1=v1 at *
          generalize wtV c.loads b x2=v2 at *
          by_cases hcond:((d:Int)≠cl∧0<v1)∧(b<0∨v2≤v1)
          · rw[if_pos hcond] at hrh
            ((try revert hK K);(repeat' (first|refine Vc (X3 @hx1 @hx2 @hnp) (X2 w1 w2) ?_|(refine V2 (X3 @hx1 @hx2 @hnp) ?_ ?_<;>try with_reducible intro hb)|(refine Xi ?_ ?_<;>try intro ht)|refine VD ?_ ?_|exact Xx|fail))<;>try with_reducible intro K hK)
            all_goals try (exfalso;omega)
            all_goals exact hnl3 _ (d+1,(d:Int)) ⟨by dsimp only;omega,⟨by dsimp only;omega,by dsimp only;omega⟩,hrh⟩ (by dsimp only;omega) (Xv X0)
          · rw[if_neg hcond] at hrh
            ((try revert hK K);(repeat' (first|refine Vc (X3 @hx1 @hx2 @hnp) (X2 w1 w2) ?_|(refine V2 (X3 @hx1 @hx2 @hnp) ?_ ?_<;>try with_reducible intro hb)|(refine Xi ?_ ?_<;>try intro ht)|refine VD ?_ ?_|exact Xx|fail))<;>try with_reducible intro K hK)
            all_goals try (exfalso;omega)
            all_goals exact hnl3 _ (d+1,b) ⟨by dsimp only;omega,hb2,hrh⟩ (by dsimp only;omega) (Xv X0)
        · rw[show plan.length - d=0 by omega,heavR] at hrh
          subst hrh
          ((try revert hK K);(repeat' (first|refine Va @hnp ?_|(refine V2 @hnp ?_ ?_<;>try with_reducible intro hb)|(refine Xi ?_ ?_<;>try intro ht)|refine VD ?_ ?_|exact Xx|fail))<;>try with_reducible intro K hK)
          refine hel3 _ _ rfl ?_
          clear hnl3 hel3
          repeat (first|refine Xu ?_)
          by_cases hneg:b<0
          · rw[if_pos hneg] at hr
            ((try revert hK K);(repeat' (first|refine Va X0 ?_|(refine V2 X0 ?_ ?_<;>try with_reducible intro hb)|(refine Xi ?_ ?_<;>try intro ht)|refine VD ?_ ?_|exact Xx|fail))<;>try with_reducible intro K hK)
            all_goals try (exfalso;omega)
            repeat (first|refine Xu ?_|(refine hel2 _ _ rfl ?_;clear hnl2 hel2;try clear Ql2)|(refine hel3 _ _ rfl ?_;clear hnl3 hel3;try clear Ql3)|(refine hel4 _ _ rfl ?_;clear hnl4 hel4;try clear Ql4))
            ((try revert hK K);(repeat' (first|refine Vb X0 ?_|(refine V2 X0 ?_ ?_<;>try with_reducible intro hb)|(refine Xi ?_ ?_<;>try intro ht)|refine VD ?_ ?_|exact Xx|fail))<;>try with_reducible intro K hK)
            rw[← hr]
            exact RetOK_pure' rfl rfl
          · rw[if_neg hneg] at hr
            obtain ⟨c1,c2,c3,c4⟩:=hnn hneg
            have hdec:=nnL_set nx b.toNat (by omega) c4
            have hpm2:PM m (nx.set b.toNat (-1)):=pm_set hpm (.inl rfl)
            ((try revert hK K);(repeat' (first|refine Va (X2 @ints_set @hnp) ?_|(refine V2 (X2 @ints_set @hnp) ?_ ?_<;>try with_reducible intro hb)|(refine Xi ?_ ?_<;>try intro ht)|refine VD ?_ ?_|exact Xx|fail))<;>try with_reducible intro K hK)
            all_goals try (exfalso;omega)
            exact hnl2 _ (nx.set b.toNat (-1)) ⟨hpm2,hr⟩ (by omega) (Xv X0)
      · rw[if_neg hgo] at hr
        ((try revert hK K);(repeat' (first|refine Vc X0 hhd ?_|(refine V2 X0 ?_ ?_<;>try with_reducible intro hb)|(refine Xi ?_ ?_<;>try intro ht)|refine VD ?_ ?_|exact Xx|fail))<;>try with_reducible intro K hK)
        · have hh:hardB c=true:=by assumption
          refine callK_snap [] hexc (by decide) trivial ⟨.pure rfl,ArgR.frz (rows:=ints nx) rfl (ints_wid _) (by simp only[Bc,Rc,hnp]) (by decide) (ints_frz _),trivial⟩ rfl (by simp) ?_
          ((try revert hK K);(repeat' (first|refine Va X0 ?_|(refine V2 X0 ?_ ?_<;>try with_reducible intro hb)|(refine Xi ?_ ?_<;>try intro ht)|refine VD ?_ ?_|exact Xx|fail))<;>try with_reducible intro K hK)
          all_goals try (exfalso;exact hgo ⟨by assumption,by assumption⟩)
          refine hel2 _ _ rfl ?_
          clear hnl2 hel2
          repeat (first|refine Xu ?_)
          ((try revert hK K);(repeat' (first|refine Va X0 ?_|(refine V2 X0 ?_ ?_<;>try with_reducible intro hb)|(refine Xi ?_ ?_<;>try intro ht)|refine VD ?_ ?_|exact Xx|fail))<;>try with_reducible intro K hK)
          exact hnl _ (k+1,nx) ⟨by dsimp only;omega,hpm,hr⟩ (by dsimp only;omega) (Xs false [0,1] X0)
        · refine hel2 _ _ rfl ?_
          clear hnl2 hel2
          repeat (first|refine Xu ?_)
          ((try revert hK K);(repeat' (first|refine Va X0 ?_|(refine V2 X0 ?_ ?_<;>try with_reducible intro hb)|(refine Xi ?_ ?_<;>try intro ht)|refine VD ?_ ?_|exact Xx|fail))<;>try with_reducible intro K hK)
          exact hnl _ (k+1,nx) ⟨by dsimp only;omega,hpm,hr⟩ (by dsimp only;omega) (Xs false [0,1] X0)
    · rw[List.drop_eq_nil_of_le (by omega),ejCts] at hr
      rw[Option.map_some] at hr
      generalize hgn:goneL 0 plan nx=gn at hr
      have hnp:nx.length=plan.length:=by omega
      ((try revert hK K);(repeat' (first|refine Va X0 ?_|(refine V2 X0 ?_ ?_<;>try with_reducible intro hb)|(refine Xi ?_ ?_<;>try intro ht)|refine VD ?_ ?_|exact Xx|fail))<;>try with_reducible intro K hK)
      refine hel _ _ rfl ?_;clear hnl hel Ql
      repeat (first|refine Xu ?_)
      clear hk hk'
      ((try revert hK K);(repeat' (first|refine Vb X0 ?_|(refine V2 X0 ?_ ?_<;>try with_reducible intro hb)|(refine Xi ?_ ?_<;>try intro ht)|refine VD ?_ ?_|exact Xx|fail))<;>try with_reducible intro K hK)
      refine W_loopS (fun z:Nat × List Int=>(⟨slots [(1,.tree 1 (ints plan)),(13,.ref 1 1 0 plan.length),(19,.ref 2 1 0 z.2.length),(20,.lit (.int .i64 z.1))],[.var (eMdl m),.arr 1 (ints nx),.arr 1 (ints z.2)]⟩:St))
        (fun z=>z.1≤plan.length∧z.2.length≤z.1∧z.2++goneL z.1 (plan.drop z.1) nx=gn) (fun z=>plan.length - z.1) (0,[]) ⟨Nat.zero_le _,Nat.le_refl _,hgn⟩ ?_ ?_
      · refine Turns.trans (Turns.nil 19 1 (by simp only[Kc,simprocAttr]) (by decide)) ?_
        exact Xv X0
      clear hgn
      rintro ⟨i,out⟩ ⟨hi,hol,hrg⟩ Ql hnl hel
      dsimp only at hi hol hrg ⊢
      by_cases hi':i<plan.length
      · rw[getD_drop0 plan i 0 hi',goneL] at hrg
        generalize hx:plan.getD i 0=x at *
        generalize hy:nx.getD i 0=y at *
        by_cases hxy:0≤x∧y<0
        · rw[if_pos hxy] at hrg
          ((try revert hK K);(repeat' (first|refine Va (X4 @hx @hy @hnp @ints_app1) ?_|(refine V2 (X4 @hx @hy @hnp @ints_app1) ?_ ?_<;>try with_reducible intro hb)|(refine Xi ?_ ?_<;>try intro ht)|refine VD ?_ ?_|exact Xx|fail))<;>try with_reducible intro K hK)
          all_goals try (exfalso;omega)
          exact hnl _ (i+1,out++[(i:Int)]) ⟨by dsimp only;omega,by simp;omega,by dsimp only;rw[List.append_assoc];exact hrg⟩ (by dsimp only;omega) (Xs false [0,1,4] X0)
        · rw[if_neg hxy] at hrg
          ((try revert hK K);(repeat' (first|refine Va (X3 @hx @hy @hnp) ?_|(refine V2 (X3 @hx @hy @hnp) ?_ ?_<;>try with_reducible intro hb)|(refine Xi ?_ ?_<;>try intro ht)|refine VD ?_ ?_|exact Xx|fail))<;>try with_reducible intro K hK)
          all_goals try (exfalso;omega)
          all_goals exact hnl _ (i+1,out) ⟨by dsimp only;omega,by dsimp only;omega,hrg⟩ (by dsimp only;omega) (Xv X0)
      · rw[List.drop_eq_nil_of_le (by omega),goneL,List.append_nil] at hrg
        subst hrg
        ((try revert hK K);(repeat' (first|refine Va @hnp ?_|(refine V2 @hnp ?_ ?_<;>try with_reducible intro hb)|(refine Xi ?_ ?_<;>try intro ht)|refine VD ?_ ?_|exact Xx|fail))<;>try with_reducible intro K hK)
        refine hel _ _ rfl ?_;clear hnl hel Ql
        repeat (first|refine Xu ?_)
        ((try revert hK K);(repeat' (first|refine Vb X0 ?_|(refine V2 X0 ?_ ?_<;>try with_reducible intro hb)|(refine Xi ?_ ?_<;>try intro ht)|refine VD ?_ ?_|exact Xx|fail))<;>try with_reducible intro K hK)
        rw[← hr]
        unfold ejRR ejOb
        dsimp only
        rw[hnp]
        exact Xw true [1] X0 (h2:=tup3 (.eq rfl) (ArgR.frz (rows:=ints out) rfl (ints_wid _) (by rw[ints_length]) (not_kept (by decide)) (ints_frz _)) (.pure rfl))
theorem rEject_ok (m:Mdl) (plan:List Int) (cl o:Int) (hb:MB m) (hpl0:plan.length<9223372036854775808) :
    Holds Tryz.prog 36 [.agg (eMdl m),.tree 1 (ints plan),.lit (.int .i64 cl),.lit (.int .i64 o)] [] (.tup [.tree 1 (ints (ejT m plan cl o).1),.tree 1 (ints (ejT m plan cl o).2.1),.lit (.int .i64 (ejT m plan cl o).2.2)]) []:=by
  have hbr:=rBreaks_ok m plan hb hpl0
  generalize hres:ejT m plan cl o=res
  unfold ejT at hres
  unfold breaksT at hbr
  by_cases hv:validV m≠0
  · rw[if_pos hv] at hbr hres
    refine Holds.of_body' (fn:=Tryz.f36) 171 0 [.tmp 8,.tmp 9,.tmp 10] Tryz.func36 rfl rfl rfl rfl rfl (by simp) ?_
    ((try revert hK K);(repeat' (first|refine Vd X0 hbr ?_|(refine V2 X0 ?_ ?_<;>try with_reducible intro hb)|(refine Xi ?_ ?_<;>try intro ht)|refine VD ?_ ?_|exact Xx|fail))<;>try with_reducible intro K hK)
    all_goals try (exfalso;omega)
    rw[← hres]
    exact RetOK_sel [] true (by decide) trivial (by decide) (by decide) (tup3 ArgR.nil ArgR.nil (.pure rfl))
  rw[if_neg hv] at hbr hres
  have hm:=valid_iff.1 (by omega:validV m=0)
  cases hpv:plannedV m plan with
  | false =>
    rw[if_pos hpv] at hbr hres
    refine Holds.of_body' (fn:=Tryz.f36) 171 0 [.tmp 8,.tmp 9,.tmp 10] Tryz.func36 rfl rfl rfl rfl rfl (by simp) ?_
    ((try revert hK K);(repeat' (first|refine Vd X0 hbr ?_|(refine V2 X0 ?_ ?_<;>try with_reducible intro hb)|(refine Xi ?_ ?_<;>try intro ht)|refine VD ?_ ?_|exact Xx|fail))<;>try with_reducible intro K hK)
    all_goals try (exfalso;omega)
    rw[← hres]
    exact RetOK_sel [] true (by decide) trivial (by decide) (by decide) (tup3 ArgR.nil ArgR.nil (.pure rfl))
  | true =>
  rw[if_neg (by rw[hpv];decide)] at hbr hres
  have hop:=refOption_ok m cl o
  have hp:=planned_pm hpv
  have hpl:=hp.len
  have hc24:=hm.cls
  cases hob:optB m cl o with
  | false =>
    rw[hob] at hop
    rw[if_pos hob] at hres
    refine Holds.of_body' (fn:=Tryz.f36) 171 0 [.tmp 8,.tmp 9,.tmp 10] Tryz.func36 rfl rfl rfl rfl rfl (by simp) ?_
    ((try revert hK K);(repeat' (first|refine Vd X0 (X2 hbr hop) ?_|(refine V2 X0 ?_ ?_<;>try with_reducible intro hb)|(refine Xi ?_ ?_<;>try intro ht)|refine VD ?_ ?_|exact Xx|fail))<;>try with_reducible intro K hK)
    all_goals try (exfalso;omega)
    rw[← hres]
    exact RetOK_sel [] true (by decide) trivial (by decide) (by decide) (tup3 ArgR.nil ArgR.nil (.pure rfl))
  | true =>
  rw[hob] at hop
  rw[if_neg (by rw[hob];decide)] at hres
  have h:=rEjectM_ok m hm plan hp cl o hob
  have e3:∀ x:AV,(fun k=>[x].getD k AV.undef)=slots [(0,x)]:=fun x=>by
    funext k
    cases k<;>rfl
  cases hej:ejV m plan cl o with
  | none =>
    rw[hej] at h hres
    rw[← hres]
    refine Holds.turn h ?_
    rw[e3 (.tup [.tree 1 (ints _),_,_])]
    exact Turns.sel [] true _ _ (by decide) trivial (by decide) (by decide) ⟨tup3 ArgR.nil ArgR.nil (.pure rfl),trivial⟩
  | some r =>
    rw[hej] at h hres
    rw[← hres]
    refine Holds.turn h ?_
    rw[e3 (.tup [.tree 1 (ints _),_,_])]
    exact Turns.sel [] true _ _ (by decide) trivial (by decide) (by decide) ⟨tup3 (ArgR.frz (rows:=ints r.1) rfl (ints_wid _) (by rw[ints_length]) (not_kept (by decide)) (ints_frz _)) (.pure rfl) (.pure rfl),trivial⟩
end T

