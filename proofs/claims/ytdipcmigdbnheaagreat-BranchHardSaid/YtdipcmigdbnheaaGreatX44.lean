import Derived.Test.YtdipcmigdbnheaaGreatX42
import Derived.Test.YtdipcmigdbnheaaGreatX25
import Derived.Test.YtdipcmigdbnheaaGreatX43
set_option linter.unusedVariables false
set_option linter.unusedSimpArgs false
set_option linter.unnecessarySimpa false
set_option linter.unusedSectionVars false
set_option maxHeartbeats 64000000
set_option maxRecDepth 20000
open List renaming replicate→bq,getD_eq_getElem?_getD→ay,length_replicate→nK,getElem?_replicate_of_lt→GD,any_eq_false→vh,map_cons→cR,nodup_cons→re,mem_map→b7,range→aT,mem_range→mA,count_eq_zero→K',length→nL,ext_getElem?→ju,getElem?_map→bN,getElem?_set→bS,getElem?_eq_getElem→bI,getElem?_eq_none→du,length_map→dU,length_set→bm
open Nat renaming sub_self→iC,zero_le→aD,strongRecOn→C6,le_refl→aH
open Int renaming toNat_natCast→eT,min_eq_left→Gy
open Go Go.Am Go.Proofs
open Nat (reduceEqDiff reduceAdd reduceLeDiff reduceMul)
open Int (reduceNeg reduceLE reduceToNat)
open Go Go.Am
namespace T
theorem J5 (up:dh) (i:Nat) (a b:Int):(rowsOf aG up).set i [.lit (.int .i64 a),.lit (.int .i64 b)]=rowsOf aG (up.set i (a,b)):=by simp[rowsOf,aG,List.map_set]
theorem aeN (n:Nat) (a b:Int):bq n [AV.lit (.int .i64 a),.lit (.int .i64 b)]=rowsOf aG (bq n (a,b)):=by simp[rowsOf,aG]
def q6 (n i:Nat):dh:=bq i (-1,0)++bq (n - i) (0,0)
theorem aeO {n i:Nat} (h:i≤n):(q6 n i).length=n:=by simp[q6];omega
theorem aeP {n i:Nat} (h:i<n):(q6 n i).getD i default=(0,0):=by
  unfold q6
  rw[ay,List.getElem?_append_right (by simp),nK,iC,GD (by omega)];rfl
theorem aeQ {n i:Nat} (h:i<n):(q6 n i).set i (-1,0)=q6 n (i+1):=by
  unfold q6
  rw[List.set_append_right _ _ (by simp),nK,iC,show n - i=(n - (i+1))+1 by omega,List.replicate_succ,List.set_cons_zero,List.replicate_succ' (n:=i),List.append_assoc];rfl
theorem aeK (m:ah) (P:List Nd) (hm:VM m) (hP:PB P):ao Tryz.prog 94 [.agg (ar m),.agg (aJ P)] [] (.bL [.tree 2 (rowsOf aG ((lN m P).getD [])),.lit (.bool (lN m P).isSome)]) []:=by
  have xE:=hP.zB
  have mc:=hm.cls
  generalize an:lN m P=res
  refine ao.aF (fn:=Tryz.f94) 187 0 [.tmp 4,.tmp 5] Tryz.func94 rfl rfl rfl rfl rfl (by simp) ?_
  by_cases aW:1≤P.length∧P.length≤20000
  rotate_left
  · have hr:res=none:=by rw[← an];unfold lN;rw[if_neg aW]
    subst hr
    ((repeat' (first|refine Vb @aJ.eq_1 ?_|(refine V2 @aJ.eq_1 ?_ ?_<;>try with_reducible intro hb)|(refine Xi ?_ ?_<;>try intro ht)|exact Xx|fail)))
    all_goals exact eA [] true (by decide) trivial (by decide) (by decide) (aN.oS aN.nil (.pure rfl))
  obtain ⟨jL,iD⟩:=aW
  have hI0:rowsOf aG (q6 P.length 0)=bq P.length [AV.lit (.int .i64 0),.lit (.int .i64 0)]:=by rw[aeN];rfl
  ((repeat' (first|refine Va @aJ.eq_1 ?_|(refine V2 @aJ.eq_1 ?_ ?_<;>try with_reducible intro hb)|(refine Xi ?_ ?_<;>try intro ht)|exact Xx|fail)))
  refine aI (fun i:Nat=>(⟨av [(2,.ptr 0 0 0),(3,.ptr 1 0 0),(6,.lit (.int .i64 P.length)),(7,.ref 2 2 0 P.length),(8,.lit (.int .i64 i))],[.var (ar m),.var (aJ P),.arr 2 (rowsOf aG (q6 P.length i))]⟩:St))
    (fun i=>i≤P.length) (fun i=>P.length - i) 0 (aD _) (by show aA _ _ ⟨_,[_,_,.arr 2 (rowsOf aG (q6 P.length 0))]⟩;rw[hI0];exact Xv @aJ.eq_1) ?_
  · rintro i hi Ql ak aq
    by_cases hi':i<P.length
    · have iN:=aeO (Nat.le_of_lt hi')
      have hug:=aeP hi'
      ((repeat' (first|refine Va (X5 @iN @hug @aG.eq_1 @J5 (aeQ hi')) ?_|(refine Xi ?_ ?_<;>try intro ht)|exact Xx|fail)))
      exact ak _ (i+1) (by omega) (by omega) (Xv @aJ.eq_1)
    · obtain rfl:i=P.length:=by omega
      have hu0:q6 P.length P.length=yf P.length:=by simp[q6,yf]
      rw[hu0]
      ((repeat' (first|refine Va X0 ?_|(refine Xi ?_ ?_<;>try intro ht)|exact Xx|fail)))
      refine aq _ _ rfl ?_;clear ak aq Ql
      repeat (refine Xu ?_)
      refine Va X0 ?_
      refine aI (fun z:Nat × dh=>(⟨av [(2,.ptr 0 0 0),(3,.ptr 1 0 0),(6,.lit (.int .i64 P.length)),(7,.ref 2 2 0 P.length),(9,.lit (.int .i64 z.1))],[.var (ar m),.var (aJ P),.arr 2 (rowsOf aG z.2)]⟩:St))
        (fun z=>z.1≤P.length∧kT m P z.1=some z.2) (fun z=>P.length - z.1) (0,yf P.length) ⟨aD _,rfl⟩ (Xv @aJ.eq_1) ?_
      rintro ⟨i,u⟩ ⟨hi,w6⟩ Ql ak aq
      dsimp only at hi w6 ⊢
      have jI:=wu i u hi w6
      have iN:=jI.len
      by_cases hi':i<P.length
      rotate_left
      · obtain rfl:i=P.length:=by omega
        have hr:res=some u:=by rw[← an];unfold lN;rw[if_pos ⟨jL,iD⟩];exact w6
        ((repeat' (first|refine Va X0 ?_|(refine Xi ?_ ?_<;>try intro ht)|exact Xx|fail)))
        refine aq _ _ rfl ?_;clear ak aq Ql
        repeat (refine Xu ?_)
        subst hr
        refine Vb X0 ?_
        refine IK [] true trivial (aN.oS ?_ (.pure rfl))
        exact .fz rfl (by rw[b5];exact iN.symm)
      have pd:mU m P i u=none→res=none:=fun h=>by rw[← an];exact aeU hi' w6 h
      have bD:kT m P (i+1)=mU m P i u:=by show (kT m P i).bind _=_;rw[w6];rfl
      have cp:=az (l:=P) (i:=i) (d:=default) hi'
      have b1:=hP.kids _ cp
      have b2:=hP.cY _ cp
      have b3:=hP.cM _ cp
      have b4:=hP.cells _ cp
      by_cases uU:0<i∧(dS u i).1<0
      · have hr:=pd (by unfold mU;rw[if_pos uU])
        unfold dS at uU
        generalize oH:u.getD i default=ua at *
        obtain ⟨ua,ub⟩:=ua
        dsimp only at uU
        ((repeat' (first|refine Va (X5 @aJ.eq_1 @iN @oH @aG.eq_1 @aM.eq_1) ?_|(refine V2 (X5 @aJ.eq_1 @iN @oH @aG.eq_1 @aM.eq_1) ?_ ?_<;>try with_reducible intro hb)|(refine Xi ?_ ?_<;>try intro ht)|exact Xx|fail)))
        all_goals
          repeat (refine Xu ?_)
          subst hr
          refine Vb X0 ?_
          exact eA [] true (by decide) trivial (by decide) (by decide) (aN.oS aN.nil (.pure rfl))
      by_cases eH:lh m (nd P i)=true
      rotate_left
      · have hr:=pd (by unfold mU;rw[if_neg uU,if_pos (Bool.eq_false_iff.2 eH)])
        unfold nd at eH
        unfold dS at uU
        generalize oH:u.getD i default=ua at *
        obtain ⟨ua,ub⟩:=ua
        generalize bA:P.getD i default=x at *
        obtain ⟨c,kids,cY,cM,cells⟩:=x
        dsimp only at b1 b2 b3 b4 uU
        generalize mf:m.cls.getD c.toNat default=wl at *
        have vQ:0≤c∧c<m.cls.length→wl.length≤24:=fun h=>by rw[← mf];exact hm.opt _ (az (by omega))
        unfold lh at eH
        dsimp only at eH
        rw[mf] at eH
        subst hr
        by_cases eB:c = -1
        · rw[if_pos eB,decide_eq_true_eq] at eH
          ((repeat' (first|refine Va (X5 @aJ.eq_1 @iN @oH @aG.eq_1 (X2 @bA @aM.eq_1)) ?_|(refine V2 (X5 @aJ.eq_1 @iN @oH @aG.eq_1 (X2 @bA @aM.eq_1)) ?_ ?_<;>try with_reducible intro hb)|(refine Xi ?_ ?_<;>try intro ht)|exact Xx|fail)))
          all_goals
            repeat (refine Xu ?_)
            ((repeat' (first|refine Vb X0 ?_|fail)))
            exact eA [] true (by decide) trivial (by decide) (by decide) (aN.oS aN.nil (.pure rfl))
        · rw[if_neg eB,decide_eq_true_eq] at eH
          by_cases aQ:0≤c∧c<m.cls.length
          · have vQ:=vQ aQ
            ((repeat' (first|refine Va (X5 @aJ.eq_1 @iN @oH @aG.eq_1 (X4 @bA @aM.eq_1 @mf @bn.eq_1)) ?_|(refine V2 (X5 @aJ.eq_1 @iN @oH @aG.eq_1 (X4 @bA @aM.eq_1 @mf @bn.eq_1)) ?_ ?_<;>try with_reducible intro hb)|(refine Xi ?_ ?_<;>try intro ht)|exact Xx|fail)))
            all_goals
              repeat (refine Xu ?_)
              ((repeat' (first|refine Vb X0 ?_|fail)))
              exact eA [] true (by decide) trivial (by decide) (by decide) (aN.oS aN.nil (.pure rfl))
          · ((repeat' (first|refine Va (X5 @aJ.eq_1 @iN @oH @aG.eq_1 (X2 @bA @aM.eq_1)) ?_|(refine V2 (X5 @aJ.eq_1 @iN @oH @aG.eq_1 (X2 @bA @aM.eq_1)) ?_ ?_<;>try with_reducible intro hb)|(refine Xi ?_ ?_<;>try intro ht)|exact Xx|fail)))
            all_goals
              repeat (refine Xu ?_)
              ((repeat' (first|refine Vb X0 ?_|fail)))
              exact eA [] true (by decide) trivial (by decide) (by decide) (aN.oS aN.nil (.pure rfl))
      have Wl:mU m P i u=if (nd P i).cls = -1 then some u else if oI P (nd P i).cls (jX u i)=true then none else mu P.length i (nd P i).kids u (nd P i).kids.length:=by
        unfold mU;rw[if_neg uU,if_neg (by rw[eH];simp)]
      have BG:=fun o v=>UI.kids hi' jI o v
      rw[Wl] at pd bD
      clear Wl
      unfold nd at eH pd bD BG
      unfold dS at uU
      generalize oH:u.getD i default=ua at *
      obtain ⟨ua,ub⟩:=ua
      generalize bA:P.getD i default=x at *
      obtain ⟨c,kids,cY,cM,cells⟩:=x
      have BF:=BE hm eH
      dsimp only at b1 b2 b3 b4 uU BF pd bD BG
      generalize mf:m.cls.getD c.toNat default=wl at *
      unfold lh at eH
      dsimp only at eH
      rw[mf] at eH
      by_cases eB:c = -1
      · rw[if_pos eB,decide_eq_true_eq] at eH
        rw[if_pos eB] at bD
        ((repeat' (first|refine Va (X5 @aJ.eq_1 @iN @oH @aG.eq_1 (X2 @bA @aM.eq_1)) ?_|(refine V2 (X5 @aJ.eq_1 @iN @oH @aG.eq_1 (X2 @bA @aM.eq_1)) ?_ ?_<;>try with_reducible intro hb)|(refine Xi ?_ ?_<;>try intro ht)|exact Xx|fail)))
        all_goals exact ak _ (i+1,u) ⟨by dsimp only;omega,bD⟩ (by dsimp only;omega) (Xs false [0,1,2] @aJ.eq_1)
      rw[if_neg eB,decide_eq_true_eq] at eH
      rw[if_neg eB] at bD pd
      have vQ:wl.length≤24:=by rw[← mf];exact hm.opt _ (az (by omega))
      repeat' (first|((fail_if_success (first|refine im 13 ?_|refine iq 13 ?_));refine Xr (X5 @aJ.eq_1 @iN @oH @aG.eq_1 (X4 @bA @aM.eq_1 @mf @bn.eq_1)) ?_;intro K hK)|(refine hK _ ?_;clear hK K)|(refine Xi ?_ ?_<;>try intro ht)|refine Xy ?_|refine Xd ?_ ?_|exact Xx|fail)
      (refine TJ ?_);intro Q0 cV nk
      refine vt ⟨av [(2,.ptr 0 0 0),(3,.ptr 1 0 0),(6,.lit (.int .i64 P.length)),(7,.ref 2 2 0 P.length),(9,.lit (.int .i64 i)),(10,.ptr 3 0 0)],[.var (ar m),.var (aJ P),.arr 2 (rowsOf aG u),.var (aM ⟨c,kids,cY,cM,cells⟩)]⟩ cV ?_ (fun key=>?_)
      rotate_left
      · (try clear cV)
        ((repeat' (first|refine Va (X4 @aJ.eq_1 @iN @oH @aG.eq_1) ?_|(refine V2 (X4 @aJ.eq_1 @iN @oH @aG.eq_1) ?_ ?_<;>try with_reducible intro hb)|(refine Xi ?_ ?_<;>try intro ht)|exact Xx|fail)))
        all_goals
          refine key _ ?_
          exact Xv (X2 @aJ.eq_1 @aM.eq_1)
      (try clear cV)
      try (try clear Q0)
      ((repeat' (first|refine Va (X5 @aJ.eq_1 @iN @aM.eq_1 @mf @bn.eq_1) ?_|(refine V2 (X5 @aJ.eq_1 @iN @aM.eq_1 @mf @bn.eq_1) ?_ ?_<;>try with_reducible intro hb)|(refine Xi ?_ ?_<;>try intro ht)|exact Xx|fail)))
      refine aI (fun k:Nat=>(⟨av [(2,.ptr 0 0 0),(3,.ptr 1 0 0),(6,.lit (.int .i64 P.length)),(7,.ref 2 2 0 P.length),(9,.lit (.int .i64 i)),(10,.ptr 3 0 0),(11,.lit (.int .i64 k))],[.var (ar m),.var (aJ P),.arr 2 (rowsOf aG u),.var (aM ⟨c,kids,cY,cM,cells⟩)]⟩:St))
        (fun k=>k<P.length∧oI P c (jX u i)=oI P c (jX u k)) (fun k=>k) i ⟨hi',rfl⟩ (Xv (X2 @aJ.eq_1 @aM.eq_1)) ?_
      rintro k ⟨hk,mG⟩ cP a5 a8
      rw[Ak jI hk] at mG
      have bj:=jI.lt hk
      unfold dS at mG bj
      generalize uV:u.getD k default=uk at *
      obtain ⟨p,q⟩:=uk
      dsimp only at mG bj
      by_cases h0:0≤p
      · have bj:=bj h0
        rw[if_pos h0] at mG
        obtain ⟨p,rfl⟩ :∃pn:Nat,p=pn:=⟨p.toNat,by omega⟩
        rw[eT] at bj
        have mG:oI P c (jX u i)=((nd P (p:Int).toNat).cls == c || oI P c (jX u (p:Int).toNat)):=mG
        rw[eT] at mG
        unfold nd at mG
        by_cases rN:(P.getD p default).cls=c
        · have hr:=pd (by rw[mG,rN];simp)
          subst hr
          generalize pe:P.getD p default=y at *
          obtain ⟨yc,y1,y2,y3,y4⟩:=y
          dsimp only at rN
          subst rN
          ((repeat' (first|refine Va (X5 @aJ.eq_1 @iN @uV @aG.eq_1 (X2 @aM.eq_1 @pe)) ?_|(refine Xi ?_ ?_<;>try intro ht)|exact Xx|fail)))
          all_goals
            repeat (refine Xu ?_)
            refine Vb X0 ?_
            exact eA [] true (by decide) trivial (by decide) (by decide) (aN.oS aN.nil (.pure rfl))
        · have oa:oI P c (jX u i)=oI P c (jX u p):=by rw[mG,beq_false_of_ne rN,Bool.false_or]
          generalize pe:P.getD p default=y at *
          obtain ⟨yc,y1,y2,y3,y4⟩:=y
          dsimp only at rN
          ((repeat' (first|refine Va (X5 @aJ.eq_1 @iN @uV @aG.eq_1 (X2 @aM.eq_1 @pe)) ?_|(refine Xi ?_ ?_<;>try intro ht)|exact Xx|fail)))
          exact a5 _ p ⟨by omega,oa⟩ (by omega) (Xv (X2 @aJ.eq_1 @aM.eq_1))
      rw[if_neg h0] at mG
      have mG:oI P c (jX u i)=false:=mG
      rw[if_neg (by rw[mG];simp)] at bD pd
      ((repeat' (first|refine Va (X3 @iN @uV @aG.eq_1) ?_|(refine Xi ?_ ?_<;>try intro ht)|exact Xx|fail)))
      refine a8 _ _ rfl ?_
      clear a5 a8 cP
      repeat (refine Xu ?_)
      refine Va (X2 @aJ.eq_1 @aM.eq_1) ?_
      refine aI (fun z:Nat × dh=>(⟨av [(2,.ptr 0 0 0),(3,.ptr 1 0 0),(6,.lit (.int .i64 P.length)),(7,.ref 2 2 0 P.length),(9,.lit (.int .i64 i)),(10,.ptr 3 0 0),(12,.lit (.int .i64 z.1))],[.var (ar m),.var (aJ P),.arr 2 (rowsOf aG z.2),.var (aM ⟨c,kids,cY,cM,cells⟩)]⟩:St))
        (fun z=>z.1≤kids.length∧mu P.length i kids u z.1=some z.2) (fun z=>kids.length - z.1) (0,u) ⟨aD _,rfl⟩ (Xv (X2 @aJ.eq_1 @aM.eq_1)) ?_
      rintro ⟨o,v⟩ ⟨ho,hv⟩ cP a5 a8
      dsimp only at ho hv ⊢
      have hvi:=BG o v ho hv
      have oY:=hvi.len
      by_cases cf:o<kids.length
      · have x7:=Wm hv cf
        have uQ:=Wn hv
        unfold dS at x7 uQ
        generalize iT:kids.getD o 0=k at *
        generalize FO:v.getD k.toNat default=vk at *
        obtain ⟨va,vb⟩:=vk
        dsimp only at x7 uQ
        by_cases aQ:kl P.length i k=true∧va<0
        · have uQ:=uQ aQ
          unfold kl at aQ
          rw[decide_eq_true_eq] at aQ
          ((repeat' (first|refine Va (X5 @aJ.eq_1 @aM.eq_1 @iT @oY (X3 @FO @aG.eq_1 @J5)) ?_|(refine V2 (X5 @aJ.eq_1 @aM.eq_1 @iT @oY (X3 @FO @aG.eq_1 @J5)) ?_ ?_<;>try with_reducible intro hb)|(refine Xi ?_ ?_<;>try intro ht)|exact Xx|fail)))
          exact a5 _ (o+1,v.set k.toNat ((i:Int),(o:Int))) ⟨by dsimp only;omega,uQ⟩ (by dsimp only;omega) (Xv (X2 @aJ.eq_1 @aM.eq_1))
        · have hr:=pd (x7 aQ)
          unfold kl at aQ
          rw[decide_eq_true_eq] at aQ
          subst hr
          ((repeat' (first|refine Va (X5 @aJ.eq_1 @aM.eq_1 @iT @oY (X2 @FO @aG.eq_1)) ?_|(refine V2 (X5 @aJ.eq_1 @aM.eq_1 @iT @oY (X2 @FO @aG.eq_1)) ?_ ?_<;>try with_reducible intro hb)|(refine Xi ?_ ?_<;>try intro ht)|exact Xx|fail)))
          all_goals
            repeat (refine Xu ?_)
            ((repeat' (first|refine Vb X0 ?_|fail)))
            exact eA [] true (by decide) trivial (by decide) (by decide) (aN.oS aN.nil (.pure rfl))
      · obtain rfl:o=kids.length:=by omega
        rw[hv] at bD
        ((repeat' (first|refine Va (X2 @aJ.eq_1 @aM.eq_1) ?_|(refine V2 (X2 @aJ.eq_1 @aM.eq_1) ?_ ?_<;>try with_reducible intro hb)|(refine Xi ?_ ?_<;>try intro ht)|exact Xx|fail)))
        refine a8 _ _ rfl ?_
        clear a5 a8 cP
        refine Va X0 ?_
        all_goals exact ak _ (i+1,v) ⟨by dsimp only;omega,bD⟩ (by dsimp only;omega) (Xs false [0,1,2] @aJ.eq_1)
end T
namespace T
def sk (m:ah) (P:List Nd) (up:dh) (k:Nat):List (List Bool):=nG P (jX up k) (ef m)
theorem Wo {P:List Nd} {i o:Nat} {up:dh} (h:UI P i o up):∀ k,k<P.length→∀ a∈jX up k,∃ p q:Nat,a=((p:Int),(q:Int))∧p<k∧q<(nd P p).kids.length:=by
  intro k
  induction k using C6 with
  | _ k ih =>
    intro hk a ha
    rw[Ak h hk] at ha
    rcases h.low k hk with h1 | ⟨p,q,h1,h2,h3,_⟩
    · rw[h1,if_neg (by decide)] at ha;cases ha
    · rw[h1,if_pos (by dsimp only;omega)] at ha
      rcases List.mem_cons.1 ha with rfl | ha
      · exact⟨p,q,rfl,h2,h3⟩
      · dsimp only at ha
        rw[eT] at ha
        obtain ⟨p',q',e1,e2,e3⟩:=ih p h2 (by omega) a ha
        exact⟨p',q',e1,by omega,e3⟩
theorem FQ {m:ah} {P:List Nd} (h:iK m P=true) {p:Nat} (hp:p<P.length) {q:Nat} (hq:q<(nd P p).kids.length):0≤(nd P p).cls∧(nd P p).cls<m.cls.length:=by
  have sZ:=CM h hp
  unfold jQ at sZ
  rw[Bool.and_eq_true] at sZ
  have h1:=sZ.1
  by_cases hc:(nd P p).cls = -1
  · have:=J6 h1 hc;omega
  · unfold lh at h1
    rw[if_neg hc,decide_eq_true_eq] at h1
    exact⟨h1.1,h1.2.1⟩
theorem Wp {m:ah} {P:List Nd} {up:dh} (h:lN m P=some up):∀ v∈vs P (root m),v.2.2.contains (nd P v.1).cls=false:=by
  intro v hv
  have hs:=Ai h
  have hl:=tE hs
  have hd:=tq hs
  have oY:=FF hd _ (root m) (show 0<P.length by omega) v hv
  obtain ⟨u,w,hu,hw⟩:=Wq (CR h).2 v.1 oY
  have jI:=wu _ _ (by omega) hu
  have jD:=FR hd jI (by omega) v hv (by omega)
  rw[← J7 jD]
  by_cases hc:(nd P v.1).cls = -1
  · unfold oI
    rw[vh]
    intro a ha
    obtain ⟨p,q,e1,e2,e3⟩:=Wo jI v.1 oY a ha
    subst e1
    have:=FQ hs (show p<P.length by omega) e3
    dsimp only
    rw[eT,hc,beq_iff_eq]
    omega
  · exact (J8 hw).2.2.1 hc
theorem aeW (x:List (List Bool)) {a b:Nat} (h:a≠b) (o q:Nat):bF (bF x a o) b q=bF (bF x b q) a o:=by
  have g:∀ {a b:Nat} (r:List Bool),a≠b→(x.set a r).getD b default=x.getD b default:=fun r h=>by
    rw[ay,List.getElem?_set_ne h,← ay]
  unfold bF
  rw[g _ h,g _ (Ne.symm h)]
  exact List.set_comm _ _ h
def uW (P:List Nd) (l:dh):List Nat:=l.map fun a=>(nd P a.1.toNat).cls.toNat
theorem aeX {P:List Nd} (a:Int × Int):∀ (l:dh) (x:List (List Bool)),(nd P a.1.toNat).cls.toNat ∉ uW P l→nG P (l++[a]) x=nG P (a::l) x:=by
  intro l
  induction l with
  | nil=>intro x _;rfl
  | cons b l ih =>
    intro x hx
    have h1:(nd P b.1.toNat).cls.toNat≠(nd P a.1.toNat).cls.toNat:=fun e=>hx (by unfold uW;rw[cR,e];simp)
    have h2:(nd P a.1.toNat).cls.toNat ∉ uW P l:=fun e=>hx (by unfold uW at e ⊢;rw[cR];exact List.mem_cons_of_mem _ e)
    show nG P (l++[a]) (bF x _ _)=nG P l (bF (bF x _ _) _ _)
    rw[ih _ h2]
    show nG P l (bF (bF x _ _) _ _)=_
    rw[aeW x h1]
theorem aeY {P:List Nd}:∀ (l:dh) (x:List (List Bool)),(uW P l).Nodup→nG P l.reverse x=nG P l x:=by
  intro l
  induction l with
  | nil=>intro x _;rfl
  | cons b l ih =>
    intro x hx
    unfold uW at hx
    rw[cR,re] at hx
    rw[List.reverse_cons,aeX b _ x (fun hm=>hx.1 (by unfold uW at hm;rw[List.map_reverse,List.mem_reverse] at hm;exact hm))]
    show nG P l.reverse (bF x _ _)=nG P l (bF x _ _)
    exact ih _ hx.2
theorem aeZ {m:ah} {P:List Nd} {up:dh} (h:lN m P=some up):∀ k,k<P.length→(uW P (jX up k)).Nodup:=by
  have hs:=Ai h
  have hl:=tE hs
  have hd:=tq hs
  have jI:=wu _ _ (aH _) (CR h).2
  intro k
  induction k using C6 with
  | _ k ih =>
    intro hk
    rw[Ak jI hk]
    rcases jI.low k hk with h1 | ⟨p,q,h1,h2,h3,_⟩
    · rw[h1,if_neg (by decide)];exact List.nodup_nil
    · rw[h1,if_pos (by dsimp only;omega)]
      unfold uW
      dsimp only
      rw[cR,re,eT]
      refine⟨fun hm=>?_,ih p h2 (by omega)⟩
      obtain ⟨a,ha,e⟩:=b7.1 hm
      obtain ⟨v,hv,J9⟩:=Wr hs (show p<P.length by omega)
      have lW:=Wp h v hv
      rw[← J7 (FR hd jI (by omega) v hv (by omega)),J9] at lW
      unfold oI at lW
      rw[vh] at lW
      have:=lW a ha
      obtain ⟨p',q',e1,e2,e3⟩:=Wo jI p (by omega) a ha
      subst e1
      have c1:=FQ hs (show p'<P.length by omega) e3
      have c2:=FQ hs (show p<P.length by omega) h3
      dsimp only at e this
      rw[eT] at e this
      rw[beq_iff_eq] at this
      omega
theorem ae0 {m:ah} {P:List Nd} {up:dh} (h:lN m P=some up):∀ v∈vs P (root m),sk m P up v.1=v.2.1:=by
  intro v hv
  have hs:=Ai h
  have hl:=tE hs
  have hd:=tq hs
  have jI:=wu _ _ (aH _) (CR h).2
  have oY:=FF hd _ (root m) (show 0<P.length by omega) v hv
  rw[(FR hd jI (by omega) v hv (by omega)).2,aeY _ _ (aeZ h _ oY)];rfl
def tI (m:ah) (x:Nd) (left:List (List Bool)):Option Int :=
  if x.cls≠-1 then some 1099511627776
  else if 0<x.cM.length then (if mr m x left=true then some 1099511627776 else none)
  else if (iw m left x.cY).2=0 then some (iw m left x.cY).1 else none
def q7:List (Option Int)→Int→Option Int
  | [],b=>some b
  | none::_,_=>none
  | some v::l,b=>q7 l (min b v)
theorem ae1 {l l':List (Option Int)} (h:l.Perm l'):∀ b,q7 l b=q7 l' b:=by
  induction h with
  | nil=>exact fun _=>rfl
  | cons x _ ih=>intro b;cases x<;>simp only[q7,ih]
  | swap x y l =>
    intro b
    cases x<;>cases y<;>simp only[q7]
    congr 1;omega
  | trans _ _ h1 h2=>exact fun b=>(h1 b).trans (h2 b)
theorem ae2 {m:ah} {P:List Nd}:∀ (L:List dg) (b:Int),b≤1099511627776→(∀ s∈L,s.2.2.contains (nd P s.1).cls=false) →
    q7 (L.map fun s=>tI m (nd P s.1) s.2.1) b=if (ja P (gj m P) L b).2=true then some (ja P (gj m P) L b).1 else none:=by
  intro L
  induction L with
  | nil=>intro b _ _;rfl
  | cons s L ih =>
    intro b hb h
    have hc:=h s (by simp)
    have hL:=fun b hb=>ih b hb fun t ht=>h t (by simp[ht])
    rw[cR,ja,if_neg (show ¬(s.2.2.contains (nd P s.1).cls=true) by rw[hc];simp)]
    generalize Dy:(L.map fun s=>tI m (nd P s.1) s.2.1)=ml at *
    clear Dy ih
    generalize gk:gj m P b s=cs at *
    unfold gj at gk
    subst gk
    unfold tI
    by_cases h1:(nd P s.1).cls≠-1
    · rw[if_pos h1,if_pos h1,if_pos rfl]
      show q7 _ (min b _)=_
      rw[Gy hb]
      exact hL b hb
    · rw[if_neg h1,if_neg h1]
      by_cases h2:0<(nd P s.1).cM.length
      · rw[if_pos h2,if_pos h2]
        by_cases h3:mr m (nd P s.1) s.2.1=true
        · rw[if_pos h3,h3,if_pos rfl]
          show q7 _ (min b _)=_
          rw[Gy hb]
          exact hL b hb
        · rw[if_neg h3,if_neg h3];rfl
      · rw[if_neg h2,if_neg h2]
        by_cases h3:(iw m s.2.1 (nd P s.1).cY).2=0
        · rw[if_pos h3,h3,if_pos (show (((0:Int) == 0)=true) from rfl)]
          exact hL _ (by omega)
        · have h4:((iw m s.2.1 (nd P s.1).cY).2 == 0)=false:=beq_false_of_ne h3
          rw[if_neg h3,h4];rfl
def sj (m:ah) (P:List Nd) (up:dh) (i:Nat):Option Int:=q7 ((aT i).map fun k=>tI m (nd P k) (sk m P up k)) 1099511627776
theorem ae3 (x:Option Int):∀ (l:List (Option Int)) (b:Int),q7 (l++[x]) b=(q7 l b).bind fun c=>x.map (min c):=by
  intro l
  induction l with
  | nil=>intro b;cases x<;>rfl
  | cons y l ih=>intro b;cases y with
    | none=>rfl
    | some v=>exact ih _
theorem Wi (m:ah) (P:List Nd) (up:dh) (i:Nat):sj m P up (i+1)=(sj m P up i).bind fun c=>(tI m (nd P i) (sk m P up i)).map (min c):=by
  unfold sj
  rw[List.range_succ,List.map_append]
  exact ae3 _ _ _
theorem ae4 {m:ah} {P:List Nd} (h:iK m P=true):((vs P (root m)).map (·.1)).Perm (aT P.length):=by
  have hl:=tE h
  rw[List.perm_iff_count]
  intro a
  by_cases ha:a<P.length
  · rw[VU h rfl a ha,List.nodup_range.count,if_pos (mA.2 ha)]
  · rw[K'.2,K'.2 (by rw[mA];exact ha)]
    intro hm
    obtain ⟨v,hv,e⟩:=b7.1 hm
    have:=FF (tq h) _ (root m) (show 0<P.length by omega) v hv
    omega
def FN (m:ah) (P:List Nd):Int × Bool :=
  match lN m P with
  | none=>(0,false)
  | some up=>match sj m P up P.length with
    | none=>(0,false)
    | some b=>(b,true)
theorem aeM {m:ah} (hm:VM m) (P:List Nd):lG m P=FN m P:=by
  unfold FN
  cases hf:lN m P with
  | none =>
    dsimp only
    by_cases hs:iK m P=true
    · obtain ⟨v,hv,hh⟩:=ae5 hs hf
      generalize hc:lG m P=c
      obtain ⟨n,ok⟩:=c
      cases ok
      · unfold lG at hc
        split at hc
        · cases hc
        · exact hc.symm
      · obtain ⟨_,_,h3⟩:=TX hc
        have:=((TY h3).2 v hv).1
        rw[this] at hh;cases hh
    · have hw:ph m P (gj m P) 1099511627776=(1099511627776,false):=if_neg fun h=>hs h.2
      unfold lG
      rw[hw,if_neg (by simp)]
  | some up =>
    dsimp only
    have hs:=Ai hf
    have hw:ph m P (gj m P) 1099511627776=ja P (gj m P) (vs P (root m)) 1099511627776:=if_pos ⟨iJ.2 hm,hs⟩
    have hr:=ae2 (m:=m) (P:=P) (vs P (root m)) 1099511627776 (Int.le_refl _) (Wp hf)
    have he:sj m P up P.length=q7 ((vs P (root m)).map fun s=>tI m (nd P s.1) s.2.1) 1099511627776:=by
      unfold sj
      rw[← ae1 ((ae4 hs).map _),List.map_map]
      congr 1
      refine List.map_congr_left fun v hv=>?_
      show tI m (nd P v.1) (sk m P up v.1)=_
      rw[ae0 hf v hv]
    rw[he,hr]
    unfold lG
    rw[hw]
    by_cases h2:(ja P (gj m P) (vs P (root m)) 1099511627776).2=true
    · rw[if_pos h2,if_pos h2]
    · rw[if_neg h2,if_neg h2]
end T
namespace T
end T
namespace T
def nP (x y:Ob) (A:List (List AV)) (Y:List (List Bool)):List Ob:=x::y::.arr 1 A::ou Y
theorem FT (x y:Ob) (A:List (List AV)) (Y:List (List Bool)):(nP x y A Y)[0]?=some x:=rfl
theorem FU (x y:Ob) (A:List (List AV)) (Y:List (List Bool)):(nP x y A Y)[1]?=some y:=rfl
theorem CS (x y:Ob) (A:List (List AV)) (Y:List (List Bool)):(nP x y A Y)[2]?=some (.arr 1 A):=rfl
theorem Ws (x y:Ob) (A:List (List AV)) {Y:List (List Bool)} {i:Nat} (h:i<Y.length):(nP x y A Y)[3+i]?=some (.arr 1 (bg (Y.getD i default))):=by
  have:=nOk y A h
  have e:3+i=(2+i)+1:=by omega
  rw[e];exact this
theorem nPs (x y:Ob) (A:List (List AV)) (Y:List (List Bool)) (i:Nat) (r:List Bool):(nP x y A Y).set (3+i) (.arr 1 (bg r))=nP x y A (Y.set i r):=by
  have:=nOs y A Y i r
  have e:3+i=(2+i)+1:=by omega
  rw[e]
  show x::(nO y A Y).set (2+i) _=_
  rw[this];rfl
theorem ae7 {x:List (List Bool)} {i:Nat} {r:List Bool} (hr:r.length=(x.getD i default).length):(x.set i r).map nL=x.map nL:=by
  apply ju
  intro j
  rw[bN,bN,bS]
  split
  · rename_i e;subst e
    split
    · rename_i h2;rw[bI h2] ;rw[ay,bI h2] at hr;simpa using hr
    · rename_i h2;rw[du (by omega)]
  · rfl
theorem ae8 {w o k:Nat} {r:List Bool} (hw:r.length=w) (h:∀ b,b<k→r.getD b false=(b == o)) (hk:k<w):∀ b,b<k+1→(r.set k (k == o)).getD b false=(b == o):=by
  intro b hb
  rw[ay,bS]
  by_cases e:k=b
  · subst e;rw[if_pos rfl,if_pos (by omega)];rfl
  · rw[if_neg e,← ay];exact h b (by omega)
theorem ae9 {w o:Nat} {r:List Bool} (hw:r.length=w) (h:∀ b,b<w→r.getD b false=(b == o)):r=lI w o:=by
  apply ju
  intro b
  unfold lI
  rw[bS,nK]
  by_cases hb:b<w
  · have:=h b hb
    rw[ay,bI (by omega),Option.getD_some] at this
    rw[bI (by omega),this]
    by_cases e:o=b
    · subst e;rw[if_pos rfl,if_pos hb];simp
    · rw[if_neg e,GD hb]
      congr 1
      exact beq_false_of_ne (Ne.symm e)
  · rw[du (by omega)]
    by_cases e:o=b
    · subst e;rw[if_pos rfl,if_neg hb]
    · rw[if_neg e,du (by simp;omega)]
end T
namespace T
theorem aeL (m:ah) (P:List Nd) (up:dh) (node:Nat) (hm:MB m) (hv:VM m) (hP:PB P) (hf:lN m P=some up) (bR:node<P.length) :
    ao Tryz.prog 95 [.agg (ar m),.agg (aJ P),.tree 2 (rowsOf aG up),.lit (.int .i64 node)] [] (.tree 1 (rowsOf aE (sk m P up node))) []:=by
  have xE:=hP.zB
  have uE:=Ai hf
  have dz:=(tE uE).2
  have mc:=hv.cls
  have h1:=ae' m hm hv
  have jI:=wu _ _ (aH _) (CR hf).2
  have iN:=jI.len
  have ec:=BA hv
  have eW:=ec.1
  have afa:sk m P up node=nG P (jX up node) (ef m):=rfl
  generalize an:sk m P up node=res at *
  generalize fq:ef m=Y0 at *
  have cK:(jH 3 Y0).length=Y0.length:=E8 3 Y0
  refine ao.aF (fn:=Tryz.f95) 60 0 [.tmp 8] Tryz.func95 rfl rfl rfl rfl rfl (by simp) ?_
  ((refine Va @aJ.eq_1 ?_)<;>try with_reducible intro K hK)
  refine ic [] h1 (by decide) trivial ⟨.pure rfl,trivial⟩ ?_
  have ha:bC (bd 2 []) (.arr 1 (jH 1 Y0))=.arr 1 (jH 3 Y0):=by
    rw[bC,abL (bd 2 []) Y0 3 1 fun j hj=>by unfold bd;rw[if_neg (by simp)];simp;omega]
  have qI:(ou Y0).map (bC (bd 2 []))=ou Y0:=abM _ _
  have hc:aX (bd 2 []) (.ref 0 1 0 Y0.length)=.ref 2 1 0 Y0.length:=rfl
  have hd:∀ (l n:List Ob),dM l [] n=l++n:=fun l n=>by cases n<;>simp[dM]
  show opsL _ _ _ _ (St.put ⟨_,dM [_,_] [] (List.map (bC (bd 2 [])) _)⟩ _ (aX (bd 2 []) _))
  rw[cR,ha,qI,hc,hd]
  simp (disch:=omega) only[Ac,↓Pc,simprocAttr]
  refine hK _ ?_
  clear hK K
  refine cA (σ':=⟨av [(2,.tree 2 (rowsOf aG up)),(3,.lit (.int .i64 node)),(5,.ptr 1 0 0),(9,.ref 2 1 0 Y0.length)],nP (.var (ar m)) (.var (aJ P)) (jH 3 Y0) Y0⟩) (by unfold nP;exact Xv @aJ.eq_1) ?_
  refine Va X0 ?_
  refine aI (fun z:Nat × List (List Bool)=>(⟨av [(2,.tree 2 (rowsOf aG up)),(5,.ptr 1 0 0),(9,.ref 2 1 0 Y0.length),(10,.lit (.int .i64 z.1))],nP (.var (ar m)) (.var (aJ P)) (jH 3 Y0) z.2⟩:St))
    (fun z=>z.1<P.length∧z.2.map nL=Y0.map nL∧nG P (jX up z.1) z.2=res) (fun z=>z.1) (node,Y0) ⟨bR,rfl,afa.symm⟩ (Xv X0) ?_
  rintro ⟨k,Y⟩ ⟨hk,hY,po⟩ Ql ak aq
  dsimp only at hk hY po ⊢
  have J':=congrArg nL hY
  rw[dU,dU] at J'
  have hfY:=Bu ec hY
  rw[Ak jI hk] at po
  have Al:=jI.low k hk
  unfold dS at po Al
  generalize uV:up.getD k default=uk at *
  rcases Al with h1 | ⟨p,q,h1,h2,h3,_⟩
  · subst h1
    rw[if_neg (by decide)] at po
    have hY2:Y=res:=po
    subst hY2
    ((repeat' (first|refine Va (X5 @uV @aG.eq_1 @iN @FT (X2 @FU @CS)) ?_|(refine Xi ?_ ?_<;>try intro ht)|exact Xx|fail)))
    refine aq _ _ rfl ?_;clear ak aq Ql
    repeat (refine Xu ?_)
    refine Vb X0 ?_
    refine IK [] true trivial ?_
    rw[← J']
    exact .snap _ _ rfl (abP (CS _ _ _ _) (hU (by decide)) (by rw[cK];exact J'.symm) fun a ha=>⟨3+a,by rw[abK 3 hY.symm];exact B2 3 Y a ha,Ws _ _ _ ha,hU (by simp)⟩)
  · subst h1
    rw[if_pos (by dsimp only;omega)] at po
    dsimp only at po
    rw[eT] at po
    have rN:=FQ uE (show p<P.length by omega) h3
    have po:nG P (jX up p) (bF Y (nd P p).cls.toNat q)=res:=po
    unfold nd at po rN
    generalize pe:P.getD p default=y at *
    obtain ⟨c,y1,y2,y3,y4⟩:=y
    dsimp only at po rN
    obtain ⟨c,rfl⟩ :∃cn:Nat,c=cn:=⟨c.toNat,by omega⟩
    rw[eT] at po
    have Ka:=hfY.2 c (by omega)
    have afd:=ec.2 c (by omega)
    have qG:=hv.opt _ (az (l:=m.cls) (i:=c) (d:=default) (by omega))
    have jm:=B2 3 Y0 c (by omega)
    rw[afd] at jm
    generalize aO:(m.cls.getD c default).length=w at *
    ((repeat' (first|refine Va (X5 @aJ.eq_1 @uV @aG.eq_1 @iN (X5 @pe @aM.eq_1 @FT @FU @CS)) ?_|(refine Xi ?_ ?_<;>try intro ht)|exact Xx|fail)))
    refine aI (fun z:Nat × List Bool=>(⟨av [(2,.tree 2 (rowsOf aG up)),(5,.ptr 1 0 0),(9,.ref 2 1 0 Y0.length),(10,.lit (.int .i64 k)),(11,.lit (.int .i64 c)),(12,.lit (.int .i64 z.1))],nP (.var (ar m)) (.var (aJ P)) (jH 3 Y0) (Y.set c z.2)⟩:St))
      (fun z=>z.1≤w∧z.2.length=w∧∀ b,b<z.1→z.2.getD b false=(b == q)) (fun z=>w - z.1) (0,Y.getD c default) ⟨aD _,Ka,fun a ha=>absurd ha (Nat.not_lt_zero _)⟩ (by rw[Ii];exact Xv @aJ.eq_1) ?_
    rintro ⟨o,r⟩ ⟨ho,hr,l6⟩ cP a5 a8
    dsimp only at ho hr l6 ⊢
    have hYs:(Y.set c r).length=Y.length:=bm ..
    have f2:=Ws (.var (ar m)) (.var (aJ P)) (jH 3 Y0) (Y:=Y.set c r) (i:=c) (by omega)
    rw[zF _ _ _ (by omega)] at f2
    have f3:=fun r2=>nPs (.var (ar m)) (.var (aJ P)) (jH 3 Y0) (Y.set c r) c r2
    simp only[List.set_set] at f3
    unfold aJ ar at f2 f3
    by_cases cf:o<w
    · ((repeat' (first|refine Va (X5 @aJ.eq_1 @uV @aG.eq_1 @iN (X5 @FT @FU @CS @jm (X4 @f2 @f3 @sK @hr))) ?_|(refine Xi ?_ ?_<;>try intro ht)|exact Xx|fail)))
      have afe:((o:Int) == (q:Int))=(o == q):=by rw[Bool.eq_iff_iff,beq_iff_eq,beq_iff_eq];omega
      rw[afe]
      refine a5 _ (o+1,r.set o (o == q)) ⟨by dsimp only;omega,by dsimp only;rw[bm];exact hr,ae8 hr l6 cf⟩ (by dsimp only;omega) (Xv @aJ.eq_1)
    · obtain rfl:o=w:=by omega
      ((repeat' (first|refine Va (X5 @aJ.eq_1 @uV @aG.eq_1 @iN (X5 @FT @FU @CS @jm @f2)) ?_|(refine Xi ?_ ?_<;>try intro ht)|exact Xx|fail)))
      refine a8 _ _ rfl ?_
      clear a5 a8 cP
      repeat (refine Xu ?_)
      have hre:=ae9 hr l6
      refine Va (X4 @aJ.eq_1 @uV @aG.eq_1 @iN) ?_
      refine ak _ (p,Y.set c r) ⟨by dsimp only;omega,?_,?_⟩ (by dsimp only;omega) (Xv @aJ.eq_1)
      · dsimp only
        rw[ae7 (by rw[hr,Ka])];exact hY
      · dsimp only
        rw[hre,← po]
        unfold bF
        rw[Ka]
end T
namespace T
end T

