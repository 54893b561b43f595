import Derived.Test.YtdipcmigdbnheaaGreatX39
import Derived.Test.YtdipcmigdbnheaaGreatX31
import Derived.Test.YtdipcmigdbnheaaGreatX33
set_option linter.unusedVariables false
set_option linter.unusedSimpArgs false
set_option linter.unnecessarySimpa false
set_option linter.unusedSectionVars false
set_option maxHeartbeats 64000000
set_option maxRecDepth 20000
open List renaming replicate→aW,length_replicate→mo,length→tu,length_map→eD,length_set→bF
open Nat renaming sub_self→iz,zero_le→aH
open Int renaming toNat_natCast→dg
open Go Go.Am Go.Proofs
open Nat (reduceEqDiff reduceAdd reduceLeDiff reduceMul)
open Int (reduceNeg reduceLE reduceToNat)
namespace T
theorem Lt (up:df) (i:Nat) (a b:Int):(rowsOf bP up).set i [.lit (.int .i64 a),.lit (.int .i64 b)]=rowsOf bP (up.set i (a,b)):=by simp[rowsOf,bP,List.map_set]
theorem ahq (n:Nat) (a b:Int):aW n [AV.lit (.int .i64 a),.lit (.int .i64 b)]=rowsOf bP (aW n (a,b)):=by simp[rowsOf,bP]
def rQ (n i:Nat):df:=aW i (-1,0)++aW (n - i) (0,0)
theorem ahr {n i:Nat} (h:i≤n):(rQ n i).length=n:=by simp[rQ];omega
theorem ahs {n i:Nat} (h:i<n):(rQ n i).getD i default=(0,0):=by
  unfold rQ
  rw[List.getD_eq_getElem?_getD,List.getElem?_append_right (by simp),mo,iz,List.getElem?_replicate_of_lt (by omega)];rfl
theorem aht {n i:Nat} (h:i<n):(rQ n i).set i (-1,0)=rQ n (i+1):=by
  unfold rQ
  rw[List.set_append_right _ _ (by simp),mo,iz,show n - i=(n - (i+1))+1 by omega,List.replicate_succ,List.set_cons_zero,List.replicate_succ' (n:=i),List.append_assoc];rfl
theorem ahn (m:ae) (P:List Nd) (hm:VM m) (hP:PB P):ao Tryz.prog 94 [.agg (au m),.agg (aM P)] [] (.bM [.tree 2 (rowsOf bP ((mj m P).getD [])),.lit (.bool (mj m P).isSome)]) []:=by
  have yK:=hP.Ay
  have nX:=hm.cls
  generalize aj:mj m P=res
  refine ao.aD (fn:=Tryz.f94) 187 0 [.tmp 4,.tmp 5] Tryz.func94 rfl rfl rfl rfl rfl (by simp) ?_
  by_cases a5:1≤P.length∧P.length≤20000
  rotate_left
  · have hr:res=none:=by rw[← aj];unfold mj;rw[if_neg a5]
    subst hr
    ((repeat' (first|refine Vb @aM.eq_1 ?_|(refine V2 @aM.eq_1 ?_ ?_<;>try with_reducible intro hb)|(refine Xi ?_ ?_<;>try intro ht)|exact Xx|fail)))
    all_goals exact dR [] true (by decide) trivial (by decide) (by decide) (aO.qL aO.nil (.pure rfl))
  obtain ⟨l0,m0⟩:=a5
  have hI0:rowsOf bP (rQ P.length 0)=aW P.length [AV.lit (.int .i64 0),.lit (.int .i64 0)]:=by rw[ahq];rfl
  ((repeat' (first|refine Va @aM.eq_1 ?_|(refine V2 @aM.eq_1 ?_ ?_<;>try with_reducible intro hb)|(refine Xi ?_ ?_<;>try intro ht)|exact Xx|fail)))
  refine aG (fun i:Nat=>(⟨aw [(2,.ptr 0 0 0),(3,.ptr 1 0 0),(6,.lit (.int .i64 P.length)),(7,.ref 2 2 0 P.length),(8,.lit (.int .i64 i))],[.var (au m),.var (aM P),.arr 2 (rowsOf bP (rQ P.length i))]⟩:St))
    (fun i=>i≤P.length) (fun i=>P.length - i) 0 (aH _) (by show aQ _ _ ⟨_,[_,_,.arr 2 (rowsOf bP (rQ P.length 0))]⟩;rw[hI0];exact Xv @aM.eq_1) ?_
  · rintro i hi Ql ak aq
    by_cases ax:i<P.length
    · have iQ:=ahr (Nat.le_of_lt ax)
      have hug:=ahs ax
      ((repeat' (first|refine Va (X5 @iQ @hug @bP.eq_1 @Lt (aht ax)) ?_|(refine Xi ?_ ?_<;>try intro ht)|exact Xx|fail)))
      exact ak _ (i+1) (by omega) (by omega) (Xv @aM.eq_1)
    · obtain rfl:i=P.length:=by omega
      have hu0:rQ P.length P.length=zy P.length:=by simp[rQ,zy]
      rw[hu0]
      ((repeat' (first|refine Va X0 ?_|(refine Xi ?_ ?_<;>try intro ht)|exact Xx|fail)))
      refine aq _ _ rfl ?_;clear ak aq Ql
      repeat (refine Xu ?_)
      refine Va X0 ?_
      refine aG (fun z:Nat × df=>(⟨aw [(2,.ptr 0 0 0),(3,.ptr 1 0 0),(6,.lit (.int .i64 P.length)),(7,.ref 2 2 0 P.length),(9,.lit (.int .i64 z.1))],[.var (au m),.var (aM P),.arr 2 (rowsOf bP z.2)]⟩:St))
        (fun z=>z.1≤P.length∧lz m P z.1=some z.2) (fun z=>P.length - z.1) (0,zy P.length) ⟨aH _,rfl⟩ (Xv @aM.eq_1) ?_
      rintro ⟨i,u⟩ ⟨hi,yj⟩ Ql ak aq
      dsimp only at hi yj ⊢
      have jS:=xD i u hi yj
      have iQ:=jS.len
      by_cases ax:i<P.length
      rotate_left
      · obtain rfl:i=P.length:=by omega
        have hr:res=some u:=by rw[← aj];unfold mj;rw[if_pos ⟨l0,m0⟩];exact yj
        ((repeat' (first|refine Va X0 ?_|(refine Xi ?_ ?_<;>try intro ht)|exact Xx|fail)))
        refine aq _ _ rfl ?_;clear ak aq Ql
        repeat (refine Xu ?_)
        subst hr
        refine Vb X0 ?_
        refine JJ [] true trivial (aO.qL ?_ (.pure rfl))
        exact .fz rfl (by rw[eP];exact iQ.symm)
      have mT:nD m P i u=none→res=none:=fun h=>by rw[← aj];exact ahx ax yj h
      have bE:lz m P (i+1)=nD m P i u:=by show (lz m P i).bind _=_;rw[yj];rfl
      have cd:=az (l:=P) (i:=i) (d:=default) ax
      have b1:=hP.kids _ cd
      have b2:=hP.cX _ cd
      have b3:=hP.b5 _ cd
      have b4:=hP.cells _ cd
      by_cases vQ:0<i∧(dP u i).1<0
      · have hr:=mT (by unfold nD;rw[if_pos vQ])
        unfold dP at vQ
        generalize pf:u.getD i default=ua at *
        obtain ⟨ua,ub⟩:=ua
        dsimp only at vQ
        ((repeat' (first|refine Va (X5 @aM.eq_1 @iQ @pf @bP.eq_1 @aL.eq_1) ?_|(refine V2 (X5 @aM.eq_1 @iQ @pf @bP.eq_1 @aL.eq_1) ?_ ?_<;>try with_reducible intro hb)|(refine Xi ?_ ?_<;>try intro ht)|exact Xx|fail)))
        all_goals
          repeat (refine Xu ?_)
          subst hr
          refine Vb X0 ?_
          exact dR [] true (by decide) trivial (by decide) (by decide) (aO.qL aO.nil (.pure rfl))
      by_cases eR:lh m (nd P i)=true
      rotate_left
      · have hr:=mT (by unfold nD;rw[if_neg vQ,if_pos (Bool.eq_false_iff.2 eR)])
        unfold nd at eR
        unfold dP at vQ
        generalize pf:u.getD i default=ua at *
        obtain ⟨ua,ub⟩:=ua
        generalize bS:P.getD i default=x at *
        obtain ⟨c,kids,cX,b5,cells⟩:=x
        dsimp only at b1 b2 b3 b4 vQ
        generalize mM:m.cls.getD c.toNat default=wl at *
        have vf:0≤c∧c<m.cls.length→wl.length≤24:=fun h=>by rw[← mM];exact hm.opt _ (az (by omega))
        unfold lh at eR
        dsimp only at eR
        rw[mM] at eR
        subst hr
        by_cases g6:c = -1
        · rw[if_pos g6,decide_eq_true_eq] at eR
          ((repeat' (first|refine Va (X5 @aM.eq_1 @iQ @pf @bP.eq_1 (X2 @bS @aL.eq_1)) ?_|(refine V2 (X5 @aM.eq_1 @iQ @pf @bP.eq_1 (X2 @bS @aL.eq_1)) ?_ ?_<;>try with_reducible intro hb)|(refine Xi ?_ ?_<;>try intro ht)|exact Xx|fail)))
          all_goals
            repeat (refine Xu ?_)
            ((repeat' (first|refine Vb X0 ?_|fail)))
            exact dR [] true (by decide) trivial (by decide) (by decide) (aO.qL aO.nil (.pure rfl))
        · rw[if_neg g6,decide_eq_true_eq] at eR
          by_cases aC:0≤c∧c<m.cls.length
          · have vf:=vf aC
            ((repeat' (first|refine Va (X5 @aM.eq_1 @iQ @pf @bP.eq_1 (X4 @bS @aL.eq_1 @mM @bA.eq_1)) ?_|(refine V2 (X5 @aM.eq_1 @iQ @pf @bP.eq_1 (X4 @bS @aL.eq_1 @mM @bA.eq_1)) ?_ ?_<;>try with_reducible intro hb)|(refine Xi ?_ ?_<;>try intro ht)|exact Xx|fail)))
            all_goals
              repeat (refine Xu ?_)
              ((repeat' (first|refine Vb X0 ?_|fail)))
              exact dR [] true (by decide) trivial (by decide) (by decide) (aO.qL aO.nil (.pure rfl))
          · ((repeat' (first|refine Va (X5 @aM.eq_1 @iQ @pf @bP.eq_1 (X2 @bS @aL.eq_1)) ?_|(refine V2 (X5 @aM.eq_1 @iQ @pf @bP.eq_1 (X2 @bS @aL.eq_1)) ?_ ?_<;>try with_reducible intro hb)|(refine Xi ?_ ?_<;>try intro ht)|exact Xx|fail)))
            all_goals
              repeat (refine Xu ?_)
              ((repeat' (first|refine Vb X0 ?_|fail)))
              exact dR [] true (by decide) trivial (by decide) (by decide) (aO.qL aO.nil (.pure rfl))
      have YV:nD m P i u=if (nd P i).cls = -1 then some u else if pg P (nd P i).cls (ki u i)=true then none else mV P.length i (nd P i).kids u (nd P i).kids.length:=by
        unfold nD;rw[if_neg vQ,if_neg (by rw[eR];simp)]
      have jv:=fun o v=>UI.kids ax jS o v
      rw[YV] at mT bE
      clear YV
      unfold nd at eR mT bE jv
      unfold dP at vQ
      generalize pf:u.getD i default=ua at *
      obtain ⟨ua,ub⟩:=ua
      generalize bS:P.getD i default=x at *
      obtain ⟨c,kids,cX,b5,cells⟩:=x
      have Cr:=Ar hm eR
      dsimp only at b1 b2 b3 b4 vQ Cr mT bE jv
      generalize mM:m.cls.getD c.toNat default=wl at *
      unfold lh at eR
      dsimp only at eR
      rw[mM] at eR
      by_cases g6:c = -1
      · rw[if_pos g6,decide_eq_true_eq] at eR
        rw[if_pos g6] at bE
        ((repeat' (first|refine Va (X5 @aM.eq_1 @iQ @pf @bP.eq_1 (X2 @bS @aL.eq_1)) ?_|(refine V2 (X5 @aM.eq_1 @iQ @pf @bP.eq_1 (X2 @bS @aL.eq_1)) ?_ ?_<;>try with_reducible intro hb)|(refine Xi ?_ ?_<;>try intro ht)|exact Xx|fail)))
        all_goals exact ak _ (i+1,u) ⟨by dsimp only;omega,bE⟩ (by dsimp only;omega) (Xs false [0,1,2] @aM.eq_1)
      rw[if_neg g6,decide_eq_true_eq] at eR
      rw[if_neg g6] at bE mT
      have vf:wl.length≤24:=by rw[← mM];exact hm.opt _ (az (by omega))
      repeat' (first|((fail_if_success (first|refine iV 13 ?_|refine iW 13 ?_));refine Xr (X5 @aM.eq_1 @iQ @pf @bP.eq_1 (X4 @bS @aL.eq_1 @mM @bA.eq_1)) ?_;intro K hK)|(refine hK _ ?_;clear hK K)|(refine Xi ?_ ?_<;>try intro ht)|refine Xy ?_|refine Xd ?_ ?_|exact Xx|fail)
      (refine VC ?_);intro Q0 cy nT
      refine xV ⟨aw [(2,.ptr 0 0 0),(3,.ptr 1 0 0),(6,.lit (.int .i64 P.length)),(7,.ref 2 2 0 P.length),(9,.lit (.int .i64 i)),(10,.ptr 3 0 0)],[.var (au m),.var (aM P),.arr 2 (rowsOf bP u),.var (aL ⟨c,kids,cX,b5,cells⟩)]⟩ cy ?_ (fun key=>?_)
      rotate_left
      · (try clear cy)
        ((repeat' (first|refine Va (X4 @aM.eq_1 @iQ @pf @bP.eq_1) ?_|(refine V2 (X4 @aM.eq_1 @iQ @pf @bP.eq_1) ?_ ?_<;>try with_reducible intro hb)|(refine Xi ?_ ?_<;>try intro ht)|exact Xx|fail)))
        all_goals
          refine key _ ?_
          exact Xv (X2 @aM.eq_1 @aL.eq_1)
      (try clear cy)
      try (try clear Q0)
      ((repeat' (first|refine Va (X5 @aM.eq_1 @iQ @aL.eq_1 @mM @bA.eq_1) ?_|(refine V2 (X5 @aM.eq_1 @iQ @aL.eq_1 @mM @bA.eq_1) ?_ ?_<;>try with_reducible intro hb)|(refine Xi ?_ ?_<;>try intro ht)|exact Xx|fail)))
      refine aG (fun k:Nat=>(⟨aw [(2,.ptr 0 0 0),(3,.ptr 1 0 0),(6,.lit (.int .i64 P.length)),(7,.ref 2 2 0 P.length),(9,.lit (.int .i64 i)),(10,.ptr 3 0 0),(11,.lit (.int .i64 k))],[.var (au m),.var (aM P),.arr 2 (rowsOf bP u),.var (aL ⟨c,kids,cX,b5,cells⟩)]⟩:St))
        (fun k=>k<P.length∧pg P c (ki u i)=pg P c (ki u k)) (fun k=>k) i ⟨ax,rfl⟩ (Xv (X2 @aM.eq_1 @aL.eq_1)) ?_
      rintro k ⟨hk,m8⟩ cR ba bd
      rw[Bp jS hk] at m8
      have aT:=jS.lt hk
      unfold dP at m8 aT
      generalize vR:u.getD k default=uk at *
      obtain ⟨p,q⟩:=uk
      dsimp only at m8 aT
      by_cases h0:0≤p
      · have aT:=aT h0
        rw[if_pos h0] at m8
        obtain ⟨p,rfl⟩ :∃pn:Nat,p=pn:=⟨p.toNat,by omega⟩
        rw[dg] at aT
        have m8:pg P c (ki u i)=((nd P (p:Int).toNat).cls == c || pg P c (ki u (p:Int).toNat)):=m8
        rw[dg] at m8
        unfold nd at m8
        by_cases nU:(P.getD p default).cls=c
        · have hr:=mT (by rw[m8,nU];simp)
          subst hr
          generalize pN:P.getD p default=y at *
          obtain ⟨yc,y1,y2,y3,y4⟩:=y
          dsimp only at nU
          subst nU
          ((repeat' (first|refine Va (X5 @aM.eq_1 @iQ @vR @bP.eq_1 (X2 @aL.eq_1 @pN)) ?_|(refine Xi ?_ ?_<;>try intro ht)|exact Xx|fail)))
          all_goals
            repeat (refine Xu ?_)
            refine Vb X0 ?_
            exact dR [] true (by decide) trivial (by decide) (by decide) (aO.qL aO.nil (.pure rfl))
        · have yL:pg P c (ki u i)=pg P c (ki u p):=by rw[m8,beq_false_of_ne nU,Bool.false_or]
          generalize pN:P.getD p default=y at *
          obtain ⟨yc,y1,y2,y3,y4⟩:=y
          dsimp only at nU
          ((repeat' (first|refine Va (X5 @aM.eq_1 @iQ @vR @bP.eq_1 (X2 @aL.eq_1 @pN)) ?_|(refine Xi ?_ ?_<;>try intro ht)|exact Xx|fail)))
          exact ba _ p ⟨by omega,yL⟩ (by omega) (Xv (X2 @aM.eq_1 @aL.eq_1))
      rw[if_neg h0] at m8
      have m8:pg P c (ki u i)=false:=m8
      rw[if_neg (by rw[m8];simp)] at bE mT
      ((repeat' (first|refine Va (X3 @iQ @vR @bP.eq_1) ?_|(refine Xi ?_ ?_<;>try intro ht)|exact Xx|fail)))
      refine bd _ _ rfl ?_
      clear ba bd cR
      repeat (refine Xu ?_)
      refine Va (X2 @aM.eq_1 @aL.eq_1) ?_
      refine aG (fun z:Nat × df=>(⟨aw [(2,.ptr 0 0 0),(3,.ptr 1 0 0),(6,.lit (.int .i64 P.length)),(7,.ref 2 2 0 P.length),(9,.lit (.int .i64 i)),(10,.ptr 3 0 0),(12,.lit (.int .i64 z.1))],[.var (au m),.var (aM P),.arr 2 (rowsOf bP z.2),.var (aL ⟨c,kids,cX,b5,cells⟩)]⟩:St))
        (fun z=>z.1≤kids.length∧mV P.length i kids u z.1=some z.2) (fun z=>kids.length - z.1) (0,u) ⟨aH _,rfl⟩ (Xv (X2 @aM.eq_1 @aL.eq_1)) ?_
      rintro ⟨o,v⟩ ⟨ho,hv⟩ cR ba bd
      dsimp only at ho hv ⊢
      have hvi:=jv o v ho hv
      have pM:=hvi.len
      by_cases cp:o<kids.length
      · have qy:=YW hv cp
        have vj:=YX hv
        unfold dP at qy vj
        generalize jN:kids.getD o 0=k at *
        generalize GL:v.getD k.toNat default=vk at *
        obtain ⟨va,vb⟩:=vk
        dsimp only at qy vj
        by_cases aC:kI P.length i k=true∧va<0
        · have vj:=vj aC
          unfold kI at aC
          rw[decide_eq_true_eq] at aC
          ((repeat' (first|refine Va (X5 @aM.eq_1 @aL.eq_1 @jN @pM (X3 @GL @bP.eq_1 @Lt)) ?_|(refine V2 (X5 @aM.eq_1 @aL.eq_1 @jN @pM (X3 @GL @bP.eq_1 @Lt)) ?_ ?_<;>try with_reducible intro hb)|(refine Xi ?_ ?_<;>try intro ht)|exact Xx|fail)))
          exact ba _ (o+1,v.set k.toNat ((i:Int),(o:Int))) ⟨by dsimp only;omega,vj⟩ (by dsimp only;omega) (Xv (X2 @aM.eq_1 @aL.eq_1))
        · have hr:=mT (qy aC)
          unfold kI at aC
          rw[decide_eq_true_eq] at aC
          subst hr
          ((repeat' (first|refine Va (X5 @aM.eq_1 @aL.eq_1 @jN @pM (X2 @GL @bP.eq_1)) ?_|(refine V2 (X5 @aM.eq_1 @aL.eq_1 @jN @pM (X2 @GL @bP.eq_1)) ?_ ?_<;>try with_reducible intro hb)|(refine Xi ?_ ?_<;>try intro ht)|exact Xx|fail)))
          all_goals
            repeat (refine Xu ?_)
            ((repeat' (first|refine Vb X0 ?_|fail)))
            exact dR [] true (by decide) trivial (by decide) (by decide) (aO.qL aO.nil (.pure rfl))
      · obtain rfl:o=kids.length:=by omega
        rw[hv] at bE
        ((repeat' (first|refine Va (X2 @aM.eq_1 @aL.eq_1) ?_|(refine V2 (X2 @aM.eq_1 @aL.eq_1) ?_ ?_<;>try with_reducible intro hb)|(refine Xi ?_ ?_<;>try intro ht)|exact Xx|fail)))
        refine bd _ _ rfl ?_
        clear ba bd cR
        refine Va X0 ?_
        all_goals exact ak _ (i+1,v) ⟨by dsimp only;omega,bE⟩ (by dsimp only;omega) (Xs false [0,1,2] @aM.eq_1)
theorem aho (m:ae) (P:List Nd) (up:df) (node:Nat) (hm:MB m) (hv:VM m) (hP:PB P) (hf:mj m P=some up) (bC:node<P.length) :
    ao Tryz.prog 95 [.agg (au m),.agg (aM P),.tree 2 (rowsOf bP up),.lit (.int .i64 node)] [] (.tree 1 (rowsOf aK (td m P up node))) []:=by
  have yK:=hP.Ay
  have ve:=Bo hf
  have b9:=(sK ve).2
  have nX:=hv.cls
  have h1:=afQ m hm hv
  have jS:=xD _ _ (Nat.le_refl _) (DP hf).2
  have iQ:=jS.len
  have dx:=Aw hv
  have gB:=dx.1
  have ahz:td m P up node=od P (ki up node) (cQ m):=rfl
  generalize aj:td m P up node=res at *
  generalize fJ:cQ m=Y0 at *
  have bX:(jQ 3 Y0).length=Y0.length:=F9 3 Y0
  refine ao.aD (fn:=Tryz.f95) 60 0 [.tmp 8] Tryz.func95 rfl rfl rfl rfl rfl (by simp) ?_
  ((refine Va @aM.eq_1 ?_)<;>try with_reducible intro K hK)
  refine ig [] h1 (by decide) trivial ⟨.pure rfl,trivial⟩ ?_
  have ha:bD (a9 2 []) (.arr 1 (jQ 1 Y0))=.arr 1 (jQ 3 Y0):=by
    rw[bD,aeW (a9 2 []) Y0 3 1 fun j hj=>by unfold a9;rw[if_neg (by simp)];simp;omega]
  have xl:(oZ Y0).map (bD (a9 2 []))=oZ Y0:=aeX _ _
  have hc:aX (a9 2 []) (.ref 0 1 0 Y0.length)=.ref 2 1 0 Y0.length:=rfl
  have hd:∀ (l n:List Ob),dQ l [] n=l++n:=fun l n=>by cases n<;>simp[dQ]
  show opsL _ _ _ _ (St.put ⟨_,dQ [_,_] [] (List.map (bD (a9 2 [])) _)⟩ _ (aX (a9 2 []) _))
  rw[List.map_cons,ha,xl,hc,hd]
  simp (disch:=omega) only[Ac,↓Pc,simprocAttr]
  refine hK _ ?_
  clear hK K
  refine dO (σ':=⟨aw [(2,.tree 2 (rowsOf bP up)),(3,.lit (.int .i64 node)),(5,.ptr 1 0 0),(9,.ref 2 1 0 Y0.length)],nP (.var (au m)) (.var (aM P)) (jQ 3 Y0) Y0⟩) (by unfold nP;exact Xv @aM.eq_1) ?_
  refine Va X0 ?_
  refine aG (fun z:Nat × List (List Bool)=>(⟨aw [(2,.tree 2 (rowsOf bP up)),(5,.ptr 1 0 0),(9,.ref 2 1 0 Y0.length),(10,.lit (.int .i64 z.1))],nP (.var (au m)) (.var (aM P)) (jQ 3 Y0) z.2⟩:St))
    (fun z=>z.1<P.length∧z.2.map tu=Y0.map tu∧od P (ki up z.1) z.2=res) (fun z=>z.1) (node,Y0) ⟨bC,rfl,ahz.symm⟩ (Xv X0) ?_
  rintro ⟨k,Y⟩ ⟨hk,hY,pS⟩ Ql ak aq
  dsimp only at hk hY pS ⊢
  have Lu:=congrArg tu hY
  rw[eD,eD] at Lu
  have hfY:=Cp dx hY
  rw[Bp jS hk] at pS
  have Br:=jS.low k hk
  unfold dP at pS Br
  generalize vR:up.getD k default=uk at *
  rcases Br with h1 | ⟨p,q,h1,h2,h3,_⟩
  · subst h1
    rw[if_neg (by decide)] at pS
    have hY2:Y=res:=pS
    subst hY2
    ((repeat' (first|refine Va (X5 @vR @bP.eq_1 @iQ @GM (X2 @GN @DQ)) ?_|(refine Xi ?_ ?_<;>try intro ht)|exact Xx|fail)))
    refine aq _ _ rfl ?_;clear ak aq Ql
    repeat (refine Xu ?_)
    refine Vb X0 ?_
    refine JJ [] true trivial ?_
    rw[← Lu]
    exact .snap _ _ rfl (ae0 (DQ _ _ _ _) (jk (by decide)) (by rw[bX];exact Lu.symm) fun a ha=>⟨3+a,by rw[aeV 3 hY.symm];exact Dm 3 Y a ha,YY _ _ _ ha,jk (by simp)⟩)
  · subst h1
    rw[if_pos (by dsimp only;omega)] at pS
    dsimp only at pS
    rw[dg] at pS
    have nU:=GO ve (show p<P.length by omega) h3
    have pS:od P (ki up p) (bq Y (nd P p).cls.toNat q)=res:=pS
    unfold nd at pS nU
    generalize pN:P.getD p default=y at *
    obtain ⟨c,y1,y2,y3,y4⟩:=y
    dsimp only at pS nU
    obtain ⟨c,rfl⟩ :∃cn:Nat,c=cn:=⟨c.toNat,by omega⟩
    rw[dg] at pS
    have Lv:=hfY.2 c (by omega)
    have ahC:=dx.2 c (by omega)
    have sW:=hv.opt _ (az (l:=m.cls) (i:=c) (d:=default) (by omega))
    have jx:=Dm 3 Y0 c (by omega)
    rw[ahC] at jx
    generalize aJ:(m.cls.getD c default).length=w at *
    ((repeat' (first|refine Va (X5 @aM.eq_1 @vR @bP.eq_1 @iQ (X5 @pN @aL.eq_1 @GM @GN @DQ)) ?_|(refine Xi ?_ ?_<;>try intro ht)|exact Xx|fail)))
    refine aG (fun z:Nat × List Bool=>(⟨aw [(2,.tree 2 (rowsOf bP up)),(5,.ptr 1 0 0),(9,.ref 2 1 0 Y0.length),(10,.lit (.int .i64 k)),(11,.lit (.int .i64 c)),(12,.lit (.int .i64 z.1))],nP (.var (au m)) (.var (aM P)) (jQ 3 Y0) (Y.set c z.2)⟩:St))
      (fun z=>z.1≤w∧z.2.length=w∧∀ b,b<z.1→z.2.getD b false=(b == q)) (fun z=>w - z.1) (0,Y.getD c default) ⟨aH _,Lv,fun a ha=>absurd ha (Nat.not_lt_zero _)⟩ (by rw[JA];exact Xv @aM.eq_1) ?_
    rintro ⟨o,r⟩ ⟨ho,hr,mC⟩ cR ba bd
    dsimp only at ho hr mC ⊢
    have hYs:(Y.set c r).length=Y.length:=bF ..
    have f2:=YY (.var (au m)) (.var (aM P)) (jQ 3 Y0) (Y:=Y.set c r) (i:=c) (by omega)
    rw[yJ _ _ _ (by omega)] at f2
    have f3:=fun r2=>nPs (.var (au m)) (.var (aM P)) (jQ 3 Y0) (Y.set c r) c r2
    simp only[List.set_set] at f3
    unfold aM au at f2 f3
    by_cases cp:o<w
    · ((repeat' (first|refine Va (X5 @aM.eq_1 @vR @bP.eq_1 @iQ (X5 @GM @GN @DQ @jx (X4 @f2 @f3 @tD @hr))) ?_|(refine Xi ?_ ?_<;>try intro ht)|exact Xx|fail)))
      have ahE:((o:Int) == (q:Int))=(o == q):=by rw[Bool.eq_iff_iff,beq_iff_eq,beq_iff_eq];omega
      rw[ahE]
      refine ba _ (o+1,r.set o (o == q)) ⟨by dsimp only;omega,by dsimp only;rw[bF];exact hr,ahF hr mC cp⟩ (by dsimp only;omega) (Xv @aM.eq_1)
    · obtain rfl:o=w:=by omega
      ((repeat' (first|refine Va (X5 @aM.eq_1 @vR @bP.eq_1 @iQ (X5 @GM @GN @DQ @jx @f2)) ?_|(refine Xi ?_ ?_<;>try intro ht)|exact Xx|fail)))
      refine bd _ _ rfl ?_
      clear ba bd cR
      repeat (refine Xu ?_)
      have hre:=ahH hr mC
      refine Va (X4 @aM.eq_1 @vR @bP.eq_1 @iQ) ?_
      refine ak _ (p,Y.set c r) ⟨by dsimp only;omega,?_,?_⟩ (by dsimp only;omega) (Xv @aM.eq_1)
      · dsimp only
        rw[ahI (by rw[hr,Lv])];exact hY
      · dsimp only
        rw[hre,← pS]
        unfold bq
        rw[Lv]
end T

