import Derived.Test.YtkmfgcbdnijgeaaGreatX42
import Derived.Test.YtkmfgcbdnijgeaaGreatX36
set_option linter.unusedVariables false
set_option linter.unusedSimpArgs false
set_option linter.unnecessarySimpa false
set_option linter.unusedSectionVars false
set_option maxHeartbeats 64000000
set_option maxRecDepth 20000
open Go Go.Am Go.Proofs
open Nat (reduceEqDiff reduceAdd reduceLeDiff reduceMul)
open Int (reduceNeg reduceLE reduceToNat)
namespace T
theorem upE_set (up:UpL) (i:Nat) (a b:Int):(rowsOf eCh up).set i [.lit (.int .i64 a),.lit (.int .i64 b)]=rowsOf eCh (up.set i (a,b)):=by simp[rowsOf,eCh,List.map_set]
theorem upE_rep (n:Nat) (a b:Int):List.replicate n [AV.lit (.int .i64 a),.lit (.int .i64 b)]=rowsOf eCh (List.replicate n (a,b)):=by simp[rowsOf,eCh]
def upI (n i:Nat):UpL:=List.replicate i (-1,0)++List.replicate (n - i) (0,0)
theorem upI_len {n i:Nat} (h:i≤n):(upI n i).length=n:=by simp[upI];omega
theorem upI_get {n i:Nat} (h:i<n):(upI n i).getD i default=(0,0):=by
  unfold upI
  rw[List.getD_eq_getElem?_getD,List.getElem?_append_right (by simp),List.length_replicate,Nat.sub_self,List.getElem?_replicate_of_lt (by omega)];rfl
theorem upI_set {n i:Nat} (h:i<n):(upI n i).set i (-1,0)=upI n (i+1):=by
  unfold upI
  rw[List.set_append_right _ _ (by simp),List.length_replicate,Nat.sub_self,show n - i=(n - (i+1))+1 by omega,List.replicate_succ,List.set_cons_zero,List.replicate_succ' (n:=i),List.append_assoc];rfl
theorem formed_ok (m:Mdl) (P:List Nd) (hm:VM m) (hP:PB P):Holds Tryz.prog 76 [.agg (eMdl m),.agg (ePf P)] [] (.tup [.tree 2 (rowsOf eCh ((formedV m P).getD [])),.lit (.bool (formedV m P).isSome)]) []:=by
  have hp0:=hP.nds
  have hc24:=hm.cls
  generalize hres:formedV m P=res
  refine Holds.of_body' (fn:=Tryz.f76) 187 0 [.tmp 4,.tmp 5] Tryz.func76 rfl rfl rfl rfl rfl (by simp) ?_
  by_cases hsz:1≤P.length∧P.length≤20000
  rotate_left
  · have hr:res=none:=by rw[← hres];unfold formedV;rw[if_neg hsz]
    subst hr
    ((repeat' (first|refine Vb @ePf.eq_1 ?_|(refine V2 @ePf.eq_1 ?_ ?_<;>try with_reducible intro hb)|(refine Xi ?_ ?_<;>try intro ht)|exact Xx|fail)))
    all_goals exact RetOK_sel [] true (by decide) trivial (by decide) (by decide) (ArgR.tup2 ArgR.nil (.pure rfl))
  obtain ⟨hs1,hs2⟩:=hsz
  have hI0:rowsOf eCh (upI P.length 0)=List.replicate P.length [AV.lit (.int .i64 0),.lit (.int .i64 0)]:=by rw[upE_rep];rfl
  ((repeat' (first|refine Va @ePf.eq_1 ?_|(refine V2 @ePf.eq_1 ?_ ?_<;>try with_reducible intro hb)|(refine Xi ?_ ?_<;>try intro ht)|exact Xx|fail)))
  refine W_loopS (fun i:Nat=>(⟨slots [(2,.ptr 0 0 0),(3,.ptr 1 0 0),(6,.lit (.int .i64 P.length)),(7,.ref 2 2 0 P.length),(8,.lit (.int .i64 i))],[.var (eMdl m),.var (ePf P),.arr 2 (rowsOf eCh (upI P.length i))]⟩:St))
    (fun i=>i≤P.length) (fun i=>P.length - i) 0 (Nat.zero_le _) (by show Turns _ _ ⟨_,[_,_,.arr 2 (rowsOf eCh (upI P.length 0))]⟩;rw[hI0];exact Xv @ePf.eq_1) ?_
  · rintro i hi Ql hnl hel
    by_cases hi':i<P.length
    · have hul:=upI_len (Nat.le_of_lt hi')
      have hug:=upI_get hi'
      ((repeat' (first|refine Va (X5 @hul @hug @eCh.eq_1 @upE_set (upI_set hi')) ?_|(refine Xi ?_ ?_<;>try intro ht)|exact Xx|fail)))
      exact hnl _ (i+1) (by omega) (by omega) (Xv @ePf.eq_1)
    · obtain rfl:i=P.length:=by omega
      have hu0:upI P.length P.length=up0 P.length:=by simp[upI,up0]
      rw[hu0]
      ((repeat' (first|refine Va X0 ?_|(refine Xi ?_ ?_<;>try intro ht)|exact Xx|fail)))
      refine hel _ _ rfl ?_;clear hnl hel Ql
      repeat (refine Xu ?_)
      refine Va X0 ?_
      refine W_loopS (fun z:Nat × UpL=>(⟨slots [(2,.ptr 0 0 0),(3,.ptr 1 0 0),(6,.lit (.int .i64 P.length)),(7,.ref 2 2 0 P.length),(9,.lit (.int .i64 z.1))],[.var (eMdl m),.var (ePf P),.arr 2 (rowsOf eCh z.2)]⟩:St))
        (fun z=>z.1≤P.length∧forU m P z.1=some z.2) (fun z=>P.length - z.1) (0,up0 P.length) ⟨Nat.zero_le _,rfl⟩ (Xv @ePf.eq_1) ?_
      rintro ⟨i,u⟩ ⟨hi,hfu⟩ Ql hnl hel
      dsimp only at hi hfu ⊢
      have hui:=forU_UI i u hi hfu
      have hul:=hui.len
      by_cases hi':i<P.length
      rotate_left
      · obtain rfl:i=P.length:=by omega
        have hr:res=some u:=by rw[← hres];unfold formedV;rw[if_pos ⟨hs1,hs2⟩];exact hfu
        ((repeat' (first|refine Va X0 ?_|(refine Xi ?_ ?_<;>try intro ht)|exact Xx|fail)))
        refine hel _ _ rfl ?_;clear hnl hel Ql
        repeat (refine Xu ?_)
        subst hr
        refine Vb X0 ?_
        refine RetOK_se [] true trivial (ArgR.tup2 ?_ (.pure rfl))
        exact .fz rfl (by rw[rows_length];exact hul.symm)
      have hcut:nodeU m P i u=none→res=none:=fun h=>by rw[← hres];exact formed_cut hi' hfu h
      have hgo:forU m P (i+1)=nodeU m P i u:=by show (forU m P i).bind _=_;rw[hfu];rfl
      have hmem:=getD_mem (l:=P) (i:=i) (d:=default) hi'
      have b1:=hP.kids _ hmem
      have b2:=hP.mvs _ hmem
      have b3:=hP.grp _ hmem
      have b4:=hP.cells _ hmem
      by_cases hpar:0<i∧(upG u i).1<0
      · have hr:=hcut (by unfold nodeU;rw[if_pos hpar])
        unfold upG at hpar
        generalize hua:u.getD i default=ua at *
        obtain ⟨ua,ub⟩:=ua
        dsimp only at hpar
        ((repeat' (first|refine Va (X5 @ePf.eq_1 @hul @hua @eCh.eq_1 @eNd.eq_1) ?_|(refine V2 (X5 @ePf.eq_1 @hul @hua @eCh.eq_1 @eNd.eq_1) ?_ ?_<;>try with_reducible intro hb)|(refine Xi ?_ ?_<;>try intro ht)|exact Xx|fail)))
        all_goals
          repeat (refine Xu ?_)
          subst hr
          refine Vb X0 ?_
          exact RetOK_sel [] true (by decide) trivial (by decide) (by decide) (ArgR.tup2 ArgR.nil (.pure rfl))
      by_cases hndb:ndB m (nd P i)=true
      rotate_left
      · have hr:=hcut (by unfold nodeU;rw[if_neg hpar,if_pos (Bool.eq_false_iff.2 hndb)])
        unfold nd at hndb
        unfold upG at hpar
        generalize hua:u.getD i default=ua at *
        obtain ⟨ua,ub⟩:=ua
        generalize hxx:P.getD i default=x at *
        obtain ⟨c,kids,mvs,grp,cells⟩:=x
        dsimp only at b1 b2 b3 b4 hpar
        generalize hww:m.cls.getD c.toNat default=wl at *
        have hwl:0≤c∧c<m.cls.length→wl.length≤24:=fun h=>by rw[← hww];exact hm.opt _ (getD_mem (by omega))
        unfold ndB at hndb
        dsimp only at hndb
        rw[hww] at hndb
        subst hr
        by_cases hcn:c = -1
        · rw[if_pos hcn,decide_eq_true_eq] at hndb
          ((repeat' (first|refine Va (X5 @ePf.eq_1 @hul @hua @eCh.eq_1 (X2 @hxx @eNd.eq_1)) ?_|(refine V2 (X5 @ePf.eq_1 @hul @hua @eCh.eq_1 (X2 @hxx @eNd.eq_1)) ?_ ?_<;>try with_reducible intro hb)|(refine Xi ?_ ?_<;>try intro ht)|exact Xx|fail)))
          all_goals
            repeat (refine Xu ?_)
            ((repeat' (first|refine Vb X0 ?_|fail)))
            exact RetOK_sel [] true (by decide) trivial (by decide) (by decide) (ArgR.tup2 ArgR.nil (.pure rfl))
        · rw[if_neg hcn,decide_eq_true_eq] at hndb
          by_cases hok:0≤c∧c<m.cls.length
          · have hwl:=hwl hok
            ((repeat' (first|refine Va (X5 @ePf.eq_1 @hul @hua @eCh.eq_1 (X4 @hxx @eNd.eq_1 @hww @eCls.eq_1)) ?_|(refine V2 (X5 @ePf.eq_1 @hul @hua @eCh.eq_1 (X4 @hxx @eNd.eq_1 @hww @eCls.eq_1)) ?_ ?_<;>try with_reducible intro hb)|(refine Xi ?_ ?_<;>try intro ht)|exact Xx|fail)))
            all_goals
              repeat (refine Xu ?_)
              ((repeat' (first|refine Vb X0 ?_|fail)))
              exact RetOK_sel [] true (by decide) trivial (by decide) (by decide) (ArgR.tup2 ArgR.nil (.pure rfl))
          · ((repeat' (first|refine Va (X5 @ePf.eq_1 @hul @hua @eCh.eq_1 (X2 @hxx @eNd.eq_1)) ?_|(refine V2 (X5 @ePf.eq_1 @hul @hua @eCh.eq_1 (X2 @hxx @eNd.eq_1)) ?_ ?_<;>try with_reducible intro hb)|(refine Xi ?_ ?_<;>try intro ht)|exact Xx|fail)))
            all_goals
              repeat (refine Xu ?_)
              ((repeat' (first|refine Vb X0 ?_|fail)))
              exact RetOK_sel [] true (by decide) trivial (by decide) (by decide) (ArgR.tup2 ArgR.nil (.pure rfl))
      have hnu:nodeU m P i u=if (nd P i).cls = -1 then some u else if hitB P (nd P i).cls (anc u i)=true then none else kidN P.length i (nd P i).kids u (nd P i).kids.length:=by
        unfold nodeU;rw[if_neg hpar,if_neg (by rw[hndb];simp)]
      have hkd:=fun o v=>UI.kids hi' hui o v
      rw[hnu] at hcut hgo
      clear hnu
      unfold nd at hndb hcut hgo hkd
      unfold upG at hpar
      generalize hua:u.getD i default=ua at *
      obtain ⟨ua,ub⟩:=ua
      generalize hxx:P.getD i default=x at *
      obtain ⟨c,kids,mvs,grp,cells⟩:=x
      have hk24:=ndB_kids hm hndb
      dsimp only at b1 b2 b3 b4 hpar hk24 hcut hgo hkd
      generalize hww:m.cls.getD c.toNat default=wl at *
      unfold ndB at hndb
      dsimp only at hndb
      rw[hww] at hndb
      by_cases hcn:c = -1
      · rw[if_pos hcn,decide_eq_true_eq] at hndb
        rw[if_pos hcn] at hgo
        ((repeat' (first|refine Va (X5 @ePf.eq_1 @hul @hua @eCh.eq_1 (X2 @hxx @eNd.eq_1)) ?_|(refine V2 (X5 @ePf.eq_1 @hul @hua @eCh.eq_1 (X2 @hxx @eNd.eq_1)) ?_ ?_<;>try with_reducible intro hb)|(refine Xi ?_ ?_<;>try intro ht)|exact Xx|fail)))
        all_goals exact hnl _ (i+1,u) ⟨by dsimp only;omega,hgo⟩ (by dsimp only;omega) (Xs false [0,1,2] @ePf.eq_1)
      rw[if_neg hcn,decide_eq_true_eq] at hndb
      rw[if_neg hcn] at hgo hcut
      have hwl:wl.length≤24:=by rw[← hww];exact hm.opt _ (getD_mem (by omega))
      repeat' (first|((fail_if_success (first|refine W_at 13 ?_|refine W_atE 13 ?_));refine Xr (X5 @ePf.eq_1 @hul @hua @eCh.eq_1 (X4 @hxx @eNd.eq_1 @hww @eCls.eq_1)) ?_;intro K hK)|(refine hK _ ?_;clear hK K)|(refine Xi ?_ ?_<;>try intro ht)|refine Xy ?_|refine Xd ?_ ?_|exact Xx|fail)
      (refine unSq1 ?_);intro Q0 hn0 he0
      refine join_here ⟨slots [(2,.ptr 0 0 0),(3,.ptr 1 0 0),(6,.lit (.int .i64 P.length)),(7,.ref 2 2 0 P.length),(9,.lit (.int .i64 i)),(10,.ptr 3 0 0)],[.var (eMdl m),.var (ePf P),.arr 2 (rowsOf eCh u),.var (eNd ⟨c,kids,mvs,grp,cells⟩)]⟩ hn0 ?_ (fun key=>?_)
      rotate_left
      · (try clear hn0)
        ((repeat' (first|refine Va (X4 @ePf.eq_1 @hul @hua @eCh.eq_1) ?_|(refine V2 (X4 @ePf.eq_1 @hul @hua @eCh.eq_1) ?_ ?_<;>try with_reducible intro hb)|(refine Xi ?_ ?_<;>try intro ht)|exact Xx|fail)))
        all_goals
          refine key _ ?_
          exact Xv (X2 @ePf.eq_1 @eNd.eq_1)
      (try clear hn0)
      try (try clear Q0)
      ((repeat' (first|refine Va (X5 @ePf.eq_1 @hul @eNd.eq_1 @hww @eCls.eq_1) ?_|(refine V2 (X5 @ePf.eq_1 @hul @eNd.eq_1 @hww @eCls.eq_1) ?_ ?_<;>try with_reducible intro hb)|(refine Xi ?_ ?_<;>try intro ht)|exact Xx|fail)))
      refine W_loopS (fun k:Nat=>(⟨slots [(2,.ptr 0 0 0),(3,.ptr 1 0 0),(6,.lit (.int .i64 P.length)),(7,.ref 2 2 0 P.length),(9,.lit (.int .i64 i)),(10,.ptr 3 0 0),(11,.lit (.int .i64 k))],[.var (eMdl m),.var (ePf P),.arr 2 (rowsOf eCh u),.var (eNd ⟨c,kids,mvs,grp,cells⟩)]⟩:St))
        (fun k=>k<P.length∧hitB P c (anc u i)=hitB P c (anc u k)) (fun k=>k) i ⟨hi',rfl⟩ (Xv (X2 @ePf.eq_1 @eNd.eq_1)) ?_
      rintro k ⟨hk,hka⟩ Ql2 hnl2 hel2
      rw[anc_step hui hk] at hka
      have hlt:=hui.lt hk
      unfold upG at hka hlt
      generalize huk:u.getD k default=uk at *
      obtain ⟨p,q⟩:=uk
      dsimp only at hka hlt
      by_cases h0:0≤p
      · have hlt:=hlt h0
        rw[if_pos h0] at hka
        obtain ⟨p,rfl⟩ :∃pn:Nat,p=pn:=⟨p.toNat,by omega⟩
        rw[Int.toNat_natCast] at hlt
        have hka:hitB P c (anc u i)=((nd P (p:Int).toNat).cls == c || hitB P c (anc u (p:Int).toNat)):=hka
        rw[Int.toNat_natCast] at hka
        unfold nd at hka
        by_cases hpc:(P.getD p default).cls=c
        · have hr:=hcut (by rw[hka,hpc];simp)
          subst hr
          generalize hyy:P.getD p default=y at *
          obtain ⟨yc,y1,y2,y3,y4⟩:=y
          dsimp only at hpc
          subst hpc
          ((repeat' (first|refine Va (X5 @ePf.eq_1 @hul @huk @eCh.eq_1 (X2 @eNd.eq_1 @hyy)) ?_|(refine Xi ?_ ?_<;>try intro ht)|exact Xx|fail)))
          all_goals
            repeat (refine Xu ?_)
            refine Vb X0 ?_
            exact RetOK_sel [] true (by decide) trivial (by decide) (by decide) (ArgR.tup2 ArgR.nil (.pure rfl))
        · have hkb:hitB P c (anc u i)=hitB P c (anc u p):=by rw[hka,beq_false_of_ne hpc,Bool.false_or]
          generalize hyy:P.getD p default=y at *
          obtain ⟨yc,y1,y2,y3,y4⟩:=y
          dsimp only at hpc
          ((repeat' (first|refine Va (X5 @ePf.eq_1 @hul @huk @eCh.eq_1 (X2 @eNd.eq_1 @hyy)) ?_|(refine Xi ?_ ?_<;>try intro ht)|exact Xx|fail)))
          exact hnl2 _ p ⟨by omega,hkb⟩ (by omega) (Xv (X2 @ePf.eq_1 @eNd.eq_1))
      rw[if_neg h0] at hka
      have hka:hitB P c (anc u i)=false:=hka
      rw[if_neg (by rw[hka];simp)] at hgo hcut
      ((repeat' (first|refine Va (X3 @hul @huk @eCh.eq_1) ?_|(refine Xi ?_ ?_<;>try intro ht)|exact Xx|fail)))
      refine hel2 _ _ rfl ?_
      clear hnl2 hel2 Ql2
      repeat (refine Xu ?_)
      refine Va (X2 @ePf.eq_1 @eNd.eq_1) ?_
      refine W_loopS (fun z:Nat × UpL=>(⟨slots [(2,.ptr 0 0 0),(3,.ptr 1 0 0),(6,.lit (.int .i64 P.length)),(7,.ref 2 2 0 P.length),(9,.lit (.int .i64 i)),(10,.ptr 3 0 0),(12,.lit (.int .i64 z.1))],[.var (eMdl m),.var (ePf P),.arr 2 (rowsOf eCh z.2),.var (eNd ⟨c,kids,mvs,grp,cells⟩)]⟩:St))
        (fun z=>z.1≤kids.length∧kidN P.length i kids u z.1=some z.2) (fun z=>kids.length - z.1) (0,u) ⟨Nat.zero_le _,rfl⟩ (Xv (X2 @ePf.eq_1 @eNd.eq_1)) ?_
      rintro ⟨o,v⟩ ⟨ho,hv⟩ Ql2 hnl2 hel2
      dsimp only at ho hv ⊢
      have hvi:=hkd o v ho hv
      have hvl:=hvi.len
      by_cases ho':o<kids.length
      · have hkc:=kid_cut hv ho'
        have hkg:=kid_go hv
        unfold upG at hkc hkg
        generalize hkk:kids.getD o 0=k at *
        generalize hvk:v.getD k.toNat default=vk at *
        obtain ⟨va,vb⟩:=vk
        dsimp only at hkc hkg
        by_cases hok:kidB P.length i k=true∧va<0
        · have hkg:=hkg hok
          unfold kidB at hok
          rw[decide_eq_true_eq] at hok
          ((repeat' (first|refine Va (X5 @ePf.eq_1 @eNd.eq_1 @hkk @hvl (X3 @hvk @eCh.eq_1 @upE_set)) ?_|(refine V2 (X5 @ePf.eq_1 @eNd.eq_1 @hkk @hvl (X3 @hvk @eCh.eq_1 @upE_set)) ?_ ?_<;>try with_reducible intro hb)|(refine Xi ?_ ?_<;>try intro ht)|exact Xx|fail)))
          exact hnl2 _ (o+1,v.set k.toNat ((i:Int),(o:Int))) ⟨by dsimp only;omega,hkg⟩ (by dsimp only;omega) (Xv (X2 @ePf.eq_1 @eNd.eq_1))
        · have hr:=hcut (hkc hok)
          unfold kidB at hok
          rw[decide_eq_true_eq] at hok
          subst hr
          ((repeat' (first|refine Va (X5 @ePf.eq_1 @eNd.eq_1 @hkk @hvl (X2 @hvk @eCh.eq_1)) ?_|(refine V2 (X5 @ePf.eq_1 @eNd.eq_1 @hkk @hvl (X2 @hvk @eCh.eq_1)) ?_ ?_<;>try with_reducible intro hb)|(refine Xi ?_ ?_<;>try intro ht)|exact Xx|fail)))
          all_goals
            repeat (refine Xu ?_)
            ((repeat' (first|refine Vb X0 ?_|fail)))
            exact RetOK_sel [] true (by decide) trivial (by decide) (by decide) (ArgR.tup2 ArgR.nil (.pure rfl))
      · obtain rfl:o=kids.length:=by omega
        rw[hv] at hgo
        ((repeat' (first|refine Va (X2 @ePf.eq_1 @eNd.eq_1) ?_|(refine V2 (X2 @ePf.eq_1 @eNd.eq_1) ?_ ?_<;>try with_reducible intro hb)|(refine Xi ?_ ?_<;>try intro ht)|exact Xx|fail)))
        refine hel2 _ _ rfl ?_
        clear hnl2 hel2 Ql2
        refine Va X0 ?_
        all_goals exact hnl _ (i+1,v) ⟨by dsimp only;omega,hgo⟩ (by dsimp only;omega) (Xs false [0,1,2] @ePf.eq_1)
end T

