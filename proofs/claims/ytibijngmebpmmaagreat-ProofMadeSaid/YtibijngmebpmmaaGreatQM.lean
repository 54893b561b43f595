import Derived.Test.YtibijngmebpmmaaGreatQP
import Derived.Test.YtibijngmebpmmaaGreatP1
import Derived.Test.YtibijngmebpmmaaGreatQO
import Derived.Test.YtibijngmebpmmaaGreatM15
import Derived.Test.YtibijngmebpmmaaGreatPD
set_option linter.unusedVariables false
set_option linter.unusedSimpArgs false
set_option linter.unnecessarySimpa false
open Go Go.Am Go.Proofs
open Nat (reduceEqDiff reduceAdd reduceLeDiff reduceMul)
open Int (reduceNeg reduceLE reduceToNat)
set_option maxRecDepth 20000
namespace T
theorem upE_set (up:UpL) (i:Nat) (a b:Int):(rowsOf eCh up).set i [.lit (.int .i64 a),.lit (.int .i64 b)]=rowsOf eCh (up.set i (a,b)):=by simp[rowsOf,eCh,List.map_set]
theorem upE_rep (n:Nat) (a b:Int):List.replicate n [AV.lit (.int .i64 a),.lit (.int .i64 b)]=rowsOf eCh (List.replicate n (a,b)):=by simp[rowsOf,eCh]
def upI (n i:Nat):UpL:=List.replicate i (-1,0)++List.replicate (n - i) (0,0)
theorem upI_len {n i:Nat} (h:i≤n):(upI n i).length=n:=by simp[upI];omega
theorem upI_get {n i:Nat} (h:i<n):(upI n i).getD i default=(0,0):=by
  unfold upI
  rw[List.getD_eq_getElem?_getD,List.getElem?_append_right (by simp),List.length_replicate,Nat.sub_self,List.getElem?_replicate_of_lt (by omega)];rfl
theorem upI_set {n i:Nat} (h:i<n):(upI n i).set i (-1,0)=upI n (i+1):=by
  unfold upI
  rw[List.set_append_right _ _ (by simp),List.length_replicate,Nat.sub_self,show n - i=(n - (i+1))+1 by omega,List.replicate_succ,List.set_cons_zero,List.replicate_succ' (n:=i),List.append_assoc];rfl
set_option maxHeartbeats 16000000 in
theorem formed_ok (m:Mdl) (P:List Nd) (hm:VM m) (hP:PB P):Holds Tryz.prog 29 [.agg (eMdl m),.agg (ePf P)] [] (.tup [.tree 2 (rowsOf eCh ((formedV m P).getD [])),.lit (.bool (formedV m P).isSome)]) []:=by
  have hp0:=hP.nds
  have hc24:=hm.cls
  generalize hres:formedV m P=res
  refine Holds.of_body' (fn:=Tryz.f29) 187 0 [.tmp 4,.tmp 5] Tryz.func29 rfl rfl rfl rfl rfl (by simp) ?_
  by_cases hsz:1≤P.length∧P.length≤20000
  rotate_left
  · have hr:res=none:=by rw[← hres];unfold formedV;rw[if_neg hsz]
    subst hr
    repeat' (first|(refine Xr @ePf.eq_1 ?_;intro K hK)|refine Xo @ePf.eq_1 ?_|(refine hK _ ?_;clear hK K)|(refine Xg @ePf.eq_1 ?_ ?_<;>try intro hb)|(refine Xi ?_ ?_<;>try intro ht)|refine Xz ?_|refine Xh ?_|refine Xe ?_|refine Xd ?_ ?_|omega|with_reducible rfl|exact trivial)
    all_goals try (exfalso;omega)
    all_goals exact RetOK_sel [] true (by decide) trivial (by decide) (by decide) (ArgR.tup2 ArgR.nil (.pure rfl))
  obtain ⟨hs1,hs2⟩:=hsz
  have hI0:rowsOf eCh (upI P.length 0)=List.replicate P.length [AV.lit (.int .i64 0),.lit (.int .i64 0)]:=by rw[upE_rep];rfl
  repeat' (first|(refine Xr @ePf.eq_1 ?_;intro K hK)|refine Xo @ePf.eq_1 ?_|(refine hK _ ?_;clear hK K)|(refine Xg @ePf.eq_1 ?_ ?_<;>try intro hb)|(refine Xi ?_ ?_<;>try intro ht)|refine Xz ?_|refine Xe ?_|refine Xd ?_ ?_|omega|with_reducible rfl|exact trivial)
  all_goals try (exfalso;omega)
  refine W_loopS (fun i:Nat=>(⟨slots [(2,.ptr 0 0 0),(3,.ptr 1 0 0),(6,.lit (.int .i64 P.length)),(7,.ref 2 2 0 P.length),(8,.lit (.int .i64 i))],[.var (eMdl m),.var (ePf P),.arr 2 (rowsOf eCh (upI P.length i))]⟩:St))
    (fun i=>i≤P.length) (fun i=>P.length - i) 0 (Nat.zero_le _) (by show Turns _ _ ⟨_,[_,_,.arr 2 (rowsOf eCh (upI P.length 0))]⟩;rw[hI0];exact Xv @ePf.eq_1) ?_
  · rintro i hi Ql hnl hel
    by_cases hi':i<P.length
    · have hul:=upI_len (Nat.le_of_lt hi')
      have hug:=upI_get hi'
      repeat' (first|(refine Xr (X5 @hul @hug @eCh.eq_1 @upE_set (upI_set hi')) ?_;intro K hK)|refine Xo (X5 @hul @hug @eCh.eq_1 @upE_set (upI_set hi')) ?_|(refine hK _ ?_;clear hK K)|(refine Xg (X5 @hul @hug @eCh.eq_1 @upE_set (upI_set hi')) ?_ ?_<;>try intro hb)|(refine Xi ?_ ?_<;>try intro ht)|refine Xz ?_|refine Xe ?_|refine Xd ?_ ?_|omega|with_reducible rfl|exact trivial)
      all_goals try (exfalso;omega)
      exact hnl _ (i+1) (by omega) (by omega) (Xv @ePf.eq_1)
    · obtain rfl:i=P.length:=by omega
      have hu0:upI P.length P.length=up0 P.length:=by simp[upI,up0]
      rw[hu0]
      repeat' (first|(refine Xr X0 ?_;intro K hK)|refine Xo X0 ?_|(refine hK _ ?_;clear hK K)|(refine Xg X0 ?_ ?_<;>try intro hb)|(refine Xi ?_ ?_<;>try intro ht)|refine Xz ?_|refine Xe ?_|refine Xd ?_ ?_|omega|with_reducible rfl|exact trivial)
      refine hel _ _ rfl ?_;clear hnl hel Ql
      repeat (first|refine Xu ?_)
      repeat' (first|(refine Xr X0 ?_;intro K hK)|refine Xo X0 ?_|(refine hK _ ?_;clear hK K)|(refine Xg X0 ?_ ?_<;>try intro hb)|(refine Xi ?_ ?_<;>try intro ht)|refine Xz ?_|refine Xe ?_|refine Xd ?_ ?_|omega|with_reducible rfl|exact trivial)
      refine W_loopS (fun z:Nat × UpL=>(⟨slots [(2,.ptr 0 0 0),(3,.ptr 1 0 0),(6,.lit (.int .i64 P.length)),(7,.ref 2 2 0 P.length),(9,.lit (.int .i64 z.1))],[.var (eMdl m),.var (ePf P),.arr 2 (rowsOf eCh z.2)]⟩:St))
        (fun z=>z.1≤P.length∧forU m P z.1=some z.2) (fun z=>P.length - z.1) (0,up0 P.length) ⟨Nat.zero_le _,rfl⟩ (Xv @ePf.eq_1) ?_
      rintro ⟨i,u⟩ ⟨hi,hfu⟩ Ql hnl hel
      dsimp only at hi hfu ⊢
      have hui:=forU_UI i u hi hfu
      have hul:=hui.len
      by_cases hi':i<P.length
      rotate_left
      · obtain rfl:i=P.length:=by omega
        have hr:res=some u:=by rw[← hres];unfold formedV;rw[if_pos ⟨hs1,hs2⟩];exact hfu
        repeat' (first|(refine Xr X0 ?_;intro K hK)|refine Xo X0 ?_|(refine hK _ ?_;clear hK K)|(refine Xg X0 ?_ ?_<;>try intro hb)|(refine Xi ?_ ?_<;>try intro ht)|refine Xz ?_|refine Xe ?_|refine Xd ?_ ?_|omega|with_reducible rfl|exact trivial)
        refine hel _ _ rfl ?_;clear hnl hel Ql
        repeat (first|refine Xu ?_)
        subst hr
        repeat' (first|(refine Xr X0 ?_;intro K hK)|refine Xo X0 ?_|(refine hK _ ?_;clear hK K)|(refine Xg X0 ?_ ?_<;>try intro hb)|(refine Xi ?_ ?_<;>try intro ht)|refine Xz ?_|refine Xh ?_|refine Xe ?_|refine Xd ?_ ?_|omega|with_reducible rfl|exact trivial)
        refine RetOK_se [] true trivial (ArgR.tup2 ?_ (.pure rfl))
        exact .fz rfl (by rw[rows_length];exact hul.symm)
      have hcut:nodeU m P i u=none→res=none:=fun h=>by rw[← hres];exact formed_cut hi' hfu h
      have hgo:forU m P (i+1)=nodeU m P i u:=by show (forU m P i).bind _=_;rw[hfu];rfl
      have hmem:=getD_mem (l:=P) (i:=i) (d:=default) hi'
      have b1:=hP.kids _ hmem
      have b2:=hP.mvs _ hmem
      have b3:=hP.grp _ hmem
      have b4:=hP.cells _ hmem
      by_cases hpar:0<i∧(upG u i).1<0
      · have hr:=hcut (by unfold nodeU;rw[if_pos hpar])
        unfold upG at hpar
        generalize hua:u.getD i default=ua at *
        obtain ⟨ua,ub⟩:=ua
        dsimp only at hpar
        repeat' (first|(refine Xr (X5 @ePf.eq_1 @hul @hua @eCh.eq_1 @eNd.eq_1) ?_;intro K hK)|refine Xo (X5 @ePf.eq_1 @hul @hua @eCh.eq_1 @eNd.eq_1) ?_|(refine hK _ ?_;clear hK K)|(refine Xg (X5 @ePf.eq_1 @hul @hua @eCh.eq_1 @eNd.eq_1) ?_ ?_<;>try intro hb)|(refine Xi ?_ ?_<;>try intro ht)|refine Xz ?_|refine Xe ?_|refine Xd ?_ ?_|omega|with_reducible rfl|exact trivial)
        all_goals try (exfalso;omega)
        all_goals
          repeat (first|refine Xu ?_|(refine hel2 _ _ rfl ?_;clear hnl2 hel2;try clear Ql2)|(refine hel3 _ _ rfl ?_;clear hnl3 hel3;try clear Ql3)|(refine hel4 _ _ rfl ?_;clear hnl4 hel4;try clear Ql4))
          subst hr
          repeat' (first|(refine Xr X0 ?_;intro K hK)|refine Xo X0 ?_|(refine hK _ ?_;clear hK K)|(refine Xg X0 ?_ ?_<;>try intro hb)|(refine Xi ?_ ?_<;>try intro ht)|refine Xz ?_|refine Xh ?_|refine Xe ?_|refine Xd ?_ ?_|omega|with_reducible rfl|exact trivial)
          exact RetOK_sel [] true (by decide) trivial (by decide) (by decide) (ArgR.tup2 ArgR.nil (.pure rfl))
      by_cases hndb:ndB m (nd P i)=true
      rotate_left
      · have hr:=hcut (by unfold nodeU;rw[if_neg hpar,if_pos (Bool.eq_false_iff.2 hndb)])
        unfold nd at hndb
        unfold upG at hpar
        generalize hua:u.getD i default=ua at *
        obtain ⟨ua,ub⟩:=ua
        generalize hxx:P.getD i default=x at *
        obtain ⟨c,kids,mvs,grp,cells⟩:=x
        dsimp only at b1 b2 b3 b4 hpar
        generalize hww:m.cls.getD c.toNat default=wl at *
        have hwl:0≤c∧c<m.cls.length→wl.length≤24:=fun h=>by rw[← hww];exact hm.opt _ (getD_mem (by omega))
        unfold ndB at hndb
        dsimp only at hndb
        rw[hww] at hndb
        subst hr
        by_cases hcn:c = -1
        · rw[if_pos hcn,decide_eq_true_eq] at hndb
          repeat' (first|(refine Xr (X5 @ePf.eq_1 @hul @hua @eCh.eq_1 (X2 @hxx @eNd.eq_1)) ?_;intro K hK)|refine Xo (X5 @ePf.eq_1 @hul @hua @eCh.eq_1 (X2 @hxx @eNd.eq_1)) ?_|(refine hK _ ?_;clear hK K)|(refine Xg (X5 @ePf.eq_1 @hul @hua @eCh.eq_1 (X2 @hxx @eNd.eq_1)) ?_ ?_<;>try intro hb)|(refine Xi ?_ ?_<;>try intro ht)|refine Xz ?_|refine Xe ?_|refine Xd ?_ ?_|omega|with_reducible rfl|exact trivial)
          all_goals try (exfalso;omega)
          all_goals
            repeat (first|refine Xu ?_|(refine hel2 _ _ rfl ?_;clear hnl2 hel2;try clear Ql2)|(refine hel3 _ _ rfl ?_;clear hnl3 hel3;try clear Ql3)|(refine hel4 _ _ rfl ?_;clear hnl4 hel4;try clear Ql4))
            repeat' (first|(refine Xr X0 ?_;intro K hK)|refine Xo X0 ?_|(refine hK _ ?_;clear hK K)|(refine Xg X0 ?_ ?_<;>try intro hb)|(refine Xi ?_ ?_<;>try intro ht)|refine Xz ?_|refine Xh ?_|refine Xe ?_|refine Xd ?_ ?_|omega|with_reducible rfl|exact trivial)
            exact RetOK_sel [] true (by decide) trivial (by decide) (by decide) (ArgR.tup2 ArgR.nil (.pure rfl))
        · rw[if_neg hcn,decide_eq_true_eq] at hndb
          by_cases hok:0≤c∧c<m.cls.length
          · have hwl:=hwl hok
            repeat' (first|(refine Xr (X5 @ePf.eq_1 @hul @hua @eCh.eq_1 (X4 @hxx @eNd.eq_1 @hww @eCls.eq_1)) ?_;intro K hK)|refine Xo (X5 @ePf.eq_1 @hul @hua @eCh.eq_1 (X4 @hxx @eNd.eq_1 @hww @eCls.eq_1)) ?_|(refine hK _ ?_;clear hK K)|(refine Xg (X5 @ePf.eq_1 @hul @hua @eCh.eq_1 (X4 @hxx @eNd.eq_1 @hww @eCls.eq_1)) ?_ ?_<;>try intro hb)|(refine Xi ?_ ?_<;>try intro ht)|refine Xz ?_|refine Xe ?_|refine Xd ?_ ?_|omega|with_reducible rfl|exact trivial)
            all_goals try (exfalso;omega)
            all_goals
              repeat (first|refine Xu ?_|(refine hel2 _ _ rfl ?_;clear hnl2 hel2;try clear Ql2)|(refine hel3 _ _ rfl ?_;clear hnl3 hel3;try clear Ql3)|(refine hel4 _ _ rfl ?_;clear hnl4 hel4;try clear Ql4))
              repeat' (first|(refine Xr X0 ?_;intro K hK)|refine Xo X0 ?_|(refine hK _ ?_;clear hK K)|(refine Xg X0 ?_ ?_<;>try intro hb)|(refine Xi ?_ ?_<;>try intro ht)|refine Xz ?_|refine Xh ?_|refine Xe ?_|refine Xd ?_ ?_|omega|with_reducible rfl|exact trivial)
              exact RetOK_sel [] true (by decide) trivial (by decide) (by decide) (ArgR.tup2 ArgR.nil (.pure rfl))
          · repeat' (first|(refine Xr (X5 @ePf.eq_1 @hul @hua @eCh.eq_1 (X2 @hxx @eNd.eq_1)) ?_;intro K hK)|refine Xo (X5 @ePf.eq_1 @hul @hua @eCh.eq_1 (X2 @hxx @eNd.eq_1)) ?_|(refine hK _ ?_;clear hK K)|(refine Xg (X5 @ePf.eq_1 @hul @hua @eCh.eq_1 (X2 @hxx @eNd.eq_1)) ?_ ?_<;>try intro hb)|(refine Xi ?_ ?_<;>try intro ht)|refine Xz ?_|refine Xe ?_|refine Xd ?_ ?_|omega|with_reducible rfl|exact trivial)
            all_goals try (exfalso;omega)
            all_goals
              repeat (first|refine Xu ?_|(refine hel2 _ _ rfl ?_;clear hnl2 hel2;try clear Ql2)|(refine hel3 _ _ rfl ?_;clear hnl3 hel3;try clear Ql3)|(refine hel4 _ _ rfl ?_;clear hnl4 hel4;try clear Ql4))
              repeat' (first|(refine Xr X0 ?_;intro K hK)|refine Xo X0 ?_|(refine hK _ ?_;clear hK K)|(refine Xg X0 ?_ ?_<;>try intro hb)|(refine Xi ?_ ?_<;>try intro ht)|refine Xz ?_|refine Xh ?_|refine Xe ?_|refine Xd ?_ ?_|omega|with_reducible rfl|exact trivial)
              exact RetOK_sel [] true (by decide) trivial (by decide) (by decide) (ArgR.tup2 ArgR.nil (.pure rfl))
      have hnu:nodeU m P i u=if (nd P i).cls = -1 then some u else if hitB P (nd P i).cls (anc u i)=true then none else kidN P.length i (nd P i).kids u (nd P i).kids.length:=by
        unfold nodeU;rw[if_neg hpar,if_neg (by rw[hndb];simp)]
      have hkd:=fun o v=>UI.kids hi' hui o v
      rw[hnu] at hcut hgo
      clear hnu
      unfold nd at hndb hcut hgo hkd
      unfold upG at hpar
      generalize hua:u.getD i default=ua at *
      obtain ⟨ua,ub⟩:=ua
      generalize hxx:P.getD i default=x at *
      obtain ⟨c,kids,mvs,grp,cells⟩:=x
      have hk24:=ndB_kids hm hndb
      dsimp only at b1 b2 b3 b4 hpar hk24 hcut hgo hkd
      generalize hww:m.cls.getD c.toNat default=wl at *
      unfold ndB at hndb
      dsimp only at hndb
      rw[hww] at hndb
      by_cases hcn:c = -1
      · rw[if_pos hcn,decide_eq_true_eq] at hndb
        rw[if_pos hcn] at hgo
        repeat' (first|(refine Xr (X5 @ePf.eq_1 @hul @hua @eCh.eq_1 (X2 @hxx @eNd.eq_1)) ?_;intro K hK)|refine Xo (X5 @ePf.eq_1 @hul @hua @eCh.eq_1 (X2 @hxx @eNd.eq_1)) ?_|(refine hK _ ?_;clear hK K)|(refine Xg (X5 @ePf.eq_1 @hul @hua @eCh.eq_1 (X2 @hxx @eNd.eq_1)) ?_ ?_<;>try intro hb)|(refine Xi ?_ ?_<;>try intro ht)|refine Xz ?_|refine Xe ?_|refine Xd ?_ ?_|omega|with_reducible rfl|exact trivial)
        all_goals try (exfalso;omega)
        all_goals exact hnl _ (i+1,u) ⟨by dsimp only;omega,hgo⟩ (by dsimp only;omega) (Xs false [0,1,2] @ePf.eq_1)
      rw[if_neg hcn,decide_eq_true_eq] at hndb
      rw[if_neg hcn] at hgo hcut
      have hwl:wl.length≤24:=by rw[← hww];exact hm.opt _ (getD_mem (by omega))
      repeat' (first|((fail_if_success (first|refine W_at 13 ?_|refine W_atE 13 ?_));refine Xr (X5 @ePf.eq_1 @hul @hua @eCh.eq_1 (X4 @hxx @eNd.eq_1 @hww @eCls.eq_1)) ?_;intro K hK)|refine Xo (X5 @ePf.eq_1 @hul @hua @eCh.eq_1 (X4 @hxx @eNd.eq_1 @hww @eCls.eq_1)) ?_|(refine hK _ ?_;clear hK K)|(refine Xg (X5 @ePf.eq_1 @hul @hua @eCh.eq_1 (X4 @hxx @eNd.eq_1 @hww @eCls.eq_1)) ?_ ?_<;>try intro hb)|(refine Xi ?_ ?_<;>try intro ht)|refine Xz ?_|refine Xe ?_|refine Xd ?_ ?_|omega|with_reducible rfl|exact trivial)
      (first|refine unSq1 ?_|refine unSqB ?_);intro Q0 hn0 he0
      refine join_here ⟨slots [(2,.ptr 0 0 0),(3,.ptr 1 0 0),(6,.lit (.int .i64 P.length)),(7,.ref 2 2 0 P.length),(9,.lit (.int .i64 i)),(10,.ptr 3 0 0)],[.var (eMdl m),.var (ePf P),.arr 2 (rowsOf eCh u),.var (eNd ⟨c,kids,mvs,grp,cells⟩)]⟩ hn0 ?_ (fun key=>?_)
      rotate_left
      · (try clear hn0)
        repeat' (first|(refine Xr (X4 @ePf.eq_1 @hul @hua @eCh.eq_1) ?_;intro K hK)|refine Xo (X4 @ePf.eq_1 @hul @hua @eCh.eq_1) ?_|(refine hK _ ?_;clear hK K)|(refine Xg (X4 @ePf.eq_1 @hul @hua @eCh.eq_1) ?_ ?_<;>try intro hb)|(refine Xi ?_ ?_<;>try intro ht)|refine Xz ?_|refine Xe ?_|refine Xd ?_ ?_|omega|with_reducible rfl|exact trivial)
        all_goals try (exfalso;omega)
        all_goals
          refine key _ ?_
          exact Xv (X2 @ePf.eq_1 @eNd.eq_1)
      (try clear hn0)
      try (try clear Q0)
      repeat' (first|(refine Xr (X5 @ePf.eq_1 @hul @eNd.eq_1 @hww @eCls.eq_1) ?_;intro K hK)|refine Xo (X5 @ePf.eq_1 @hul @eNd.eq_1 @hww @eCls.eq_1) ?_|(refine hK _ ?_;clear hK K)|(refine Xg (X5 @ePf.eq_1 @hul @eNd.eq_1 @hww @eCls.eq_1) ?_ ?_<;>try intro hb)|(refine Xi ?_ ?_<;>try intro ht)|refine Xz ?_|refine Xe ?_|refine Xd ?_ ?_|omega|with_reducible rfl|exact trivial)
      all_goals try (exfalso;omega)
      refine W_loopS (fun k:Nat=>(⟨slots [(2,.ptr 0 0 0),(3,.ptr 1 0 0),(6,.lit (.int .i64 P.length)),(7,.ref 2 2 0 P.length),(9,.lit (.int .i64 i)),(10,.ptr 3 0 0),(11,.lit (.int .i64 k))],[.var (eMdl m),.var (ePf P),.arr 2 (rowsOf eCh u),.var (eNd ⟨c,kids,mvs,grp,cells⟩)]⟩:St))
        (fun k=>k<P.length∧hitB P c (anc u i)=hitB P c (anc u k)) (fun k=>k) i ⟨hi',rfl⟩ (Xv (X2 @ePf.eq_1 @eNd.eq_1)) ?_
      rintro k ⟨hk,hka⟩ Ql2 hnl2 hel2
      rw[anc_step hui hk] at hka
      have hlt:=hui.lt hk
      unfold upG at hka hlt
      generalize huk:u.getD k default=uk at *
      obtain ⟨p,q⟩:=uk
      dsimp only at hka hlt
      by_cases h0:0≤p
      · have hlt:=hlt h0
        rw[if_pos h0] at hka
        obtain ⟨p,rfl⟩ :∃pn:Nat,p=pn:=⟨p.toNat,by omega⟩
        rw[Int.toNat_natCast] at hlt
        have hka:hitB P c (anc u i)=((nd P (p:Int).toNat).cls == c || hitB P c (anc u (p:Int).toNat)):=hka
        rw[Int.toNat_natCast] at hka
        unfold nd at hka
        by_cases hpc:(P.getD p default).cls=c
        · have hr:=hcut (by rw[hka,hpc];simp)
          subst hr
          generalize hyy:P.getD p default=y at *
          obtain ⟨yc,y1,y2,y3,y4⟩:=y
          dsimp only at hpc
          subst hpc
          repeat' (first|(refine Xr (X5 @ePf.eq_1 @hul @huk @eCh.eq_1 (X2 @eNd.eq_1 @hyy)) ?_;intro K hK)|refine Xo (X5 @ePf.eq_1 @hul @huk @eCh.eq_1 (X2 @eNd.eq_1 @hyy)) ?_|(refine hK _ ?_;clear hK K)|(refine Xg (X5 @ePf.eq_1 @hul @huk @eCh.eq_1 (X2 @eNd.eq_1 @hyy)) ?_ ?_<;>try intro hb)|(refine Xi ?_ ?_<;>try intro ht)|refine Xz ?_|refine Xe ?_|refine Xd ?_ ?_|omega|with_reducible rfl|exact trivial)
          all_goals try (exfalso;omega)
          all_goals
            repeat (first|refine Xu ?_|(refine hel2 _ _ rfl ?_;clear hnl2 hel2;try clear Ql2)|(refine hel3 _ _ rfl ?_;clear hnl3 hel3;try clear Ql3)|(refine hel4 _ _ rfl ?_;clear hnl4 hel4;try clear Ql4))
            repeat' (first|(refine Xr X0 ?_;intro K hK)|refine Xo X0 ?_|(refine hK _ ?_;clear hK K)|(refine Xg X0 ?_ ?_<;>try intro hb)|(refine Xi ?_ ?_<;>try intro ht)|refine Xz ?_|refine Xh ?_|refine Xe ?_|refine Xd ?_ ?_|omega|with_reducible rfl|exact trivial)
            exact RetOK_sel [] true (by decide) trivial (by decide) (by decide) (ArgR.tup2 ArgR.nil (.pure rfl))
        · have hkb:hitB P c (anc u i)=hitB P c (anc u p):=by rw[hka,beq_false_of_ne hpc,Bool.false_or]
          generalize hyy:P.getD p default=y at *
          obtain ⟨yc,y1,y2,y3,y4⟩:=y
          dsimp only at hpc
          repeat' (first|(refine Xr (X5 @ePf.eq_1 @hul @huk @eCh.eq_1 (X2 @eNd.eq_1 @hyy)) ?_;intro K hK)|refine Xo (X5 @ePf.eq_1 @hul @huk @eCh.eq_1 (X2 @eNd.eq_1 @hyy)) ?_|(refine hK _ ?_;clear hK K)|(refine Xg (X5 @ePf.eq_1 @hul @huk @eCh.eq_1 (X2 @eNd.eq_1 @hyy)) ?_ ?_<;>try intro hb)|(refine Xi ?_ ?_<;>try intro ht)|refine Xz ?_|refine Xe ?_|refine Xd ?_ ?_|omega|with_reducible rfl|exact trivial)
          all_goals try (exfalso;omega)
          exact hnl2 _ p ⟨by omega,hkb⟩ (by omega) (Xv (X2 @ePf.eq_1 @eNd.eq_1))
      rw[if_neg h0] at hka
      have hka:hitB P c (anc u i)=false:=hka
      rw[if_neg (by rw[hka];simp)] at hgo hcut
      repeat' (first|(refine Xr (X3 @hul @huk @eCh.eq_1) ?_;intro K hK)|refine Xo (X3 @hul @huk @eCh.eq_1) ?_|(refine hK _ ?_;clear hK K)|(refine Xg (X3 @hul @huk @eCh.eq_1) ?_ ?_<;>try intro hb)|(refine Xi ?_ ?_<;>try intro ht)|refine Xz ?_|refine Xe ?_|refine Xd ?_ ?_|omega|with_reducible rfl|exact trivial)
      all_goals try (exfalso;omega)
      refine hel2 _ _ rfl ?_
      clear hnl2 hel2 Ql2
      repeat (first|refine Xu ?_)
      repeat' (first|(refine Xr (X2 @ePf.eq_1 @eNd.eq_1) ?_;intro K hK)|refine Xo (X2 @ePf.eq_1 @eNd.eq_1) ?_|(refine hK _ ?_;clear hK K)|(refine Xg (X2 @ePf.eq_1 @eNd.eq_1) ?_ ?_<;>try intro hb)|(refine Xi ?_ ?_<;>try intro ht)|refine Xz ?_|refine Xe ?_|refine Xd ?_ ?_|omega|with_reducible rfl|exact trivial)
      refine W_loopS (fun z:Nat × UpL=>(⟨slots [(2,.ptr 0 0 0),(3,.ptr 1 0 0),(6,.lit (.int .i64 P.length)),(7,.ref 2 2 0 P.length),(9,.lit (.int .i64 i)),(10,.ptr 3 0 0),(12,.lit (.int .i64 z.1))],[.var (eMdl m),.var (ePf P),.arr 2 (rowsOf eCh z.2),.var (eNd ⟨c,kids,mvs,grp,cells⟩)]⟩:St))
        (fun z=>z.1≤kids.length∧kidN P.length i kids u z.1=some z.2) (fun z=>kids.length - z.1) (0,u) ⟨Nat.zero_le _,rfl⟩ (Xv (X2 @ePf.eq_1 @eNd.eq_1)) ?_
      rintro ⟨o,v⟩ ⟨ho,hv⟩ Ql2 hnl2 hel2
      dsimp only at ho hv ⊢
      have hvi:=hkd o v ho hv
      have hvl:=hvi.len
      by_cases ho':o<kids.length
      · have hkc:=kid_cut hv ho'
        have hkg:=kid_go hv
        unfold upG at hkc hkg
        generalize hkk:kids.getD o 0=k at *
        generalize hvk:v.getD k.toNat default=vk at *
        obtain ⟨va,vb⟩:=vk
        dsimp only at hkc hkg
        by_cases hok:kidB P.length i k=true∧va<0
        · have hkg:=hkg hok
          unfold kidB at hok
          rw[decide_eq_true_eq] at hok
          repeat' (first|(refine Xr (X5 @ePf.eq_1 @eNd.eq_1 @hkk @hvl (X3 @hvk @eCh.eq_1 @upE_set)) ?_;intro K hK)|refine Xo (X5 @ePf.eq_1 @eNd.eq_1 @hkk @hvl (X3 @hvk @eCh.eq_1 @upE_set)) ?_|(refine hK _ ?_;clear hK K)|(refine Xg (X5 @ePf.eq_1 @eNd.eq_1 @hkk @hvl (X3 @hvk @eCh.eq_1 @upE_set)) ?_ ?_<;>try intro hb)|(refine Xi ?_ ?_<;>try intro ht)|refine Xz ?_|refine Xe ?_|refine Xd ?_ ?_|omega|with_reducible rfl|exact trivial)
          all_goals try (exfalso;omega)
          exact hnl2 _ (o+1,v.set k.toNat ((i:Int),(o:Int))) ⟨by dsimp only;omega,hkg⟩ (by dsimp only;omega) (Xv (X2 @ePf.eq_1 @eNd.eq_1))
        · have hr:=hcut (hkc hok)
          unfold kidB at hok
          rw[decide_eq_true_eq] at hok
          subst hr
          repeat' (first|(refine Xr (X5 @ePf.eq_1 @eNd.eq_1 @hkk @hvl (X2 @hvk @eCh.eq_1)) ?_;intro K hK)|refine Xo (X5 @ePf.eq_1 @eNd.eq_1 @hkk @hvl (X2 @hvk @eCh.eq_1)) ?_|(refine hK _ ?_;clear hK K)|(refine Xg (X5 @ePf.eq_1 @eNd.eq_1 @hkk @hvl (X2 @hvk @eCh.eq_1)) ?_ ?_<;>try intro hb)|(refine Xi ?_ ?_<;>try intro ht)|refine Xz ?_|refine Xe ?_|refine Xd ?_ ?_|omega|with_reducible rfl|exact trivial)
          all_goals try (exfalso;omega)
          all_goals
            repeat (first|refine Xu ?_|(refine hel2 _ _ rfl ?_;clear hnl2 hel2;try clear Ql2)|(refine hel3 _ _ rfl ?_;clear hnl3 hel3;try clear Ql3)|(refine hel4 _ _ rfl ?_;clear hnl4 hel4;try clear Ql4))
            repeat' (first|(refine Xr X0 ?_;intro K hK)|refine Xo X0 ?_|(refine hK _ ?_;clear hK K)|(refine Xg X0 ?_ ?_<;>try intro hb)|(refine Xi ?_ ?_<;>try intro ht)|refine Xz ?_|refine Xh ?_|refine Xe ?_|refine Xd ?_ ?_|omega|with_reducible rfl|exact trivial)
            exact RetOK_sel [] true (by decide) trivial (by decide) (by decide) (ArgR.tup2 ArgR.nil (.pure rfl))
      · obtain rfl:o=kids.length:=by omega
        rw[hv] at hgo
        repeat' (first|(refine Xr (X2 @ePf.eq_1 @eNd.eq_1) ?_;intro K hK)|refine Xo (X2 @ePf.eq_1 @eNd.eq_1) ?_|(refine hK _ ?_;clear hK K)|(refine Xg (X2 @ePf.eq_1 @eNd.eq_1) ?_ ?_<;>try intro hb)|(refine Xi ?_ ?_<;>try intro ht)|refine Xz ?_|refine Xe ?_|refine Xd ?_ ?_|omega|with_reducible rfl|exact trivial)
        refine hel2 _ _ rfl ?_
        clear hnl2 hel2 Ql2
        repeat' (first|(refine Xr X0 ?_;intro K hK)|refine Xo X0 ?_|(refine hK _ ?_;clear hK K)|(refine Xg X0 ?_ ?_<;>try intro hb)|(refine Xi ?_ ?_<;>try intro ht)|refine Xz ?_|refine Xe ?_|refine Xd ?_ ?_|omega|with_reducible rfl|exact trivial)
        all_goals exact hnl _ (i+1,v) ⟨by dsimp only;omega,hgo⟩ (by dsimp only;omega) (Xs false [0,1,2] @ePf.eq_1)
end T
open Go Go.Am Go.Proofs
open Nat (reduceEqDiff reduceAdd reduceLeDiff reduceMul)
open Int (reduceNeg reduceLE reduceToNat)
set_option maxRecDepth 20000
namespace T
set_option maxHeartbeats 8000000 in
theorem refAllO_ok (m:Mdl) (hm:MB m) (hv:VM m):Holds Tryz.prog 55 [.agg (eMdl m)] [] (.ref 0 1 0 (allT m).length) (.arr 1 (refsB 1 (allT m))::ownB (allT m)):=by
  have h1:=refValid_ok m hm
  have hm1:=hm.cls
  have hal0:allT m=allV m:=if_pos (valid_iff.2 hv)
  generalize hres:allT m=res
  refine Holds.of_body' (fn:=Tryz.f55) 38 0 [.tmp 2] Tryz.func55 rfl rfl rfl rfl rfl (by simp) ?_
  rw[valid_iff.2 hv] at h1
  have hc24:=hv.cls
  repeat' (first|(refine Xq @bne_self_eq_false.{0} ?_;intro K hK)|refine Xo @bne_self_eq_false.{0} ?_|refine Xc (h1) ?_|(refine hK _ ?_;clear hK K)|(refine Xg @bne_self_eq_false.{0} ?_ ?_<;>try intro hb)|(refine Xi ?_ ?_<;>try intro ht)|refine Xz ?_|refine Xh ?_|refine Xe ?_|refine Xd ?_ ?_|omega|with_reducible rfl|exact trivial)
  refine W_loopS (fun z:Nat × List (List Bool) × List Ob × Nat × List (Nat × Nat)=>(⟨slots [(1,.ptr 0 0 0),(3,.ref z.2.2.2.1 1 0 z.2.2.2.2.length),(4,.lit (.int .i64 z.1))],z.2.2.1⟩:St))
    (fun z=>z.1≤m.cls.length∧z.2.1=(allV m).take z.1∧NB1 [(z.2.2.2.1,.arr 1 (rowsOf eRb z.2.2.2.2)),(0,.var (eMdl m))] z.2.2.2.2 z.2.1 z.2.2.1) (fun z=>m.cls.length - z.1) (0,[],[.var (eMdl m),.arr 1 []],1,[]) ⟨Nat.zero_le _,rfl,NB1.start0 _⟩ ?_ ?_
  · refine Turns.trans (Turns.nil 3 1 (by simp only[Kc,simprocAttr]) (by decide)) ?_
    exact Xv X0
  rintro ⟨i,xs,os,oi,D⟩ ⟨hi,hxs,hB⟩ Ql hnl hel
  dsimp only at hi hxs hB ⊢
  have hal:(allV m).length=m.cls.length:=by simp[allV]
  have hDl:=hB.len
  have fo:=hB.b0
  have fm:=hB.b1
  dsimp only at fm fo
  by_cases hi':i<m.cls.length
  · have hxl:xs.length=i:=by rw[hxs,List.length_take];omega
    have hts:(allV m).take (i+1)=xs++[List.replicate (m.cls.getD i default).length true]:=by
      rw[take_snoc (by omega),← hxs];unfold allV;rw[map_getD _ _ _ hi']
    have hl24:=hv.opt _ (getD_mem (d:=default) hi')
    generalize hcc:m.cls.getD i default=c at *
    repeat' (first|(refine Xr (X3 @fm @hcc @eCls.eq_1) ?_;intro K hK)|refine Xo (X3 @fm @hcc @eCls.eq_1) ?_|(refine hK _ ?_;clear hK K)|(refine Xg (X3 @fm @hcc @eCls.eq_1) ?_ ?_<;>try intro hb)|(refine Xi ?_ ?_<;>try intro ht)|refine Xz ?_|refine Xe ?_|refine Xd ?_ ?_|omega|with_reducible rfl|exact trivial)
    refine W_loopS (fun z:Nat × List Ob=>(⟨slots [(1,.ptr 0 0 0),(3,.ref oi 1 0 D.length),(4,.lit (.int .i64 i)),(5,.ref os.length 1 0 c.length),(6,.lit (.int .i64 z.1))],z.2⟩:St))
      (fun z=>z.1≤c.length∧NB1 [(os.length,.arr 1 (bools (List.replicate z.1 true++List.replicate (c.length - z.1) false))),(oi,.arr 1 (rowsOf eRb D)),(0,.var (eMdl m))] D xs z.2) (fun z=>c.length - z.1)
      (0,os++[.arr 1 (bools (List.replicate 0 true++List.replicate (c.length - 0) false))]) ⟨Nat.zero_le _,(hB.app _).add (oL0 _ _ _) (hB.fresh (Nat.le_refl _))⟩ (by simp only[Nat.sub_zero,List.replicate_zero,List.nil_append];exact Xv X0) ?_
    rintro ⟨k,os1⟩ ⟨hk,hB1⟩ Ql2 hnl2 hel2
    dsimp only at hk hB1 ⊢
    have hrl:(List.replicate k true++List.replicate (c.length - k) false).length=c.length:=by simp;omega
    have fp1:=hB1.b0
    have fo1:=hB1.b1
    have fm1:=hB1.b2
    dsimp only at fp1 fo1 fm1
    by_cases hk':k<c.length
    · have hset:(List.replicate k true++List.replicate (c.length - k) false).set k true=List.replicate (k+1) true++List.replicate (c.length - (k+1)) false:=by
        rw[List.set_append_right _ _ (by simp),List.length_replicate,Nat.sub_self,show c.length - k=(c.length - (k+1))+1 by omega,List.replicate_succ,List.set_cons_zero,List.replicate_succ',List.append_assoc];rfl
      repeat' (first|(refine Xr (X3 @fp1 @hrl @bools_set) ?_;intro K hK)|refine Xo (X3 @fp1 @hrl @bools_set) ?_|(refine hK _ ?_;clear hK K)|(refine Xg (X3 @fp1 @hrl @bools_set) ?_ ?_<;>try intro hb)|(refine Xi ?_ ?_<;>try intro ht)|refine Xz ?_|refine Xe ?_|refine Xd ?_ ?_|omega|with_reducible rfl|exact trivial)
      rw[hset]
      exact hnl2 _ (k+1,os1.set os.length (.arr 1 (bools (List.replicate (k+1) true++List.replicate (c.length - (k+1)) false)))) ⟨by dsimp only;omega,hB1.put _⟩ (by dsimp only;omega) (Xv X0)
    · obtain rfl:k=c.length:=by omega
      repeat' (first|(refine Xr @fp1 ?_;intro K hK)|refine Xo @fp1 ?_|(refine hK _ ?_;clear hK K)|(refine Xg @fp1 ?_ ?_<;>try intro hb)|(refine Xi ?_ ?_<;>try intro ht)|refine Xz ?_|refine Xe ?_|refine Xd ?_ ?_|omega|with_reducible rfl|exact trivial)
      refine hel2 _ _ rfl ?_
      clear hnl2 hel2 Ql2
      repeat (first|refine Xu ?_)
      rw[Nat.sub_self,List.replicate_zero,List.append_nil] at *
      have hB2:=hB1.snoc
      rw[List.length_replicate] at hB2
      obtain ⟨hB4,hfr⟩:=hB2.drop
      generalize os.length=p at *
      repeat' (first|(refine Xr (X5 @fo1 (oLo fo1) (oSo fo1) @eRb_app (X4 @Oc2 @List.append_assoc.{0} @List.length_append.{0} @List.length_set.{0})) ?_;intro K hK)|refine Xo (X5 @fo1 (oLo fo1) (oSo fo1) @eRb_app (X4 @Oc2 @List.append_assoc.{0} @List.length_append.{0} @List.length_set.{0})) ?_|(refine hK _ ?_;clear hK K)|(refine Xg (X5 @fo1 (oLo fo1) (oSo fo1) @eRb_app (X4 @Oc2 @List.append_assoc.{0} @List.length_append.{0} @List.length_set.{0})) ?_ ?_<;>try intro hb)|(refine Xi ?_ ?_<;>try intro ht)|refine Xz ?_|refine Xe ?_|refine Xd ?_ ?_|omega|with_reducible rfl|exact trivial)
      refine hnl _ (i+1,xs++[List.replicate c.length true],os1.set oi .gone++[.arr 1 [[.ref p 1 0 c.length]],.arr 1 (rowsOf eRb (D++[(p,c.length)]))],os1.length+1,D++[(p,c.length)]) ⟨by dsimp only;omega,hts.symm,?_⟩ (by dsimp only;omega) ?_
      · refine ((hB4.other hfr .gone).app _).add ?_ ((hB4.other hfr .gone).fresh (by simp))
        have hl3:(os1.set oi Ob.gone).length=os1.length:=List.length_set ..
        rw[← hl3,oLk];rfl
      · exact Xv X0
  · rw[List.take_of_length_le (by omega)] at hxs
    repeat' (first|(refine Xr @fm ?_;intro K hK)|refine Xo @fm ?_|(refine hK _ ?_;clear hK K)|(refine Xg @fm ?_ ?_<;>try intro hb)|(refine Xi ?_ ?_<;>try intro ht)|refine Xz ?_|refine Xe ?_|refine Xd ?_ ?_|omega|with_reducible rfl|exact trivial)
    refine hel _ _ rfl ?_;clear hnl hel Ql
    repeat (first|refine Xu ?_)
    repeat' (first|(refine Xr X0 ?_;intro K hK)|refine Xo X0 ?_|(refine hK _ ?_;clear hK K)|(refine Xg X0 ?_ ?_<;>try intro hb)|(refine Xi ?_ ?_<;>try intro ht)|refine Xz ?_|refine Xh ?_|refine Xe ?_|refine Xd ?_ ?_|omega|with_reducible rfl|exact trivial)
    have hrx:res=xs:=by rw[← hres,hal0,hxs]
    subst hrx
    have h3:=(hB.swap.drop).1
    rw[hDl]
    exact h3.ret0 _
end T
open Go Go.Am Go.Proofs
open Nat (reduceEqDiff reduceAdd reduceLeDiff reduceMul)
open Int (reduceNeg reduceLE reduceToNat)
set_option maxRecDepth 20000
namespace T
set_option maxHeartbeats 8000000 in
theorem refleft_ok (m:Mdl) (P:List Nd) (up:UpL) (node:Nat) (hm:MB m) (hv:VM m) (hP:PB P) (hf:formedV m P=some up) (hnd:node<P.length) :
    Holds Tryz.prog 30 [.agg (eMdl m),.agg (ePf P),.tree 2 (rowsOf eCh up),.lit (.int .i64 node)] [] (.tree 1 (rowsOf eBs (leftU m P up node))) []:=by
  have hp0:=hP.nds
  have hsh:=formed_shaped hf
  have hpl:=(shaped_len hsh).2
  have hc24:=hv.cls
  have h1:=refAllO_ok m hm hv
  have hui:=forU_UI _ _ (Nat.le_refl _) (formed_len hf).2
  have hul:=hui.len
  have hfit:=all_fits hv
  have hfl:=hfit.1
  have hleft:leftU m P up node=wayF P (anc up node) (allT m):=rfl
  generalize hres:leftU m P up node=res at *
  generalize hall:allT m=Y0 at *
  have hrl:(refsB 3 Y0).length=Y0.length:=refsB_len 3 Y0
  refine Holds.of_body' (fn:=Tryz.f30) 60 0 [.tmp 8] Tryz.func30 rfl rfl rfl rfl rfl (by simp) ?_
  repeat' (first|(refine Xr @ePf.eq_1 ?_;intro K hK)|refine Xo @ePf.eq_1 ?_|(refine hK _ ?_;clear hK K)|(refine Xg @ePf.eq_1 ?_ ?_<;>try intro hb)|(refine Xi ?_ ?_<;>try intro ht)|refine Xz ?_|refine Xe ?_|refine Xd ?_ ?_|omega|with_reducible rfl|exact trivial)
  refine callK_sel [] h1 (by decide) trivial ⟨.pure rfl,trivial⟩ ?_
  have ha:renO (rho 2 []) (.arr 1 (refsB 1 Y0))=.arr 1 (refsB 3 Y0):=by
    rw[renO,refsB_ren (rho 2 []) Y0 3 1 fun j hj=>by unfold rho;rw[if_neg (by simp)];simp;omega]
  have hb2:(ownB Y0).map (renO (rho 2 []))=ownB Y0:=ownB_ren _ _
  have hc:ren (rho 2 []) (.ref 0 1 0 Y0.length)=.ref 2 1 0 Y0.length:=rfl
  have hd:∀ (l n:List Ob),mergeO l [] n=l++n:=fun l n=>by cases n<;>simp[mergeO]
  show opsL _ _ _ _ (St.put ⟨_,mergeO [_,_] [] (List.map (renO (rho 2 [])) _)⟩ _ (ren (rho 2 []) _))
  rw[List.map_cons,ha,hb2,hc,hd]
  simp (disch:=omega) only[Ac,↓Pc,simprocAttr]
  refine hK _ ?_
  clear hK K
  refine W_turn (σ':=⟨slots [(2,.tree 2 (rowsOf eCh up)),(3,.lit (.int .i64 node)),(5,.ptr 1 0 0),(9,.ref 2 1 0 Y0.length)],nP (.var (eMdl m)) (.var (ePf P)) (refsB 3 Y0) Y0⟩) (by unfold nP;exact Xv @ePf.eq_1) ?_
  repeat' (first|(refine Xr X0 ?_;intro K hK)|refine Xo X0 ?_|(refine hK _ ?_;clear hK K)|(refine Xg X0 ?_ ?_<;>try intro hb)|(refine Xi ?_ ?_<;>try intro ht)|refine Xz ?_|refine Xe ?_|refine Xd ?_ ?_|omega|with_reducible rfl|exact trivial)
  refine W_loopS (fun z:Nat × List (List Bool)=>(⟨slots [(2,.tree 2 (rowsOf eCh up)),(5,.ptr 1 0 0),(9,.ref 2 1 0 Y0.length),(10,.lit (.int .i64 z.1))],nP (.var (eMdl m)) (.var (ePf P)) (refsB 3 Y0) z.2⟩:St))
    (fun z=>z.1<P.length∧z.2.map List.length=Y0.map List.length∧wayF P (anc up z.1) z.2=res) (fun z=>z.1) (node,Y0) ⟨hnd,rfl,hleft.symm⟩ (Xv X0) ?_
  rintro ⟨k,Y⟩ ⟨hk,hY,hway⟩ Ql hnl hel
  dsimp only at hk hY hway ⊢
  have hYl:=congrArg List.length hY
  rw[List.length_map,List.length_map] at hYl
  have hfY:=fits_map hfit hY
  rw[anc_step hui hk] at hway
  have hlow:=hui.low k hk
  unfold upG at hway hlow
  generalize huk:up.getD k default=uk at *
  rcases hlow with h1 | ⟨p,q,h1,h2,h3,_⟩
  · subst h1
    rw[if_neg (by decide)] at hway
    have hY2:Y=res:=hway
    subst hY2
    repeat' (first|(refine Xr (X5 @huk @eCh.eq_1 @hul @nP0 (X2 @nP1 @nP2)) ?_;intro K hK)|refine Xo (X5 @huk @eCh.eq_1 @hul @nP0 (X2 @nP1 @nP2)) ?_|(refine hK _ ?_;clear hK K)|(refine Xg (X5 @huk @eCh.eq_1 @hul @nP0 (X2 @nP1 @nP2)) ?_ ?_<;>try intro hb)|(refine Xi ?_ ?_<;>try intro ht)|refine Xz ?_|refine Xe ?_|refine Xd ?_ ?_|omega|with_reducible rfl|exact trivial)
    all_goals try (exfalso;omega)
    refine hel _ _ rfl ?_;clear hnl hel Ql
    repeat (first|refine Xu ?_)
    repeat' (first|(refine Xr X0 ?_;intro K hK)|refine Xo X0 ?_|(refine hK _ ?_;clear hK K)|(refine Xg X0 ?_ ?_<;>try intro hb)|(refine Xi ?_ ?_<;>try intro ht)|refine Xz ?_|refine Xh ?_|refine Xe ?_|refine Xd ?_ ?_|omega|with_reducible rfl|exact trivial)
    refine RetOK_se [] true trivial ?_
    rw[← hYl]
    exact .snap _ _ rfl (frz_rows (nP2 _ _ _ _) (not_kept (by decide)) (by rw[hrl];exact hYl.symm) fun a ha=>⟨3+a,by rw[refsB_same 3 hY.symm];exact refsB_get 3 Y a ha,nPk _ _ _ ha,not_kept (by simp)⟩)
  · subst h1
    rw[if_pos (by dsimp only;omega)] at hway
    dsimp only at hway
    rw[Int.toNat_natCast] at hway
    have hpc:=kids_cls hsh (show p<P.length by omega) h3
    have hway:wayF P (anc up p) (onlyV Y (nd P p).cls.toNat q)=res:=hway
    unfold nd at hway hpc
    generalize hyy:P.getD p default=y at *
    obtain ⟨c,y1,y2,y3,y4⟩:=y
    dsimp only at hway hpc
    obtain ⟨c,rfl⟩ :∃cn:Nat,c=cn:=⟨c.toNat,by omega⟩
    rw[Int.toNat_natCast] at hway
    have hyi:=hfY.2 c (by omega)
    have hY0i:=hfit.2 c (by omega)
    have hl24:=hv.opt _ (getD_mem (l:=m.cls) (i:=c) (d:=default) (by omega))
    have hrg:=refsB_get 3 Y0 c (by omega)
    rw[hY0i] at hrg
    generalize hcc:(m.cls.getD c default).length=w at *
    repeat' (first|(refine Xr (X5 @ePf.eq_1 @huk @eCh.eq_1 @hul (X5 @hyy @eNd.eq_1 @nP0 @nP1 @nP2)) ?_;intro K hK)|refine Xo (X5 @ePf.eq_1 @huk @eCh.eq_1 @hul (X5 @hyy @eNd.eq_1 @nP0 @nP1 @nP2)) ?_|(refine hK _ ?_;clear hK K)|(refine Xg (X5 @ePf.eq_1 @huk @eCh.eq_1 @hul (X5 @hyy @eNd.eq_1 @nP0 @nP1 @nP2)) ?_ ?_<;>try intro hb)|(refine Xi ?_ ?_<;>try intro ht)|refine Xz ?_|refine Xe ?_|refine Xd ?_ ?_|omega|with_reducible rfl|exact trivial)
    all_goals try (exfalso;omega)
    refine W_loopS (fun z:Nat × List Bool=>(⟨slots [(2,.tree 2 (rowsOf eCh up)),(5,.ptr 1 0 0),(9,.ref 2 1 0 Y0.length),(10,.lit (.int .i64 k)),(11,.lit (.int .i64 c)),(12,.lit (.int .i64 z.1))],nP (.var (eMdl m)) (.var (ePf P)) (refsB 3 Y0) (Y.set c z.2)⟩:St))
      (fun z=>z.1≤w∧z.2.length=w∧∀ b,b<z.1→z.2.getD b false=(b == q)) (fun z=>w - z.1) (0,Y.getD c default) ⟨Nat.zero_le _,hyi,fun a ha=>absurd ha (Nat.not_lt_zero _)⟩ (by rw[set_self];exact Xv @ePf.eq_1) ?_
    rintro ⟨o,r⟩ ⟨ho,hr,hsr⟩ Ql2 hnl2 hel2
    dsimp only at ho hr hsr ⊢
    have hYs:(Y.set c r).length=Y.length:=List.length_set ..
    have f2:=nPk (.var (eMdl m)) (.var (ePf P)) (refsB 3 Y0) (Y:=Y.set c r) (i:=c) (by omega)
    rw[getD_set _ _ _ (by omega)] at f2
    have f3:=fun r2=>nPs (.var (eMdl m)) (.var (ePf P)) (refsB 3 Y0) (Y.set c r) c r2
    simp only[List.set_set] at f3
    unfold ePf eMdl at f2 f3
    by_cases ho':o<w
    · repeat' (first|(refine Xr (X5 @ePf.eq_1 @huk @eCh.eq_1 @hul (X5 @nP0 @nP1 @nP2 @hrg (X4 @f2 @f3 @bools_set @hr))) ?_;intro K hK)|refine Xo (X5 @ePf.eq_1 @huk @eCh.eq_1 @hul (X5 @nP0 @nP1 @nP2 @hrg (X4 @f2 @f3 @bools_set @hr))) ?_|(refine hK _ ?_;clear hK K)|(refine Xg (X5 @ePf.eq_1 @huk @eCh.eq_1 @hul (X5 @nP0 @nP1 @nP2 @hrg (X4 @f2 @f3 @bools_set @hr))) ?_ ?_<;>try intro hb)|(refine Xi ?_ ?_<;>try intro ht)|refine Xz ?_|refine Xe ?_|refine Xd ?_ ?_|omega|with_reducible rfl|exact trivial)
      all_goals try (exfalso;omega)
      have hdec:((o:Int) == (q:Int))=(o == q):=by rw[Bool.eq_iff_iff,beq_iff_eq,beq_iff_eq];omega
      rw[hdec]
      refine hnl2 _ (o+1,r.set o (o == q)) ⟨by dsimp only;omega,by dsimp only;rw[List.length_set];exact hr,onlyR_step hr hsr ho'⟩ (by dsimp only;omega) (Xv @ePf.eq_1)
    · obtain rfl:o=w:=by omega
      repeat' (first|(refine Xr (X5 @ePf.eq_1 @huk @eCh.eq_1 @hul (X5 @nP0 @nP1 @nP2 @hrg @f2)) ?_;intro K hK)|refine Xo (X5 @ePf.eq_1 @huk @eCh.eq_1 @hul (X5 @nP0 @nP1 @nP2 @hrg @f2)) ?_|(refine hK _ ?_;clear hK K)|(refine Xg (X5 @ePf.eq_1 @huk @eCh.eq_1 @hul (X5 @nP0 @nP1 @nP2 @hrg @f2)) ?_ ?_<;>try intro hb)|(refine Xi ?_ ?_<;>try intro ht)|refine Xz ?_|refine Xe ?_|refine Xd ?_ ?_|omega|with_reducible rfl|exact trivial)
      refine hel2 _ _ rfl ?_
      clear hnl2 hel2 Ql2
      repeat (first|refine Xu ?_)
      have hre:=onlyR_end hr hsr
      repeat' (first|(refine Xr (X4 @ePf.eq_1 @huk @eCh.eq_1 @hul) ?_;intro K hK)|refine Xo (X4 @ePf.eq_1 @huk @eCh.eq_1 @hul) ?_|(refine hK _ ?_;clear hK K)|(refine Xg (X4 @ePf.eq_1 @huk @eCh.eq_1 @hul) ?_ ?_<;>try intro hb)|(refine Xi ?_ ?_<;>try intro ht)|refine Xz ?_|refine Xe ?_|refine Xd ?_ ?_|omega|with_reducible rfl|exact trivial)
      all_goals try (exfalso;omega)
      refine hnl _ (p,Y.set c r) ⟨by dsimp only;omega,?_,?_⟩ (by dsimp only;omega) (Xv @ePf.eq_1)
      · dsimp only
        rw[len_setB (by rw[hr,hyi])];exact hY
      · dsimp only
        rw[hre,← hway]
        unfold onlyV
        rw[hyi]
end T
open Go Go.Am Go.Proofs
open Nat (reduceEqDiff reduceAdd reduceLeDiff reduceMul)
open Int (reduceNeg reduceLE reduceToNat)
set_option maxRecDepth 20000
namespace T
def lftQ (m:Mdl) (P:List Nd) (k:Int):List (List Bool) × Bool:=if validV m=0 then lftR m P k else ([],false)
set_option maxHeartbeats 8000000 in
theorem refLeft_ok (m:Mdl) (P:List Nd) (k:Int) (hm:MB m) (hP:PB P) :
    Holds Tryz.prog 21 [.agg (eMdl m),.agg (ePf P),.lit (.int .i64 k)] [] (.tup [.tree 1 (rowsOf eBs (lftQ m P k).1),.lit (.bool (lftQ m P k).2)]) []:=by
  have hp0:=hP.nds
  have hm1:=hm.cls
  have h1:=refValid_ok m hm
  generalize hres:lftQ m P k=res
  unfold lftQ at hres
  refine Holds.of_body' (fn:=Tryz.f21) 37 0 [.tmp 6,.tmp 7] Tryz.func21 rfl rfl rfl rfl rfl (by simp) ?_
  by_cases hv:validV m=0
  rotate_left
  · rw[if_neg hv] at hres
    subst hres
    generalize validV m=e at *
    repeat' (first|(refine Xq @ePf.eq_1 ?_;intro K hK)|refine Xo @ePf.eq_1 ?_|refine Xc (h1) ?_|(refine hK _ ?_;clear hK K)|(refine Xg @ePf.eq_1 ?_ ?_<;>try intro hb)|(refine Xi ?_ ?_<;>try intro ht)|refine Xz ?_|refine Xh ?_|refine Xe ?_|refine Xd ?_ ?_|omega|with_reducible rfl|exact trivial)
    all_goals try (exfalso;omega)
    exact RetOK_sel [] true (by decide) trivial (by decide) (by decide) (ArgR.tup2 ArgR.nil (.pure rfl))
  rw[if_pos hv] at hres
  rw[hv] at h1
  have hvm:=valid_iff.1 hv
  have h2:=formed_ok m P hvm hP
  unfold lftR at hres
  unfold ePf at h2
  cases hf:formedV m P with
  | none =>
    rw[hf] at hres h2
    simp only[Option.isSome_none,Option.isSome_some,Option.getD_none,Option.getD_some] at h2
    dsimp only at hres
    subst hres
    repeat' (first|(refine Xq (X4 @ePf.eq_1 @bne_self_eq_false.{0} @Bool.not_false @Bool.not_true) ?_;intro K hK)|refine Xo (X4 @ePf.eq_1 @bne_self_eq_false.{0} @Bool.not_false @Bool.not_true) ?_|refine Xc (h1) ?_|refine Xc (h2) ?_|(refine hK _ ?_;clear hK K)|(refine Xg (X4 @ePf.eq_1 @bne_self_eq_false.{0} @Bool.not_false @Bool.not_true) ?_ ?_<;>try intro hb)|(refine Xi ?_ ?_<;>try intro ht)|refine Xz ?_|refine Xh ?_|refine Xe ?_|refine Xd ?_ ?_|omega|with_reducible rfl|exact trivial)
    all_goals try (exfalso;omega)
    all_goals exact RetOK_sel [] true (by decide) trivial (by decide) (by decide) (ArgR.tup2 ArgR.nil (.pure rfl))
  | some up =>
    rw[hf] at hres h2
    simp only[Option.isSome_none,Option.isSome_some,Option.getD_none,Option.getD_some] at h2
    dsimp only at hres
    have hlen:=(shaped_len (formed_shaped hf)).2
    by_cases hk:0≤k∧k<P.length
    · rw[if_pos hk] at hres
      subst hres
      obtain ⟨kn,rfl⟩ :∃kn:Nat,k=kn:=⟨k.toNat,by omega⟩
      have h3:=refleft_ok m P up kn hm hvm hP hf (by omega)
      unfold ePf at h3
      repeat' (first|(refine Xq (X4 @ePf.eq_1 @bne_self_eq_false.{0} @Bool.not_false @Bool.not_true) ?_;intro K hK)|refine Xo (X4 @ePf.eq_1 @bne_self_eq_false.{0} @Bool.not_false @Bool.not_true) ?_|refine Xc (h1) ?_|refine Xc (h2) ?_|refine Xc (h3) ?_|(refine hK _ ?_;clear hK K)|(refine Xg (X4 @ePf.eq_1 @bne_self_eq_false.{0} @Bool.not_false @Bool.not_true) ?_ ?_<;>try intro hb)|(refine Xi ?_ ?_<;>try intro ht)|refine Xz ?_|refine Xh ?_|refine Xe ?_|refine Xd ?_ ?_|omega|with_reducible rfl|exact trivial)
      all_goals try (exfalso;omega)
      all_goals exact RetOK_pure' rfl rfl
    · rw[if_neg hk] at hres
      subst hres
      repeat' (first|(refine Xq (X4 @ePf.eq_1 @bne_self_eq_false.{0} @Bool.not_false @Bool.not_true) ?_;intro K hK)|refine Xo (X4 @ePf.eq_1 @bne_self_eq_false.{0} @Bool.not_false @Bool.not_true) ?_|refine Xc (h1) ?_|refine Xc (h2) ?_|(refine hK _ ?_;clear hK K)|(refine Xg (X4 @ePf.eq_1 @bne_self_eq_false.{0} @Bool.not_false @Bool.not_true) ?_ ?_<;>try intro hb)|(refine Xi ?_ ?_<;>try intro ht)|refine Xz ?_|refine Xh ?_|refine Xe ?_|refine Xd ?_ ?_|omega|with_reducible rfl|exact trivial)
      all_goals try (exfalso;omega)
      all_goals exact RetOK_sel [] true (by decide) trivial (by decide) (by decide) (ArgR.tup2 ArgR.nil (.pure rfl))
end T
open Go Go.Am Go.Proofs
open Nat (reduceEqDiff reduceAdd reduceLeDiff reduceMul)
open Int (reduceNeg reduceLE reduceToNat)
set_option maxRecDepth 20000
namespace T
set_option maxHeartbeats 4000000 in
theorem same21_ok (a:List (List Bool)) (hb:BB a):Holds Tryz.prog 22 [.tree 1 (rowsOf eBs a),.tree 1 (rowsOf eBs a)] [] (.lit (.bool true)) []:=by
  have hb1:=hb.1
  refine Holds.of_body' (fn:=Tryz.f22) 53 0 [.tmp 4] Tryz.func22 rfl rfl rfl rfl rfl (by simp) ?_
  repeat' (first|(refine Xr X0 ?_;intro K hK)|refine Xo X0 ?_|(refine hK _ ?_;clear hK K)|(refine Xg X0 ?_ ?_<;>try intro hb)|(refine Xi ?_ ?_<;>try intro ht)|refine Xz ?_|refine Xe ?_|refine Xd ?_ ?_|omega|with_reducible rfl|exact trivial)
  all_goals try (exfalso;omega)
  refine W_loopS (fun k:Nat=>(⟨slots [(0,.tree 1 (rowsOf eBs a)),(1,.tree 1 (rowsOf eBs a)),(5,.lit (.int .i64 k))],[]⟩:St)) (fun k=>k≤a.length) (fun k=>a.length - k) 0 (Nat.zero_le _) (Xv X0) ?_
  rintro k hk Ql hnl hel
  by_cases hk':k<a.length
  · have h2:=hb.2 _ (getD_mem (d:=default) hk')
    generalize hrr:a.getD k default=r at *
    repeat' (first|(refine Xr (X2 @hrr @eBs.eq_1) ?_;intro K hK)|refine Xo (X2 @hrr @eBs.eq_1) ?_|(refine hK _ ?_;clear hK K)|(refine Xg (X2 @hrr @eBs.eq_1) ?_ ?_<;>try intro hb)|(refine Xi ?_ ?_<;>try intro ht)|refine Xz ?_|refine Xe ?_|refine Xd ?_ ?_|omega|with_reducible rfl|exact trivial)
    all_goals try (exfalso;omega)
    refine W_loopS (fun j:Nat=>(⟨slots [(0,.tree 1 (rowsOf eBs a)),(1,.tree 1 (rowsOf eBs a)),(5,.lit (.int .i64 k)),(6,.lit (.int .i64 j))],[]⟩:St)) (fun j=>j≤r.length) (fun j=>r.length - j) 0 (Nat.zero_le _) (Xv X0) ?_
    rintro j hj Ql2 hnl2 hel2
    by_cases hj':j<r.length
    · repeat' (first|(refine Xr (X3 @hrr @eBs.eq_1 @bne_self_eq_false.{0}) ?_;intro K hK)|refine Xo (X3 @hrr @eBs.eq_1 @bne_self_eq_false.{0}) ?_|(refine hK _ ?_;clear hK K)|(refine Xg (X3 @hrr @eBs.eq_1 @bne_self_eq_false.{0}) ?_ ?_<;>try intro hb)|(refine Xi ?_ ?_<;>try intro ht)|refine Xz ?_|refine Xe ?_|refine Xd ?_ ?_|omega|with_reducible rfl|exact trivial)
      all_goals try (exfalso;omega)
      exact hnl2 _ (j+1) (by omega) (by omega) (Xv X0)
    · repeat' (first|(refine Xr (X2 @hrr @eBs.eq_1) ?_;intro K hK)|refine Xo (X2 @hrr @eBs.eq_1) ?_|(refine hK _ ?_;clear hK K)|(refine Xg (X2 @hrr @eBs.eq_1) ?_ ?_<;>try intro hb)|(refine Xi ?_ ?_<;>try intro ht)|refine Xz ?_|refine Xe ?_|refine Xd ?_ ?_|omega|with_reducible rfl|exact trivial)
      refine hel2 _ _ rfl ?_
      clear hnl2 hel2 Ql2
      repeat (first|refine Xu ?_)
      repeat' (first|(refine Xr X0 ?_;intro K hK)|refine Xo X0 ?_|(refine hK _ ?_;clear hK K)|(refine Xg X0 ?_ ?_<;>try intro hb)|(refine Xi ?_ ?_<;>try intro ht)|refine Xz ?_|refine Xe ?_|refine Xd ?_ ?_|omega|with_reducible rfl|exact trivial)
      exact hnl _ (k+1) (by omega) (by omega) (Xv X0)
  · repeat' (first|(refine Xr X0 ?_;intro K hK)|refine Xo X0 ?_|(refine hK _ ?_;clear hK K)|(refine Xg X0 ?_ ?_<;>try intro hb)|(refine Xi ?_ ?_<;>try intro ht)|refine Xz ?_|refine Xe ?_|refine Xd ?_ ?_|omega|with_reducible rfl|exact trivial)
    refine hel _ _ rfl ?_;clear hnl hel Ql
    repeat (first|refine Xu ?_)
    repeat' (first|(refine Xr X0 ?_;intro K hK)|refine Xo X0 ?_|(refine hK _ ?_;clear hK K)|(refine Xg X0 ?_ ?_<;>try intro hb)|(refine Xi ?_ ?_<;>try intro ht)|refine Xz ?_|refine Xh ?_|refine Xe ?_|refine Xd ?_ ?_|omega|with_reducible rfl|exact trivial)
    exact RetOK_pure' rfl rfl
end T

