import Derived.Test.YtibijngmebpmmaaP6
import Derived.Test.YtibijngmebpmmaaPD
import Derived.Test.YtibijngmebpmmaaMC
set_option linter.unusedVariables false
set_option linter.unusedSimpArgs false
set_option linter.unnecessarySimpa false
open Go Go.Am Go.Proofs
open Nat (reduceEqDiff reduceAdd reduceLeDiff reduceMul)
open Int (reduceNeg reduceLE reduceToNat)
set_option maxRecDepth 20000
namespace T
def chkS (m:Mdl) (P:List Nd) (b:Int) (s:St3):Int × Bool :=
  if (nd P s.1).cls≠-1 then (b,true)
  else if 0<(nd P s.1).grp.length then (b,crowdedB m (nd P s.1) s.2.1)
  else (min b (leafT m s.2.1 (nd P s.1).mvs).1,(leafT m s.2.1 (nd P s.1).mvs).2 == 0)
def chkV (m:Mdl) (P:List Nd):Int × Bool:=if (walkV m P (chkS m P) 1099511627776).2=true then ((walkV m P (chkS m P) 1099511627776).1,true) else (0,false)
set_option maxHeartbeats 8000000 in
theorem chk1_ok (m:Mdl) (P:List Nd) (hP:PB P) (hm:VM m) (b:Int) (s:St3) (hs:GoodS m P s) :
    Holds Try.prog 30 [.agg [.lit (.int .i64 s.1),.tree 1 (rowsOf eBs s.2.1)],.ptr 1 0 0,.ptr 0 0 0,.ptr 2 0 0] [.var (eMdl m),.var (ePf P),.var [.lit (.int .i64 b)]] (.lit (.bool (chkS m P b s).2)) [.var (eMdl m),.var (ePf P),.var [.lit (.int .i64 (chkS m P b s).1)]]:=by
  obtain ⟨i,left,ab⟩:=s
  have hi:i<P.length:=hs.1
  have hf:FitsP m left:=hs.2.1
  have hp0:=hP.nds
  have hnd:P.getD i default=nd P i:=rfl
  have hmem:=getD_mem (l:=P) (i:=i) (d:=default) hi
  have b2:=hP.mvs _ hmem
  have b3:=hP.grp _ hmem
  have b4:=hP.cells _ hmem
  have b5:=hP.cell _ hmem
  generalize hres:chkS m P b (i,left,ab)=res
  unfold chkS at hres
  rw[hnd] at b2 b3 b4 b5
  dsimp only at hres
  have hcr:=crowded_ok m (nd P i) left hm hf b3 b4 b5
  have hlf:=leaf_ok m left (nd P i).mvs hm hf b2
  generalize crowdedB m (nd P i) left=cw at *
  generalize leafT m left (nd P i).mvs=lt at *
  generalize hxx:nd P i=x at *
  obtain ⟨c,kids,mvs,grp,cells⟩:=x
  obtain ⟨v,e⟩:=lt
  dsimp only at *
  refine Holds.of_body' (fn:=Try.f30) 41 3 [.tmp 5] Try.func30 rfl rfl rfl rfl rfl (by simp) ?_
  by_cases hc:c = -1
  rotate_left
  · rw[if_pos hc] at hres
    repeat' (first|((first|((first|refine rr ?_|refine rre ?_);intro K hK)|with_reducible refine gO ?_);simp (disch:=omega) only[Ac,↓Pc,simprocAttr,ePf,hnd,eNd])|(refine hK _ ?_;clear hK K)|(with_reducible refine gS (fun hb'=>?_) (fun hb'=>?_)<;>(have hb:=hb';(try simp only[DEc,simprocAttr] at hb);simp (disch:=omega) only[Ac,↓Pc,simprocAttr,ePf,hnd,eNd,hb'];clear hb'))|(refine Wc (fun ht=>?_) (fun ht=>?_)<;>(try simp only[DEc,simprocAttr] at ht))|refine Wz rfl ?_|(refine Wb ?_;intro Qb hnb hxb heb)|(refine Wk ?_;intro Q hn he)|((first|refine hn _ ?_|refine he _ _ rfl ?_);clear hn he;try clear Q)|((first|refine hnb _ ?_|refine hxb _ ?_|refine heb _ _ rfl ?_);clear hnb hxb heb;try clear Qb)|(refine hel _ _ rfl ?_;clear hnl hel;try clear Ql)|(simp only[Qc,Kc,simprocAttr])|with_reducible refine And.intro ?_ ?_|omega|with_reducible rfl)
    all_goals try (exfalso;omega)
    subst hres
    (refine RetOK_se [0,1,2] false (by simp only[Oc,simprocAttr,ePf]) ?_;first|exact .pure rfl|exact .eq rfl|exact .fz rfl (by simp only[Bc,Rc]))
  rw[if_neg (by omega)] at hres
  by_cases hg:0<grp.length
  · rw[if_pos hg] at hres
    repeat' (first|((first|((first|refine rr ?_|refine rre ?_|refine rb ?_|refine rbe ?_|refine ra ?_|refine rae ?_);intro K hK)|with_reducible refine gO ?_);simp (disch:=omega) only[Ac,↓Pc,simprocAttr,ePf,hnd,eNd])|(first|refine callK_pure (hcr) rfl rfl ?_|refine callQ_pure (hcr) rfl rfl ?_)|(refine hK _ ?_;clear hK K)|(with_reducible refine gS (fun hb'=>?_) (fun hb'=>?_)<;>(have hb:=hb';(try simp only[DEc,simprocAttr] at hb);simp (disch:=omega) only[Ac,↓Pc,simprocAttr,ePf,hnd,eNd,hb'];clear hb'))|(refine Wc (fun ht=>?_) (fun ht=>?_)<;>(try simp only[DEc,simprocAttr] at ht))|refine Wz rfl ?_|(refine Wb ?_;intro Qb hnb hxb heb)|(refine Wk ?_;intro Q hn he)|((first|refine hn _ ?_|refine he _ _ rfl ?_);clear hn he;try clear Q)|((first|refine hnb _ ?_|refine hxb _ ?_|refine heb _ _ rfl ?_);clear hnb hxb heb;try clear Qb)|(refine hel _ _ rfl ?_;clear hnl hel;try clear Ql)|(simp only[Qc,Kc,simprocAttr])|with_reducible refine And.intro ?_ ?_|omega|with_reducible rfl)
    all_goals try (exfalso;omega)
    subst hres
    (refine RetOK_se [0,1,2] false (by simp only[Oc,simprocAttr,ePf]) ?_;first|exact .pure rfl|exact .eq rfl|exact .fz rfl (by simp only[Bc,Rc]))
  rw[if_neg hg] at hres
  repeat' (first|((first|((first|refine rr ?_|refine rre ?_|refine rb ?_|refine rbe ?_|refine ra ?_|refine rae ?_);intro K hK)|with_reducible refine gO ?_);simp (disch:=omega) only[Ac,↓Pc,simprocAttr,ePf,hnd,eNd])|(first|refine callK_pure (hlf) rfl rfl ?_|refine callQ_pure (hlf) rfl rfl ?_)|(refine hK _ ?_;clear hK K)|(with_reducible refine gS (fun hb'=>?_) (fun hb'=>?_)<;>(have hb:=hb';(try simp only[DEc,simprocAttr] at hb);simp (disch:=omega) only[Ac,↓Pc,simprocAttr,ePf,hnd,eNd,hb'];clear hb'))|(refine Wc (fun ht=>?_) (fun ht=>?_)<;>(try simp only[DEc,simprocAttr] at ht))|refine Wz rfl ?_|(refine Wb ?_;intro Qb hnb hxb heb)|(refine Wk ?_;intro Q hn he)|((first|refine hn _ ?_|refine he _ _ rfl ?_);clear hn he;try clear Q)|((first|refine hnb _ ?_|refine hxb _ ?_|refine heb _ _ rfl ?_);clear hnb hxb heb;try clear Qb)|(refine hel _ _ rfl ?_;clear hnl hel;try clear Ql)|(simp only[Qc,Kc,simprocAttr])|with_reducible refine And.intro ?_ ?_|omega|with_reducible rfl)
  all_goals try (exfalso;omega)
  subst hres
  (refine RetOK_se [0,1,2] false (by simp only[Oc,simprocAttr,ePf]) ?_;first|exact .pure rfl|exact .eq rfl|exact .fz rfl (by simp only[Bc,Rc]))
theorem check_ok (m:Mdl) (P:List Nd) (hm:MB m) (hP:PB P):Holds Try.prog 11 [.agg (eMdl m),.agg (ePf P)] [] (.tup [.lit (.int .i64 (chkV m P).1),.lit (.bool (chkV m P).2)]) []:=by
  have hw:=walk_ok m P hm hP (fun _=>.var (eMdl m)) (fun _=>.var (ePf P)) (fun b:Int=>.var [.lit (.int .i64 b)]) [.ptr 1 0 0,.ptr 0 0 0,.ptr 2 0 0] 30 (chkS m P) (Inv:=fun _ _=>True)
    ⟨fun ρ h0 h1 h2 a=>⟨rfl,rfl,rfl⟩,fun ρ h0 h1 h2 v hv=>by
      simp only[List.mem_cons,List.not_mem_nil,or_false] at hv
      rcases hv with rfl | rfl | rfl<;>simp only[ren,h0,h1,h2],fun _ _ _ _ _=>trivial,fun hvm a s _ hs _=>chk1_ok m P hP hvm a s hs⟩ 1099511627776 (fun _ _=>trivial)
  generalize hres:chkV m P=res
  unfold chkV at hres
  generalize walkV m P (chkS m P) 1099511627776=r at *
  obtain ⟨b,ok⟩:=r
  dsimp only at hw hres
  refine Holds.of_body' (fn:=Try.f11) 15 0 [.tmp 4,.tmp 5] Try.func11 rfl rfl rfl rfl rfl (by simp) ?_
  repeat' (first|((first|((first|refine rr ?_|refine rre ?_);intro K hK)|with_reducible refine gO ?_);simp (disch:=omega) only[Ac,↓Pc,simprocAttr,ePf])|(refine hK _ ?_;clear hK K)|(with_reducible refine gS (fun hb'=>?_) (fun hb'=>?_)<;>(have hb:=hb';(try simp only[DEc,simprocAttr] at hb);simp (disch:=omega) only[Ac,↓Pc,simprocAttr,ePf,hb'];clear hb'))|(refine Wc (fun ht=>?_) (fun ht=>?_)<;>(try simp only[DEc,simprocAttr] at ht))|refine Wz rfl ?_|(refine Wb ?_;intro Qb hnb hxb heb)|(refine Wk ?_;intro Q hn he)|((first|refine hn _ ?_|refine he _ _ rfl ?_);clear hn he;try clear Q)|((first|refine hnb _ ?_|refine hxb _ ?_|refine heb _ _ rfl ?_);clear hnb hxb heb;try clear Qb)|(refine hel _ _ rfl ?_;clear hnl hel;try clear Ql)|(simp only[Qc,Kc,simprocAttr])|with_reducible refine And.intro ?_ ?_|omega|with_reducible rfl)
  refine callK_all hw (by simp) ?_
  cases ok
  · rw[if_neg (by simp)] at hres
    repeat' (first|((first|((first|refine rr ?_|refine rre ?_);intro K hK)|with_reducible refine gO ?_);simp (disch:=omega) only[Ac,↓Pc,simprocAttr,Bool.not_false])|(refine hK _ ?_;clear hK K)|(with_reducible refine gS (fun hb'=>?_) (fun hb'=>?_)<;>(have hb:=hb';(try simp only[DEc,simprocAttr] at hb);simp (disch:=omega) only[Ac,↓Pc,simprocAttr,Bool.not_false,hb'];clear hb'))|(refine Wc (fun ht=>?_) (fun ht=>?_)<;>(try simp only[DEc,simprocAttr] at ht))|refine Wz rfl ?_|(refine Wb ?_;intro Qb hnb hxb heb)|(refine Wk ?_;intro Q hn he)|((first|refine hn _ ?_|refine he _ _ rfl ?_);clear hn he;try clear Q)|((first|refine hnb _ ?_|refine hxb _ ?_|refine heb _ _ rfl ?_);clear hnb hxb heb;try clear Qb)|(refine hel _ _ rfl ?_;clear hnl hel;try clear Ql)|(simp only[Qc,Kc,simprocAttr])|with_reducible refine And.intro ?_ ?_|omega|with_reducible rfl)
    subst hres
    exact RetOK_pure' rfl rfl
  · rw[if_pos rfl] at hres
    repeat' (first|((first|((first|refine rr ?_|refine rre ?_);intro K hK)|with_reducible refine gO ?_);simp (disch:=omega) only[Ac,↓Pc,simprocAttr,Bool.not_true])|(refine hK _ ?_;clear hK K)|(with_reducible refine gS (fun hb'=>?_) (fun hb'=>?_)<;>(have hb:=hb';(try simp only[DEc,simprocAttr] at hb);simp (disch:=omega) only[Ac,↓Pc,simprocAttr,Bool.not_true,hb'];clear hb'))|(refine Wc (fun ht=>?_) (fun ht=>?_)<;>(try simp only[DEc,simprocAttr] at ht))|refine Wz rfl ?_|(refine Wb ?_;intro Qb hnb hxb heb)|(refine Wk ?_;intro Q hn he)|((first|refine hn _ ?_|refine he _ _ rfl ?_);clear hn he;try clear Q)|((first|refine hnb _ ?_|refine hxb _ ?_|refine heb _ _ rfl ?_);clear hnb hxb heb;try clear Qb)|(refine hel _ _ rfl ?_;clear hnl hel;try clear Ql)|(simp only[Qc,Kc,simprocAttr])|with_reducible refine And.intro ?_ ?_|omega|with_reducible rfl)
    subst hres
    exact RetOK_pure' rfl rfl
theorem trivial_ok:Holds Try.prog 18 [] [] (.agg (ePf [⟨-1,[],[],[],[]⟩])) []:=by
  refine Holds.of_body' (fn:=Try.f18) 4 0 [.cell 0 37] Try.func18 rfl rfl rfl rfl rfl (by simp) ?_
  repeat' (first|((first|((first|refine rr ?_|refine rre ?_);intro K hK)|with_reducible refine gO ?_);simp (disch:=omega) only[Ac,↓Pc,simprocAttr])|(refine hK _ ?_;clear hK K)|(with_reducible refine gS (fun hb'=>?_) (fun hb'=>?_)<;>(have hb:=hb';(try simp only[DEc,simprocAttr] at hb);simp (disch:=omega) only[Ac,↓Pc,simprocAttr,hb'];clear hb'))|(refine Wc (fun ht=>?_) (fun ht=>?_)<;>(try simp only[DEc,simprocAttr] at ht))|refine Wz rfl ?_|(refine Wb ?_;intro Qb hnb hxb heb)|(refine Wk ?_;intro Q hn he)|((first|refine hn _ ?_|refine he _ _ rfl ?_);clear hn he;try clear Q)|((first|refine hnb _ ?_|refine hxb _ ?_|refine heb _ _ rfl ?_);clear hnb hxb heb;try clear Qb)|(refine hel _ _ rfl ?_;clear hnl hel;try clear Ql)|(simp only[Qc,Kc,simprocAttr])|with_reducible refine And.intro ?_ ?_|omega|with_reducible rfl)
  simp (disch:=omega) only[Ac,↓Pc,simprocAttr]
  refine RetOK_sel [] true (by decide) trivial (by decide) (by decide) ?_
  refine ArgR.agg _ _ rfl (ArgsR.spec (R:=ArgR _ _ _ _) (cs:=ePf [⟨-1,[],[],[],[]⟩]) (ds:=[.ref 1 5 0 1]) ⟨.snap _ _ rfl ?_,trivial⟩).2
  exact Frz.mk rfl rfl (not_kept (by decide)) (rows_wid _) ⟨⟨.lit _,.nil _,.nil _,.nil _,.nil _,trivial⟩,trivial⟩
end T

