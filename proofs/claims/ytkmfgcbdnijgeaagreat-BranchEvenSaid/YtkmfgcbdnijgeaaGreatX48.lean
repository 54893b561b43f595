import Derived.Test.YtkmfgcbdnijgeaaGreatX46
import Derived.Test.YtkmfgcbdnijgeaaGreatX47
import Derived.Test.YtkmfgcbdnijgeaaGreatX38
set_option linter.unusedVariables false
set_option linter.unusedSimpArgs false
set_option linter.unnecessarySimpa false
set_option linter.unusedSectionVars false
set_option maxHeartbeats 64000000
set_option maxRecDepth 20000
open Go Go.Am Go.Proofs
open Nat (reduceEqDiff reduceAdd reduceLeDiff reduceMul)
open Int (reduceNeg reduceLE reduceToNat)
namespace T
theorem refleft_ok (m:Mdl) (P:List Nd) (up:UpL) (node:Nat) (hm:MB m) (hv:VM m) (hP:PB P) (hf:formedV m P=some up) (hnd:node<P.length) :
    Holds Tryz.prog 77 [.agg (eMdl m),.agg (ePf P),.tree 2 (rowsOf eCh up),.lit (.int .i64 node)] [] (.tree 1 (rowsOf eBs (leftU m P up node))) []:=by
  have hp0:=hP.nds
  have hsh:=formed_shaped hf
  have hpl:=(shaped_len hsh).2
  have hc24:=hv.cls
  have h1:=refAllO_ok m hm hv
  have hui:=forU_UI _ _ (Nat.le_refl _) (formed_len hf).2
  have hul:=hui.len
  have hfit:=all_fits hv
  have hfl:=hfit.1
  have hleft:leftU m P up node=wayF P (anc up node) (allT m):=rfl
  generalize hres:leftU m P up node=res at *
  generalize hall:allT m=Y0 at *
  have hrl:(refsB 3 Y0).length=Y0.length:=refsB_len 3 Y0
  refine Holds.of_body' (fn:=Tryz.f77) 60 0 [.tmp 8] Tryz.func77 rfl rfl rfl rfl rfl (by simp) ?_
  ((refine Va @ePf.eq_1 ?_)<;>try with_reducible intro K hK)
  refine callK_sel [] h1 (by decide) trivial ⟨.pure rfl,trivial⟩ ?_
  have ha:renO (rho 2 []) (.arr 1 (refsB 1 Y0))=.arr 1 (refsB 3 Y0):=by
    rw[renO,refsB_ren (rho 2 []) Y0 3 1 fun j hj=>by unfold rho;rw[if_neg (by simp)];simp;omega]
  have hb2:(ownB Y0).map (renO (rho 2 []))=ownB Y0:=ownB_ren _ _
  have hc:ren (rho 2 []) (.ref 0 1 0 Y0.length)=.ref 2 1 0 Y0.length:=rfl
  have hd:∀ (l n:List Ob),mergeO l [] n=l++n:=fun l n=>by cases n<;>simp[mergeO]
  show opsL _ _ _ _ (St.put ⟨_,mergeO [_,_] [] (List.map (renO (rho 2 [])) _)⟩ _ (ren (rho 2 []) _))
  rw[List.map_cons,ha,hb2,hc,hd]
  simp (disch:=omega) only[Ac,↓Pc,simprocAttr]
  refine hK _ ?_
  clear hK K
  refine W_turn (σ':=⟨slots [(2,.tree 2 (rowsOf eCh up)),(3,.lit (.int .i64 node)),(5,.ptr 1 0 0),(9,.ref 2 1 0 Y0.length)],nP (.var (eMdl m)) (.var (ePf P)) (refsB 3 Y0) Y0⟩) (by unfold nP;exact Xv @ePf.eq_1) ?_
  refine Va X0 ?_
  refine W_loopS (fun z:Nat × List (List Bool)=>(⟨slots [(2,.tree 2 (rowsOf eCh up)),(5,.ptr 1 0 0),(9,.ref 2 1 0 Y0.length),(10,.lit (.int .i64 z.1))],nP (.var (eMdl m)) (.var (ePf P)) (refsB 3 Y0) z.2⟩:St))
    (fun z=>z.1<P.length∧z.2.map List.length=Y0.map List.length∧wayF P (anc up z.1) z.2=res) (fun z=>z.1) (node,Y0) ⟨hnd,rfl,hleft.symm⟩ (Xv X0) ?_
  rintro ⟨k,Y⟩ ⟨hk,hY,hway⟩ Ql hnl hel
  dsimp only at hk hY hway ⊢
  have hYl:=congrArg List.length hY
  rw[List.length_map,List.length_map] at hYl
  have hfY:=fits_map hfit hY
  rw[anc_step hui hk] at hway
  have hlow:=hui.low k hk
  unfold upG at hway hlow
  generalize huk:up.getD k default=uk at *
  rcases hlow with h1 | ⟨p,q,h1,h2,h3,_⟩
  · subst h1
    rw[if_neg (by decide)] at hway
    have hY2:Y=res:=hway
    subst hY2
    ((repeat' (first|refine Va (X5 @huk @eCh.eq_1 @hul @nP0 (X2 @nP1 @nP2)) ?_|(refine Xi ?_ ?_<;>try intro ht)|exact Xx|fail)))
    refine hel _ _ rfl ?_;clear hnl hel Ql
    repeat (refine Xu ?_)
    refine Vb X0 ?_
    refine RetOK_se [] true trivial ?_
    rw[← hYl]
    exact .snap _ _ rfl (frz_rows (nP2 _ _ _ _) (not_kept (by decide)) (by rw[hrl];exact hYl.symm) fun a ha=>⟨3+a,by rw[refsB_same 3 hY.symm];exact refsB_get 3 Y a ha,nPk _ _ _ ha,not_kept (by simp)⟩)
  · subst h1
    rw[if_pos (by dsimp only;omega)] at hway
    dsimp only at hway
    rw[Int.toNat_natCast] at hway
    have hpc:=kids_cls hsh (show p<P.length by omega) h3
    have hway:wayF P (anc up p) (onlyV Y (nd P p).cls.toNat q)=res:=hway
    unfold nd at hway hpc
    generalize hyy:P.getD p default=y at *
    obtain ⟨c,y1,y2,y3,y4⟩:=y
    dsimp only at hway hpc
    obtain ⟨c,rfl⟩ :∃cn:Nat,c=cn:=⟨c.toNat,by omega⟩
    rw[Int.toNat_natCast] at hway
    have hyi:=hfY.2 c (by omega)
    have hY0i:=hfit.2 c (by omega)
    have hl24:=hv.opt _ (getD_mem (l:=m.cls) (i:=c) (d:=default) (by omega))
    have hrg:=refsB_get 3 Y0 c (by omega)
    rw[hY0i] at hrg
    generalize hcc:(m.cls.getD c default).length=w at *
    ((repeat' (first|refine Va (X5 @ePf.eq_1 @huk @eCh.eq_1 @hul (X5 @hyy @eNd.eq_1 @nP0 @nP1 @nP2)) ?_|(refine Xi ?_ ?_<;>try intro ht)|exact Xx|fail)))
    refine W_loopS (fun z:Nat × List Bool=>(⟨slots [(2,.tree 2 (rowsOf eCh up)),(5,.ptr 1 0 0),(9,.ref 2 1 0 Y0.length),(10,.lit (.int .i64 k)),(11,.lit (.int .i64 c)),(12,.lit (.int .i64 z.1))],nP (.var (eMdl m)) (.var (ePf P)) (refsB 3 Y0) (Y.set c z.2)⟩:St))
      (fun z=>z.1≤w∧z.2.length=w∧∀ b,b<z.1→z.2.getD b false=(b == q)) (fun z=>w - z.1) (0,Y.getD c default) ⟨Nat.zero_le _,hyi,fun a ha=>absurd ha (Nat.not_lt_zero _)⟩ (by rw[set_self];exact Xv @ePf.eq_1) ?_
    rintro ⟨o,r⟩ ⟨ho,hr,hsr⟩ Ql2 hnl2 hel2
    dsimp only at ho hr hsr ⊢
    have hYs:(Y.set c r).length=Y.length:=List.length_set ..
    have f2:=nPk (.var (eMdl m)) (.var (ePf P)) (refsB 3 Y0) (Y:=Y.set c r) (i:=c) (by omega)
    rw[getD_set _ _ _ (by omega)] at f2
    have f3:=fun r2=>nPs (.var (eMdl m)) (.var (ePf P)) (refsB 3 Y0) (Y.set c r) c r2
    simp only[List.set_set] at f3
    unfold ePf eMdl at f2 f3
    by_cases ho':o<w
    · ((repeat' (first|refine Va (X5 @ePf.eq_1 @huk @eCh.eq_1 @hul (X5 @nP0 @nP1 @nP2 @hrg (X4 @f2 @f3 @bools_set @hr))) ?_|(refine Xi ?_ ?_<;>try intro ht)|exact Xx|fail)))
      have hdec:((o:Int) == (q:Int))=(o == q):=by rw[Bool.eq_iff_iff,beq_iff_eq,beq_iff_eq];omega
      rw[hdec]
      refine hnl2 _ (o+1,r.set o (o == q)) ⟨by dsimp only;omega,by dsimp only;rw[List.length_set];exact hr,onlyR_step hr hsr ho'⟩ (by dsimp only;omega) (Xv @ePf.eq_1)
    · obtain rfl:o=w:=by omega
      ((repeat' (first|refine Va (X5 @ePf.eq_1 @huk @eCh.eq_1 @hul (X5 @nP0 @nP1 @nP2 @hrg @f2)) ?_|(refine Xi ?_ ?_<;>try intro ht)|exact Xx|fail)))
      refine hel2 _ _ rfl ?_
      clear hnl2 hel2 Ql2
      repeat (refine Xu ?_)
      have hre:=onlyR_end hr hsr
      refine Va (X4 @ePf.eq_1 @huk @eCh.eq_1 @hul) ?_
      refine hnl _ (p,Y.set c r) ⟨by dsimp only;omega,?_,?_⟩ (by dsimp only;omega) (Xv @ePf.eq_1)
      · dsimp only
        rw[len_setB (by rw[hr,hyi])];exact hY
      · dsimp only
        rw[hre,← hway]
        unfold onlyV
        rw[hyi]
theorem excluded_ok (m:Mdl) (a x b y:Int) (hm:VM m) (ha:optB m a x=true) (hb0:optB m b y=true) :
    Holds Tryz.prog 116 [.agg (eMdl m),.agg [.lit (.int .i64 a),.lit (.int .i64 x)],.agg [.lit (.int .i64 b),.lit (.int .i64 y)]] [] (.lit (.bool (clV m a x b y))) []:=by
  have hpl:=hm.prs
  have hsw :∃A X B Y,optB m A X=true∧optB m B Y=true∧clV m a x b y=m.prs.any (clP m A X B Y)∧((b<a∧A=b∧X=y∧B=a∧Y=x)∨(¬ b<a∧A=a∧X=x∧B=b∧Y=y)):=by
    unfold clV
    by_cases h:b<a
    · exact⟨b,y,a,x,hb0,ha,by rw[if_pos h],.inl ⟨h,rfl,rfl,rfl,rfl⟩⟩
    · exact⟨a,x,b,y,ha,hb0,by rw[if_neg h],.inr ⟨h,rfl,rfl,rfl,rfl⟩⟩
  obtain ⟨A,X,B,Y,hA,hB,hcl,hcs⟩:=hsw
  generalize hres:clV m a x b y=res at *
  refine Holds.of_body' (fn:=Tryz.f116) 60 0 [.tmp 6] Tryz.func116 rfl rfl rfl rfl rfl (by simp) ?_
  repeat' (first|((fail_if_success (first|refine W_at 1 ?_|refine W_atE 1 ?_));refine Xr X0 ?_;intro K hK)|(refine hK _ ?_;clear hK K)|refine Xy ?_|fail)
  (refine unSq1 ?_);intro Q0 hn0 he0
  refine join_here ⟨slots [(3,.ptr 0 0 0),(4,.ptr 1 0 0),(5,.ptr 2 0 0)],[.var (eMdl m),.var [.lit (.int .i64 A),.lit (.int .i64 X)],.var [.lit (.int .i64 B),.lit (.int .i64 Y)]]⟩ hn0 ?_ (fun key=>?_)
  rotate_left
  · (try clear hn0)
    rcases hcs with ⟨h,rfl,rfl,rfl,rfl⟩ | ⟨h,rfl,rfl,rfl,rfl⟩
    all_goals
      ((repeat' (first|refine Va X0 ?_|(refine Xi ?_ ?_<;>try intro ht)|exact Xx|fail)))
      all_goals
        refine key _ ?_
        exact Xv X0
  (try clear hn0)
  try (try clear Q0)
  clear hcs
  refine Va X0 ?_
  refine W_loopS (fun i:Nat=>(⟨slots [(3,.ptr 0 0 0),(4,.ptr 1 0 0),(5,.ptr 2 0 0),(7,.lit (.int .i64 i))],[.var (eMdl m),.var [.lit (.int .i64 A),.lit (.int .i64 X)],.var [.lit (.int .i64 B),.lit (.int .i64 Y)]]⟩:St))
    (fun i=>i≤m.prs.length∧∀ a,a<i→clP m A X B Y (m.prs.getD a default)=false) (fun i=>m.prs.length - i) 0 ⟨Nat.zero_le _,fun a ha=>absurd ha (Nat.not_lt_zero _)⟩ (Xv X0) ?_
  rintro i ⟨hi,hno⟩ Ql hnl hel
  by_cases hi':i<m.prs.length
  · have hpm:=getD_mem (l:=m.prs) (i:=i) (d:=default) hi'
    have hpb:=prsL_mem hm.pr _ hpm
    have hgo:clP m A X B Y (m.prs.getD i default)=false→∀ a,a<i+1→clP m A X B Y (m.prs.getD a default)=false:=fun h a ha=>by
      by_cases e:a=i
      · subst e;exact h
      · exact hno a (by omega)
    have hhit:clP m A X B Y (m.prs.getD i default)=true→res=true:=fun h=>by
      rw[hcl];exact List.any_eq_true.2 ⟨_,hpm,h⟩
    obtain ⟨a1,a2,a3,a4⟩:=optB_iff.1 hA
    obtain ⟨b1,b2,b3,b4⟩:=optB_iff.1 hB
    obtain ⟨q1,q2,q3,q4,q5⟩:=pairB_iff hpb
    have hl1:=hm.opt _ (getD_mem (l:=m.cls) (i:=A.toNat) (d:=default) (by omega))
    have hl2:=hm.opt _ (getD_mem (l:=m.cls) (i:=B.toNat) (d:=default) (by omega))
    have hc24:=hm.cls
    generalize hpp:m.prs.getD i default=p at *
    unfold clP entryV at hhit
    obtain ⟨fs,sn,ru,tab⟩:=p
    dsimp only at *
    by_cases hp2:fs=A∧sn=B
    · obtain ⟨rfl,rfl⟩:=hp2
      unfold clP entryV at hgo
      dsimp only at hgo
      generalize hcA:m.cls.getD fs.toNat default=CA at *
      generalize hcB:m.cls.getD sn.toNat default=CB at *
      obtain ⟨e1,e2,e3⟩:=entry_idx ⟨a3,a4⟩ ⟨b3,b4⟩ (by omega) (by omega)
      generalize hix:X * (CB.length:Int)=ix at *
      have hA2:((CA.length * CB.length:Nat):Int)=CA.length * CB.length:=by simp
      generalize hv:tab.getD (ix+Y).toNat 0=v at *
      by_cases h3:v=1099511627776
      · have hr:=hhit (decide_eq_true ⟨rfl,rfl,h3⟩)
        ((repeat' (first|refine Va (X5 @hpp @ePr.eq_1 @hcB @eCls.eq_1 (X2 @hix @hv)) ?_|(refine Xi ?_ ?_<;>try intro ht)|exact Xx|fail)))
        all_goals
          repeat (refine Xu ?_)
          subst hr
          refine Vb X0 ?_
          exact RetOK_pure' rfl rfl
      · have hgo:=hgo (decide_eq_false fun h=>h3 h.2.2)
        ((repeat' (first|refine Va (X5 @hpp @ePr.eq_1 @hcB @eCls.eq_1 (X2 @hix @hv)) ?_|(refine Xi ?_ ?_<;>try intro ht)|exact Xx|fail)))
        all_goals exact hnl _ (i+1) ⟨by omega,hgo⟩ (by omega) (Xs false [0,1,2] X0)
    · have hgo:=hgo (by unfold clP;exact decide_eq_false fun h=>hp2 ⟨h.1,h.2.1⟩)
      ((repeat' (first|refine Va (X2 @hpp @ePr.eq_1) ?_|(refine V2 (X2 @hpp @ePr.eq_1) ?_ ?_<;>try with_reducible intro hb)|(refine Xi ?_ ?_<;>try intro ht)|exact Xx|fail)))
      all_goals exact hnl _ (i+1) ⟨by omega,hgo⟩ (by omega) (Xs false [0,1,2] X0)
  · ((repeat' (first|refine Va X0 ?_|(refine V2 X0 ?_ ?_<;>try with_reducible intro hb)|(refine Xi ?_ ?_<;>try intro ht)|exact Xx|fail)))
    refine hel _ _ rfl ?_;clear hnl hel Ql
    repeat (refine Xu ?_)
    have hr:res=false:=by
      rw[hcl,List.any_eq_false]
      intro p hp
      obtain ⟨a,ha,rfl⟩:=List.getElem_of_mem hp
      have:=hno a (by omega)
      rw[List.getD_eq_getElem?_getD,List.getElem?_eq_getElem ha,Option.getD_some] at this
      rw[this];simp
    subst hr
    refine Vb X0 ?_
    exact RetOK_pure' rfl rfl
end T

