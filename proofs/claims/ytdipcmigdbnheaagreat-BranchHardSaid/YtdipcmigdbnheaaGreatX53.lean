import Derived.Test.YtdipcmigdbnheaaGreatX50
import Derived.Test.YtdipcmigdbnheaaGreatX47
import Derived.Test.YtdipcmigdbnheaaGreatX24
import Derived.Test.YtdipcmigdbnheaaGreatX45
import Derived.Test.YtdipcmigdbnheaaGreatX48
import Derived.Test.YtdipcmigdbnheaaGreatX40
import Derived.Test.YtdipcmigdbnheaaGreatX41
import Derived.Test.YtdipcmigdbnheaaGreatX51
import Derived.Test.YtdipcmigdbnheaaGreatX46
import Derived.Test.YtdipcmigdbnheaaGreatX52
set_option linter.unusedVariables false
set_option linter.unusedSimpArgs false
set_option linter.unnecessarySimpa false
set_option linter.unusedSectionVars false
set_option maxHeartbeats 64000000
set_option maxRecDepth 20000
open Bool renaming not_true→gQ
open List renaming isEmpty_iff→KJ
open Go Go.Am Go.Proofs
open Nat (reduceEqDiff reduceAdd reduceLeDiff reduceMul)
open Int (reduceNeg reduceLE reduceToNat)
namespace T
def sU (s:DS):AV:=.agg [df (.lit (.slice none 0 0)) 1099511627776 s,.lit (.int .i64 s.bO),.lit (.int .i64 s.cu),.tree 5 (rowsOf aM s.nodes)]
def vH:AV:=.agg [.lit (.slice none 0 0),.lit (.int .i64 0),.lit (.int .i64 0),.lit (.slice none 0 0)]
theorem NJ (m:ah) (hm:VM m) (hw:(bx m).whole=true):ao Tryz.prog 39 [.agg (ar m)] [] (.bL [sU (bx m),.lit (.int .i64 0)]) []:=by
  have h1:=vI m hm.mb
  rw[iJ.2 hm] at h1
  have hg:=NK m hm 20000 (by decide) [] 1099511627776 (.lit (.slice none 0 0)) rfl rfl 0
  rw[show vJ m 20000 [] 1099511627776=bx m from rfl,hw] at hg
  unfold sU
  generalize bx m=s at *
  have kh:cm (df (.lit (.slice none 0 0)) 1099511627776 s)=true:=by unfold df;split<;>rfl
  have vK:=Ec (pv:=.lit (.slice none 0 0)) (t0:=1099511627776) (s:=s) rfl
  have fN:∀ ρ,aX ρ (df (.lit (.slice none 0 0)) 1099511627776 s)=df (.lit (.slice none 0 0)) 1099511627776 s:=fun ρ=>by unfold df;split<;>rfl
  generalize df (.lit (.slice none 0 0)) 1099511627776 s=pa at *
  refine ao.aF (fn:=Tryz.f39) 23 0 [.cell 2 41,.tmp 3] Tryz.func39 rfl rfl rfl rfl rfl (by simp) ?_
  ((repeat' (first|refine Vd (X2 @kh @bne_self_eq_false.{0}) h1 ?_|(refine Xi ?_ ?_<;>try intro ht)|exact Xx|fail))<;>try with_reducible intro K hK)
  (refine Xn [] (hg) ?_;simp (disch:=omega) only[Ac,↓Pc,simprocAttr,fN])
  ((try revert hK K);(repeat' (first|refine Vb (X3 @kh @fN @gQ) ?_|(refine Xi ?_ ?_<;>try intro ht)|exact Xx|fail)))
  all_goals try (exfalso;simp_all;done)
  all_goals
    simp (disch:=omega) only[Ac,↓Pc,simprocAttr,rowOf]
    exact aC (by simp[gT,iO,vK]) rfl
theorem ZR (m:ah) (hm:VM m) (hw:(bx m).whole=false):ao Tryz.prog 39 [.agg (ar m)] [] (.bL [vH,.lit (.int .i64 61)]) []:=by
  have h1:=vI m hm.mb
  rw[iJ.2 hm] at h1
  have hg:=NK m hm 20000 (by decide) [] 1099511627776 (.lit (.slice none 0 0)) rfl rfl 0
  rw[show vJ m 20000 [] 1099511627776=bx m from rfl,hw] at hg
  unfold vH
  generalize bx m=s at *
  have kh:cm (df (.lit (.slice none 0 0)) 1099511627776 s)=true:=by unfold df;split<;>rfl
  have vK:=Ec (pv:=.lit (.slice none 0 0)) (t0:=1099511627776) (s:=s) rfl
  have fN:∀ ρ,aX ρ (df (.lit (.slice none 0 0)) 1099511627776 s)=df (.lit (.slice none 0 0)) 1099511627776 s:=fun ρ=>by unfold df;split<;>rfl
  generalize df (.lit (.slice none 0 0)) 1099511627776 s=pa at *
  refine ao.aF (fn:=Tryz.f39) 23 0 [.cell 2 41,.tmp 3] Tryz.func39 rfl rfl rfl rfl rfl (by simp) ?_
  ((repeat' (first|refine Vd (X2 @kh @bne_self_eq_false.{0}) h1 ?_|(refine Xi ?_ ?_<;>try intro ht)|exact Xx|fail))<;>try with_reducible intro K hK)
  (refine Xn [] (hg) ?_;simp (disch:=omega) only[Ac,↓Pc,simprocAttr,fN])
  ((try revert hK K);(repeat' (first|refine Vb (X3 @kh @fN @Bool.not_false) ?_|(refine Xi ?_ ?_<;>try intro ht)|exact Xx|fail)))
  all_goals try (exfalso;simp_all;done)
  all_goals
    simp (disch:=omega) only[Ac,↓Pc,simprocAttr,rowOf]
    exact aC rfl rfl
theorem ZS (m:ah) (hm:VM m) (hf:[]∈m.cls∨ki m m.cls.length≤8000):ao Tryz.prog 22 [.agg (ar m),sU (bx m)] [] (.lit (.bool true)) []:=by
  obtain ⟨l1,l2,l3,l4,l5⟩:=Ed hm hf
  have hP:=(NL hm).1
  have hq:=ZT m (bx m).nodes hm.mb hP (fun x left hx hv hf=>ZU m x left hv hf (hP.cM x hx) (hP.cells x hx) (hP.cell x hx))
  rw[ZV,l4] at hq
  have vL:=@NM m
  have zt:=Ee m m.cls.length []
  have cV:m.cls.length=0→gu m m.cls.length []=([],0):=fun h=>by
    rw[h]
    unfold gu
    rw[ZW hm h,if_neg (by omega)]
  rw[← l2] at vL zt cV
  have mc:=hm.cls
  unfold sU
  rw[l3]
  dsimp only at hq vL
  rcases zt with h | h
  · have hp:=congrArg Prod.fst h
    have ht:=congrArg Prod.snd h
    dsimp only at hp ht
    have Bk:df (.lit (.slice none 0 0)) 1099511627776 (bx m)=.lit (.slice none 0 0):=by unfold df;rw[ht,if_neg (by omega)]
    have hn:0<m.cls.length:=by
      rcases Nat.eq_zero_or_pos m.cls.length with h0 | h0
      · have:=congrArg Prod.snd (cV h0)
        dsimp only at this
        omega
      · exact h0
    rw[Bk]
    rw[ht] at hq ⊢
    generalize (bx m).nodes=P at *
    (try clear cV;clear vL h ht hp Bk l1 l2 l3 l4 l5)
    refine ao.aF (fn:=Tryz.f22) 72 0 [.tmp 4] Tryz.func22 rfl rfl rfl rfl rfl (by simp) ?_
    ((repeat' (first|refine Vd X0 hq ?_|(refine Xi ?_ ?_<;>try intro ht)|exact Xx|fail)))
    all_goals try (exfalso;simp_all;done)
    all_goals exact aC rfl (by first|rfl|simp)
  · dsimp only at h
    obtain ⟨rP,HQ⟩:=vL h
    have Bk:df (.lit (.slice none 0 0)) 1099511627776 (bx m)=.tree 1 (ints (bx m).plan):=by unfold df;rw[if_pos h]
    have kd:=NN m (bx m).plan hm.mb (by have:=rP.len;omega)
    rw[NO hm rP.pm] at kd
    dsimp only at kd
    have fY:=ZX m (bx m).plan hm.mb (by have:=rP.len;omega)
    rw[ZY hm rP] at fY
    unfold lF at HQ
    rw[HQ] at kd
    rw[Bk]
    have dz:=rP.len
    generalize (bx m).nodes=P at *
    generalize nq m (bx m).plan=rl at *
    generalize (bx m).plan=plan at *
    generalize (bx m).bO=bO at *
    (try clear cV;clear l1 l2 l3 l4 l5 HQ Bk)
    refine ao.aF (fn:=Tryz.f22) 72 0 [.tmp 4] Tryz.func22 rfl rfl rfl rfl rfl (by simp) ?_
    ((repeat' (first|refine Vd @bne_self_eq_false.{0} (X3 hq kd fY) ?_|(refine V2 @bne_self_eq_false.{0} ?_ ?_<;>try with_reducible intro hb)|(refine Xi ?_ ?_<;>try intro ht)|exact Xx|fail)))
    all_goals exact aC rfl (by first|rfl|(rw[decide_eq_true h];done)|simp_all|(simp;omega))
def oW:bK:=⟨0,0,0,0,0,[]⟩
def mW:ah:=⟨[[oW,oW],[oW]],[⟨0,1,0,[1099511627776,4]⟩],[],1⟩
theorem zu:VM mW:=iJ.1 (by decide +kernel)
theorem ZZ:(bx mW).plan=[1,0]:=by decide +kernel
theorem NP:(bx mW).bO=4:=by decide +kernel
theorem Z0:lG mW (bx mW).nodes=(4,true):=by
  have:=(Ed zu (.inr (by decide))).2.2.2.1
  rwa [NP] at this
theorem Z1:∀ x∈(bx mW).nodes,x.cY=[]∧x.cM=[]:=by
  have h:((bx mW).nodes.all fun x=>x.cY.isEmpty && x.cM.isEmpty)=true:=by decide +kernel
  intro x hx
  have:=List.all_eq_true.1 h x hx
  rw[Bool.and_eq_true,KJ,KJ] at this
  exact this
theorem Z2:(bx mW).whole=true:=(Ed zu (.inr (by decide))).1
theorem Bl:ao Tryz.prog 12 [] [] (.lit (.bool true)) []:=by
  have h1:=NJ mW zu Z2
  have h2:=Z3 mW (bx mW).nodes Z1 rfl zu.mb (NL zu).1
  rw[Z0] at h2
  have h3:=Z4 mW zu.mb
  rw[show nr mW=2 by decide +kernel] at h3
  have h4:=Ef [1,0] [1,0] (by decide)
  rw[show decide (([1,0]:List Int)=[1,0])=true from rfl] at h4
  have zb:sU (bx mW)=.agg [.tree 1 (ints [1,0]),.lit (.int .i64 4),.lit (.int .i64 (bx mW).cu),.tree 5 (rowsOf aM (bx mW).nodes)]:=by
    unfold sU df
    rw[ZZ,NP];rfl
  rw[zb] at h1
  generalize (bx mW).nodes=P at *
  generalize (bx mW).cu=b at *
  clear zb
  refine ao.aF (fn:=Tryz.f12) 53 0 [.tmp 0] Tryz.func12 rfl rfl rfl rfl rfl (by simp) ?_
  repeat' (first|((fail_if_success (first|refine im 1 ?_|refine iq 1 ?_));refine Xr X0 ?_;intro K hK)|(refine hK _ ?_;clear hK K)|refine XY ?_|fail)
  have zl:∀ (σ:St) (kp:Nat→Prop),iF (bV σ kp) (rowsOf bX [oW]) [[.lit (.int .i64 0),.lit (.int .i64 0),.lit (.int .i64 0),.lit (.int .i64 0),.lit (.int .i64 0),.lit (.slice none 0 0)]]:=fun σ kp =>
    ⟨⟨.lit _,.lit _,.lit _,.lit _,.lit _,.nil 2,trivial⟩,trivial⟩
  have gD:∀ (σ:St) (kp:Nat→Prop),iF (bV σ kp) (rowsOf bX [oW,oW]) [[.lit (.int .i64 0),.lit (.int .i64 0),.lit (.int .i64 0),.lit (.int .i64 0),.lit (.int .i64 0),.lit (.slice none 0 0)],[.lit (.int .i64 0),.lit (.int .i64 0),.lit (.int .i64 0),.lit (.int .i64 0),.lit (.int .i64 0),.lit (.slice none 0 0)]]:=fun σ kp =>
    ⟨⟨.lit _,.lit _,.lit _,.lit _,.lit _,.nil 2,trivial⟩,⟨.lit _,.lit _,.lit _,.lit _,.lit _,.nil 2,trivial⟩,trivial⟩
  refine HR 10 (by decide) ?_
  intro K K1 hK vM
  simp (disch:=omega) only[Ac,↓Pc,simprocAttr,List.take]
  refine vM _ ⟨av [(15,.agg (ar mW))],[]⟩ ?_ ?_
  · refine aA.aj [] true _ _ (by decide) trivial (by decide) (by decide) ⟨?_,trivial⟩
    simp only[Kc,simprocAttr]
    refine aN.agg _ _ rfl (fD.spec (R:=aN _ _ _ _) (cs:=ar mW) (ds:=[.ref 2 1 0 2,.ref 4 4 0 1,.lit (.slice none 0 0),.lit (.int .i64 1)]) ⟨.snap _ _ rfl ?_,.snap _ _ rfl ?_,.snap _ _ rfl (.nil 4),.pure rfl,trivial⟩).2
    · exact bV.mk rfl rfl (hU (by decide)) (fZ _) ⟨⟨bV.mk rfl rfl (hU (by decide)) (fZ _) (gD _ _),trivial⟩,⟨bV.mk rfl rfl (hU (by decide)) (fZ _) (zl _ _),trivial⟩,trivial⟩
    · exact bV.mk rfl rfl (hU (by decide)) (fZ _) ⟨⟨.lit _,.lit _,.lit _,bV.mk rfl rfl (hU (by decide)) (qq _) ⟨⟨.lit _,trivial⟩,⟨.lit _,trivial⟩,trivial⟩,trivial⟩,trivial⟩
  clear vM K1 zl gD
  simp (disch:=omega) only[Ac,↓Pc,simprocAttr,List.drop]
  refine hK _ ?_
  clear hK K
  generalize mW=m at *
  repeat (refine Xu ?_)
  ((refine Vd X0 (X2 h1 h2) ?_)<;>try with_reducible intro K hK)
  (refine Xf [] (h4) ?_;simp (disch:=omega) only[Ac,↓Pc,simprocAttr])
  ((try revert hK K);(refine Vd X0 h3 ?_))
  all_goals exact aC rfl rfl
theorem Z5 (m:ah) (hm:MB m) (hv:dI m≠0):ao Tryz.prog 18 [.agg (ar m)] [] (.bL [vH,.lit (.int .i64 (dI m))]) []:=by
  have h1:=NQ m hm hv
  generalize dI m=e at *
  unfold vH
  unfold zM at h1
  refine ao.aF (fn:=Tryz.f18) 19 0 [.cell 2 41,.tmp 3] Tryz.func18 rfl rfl rfl rfl rfl (by simp) ?_
  ((repeat' (first|refine Vd @bne_self_eq_false.{0} h1 ?_|(refine Xi ?_ ?_<;>try intro ht)|exact Xx|fail)))
  all_goals
    simp (disch:=omega) only[Ac,↓Pc,simprocAttr,rowOf]
    exact aC rfl rfl
theorem HS (s:DS) (ρ:Nat→Nat):aX ρ (df (.lit (.slice none 0 0)) 1099511627776 s)=df (.lit (.slice none 0 0)) 1099511627776 s:=by unfold df;split<;>rfl
theorem HT (s:DS):cm (df (.lit (.slice none 0 0)) 1099511627776 s)=true:=by unfold df;split<;>rfl
theorem NR (m:ah) (hm:VM m) (hw:(bx (bG m)).whole=true):ao Tryz.prog 18 [.agg (ar m)] [] (.bL [sU (bx (bG m)),.lit (.int .i64 0)]) []:=by
  have h1:=HU m hm
  have h2:=NJ (bG m) (Bm hm) hw
  have fN:=HS (bx (bG m))
  have kh:=HT (bx (bG m))
  have vK:=Ec (pv:=.lit (.slice none 0 0)) (t0:=1099511627776) (s:=bx (bG m)) rfl
  unfold sU at *
  generalize df (.lit (.slice none 0 0)) 1099511627776 (bx (bG m))=pa at *
  generalize bx (bG m)=s at *
  generalize bG m=b at *
  refine ao.aF (fn:=Tryz.f18) 19 0 [.cell 2 41,.tmp 3] Tryz.func18 rfl rfl rfl rfl rfl (by simp) ?_
  ((repeat' (first|refine Vd @bne_self_eq_false.{0} h1 ?_|(refine Xi ?_ ?_<;>try intro ht)|exact Xx|fail))<;>try with_reducible intro K hK)
  (refine Xn [] (h2) ?_;simp (disch:=omega) only[Ac,↓Pc,simprocAttr,fN])
  ((try revert hK K);(refine Vb (X2 @kh @fN) ?_))
  all_goals
    simp (disch:=omega) only[Ac,↓Pc,simprocAttr,rowOf]
    exact aC (by simp[gT,iO,vK]) rfl
theorem Z6 (m:ah) (hm:VM m) (hw:(bx (bG m)).whole=false):ao Tryz.prog 18 [.agg (ar m)] [] (.bL [vH,.lit (.int .i64 61)]) []:=by
  have h1:=HU m hm
  have h2:=ZR (bG m) (Bm hm) hw
  unfold vH at *
  generalize bG m=b at *
  refine ao.aF (fn:=Tryz.f18) 19 0 [.cell 2 41,.tmp 3] Tryz.func18 rfl rfl rfl rfl rfl (by simp) ?_
  ((repeat' (first|refine Vd @bne_self_eq_false.{0} (X2 h1 h2) ?_|(refine Xi ?_ ?_<;>try intro ht)|exact Xx|fail)))
  all_goals
    simp (disch:=omega) only[Ac,↓Pc,simprocAttr,rowOf]
    exact aC rfl rfl
theorem ag2 (tape:List Int):ao Tryz.prog 3 [.tree 1 (ints tape)] [] (.lit (.bool true)) []:=by
  refine ao.aF (fn:=Tryz.f3) 90 0 [.tmp 2] Tryz.func3 rfl rfl rfl rfl rfl (by simp) ?_
  repeat' (first|((fail_if_success (first|refine im 3 ?_|refine iq 3 ?_));refine Xq X0 ?_;intro K hK)|refine Xo X0 ?_|refine Xc (Z7 _) ?_|refine Xc (Bl) ?_|(refine hK _ ?_;clear hK K)|(refine Xi ?_ ?_<;>try intro ht)|refine XY ?_|fail)
  all_goals try (exact aC rfl rfl)
  have hL:tape.length<1000000:=by omega
  have gU:=Z8 tape 0 (Nat.zero_le _) hL
  refine sV 2 (by decide) _ rfl ?_
  intro K hK
  simp (disch:=omega) only[Ac,↓Pc,simprocAttr,List.take,List.drop]
  (refine Xn [] (Z9 tape) ?_;simp (disch:=omega) only[Ac,↓Pc,simprocAttr])
  unfold jE at gU
  refine⟨rfl,(show nm Tryz.prog 13 [.ptr 0 0 0] (some 18) _ _ from ?_)⟩
  refine Bj [0] gU (by decide) ⟨rfl,trivial⟩ ⟨.eq rfl,trivial⟩ ?_
  rintro r os ⟨m,k,hm,hk,rfl,rfl⟩
  simp (disch:=omega) only[Ac,↓Pc,simprocAttr]
  refine hK _ ?_;clear hK K
  repeat (refine Xu ?_)
  have Eg:=hm.mb
  refine cA (aA.vN 3 1 (cells:=ar m) (by rfl) (by simp only[Kc,simprocAttr]) (by simp[ar])) ?_
  refine cA (σ':=⟨av [(3,.db (ar m))],[]⟩) (Xs false [] X0) ?_
  clear gU hk k hL hm
  have h2:=aaa m Eg
  by_cases hv:dI m=0
  rotate_left
  · have g1:=NQ m Eg hv
    have g2:=aab m Eg hv
    have g3:=Z5 m Eg hv
    have g4:=NS ⟨[],[],[],0⟩ ⟨by decide,(fun _ h=>nomatch h),(fun _ h=>nomatch h),by decide,(fun _ h=>nomatch h),by decide,(fun _ h=>nomatch h)⟩
    unfold vH at g3
    unfold zM at g1 g2
    generalize dI m=e at *
    clear h2
    ((refine Vc @bne_self_eq_false.{0} (X2 g1 g2) ?_)<;>try with_reducible intro K hK)
    have za:∀ (σ:St) (ρ:Nat→Nat),aN σ (·∈([]:List Nat)) ρ true (.agg (ar ⟨[],[],[],0⟩)) (.agg [.lit (.slice none 0 0),.lit (.slice none 0 0),.lit (.slice none 0 0),.lit (.int .i64 0)]):=fun σ ρ =>
      aN.agg _ _ rfl (fD.spec (R:=aN _ _ _ _) (cs:=ar ⟨[],[],[],0⟩) (ds:=[.lit (.slice none 0 0),.lit (.slice none 0 0),.lit (.slice none 0 0),.lit (.int .i64 0)]) ⟨.snap _ _ rfl (.nil 1),.snap _ _ rfl (.nil 4),.snap _ _ rfl (.nil 4),.pure rfl,trivial⟩).2
    refine nR [] g4 (by decide) trivial ⟨za _ _,za _ _,trivial⟩ rfl (by simp) ?_
    simp (disch:=omega) only[Ac,↓Pc,simprocAttr]
    ((try revert hK K);(repeat' (first|refine Vd (X2 @beq_self_eq_true.{0} @gQ) (X2 g3 Bl) ?_|(refine Xi ?_ ?_<;>try intro ht)|exact Xx|fail)))
    all_goals exact aC rfl (by first|rfl|simp)
  have b9:=iJ.1 hv
  have pK:=Bm b9
  have g1:=HU m b9
  have g2:=aac m b9
  have g4:=NS (bG m) pK.mb
  by_cases hp:nr m≤1000
  · have hf:=aad pK (by rw[aae b9];exact hp)
    obtain ⟨l1,l2,l3,l4,l5⟩:=Ed pK hf
    have h3:=NR m b9 l1
    have h4:=aaf (bG m) pK
    have h5:=ZS (bG m) pK hf
    have zt:=Ee (bG m) (bG m).cls.length []
    have Eh:=@NM (bG m)
    have hz:=aag b9
    rw[← l2] at h4 zt Eh hz
    dsimp only at h4 Eh hz
    have h6:ao Tryz.prog 21 [df (.lit (.slice none 0 0)) 1099511627776 (bx (bG m)),.tree 1 (ints (bx (bG m)).plan)] [] (.lit (.bool true)) []:=by
      rcases zt with h | h
      · have e1:=congrArg Prod.fst h
        have e2:=congrArg Prod.snd h
        dsimp only at e1 e2
        unfold df
        rw[e2,if_neg (by omega),e1]
        have:=Ef [] [] (by decide)
        exact ao.NT (pre:=[]) (post:=[.tree 1 (ints [])]) this
      · have dz:=(Eh h).1.len
        have hc:=pK.cls
        unfold df
        rw[if_pos h]
        have:=Ef (bx (bG m)).plan (bx (bG m)).plan (by omega)
        rwa [decide_eq_true rfl] at this
    have fN:=HS (bx (bG m))
    have kh:=HT (bx (bG m))
    unfold sU at h3 h5
    rw[l3] at h3 h5
    generalize df (.lit (.slice none 0 0)) 1099511627776 (bx (bG m))=pa at *
    generalize (bx (bG m)).plan=pl at *
    generalize (bx (bG m)).bO=tt at *
    generalize (bx (bG m)).nodes=P at *
    generalize nr m=pn at *
    generalize bG m=b at *
    clear l1 l2 l3 l4 l5 zt Eh hf pK
    ((repeat' (first|refine Vc @bne_self_eq_false.{0} (X3 g1 g2 g4) ?_|(refine Xi ?_ ?_<;>try intro ht)|exact Xx|fail))<;>try with_reducible intro K hK)
    (refine Xn [] (h3) ?_;simp (disch:=omega) only[Ac,↓Pc,simprocAttr,fN])
    ((try revert hK K);(repeat' (first|refine Vd (X4 @kh @fN @bne_self_eq_false.{0} @beq_self_eq_true.{0}) (X2 h2 h4) ?_|(refine Xi ?_ ?_<;>try intro ht)|exact Xx|fail))<;>try with_reducible intro K hK)
    refine ic [] h6 (by decide) trivial ⟨.eq (fN _).symm,.pure rfl,trivial⟩ ?_
    simp (disch:=omega) only[Ac,↓Pc,simprocAttr,fN]
    rcases hz with hz | hz
    all_goals
      subst hz
      ((try revert hK K);(repeat' (first|refine Vb (X3 @kh @fN @beq_self_eq_true.{0}) ?_|(refine V2 (X3 @kh @fN @beq_self_eq_true.{0}) ?_ ?_<;>try with_reducible intro hb)|exact Xx|fail))<;>try with_reducible intro K hK)
      refine ic [] h5 (by decide) trivial ⟨.pure rfl,.eq (by simp[aX,m7,fN]),trivial⟩ ?_
      simp (disch:=omega) only[Ac,↓Pc,simprocAttr,fN]
      ((try revert hK K);(repeat' (first|refine Vd (X3 @kh @fN @beq_self_eq_true.{0}) Bl ?_|fail)))
      all_goals exact aC rfl (by first|rfl|simp)
  · cases hw:(bx (bG m)).whole
    · have h3:=Z6 m b9 hw
      unfold vH at h3
      generalize nr m=pn at *
      generalize bG m=b at *
      ((repeat' (first|refine Vd @bne_self_eq_false.{0} (X5 g1 g2 g4 h3 (X2 h2 Bl)) ?_|(refine Xi ?_ ?_<;>try intro ht)|exact Xx|fail)))
      all_goals exact aC rfl (by first|rfl|simp)
    · have h3:=NR m b9 hw
      have fN:=HS (bx (bG m))
      have kh:=HT (bx (bG m))
      unfold sU at h3
      generalize df (.lit (.slice none 0 0)) 1099511627776 (bx (bG m))=pa at *
      generalize bx (bG m)=s at *
      generalize nr m=pn at *
      generalize bG m=b at *
      ((repeat' (first|refine Vc @bne_self_eq_false.{0} (X3 g1 g2 g4) ?_|(refine Xi ?_ ?_<;>try intro ht)|exact Xx|fail))<;>try with_reducible intro K hK)
      (refine Xn [] (h3) ?_;simp (disch:=omega) only[Ac,↓Pc,simprocAttr,fN])
      ((try revert hK K);(repeat' (first|refine Vd (X3 @kh @fN @bne_self_eq_false.{0}) (X2 h2 Bl) ?_|(refine Xi ?_ ?_<;>try intro ht)|exact Xx|fail)))
      all_goals exact aC rfl (by first|rfl|simp)
end T

