import Derived.Test.YtdipcmigdbnheaaGreatX20
import Derived.Test.YtdipcmigdbnheaaGreatX09
import Derived.Test.YtdipcmigdbnheaaGreatX33
import Derived.Test.YtdipcmigdbnheaaGreatX08
set_option linter.unusedVariables false
set_option linter.unusedSimpArgs false
set_option linter.unnecessarySimpa false
set_option linter.unusedSectionVars false
set_option maxHeartbeats 64000000
set_option maxRecDepth 20000
open Nat renaming zero_le→aM,le_refl→aG,eq_zero_or_pos→mR,sub_self→j8,mul_le_mul→zC,le_trans→iJ
open List renaming map_cons→dO,cons_append→da,nil_append→dh,drop_eq_nil_of_le→cB,map_nil→lQ,append_nil→gA,getElem?_append_left→cn,length_set→bI,getElem?_set_ne→bm,range→aN,take_of_length_le→fN,eq_nil_of_length_eq_zero→ph,append_assoc→dI,length_append→bV,getElem?_eq_some_iff→aQ,getElem?_append_right→eK
open And renaming intro→fB
open Go Go.Am Go.Proofs
open Nat (reduceEqDiff reduceAdd reduceLeDiff reduceMul)
open Int (reduceNeg reduceLE reduceToNat)
namespace T
theorem Bk {σ:St} {kp:Nat→Prop} {ρ:Nat→Nat} (e:Int):aE σ kp ρ true (.bG [.agg (ar D0),.lit (.int .i64 e)]) (.bG [.agg [.lit (.slice none 0 0),.lit (.slice none 0 0),.lit (.slice none 0 0),.lit (.int .i64 0)],.lit (.int .i64 e)]) :=
  .mX (.agg _ _ rfl (dY.spec (R:=aE σ kp ρ true) (cs:=ar D0) (ds:=[.lit (.slice none 0 0),.lit (.slice none 0 0),.lit (.slice none 0 0),.lit (.int .i64 0)]) ⟨.nil,.nil,.nil,.pure rfl,trivial⟩).2) (.pure rfl)
theorem V0 {m:aj} (hm:VM m) {l:List bx} (hl:l∈m.cls) {o:bx} (ho:o∈l):o.ch.length≤56∧∀ c∈o.ch,0≤c.1∧c.1<m.rules:=by
  have h:=hm.kI l hl o ho
  refine⟨by have:=AS hm.im.1 h;have:=hm.im;omega,fun c hc=>?_⟩
  have:=(uj h c hc).1
  rwa [iu,decide_eq_true_eq] at this
theorem Jo {m:aj} (h:VM m) {p:Pr} (hp:p∈m.ae):p.az.length≤576:=by
  obtain ⟨_,h1,h2,h3,h4⟩:=kJ (jh h.pr p hp)
  have a:=h.opt _ (aC (l:=m.cls) (i:=p.fst.toNat) (d:=default) (by omega))
  have b:=h.opt _ (aC (l:=m.cls) (i:=p.snd.toNat) (d:=default) (by omega))
  have:((m.cls.getD p.fst.toNat default).length:Int) * (m.cls.getD p.snd.toNat default).length≤24 * 24:=Int.mul_le_mul (by omega) (by omega) (by omega) (by omega)
  omega
theorem aeP (ax:List Bool) (o:bx):(jM ax o).wk=o.wk∧(jM ax o).day=o.day∧(jM ax o).st=o.st∧(jM ax o).len=o.len∧(jM ax o).room=o.room∧(jM ax o).ch=o.ch.filter fun c=>du ax c.1:=⟨rfl,rfl,rfl,rfl,rfl,rfl⟩
def pf (m:aj) (ax:List Bool) (cls:List (List bx)):List Ob :=
  [.var (ar m),.var [.tree 1 (aY ax)],.var [.lit (.slice none 0 0),.lit (.slice none 0 0),.lit (.slice none 0 0),.lit (.int .i64 0)],
    .var [.ref 4 1 0 cls.length,.lit (.slice none 0 0),.lit (.slice none 0 0),.lit (.int .i64 m.rules)],.arr 1 (rowsOf bD cls)]
theorem ZW (m:aj) (ax:List Bool) (hb:MB m) (hk:ax.length<9223372036854775808):an Tryz.prog 69 [.agg (ar m),.tree 1 (aY ax)] [] (.bG [.agg (ar (qC m ax).1),.lit (.int .i64 (qC m ax).2)]) []:=by
  generalize ao:qC m ax=res
  unfold qC at ao
  have hval:=qz m hb
  by_cases hv:dz m=0
  rotate_left
  · rw[if_pos hv] at ao
    subst ao
    refine an.aD (fn:=Tryz.f69) 72 0 [.cell 4 29,.tmp 5] Tryz.func69 rfl rfl rfl rfl rfl (by simp) ?_
    ((try revert hK K);(repeat' (first|refine Vd X0 hval ?_|(refine V2 X0 ?_ ?_<;>try with_reducible intro hb)|(refine Xi ?_ ?_<;>try intro ht)|refine VD ?_ ?_|exact Xx|fail))<;>try with_reducible intro K hK)
    all_goals try (exfalso;omega)
    simp (disch:=omega) only[Ac,↓Pc,simprocAttr]
    exact cP [] true (by decide) trivial (by decide) (by decide) (Bk _)
  rw[if_neg (by omega)] at ao
  rw[hv] at hval
  by_cases cw:(ax.length:Int)=m.rules
  rotate_left
  · rw[if_pos cw] at ao
    subst ao
    refine an.aD (fn:=Tryz.f69) 72 0 [.cell 4 29,.tmp 5] Tryz.func69 rfl rfl rfl rfl rfl (by simp) ?_
    ((try revert hK K);(repeat' (first|refine Vd X0 hval ?_|(refine V2 X0 ?_ ?_<;>try with_reducible intro hb)|(refine Xi ?_ ?_<;>try intro ht)|refine VD ?_ ?_|exact Xx|fail))<;>try with_reducible intro K hK)
    all_goals try (exfalso;omega)
    simp (disch:=omega) only[Ac,↓Pc,simprocAttr]
    exact cP [] true (by decide) trivial (by decide) (by decide) (Bk _)
  rw[if_neg (by omega)] at ao
  have hm:=eB.1 hv
  have vA:=hm.cls
  have m6:=aar ax m.ae (by have:=hm.ae;omega) (fun c hc=>by have:=kJ (jh hm.pr c hc);omega) (fun c hc=>by have:=Jo hm hc;omega)
  have pL:=aau ax m.au (by have:=hm.au;omega) (fun c hc=>by have:=lj (hm.ct c hc);omega) (fun c hc=>by have:=yL hm (lj (hm.ct c hc)).2.2.2;omega)
  unfold gv at ao
  generalize gp:(m.cls.map fun l=>l.map (jM ax))=Jm at *
  generalize (m.ae.filter fun p=>du ax p.aV)=VY at *
  generalize (m.au.filter fun c=>du ax c.aV)=VZ at *
  subst ao
  refine an.aD (fn:=Tryz.f69) 72 0 [.cell 4 29,.tmp 5] Tryz.func69 rfl rfl rfl rfl rfl (by simp) ?_
  ((try revert hK K);(repeat' (first|refine Vd X0 hval ?_|(refine V2 X0 ?_ ?_<;>try with_reducible intro hb)|(refine Xi ?_ ?_<;>try intro ht)|refine VD ?_ ?_|exact Xx|fail))<;>try with_reducible intro K hK)
  all_goals try (exfalso;omega)
  refine aU (fun z:Nat × List (List bx)=>(⟨aw [(2,.ptr 0 0 0),(3,.ptr 1 0 0),(4,.ptr 2 0 0),(7,.ptr 3 0 0),(30,.tree 1 (rowsOf bD m.cls)),(31,.lit (.int .i64 m.cls.length)),(32,.lit (.int .i64 z.1))],pf m ax z.2⟩:St))
    (fun z=>z.1≤m.cls.length∧z.2.length=z.1∧z.2++(m.cls.drop z.1).map (fun l=>l.map (jM ax))=Jm) (fun z=>m.cls.length - z.1) (0,[]) ⟨aM _,rfl,gp⟩ (by
      refine aB.trans (aB.ld 3 0 1 rfl rfl (by decide)) ?_
      unfold pf
      exact Xv X0) ?_
  rintro ⟨i,cls⟩ ⟨hi,cE,cd⟩ Ql aq av
  dsimp only at hi cE cd ⊢
  unfold pf
  by_cases hi':i<m.cls.length
  · have hd:=cA m.cls i default hi'
    have oe:=aC (d:=(default:List bx)) hi'
    have vH:=hm.opt _ oe
    generalize gP:m.cls.getD i default=l at *
    rw[hd,dO] at cd
    generalize yM:l.map (jM ax)=Jn at *
    ((try revert hK K);(repeat' (first|refine Va @gP ?_|(refine V2 @gP ?_ ?_<;>try with_reducible intro hb)|(refine Xi ?_ ?_<;>try intro ht)|refine VD ?_ ?_|exact Xx|fail))<;>try with_reducible intro K hK)
    refine aU (fun z:Nat × List bx=>(⟨aw [(2,.ptr 0 0 0),(3,.ptr 1 0 0),(4,.ptr 2 0 0),(7,.ptr 3 0 0),(30,.tree 1 (rowsOf bD m.cls)),(31,.lit (.int .i64 m.cls.length)),(32,.lit (.int .i64 i)),(10,.ref 5 6 0 z.2.length),(36,.tree 6 (rowsOf cD l)),(37,.lit (.int .i64 l.length)),(38,.lit (.int .i64 z.1))],pf m ax cls++[.arr 6 (rowsOf cD z.2)]⟩:St))
      (fun z=>z.1≤l.length∧z.2.length=z.1∧z.2++(l.drop z.1).map (jM ax)=Jn) (fun z=>l.length - z.1) (0,[]) ⟨aM _,rfl,yM⟩ (by
        refine aB.trans (aB.nil 10 6 (by simp only[Kc,simprocAttr]) (by decide)) ?_
        unfold pf
        exact Xv X0) ?_
    rintro ⟨k,ol⟩ ⟨iX,fT,sc⟩ eo bP bM
    dsimp only at iX fT sc ⊢
    unfold pf
    simp only[da,dh]
    by_cases aH:k<l.length
    · have s6:=cA l k default aH
      have eu:=aC (d:=(default:bx)) aH
      obtain ⟨oN,ym⟩:=V0 hm oe eu
      generalize lH:l.getD k default=o at *
      have bQ:=aao ax o.ch (by omega) (fun c hc=>by have:=ym c hc;omega)
      rw[s6,dO] at sc
      ((try revert hK K);(repeat' (first|refine Va @lH ?_|(refine V2 @lH ?_ ?_<;>try with_reducible intro hb)|(refine Xi ?_ ?_<;>try intro ht)|refine VD ?_ ?_|exact Xx|fail))<;>try with_reducible intro K hK)
      (refine Xn [1] (bQ) ?_;simp (disch:=omega) only[Ac,↓Pc,simprocAttr,lH])
      ((try revert hK K);(repeat' (first|refine Va X0 ?_|(refine V2 X0 ?_ ?_<;>try with_reducible intro hb)|(refine Xi ?_ ?_<;>try intro ht)|refine VD ?_ ?_|exact Xx|fail))<;>try with_reducible intro K hK)
      refine bP _ (k+1,ol++[jM ax o]) ⟨by dsimp only;omega,by simp;omega,by rw[← sc];simp⟩ (by dsimp only;omega) ?_
      have e:=jW (enc:=cD) ol (jM ax o)
      simp only[cD,aeP] at e
      rw[e]
      unfold pf
      simp only[da,dh]
      exact Xs false [0,1,2,3,4,8] X0
    · ((try revert hK K);(repeat' (first|refine Va X0 ?_|(refine V2 X0 ?_ ?_<;>try with_reducible intro hb)|(refine Xi ?_ ?_<;>try intro ht)|refine VD ?_ ?_|exact Xx|fail))<;>try with_reducible intro K hK)
      rw[cB (by omega),lQ,gA] at sc
      subst sc
      refine bM _ _ rfl ?_
      clear bP bM eo
      repeat (first|refine Xu ?_)
      refine bJ (σ':=⟨aw [(2,.ptr 0 0 0),(3,.ptr 1 0 0),(4,.ptr 2 0 0),(7,.ptr 3 0 0),(30,.tree 1 (rowsOf bD m.cls)),(31,.lit (.int .i64 m.cls.length)),(32,.lit (.int .i64 i)),(10,.tree 6 (rowsOf cD ol))],pf m ax cls⟩) (by unfold pf;exact Xs true [0,1,2,3,4] X0) ?_
      unfold pf
      ((try revert hK K);(repeat' (first|refine Va X0 ?_|(refine V2 X0 ?_ ?_<;>try with_reducible intro hb)|(refine Xi ?_ ?_<;>try intro ht)|refine VD ?_ ?_|exact Xx|fail))<;>try with_reducible intro K hK)
      refine aq _ (i+1,cls++[ol]) ⟨by dsimp only;omega,by simp;omega,by rw[← cd];simp⟩ (by dsimp only;omega) ?_
      have e:=jW (enc:=bD) cls ol
      simp only[bD] at e
      rw[e]
      unfold pf
      exact Xs false [0,1,2,3,6] X0
  · ((try revert hK K);(repeat' (first|refine Va X0 ?_|(refine V2 X0 ?_ ?_<;>try with_reducible intro hb)|(refine Xi ?_ ?_<;>try intro ht)|refine VD ?_ ?_|exact Xx|fail))<;>try with_reducible intro K hK)
    rw[cB (by omega),lQ,gA] at cd
    refine av _ _ rfl ?_;clear aq av Ql
    repeat (first|refine Xu ?_)
    refine bJ (σ':=⟨aw [(2,.ptr 0 0 0),(3,.ptr 1 0 0),(4,.ptr 2 0 0),(7,.ptr 3 0 0)],pf m ax cls⟩) (by unfold pf;exact Xv X0) ?_
    unfold pf
    refine bJ (aB.sM 4 3 0 1 rfl rfl (by rw[b8];rfl) (eT _) (jy _)) ?_
    ((try revert hK K);(repeat' (first|refine Vb X0 ?_|(refine V2 X0 ?_ ?_<;>try with_reducible intro hb)|(refine Xi ?_ ?_<;>try intro ht)|refine VD ?_ ?_|exact Xx|fail))<;>try with_reducible intro K hK)
    (refine Xn [1] (m6) ?_;simp (disch:=omega) only[Ac,↓Pc,simprocAttr])
    ((try revert hK K);(repeat' (first|refine Vb X0 ?_|(refine V2 X0 ?_ ?_<;>try with_reducible intro hb)|(refine Xi ?_ ?_<;>try intro ht)|refine VD ?_ ?_|exact Xx|fail))<;>try with_reducible intro K hK)
    (refine Xn [1] (pL) ?_;simp (disch:=omega) only[Ac,↓Pc,simprocAttr])
    ((try revert hK K);(repeat' (first|refine Vb X0 ?_|(refine V2 X0 ?_ ?_<;>try with_reducible intro hb)|(refine Xi ?_ ?_<;>try intro ht)|refine VD ?_ ?_|exact Xx|fail))<;>try with_reducible intro K hK)
    simp (disch:=omega) only[Ac,↓Pc,simprocAttr]
    rw[← cd]
    exact aK rfl rfl
def zM:List AV:=[.lit (.slice none 0 0),.lit (.slice none 0 0),.lit (.slice none 0 0),.lit (.int .i64 0)]
def TwO (m:aj) (a b d:Nat) (os:List Ob):Prop :=
  ∃ h1 C l2 h2 C2,zi m.cls os a 1 h1 m.cls.length C∧Bh m.ae os b l2 h2 m.ae.length C2∧a<l2∧os[d]?=some (.arr 4 (rowsOf aO m.au))∧b<d
theorem V3 {w:Nat} {os:List Ob} {l r b:Nat} {X:List (List AV)} (h:os[b]?=some (.arr w X)) (hl:l≤b) (hr:b<r) (hw:∀ row∈X,row.length=w):fX w os l r (.ref b w 0 X.length) X :=
  .inr ⟨b,[],rfl,hl,hr,by rw[gA];exact h,by rw[gA];exact hw⟩
theorem V4 {m:aj} (hm:VM m) {c:List bx} (hc:c∈m.cls) {o:bx} (ho:o∈c):o.ch.length≤100:=by
  have h:=hm.kI c hc o ho
  have hr:=hm.im
  cases ep:o.ch with
  | nil=>simp
  | cons x r =>
    rw[ep,dj] at h
    simp only[Bool.and_eq_true,decide_eq_true_eq,iu] at h
    rcases DU h.2 with rfl | h2
    · simp
    · simp only[List.length_cons];omega
theorem eR.Jp {m b:Nat} {ot:List Ob} (hb:m≤b) (hl:m≤ot.length) (y:Ob) (L:List Ob):eR 4 m ot ((ot.set b .gone).set 3 y++L):=fun i h1 h2=>by
  rw[cn (by rw[bI,bI];omega),bm (by omega),bm (by omega)]
theorem xF {α:Type} (f:Nat→α) (n:Nat):((aN n).map f).length=n:=by simp
theorem Jq {α:Type} (f:Nat→α) (n:Nat):((aN n).map f).take n=(aN n).map f:=fN (by simp)
theorem aeR (m:aj) (hm:VM m):eO Tryz.prog 46 [.agg (ar m)] [.var zM] (fun r os=>os[0]?=some (.var zM)∧∃ a b d,r=.agg [.ref a 1 0 m.cls.length,.ref b 4 0 m.ae.length,.ref d 4 0 m.au.length,.lit (.int .i64 m.rules)]∧TwO m a b d os):=by
  have rG:=hm.cls
  have yN:=hm.ae
  have ht4:=hm.au
  unfold zM
  refine eO.aD (fn:=Tryz.f46) 83 1 [.cell 2 29] Tryz.func46 rfl rfl rfl rfl rfl (by simp) ?_
  repeat' (first|((fail_if_success (first|refine ej 2 ?_|refine ek 2 ?_));refine Xr @ar.eq_1 ?_;intro K hK)|(refine hK _ ?_;clear hK K)|refine Xy ?_|fail)
  refine bJ (aB.l6 1 1 (cells:=ar m) (by rfl) (by simp only[Kc,simprocAttr]) (by simp[ar])) ?_
  refine bJ (aB.ld 3 0 1 (by rfl) rfl (by decide)) ?_
  refine bJ (σ':=⟨aw [(1,.b7 (ar m)),(2,.ptr 2 0 0),(3,.ptr 3 0 0)],[.var zM,.gone,.var zM,.var [.ref 4 1 0 0,.lit (.slice none 0 0),.lit (.slice none 0 0),.lit (.int .i64 m.rules)],.arr 1 []]⟩) (Xv X0) ?_
  refine Va @ar.eq_1 ?_
  have V5:∀ o:bx,iH o=[.lit (.int .i64 o.wk),.lit (.int .i64 o.day),.lit (.int .i64 o.st),.lit (.int .i64 o.len),.lit (.int .i64 o.room)]:=fun _=>rfl
  refine aU (fun z:Nat × List Ob=>(⟨aw [(1,.b7 (ar m)),(2,.ptr 2 0 0),(3,.ptr 3 0 0),(17,.tree 1 (rowsOf bD m.cls)),(18,.lit (.int .i64 m.cls.length)),(19,.lit (.int .i64 z.1))],z.2⟩:St))
    (fun z=>z.1≤m.cls.length∧z.2[0]?=some (.var zM)∧z.2[2]?=some (.var zM)∧∃ a hi C,z.2[3]?=some (.var [.ref a 1 0 z.1,.lit (.slice none 0 0),.lit (.slice none 0 0),.lit (.int .i64 m.rules)])∧zi m.cls z.2 a 4 hi z.1 C)
    (fun z=>m.cls.length - z.1) (0,[.var zM,.gone,.var zM,.var [.ref 4 1 0 0,.lit (.slice none 0 0),.lit (.slice none 0 0),.lit (.int .i64 m.rules)],.arr 1 []])
    ⟨aM _,rfl,rfl,4,4,fun _=>.undef,rfl,cy.nil rfl 4 (aG _) _ _⟩ (Xv @ar.eq_1) ?_
  rintro ⟨i,os⟩ ⟨hi,f0,f2,a,yv,C,f3,hC⟩ Ql aq av
  dsimp only at hi f0 f2 f3 hC ⊢
  by_cases hi':i<m.cls.length
  · have gp:=aC (d:=default) hi'
    have vH:=hm.opt _ gp
    have Bt:=fun o ho=>V4 hm gp (o:=o) ho
    generalize aR:m.cls.getD i default=l at *
    ((repeat' (first|refine Va (X2 @aR @bD.eq_1) ?_|(refine Xi ?_ ?_<;>try intro ht)|exact Xx|fail)))
    refine aU (fun z:Nat × Nat × List Ob=>(⟨aw [(1,.b7 (ar m)),(2,.ptr 2 0 0),(3,.ptr 3 0 0),(17,.tree 1 (rowsOf bD m.cls)),(18,.lit (.int .i64 m.cls.length)),(19,.lit (.int .i64 i)),(6,.ref z.2.1 6 0 z.1),(23,.tree 6 (rowsOf cD l)),(24,.lit (.int .i64 l.length)),(25,.lit (.int .i64 z.1))],z.2.2⟩:St))
      (fun z=>z.1≤l.length∧eR 0 os.length os z.2.2∧∃ hi C,cy 6 (fun k=>uB (l.getD k default).ch) z.2.2 z.2.1 os.length hi z.1 (fun k=>iH (l.getD k default)) C)
      (fun z=>l.length - z.1) (0,os.length,os++[.arr 6 []]) ⟨aM _,eR.app (aG _) _ _,os.length,fun _=>.undef,cy.nil (mi _ _ _) _ (aG _) _ _⟩ ?_ ?_
    · refine aB.trans (aB.nil 6 6 (by simp only[Kc,simprocAttr]) (by decide)) ?_
      exact Xv X0
    rintro ⟨k,b,ot⟩ ⟨hk,il,lY,C2,hR⟩ eo bP bM
    dsimp only at hk il hR ⊢
    by_cases aH:k<l.length
    · have eu:=aC (l:=l) (d:=default) aH
      have cE:=Bt _ eu
      have kc:=hR.arr
      have uH:=hR.len
      have EX:=hR.at_
      have EY:=hR.qM
      have xG:=fun X v h2=>hR.app (fun k=>Eo _) X (v:=v) uH (aG _) rfl h2
      have fh:=xF (fun k=>iH (l.getD k default)++[C2 k]) k
      have vX:=Jq (fun k=>iH (l.getD k default)++[C2 k]) k
      generalize ow:(aN k).map (fun k=>iH (l.getD k default)++[C2 k])=R at *
      generalize lH:l.getD k default=o at *
      repeat' (first|((fail_if_success (first|refine ej 1 ?_|refine ek 1 ?_));refine Xr (X3 @lH @dC @cD.eq_1) ?_;intro K hK)|(refine hK _ ?_;clear hK K)|(refine Xi ?_ ?_<;>try intro ht)|refine Xy ?_|refine Xd ?_ ?_|exact Xx|fail)
      refine bJ (aB.l6 8 ot.length (cells:=cD o) (by simp (disch:=omega) only[Ac,↓Pc,simprocAttr,dC,cD]) (by simp only[Kc,simprocAttr]) (by simp[cD])) ?_
      rw[ze]
      have fK:=bK kc
      have fF:=fun l y=>hU kc l (y:=y)
      rcases mR o.ch.length with h0 | h0
      · have BV:=ph h0
        have jf:an Tryz.prog 89 [.tree 2 (rowsOf bA [])] [] (.tree 2 (rowsOf bA [])) []:=aav
        refine jT [2,4] (.take 0 (.take 3 (.take 4 (.both 1 (.take 2 (.take 5 (.take 6 (.take 7 (.take 8 (.take 9 .nil)))))) 5 (.take 1 (.take 2 (.take 6 (.take 7 (.take 8 (.take 9 .nil)))))))))) rfl (by decide) (by decide +kernel) ?_
        simp (disch:=omega) only[Ac,↓Pc,simprocAttr,Pw,↓Lq,cD,BV]
        (with_reducible refine fB ?_ ?_)
        all_goals
          (refine Xn [] (jf) ?_;simp (disch:=omega) only[Ac,↓Pc,simprocAttr,Pw,↓Lq,dC,dI,bV,fK,fF,fh,vX])
          repeat' (first|with_reducible refine fB ?_ ?_|omega)
        all_goals
          repeat (refine Xu ?_)
          ((repeat' (first|refine Va X0 ?_|fail)))
          have hq:=xG [Ob.gone,Ob.arr 6 [iH o++[AV.tree 2 (rowsOf bA [])]]] (AV.tree 2 (rowsOf bA [])) (fun os' _=>by
            show uB o.ch _ _ _ _
            rw[BV]
            exact .inl ⟨rfl,rfl⟩)
          exact bP _ (k+1,ot.length+2,ot.set b Ob.gone++[Ob.gone,Ob.arr 6 [iH o++[AV.tree 2 (rowsOf bA [])]],Ob.arr 6 (R++[iH o++[AV.tree 2 (rowsOf bA [])]])]) ⟨by dsimp only;omega,il.trans (eR.kill (by omega) uH _),_,_,hq⟩ (by dsimp only;omega) (Xv @V5)
      · have jf:=aaw o.ch h0 (by omega)
        refine jT [2,4] (.take 0 (.take 3 (.take 4 (.both 1 (.take 2 (.take 5 (.take 6 (.take 7 (.take 8 (.take 9 .nil)))))) 5 (.take 1 (.take 2 (.take 6 (.take 7 (.take 8 (.take 9 .nil)))))))))) rfl (by decide) (by decide +kernel) ?_
        simp (disch:=omega) only[Ac,↓Pc,simprocAttr,Pw,↓Lq,cD]
        (with_reducible refine fB ?_ ?_)
        all_goals
          (refine Xn [] (jf) ?_;simp (disch:=omega) only[Ac,↓Pc,simprocAttr,Pw,↓Lq,dC,dI,bV,fK,fF,fh,vX])
          repeat' (first|with_reducible refine fB ?_ ?_|omega)
        all_goals
          repeat (refine Xu ?_)
          ((repeat' (first|refine Va X0 ?_|fail)))
          have hq:=xG [Ob.gone,Ob.arr 2 (rowsOf bA o.ch),Ob.arr 6 [iH o++[AV.ref (ot.length+1) 2 0 o.ch.length]]] (AV.ref (ot.length+1) 2 0 o.ch.length) (fun os' iL=>by
            show fX 2 os' ot.length (ot.length+3) (.ref (ot.length+1) 2 0 o.ch.length) (rowsOf bA o.ch)
            rw[← b8 (enc:=bA)]
            refine V3 (b:=ot.length+1) ?_ (by omega) (by simp) (eT _)
            rw[iL _ (by omega) (by simp),nj];rfl)
          exact bP _ (k+1,ot.length+3,ot.set b Ob.gone++[Ob.gone,Ob.arr 2 (rowsOf bA o.ch),Ob.arr 6 [iH o++[AV.ref (ot.length+1) 2 0 o.ch.length]],Ob.arr 6 (R++[iH o++[AV.ref (ot.length+1) 2 0 o.ch.length]])]) ⟨by dsimp only;omega,il.trans (eR.kill (by omega) uH _),_,_,hq⟩ (by dsimp only;omega) (Xv @V5)
    · obtain rfl:k=l.length:=by omega
      have uH:=hR.len
      have EX:=hR.at_
      have EY:=hR.qM
      have BW:=hC.len
      have V6:=hC.at_
      have aeT:=hC.qM
      have V7:=(aQ.1 f3).1
      have k0:ot[0]?=some (.var zM):=(il 0 (by omega) (by omega)).trans f0
      have k2:ot[2]?=some (.var zM):=(il 2 (by omega) (by omega)).trans f2
      have k3:ot[3]?=some (.var [.ref a 1 0 i,.lit (.slice none 0 0),.lit (.slice none 0 0),.lit (.int .i64 m.rules)]):=(il 3 (by omega) V7).trans f3
      have V8:zi m.cls ot a 4 yv i C:=cy.same (fun c=>tj _) hC (il.mono (by omega) (by omega)) (il a (by omega) BW)
      have xG:=fun X v h2=>cy.app (fun c=>tj _) V8 X (v:=v) (l0:=os.length) BW (by omega) rfl h2
      have kc:=V8.arr
      have fh:=xF (fun k=>([]:List AV)++[C k]) i
      have vX:=Jq (fun k=>([]:List AV)++[C k]) i
      generalize ow:(aN i).map (fun k=>([]:List AV)++[C k])=R at *
      have fK:=bK kc
      have fF:=fun l y=>hU kc l (y:=y)
      have lx:(ot.set a .gone)[3]?=_:=(bm (by omega)).trans k3
      have cw:=bK k3
      have xH:=bK lx
      have xI:=fun l y=>hU lx l (y:=y)
      ((repeat' (first|refine Va X0 ?_|(refine Xi ?_ ?_<;>try intro ht)|exact Xx|fail)))
      refine bM _ _ rfl ?_
      clear bP bM
      repeat (refine Xu ?_)
      refine Va (X5 @dC @dI.{0} @bV.{0} @fK (X5 @fF @fh @vX @k3 (X4 @lx @cw @xH @xI))) ?_
      have hq:=xG [Ob.arr 1 [[AV.ref b 6 0 l.length]]] (AV.ref b 6 0 l.length) (fun os' iL=>by
        show uD (m.cls.getD i default) os' os.length (ot.length+1) (.ref b 6 0 l.length)
        rw[aR]
        have iK:∀ j,os.length≤j→j<ot.length→os'[j]?=ot[j]?:=fun j h1 h2=>(iL j h1 (by omega)).trans (cn h2)
        exact⟨b,lY,C2,rfl,by omega,hR.same (fun k=>Eo _) (fun j h1 h2=>iK j h1 (by omega)) (iK b (by omega) uH)⟩)
      have tq:=cy.Bg (fun c=>tj _) hq (q:=3) (by omega) (Ob.var [.ref (ot.length+1) 1 0 (i+1),.lit (.slice none 0 0),.lit (.slice none 0 0),.lit (.int .i64 m.rules)])
      rw[hU lx] at tq
      exact aq _ (i+1,(ot.set a Ob.gone).set 3 (Ob.var [.ref (ot.length+1) 1 0 (i+1),.lit (.slice none 0 0),.lit (.slice none 0 0),.lit (.int .i64 m.rules)])++[Ob.arr 1 [[AV.ref b 6 0 l.length]],Ob.arr 1 (R++[[AV.ref b 6 0 l.length]])])
        ⟨by dsimp only;omega,bK ((bm (by omega)).trans ((bm (by omega)).trans k0)) _,bK ((bm (by omega)).trans ((bm (by omega)).trans k2)) _,ot.length+1,_,_,bK (iT lx) _,tq⟩ (by dsimp only;omega) (Xv @ar.eq_1)
  obtain rfl:i=m.cls.length:=by omega
  have BW:=hC.len
  have V6:=hC.at_
  have aeT:=hC.qM
  have V7:=(aQ.1 f3).1
  ((repeat' (first|refine Va X0 ?_|(refine Xi ?_ ?_<;>try intro ht)|exact Xx|fail)))
  refine av _ _ rfl ?_;clear aq av Ql
  repeat (refine Xu ?_)
  refine Va @ar.eq_1 ?_
  refine bJ (aB.ld 3 1 4 f3 rfl (by decide)) ?_
  rw[hU f3]
  have sJ:∀ Y:Ob,(os.set 3 Y++[Ob.arr 4 []])[os.length]?=some (.arr 4 []):=fun Y=>by
    rw[eK (by rw[bI];exact aG _),bI,j8];rfl
  have uc:∀ Y:Ob,eR 4 os.length os (os.set 3 Y++[Ob.arr 4 []]):=fun Y j h1 h2=>by
    rw[cn (by rw[bI];exact h2),bm (by omega)]
  refine aU (fun z:Nat × List Ob=>(⟨aw [(1,.b7 (ar m)),(2,.ptr 2 0 0),(3,.ptr 3 0 0),(47,.tree 4 (rowsOf bu m.ae)),(48,.lit (.int .i64 m.ae.length)),(49,.lit (.int .i64 z.1))],z.2⟩:St))
    (fun z=>z.1≤m.ae.length∧z.2[0]?=some (.var zM)∧z.2[2]?=some (.var zM)∧eR 4 os.length os z.2∧∃ b hi C,z.2[3]?=some (.var [.ref a 1 0 m.cls.length,.ref b 4 0 z.1,.lit (.slice none 0 0),.lit (.int .i64 m.rules)])∧Bh m.ae z.2 b os.length hi z.1 C)
    (fun z=>m.ae.length - z.1) (0,os.set 3 (.var [.ref a 1 0 m.cls.length,.ref os.length 4 0 0,.lit (.slice none 0 0),.lit (.int .i64 m.rules)])++[Ob.arr 4 []])
    ⟨aM _,bK ((bm (by omega)).trans f0) _,bK ((bm (by omega)).trans f2) _,uc _,os.length,os.length,fun _=>.undef,bK (iT f3) _,cy.nil (sJ _) _ (aG _) _ _⟩ (Xv @ar.eq_1) ?_
  rintro ⟨i,ot⟩ ⟨hi,k0,k2,il,b,lY,C2,k3,hP⟩ Ql aq av
  dsimp only at hi k0 k2 il k3 hP ⊢
  by_cases hi':i<m.ae.length
  · have xr:=aC (l:=m.ae) (d:=default) hi'
    have cq:=Jo hm xr
    have uH:=hP.len
    have EX:=hP.at_
    have EY:=hP.qM
    have xG:=fun X v h2=>cy.app (fun c=>uC _) hP X (v:=v) uH (aG _) rfl h2
    have kc:=hP.arr
    have fh:=xF (fun k=>jn (m.ae.getD k default)++[C2 k]) i
    have vX:=Jq (fun k=>jn (m.ae.getD k default)++[C2 k]) i
    generalize ow:(aN i).map (fun k=>jn (m.ae.getD k default)++[C2 k])=R at *
    generalize cT:m.ae.getD i default=p at *
    have V9:∀ p:Pr,jn p=[.lit (.int .i64 p.fst),.lit (.int .i64 p.snd),.lit (.int .i64 p.aV)]:=fun _=>rfl
    have fK:=bK kc
    have fF:=fun l y=>hU kc l (y:=y)
    have lx:(ot.set b .gone)[3]?=_:=(bm (by omega)).trans k3
    have cw:=bK k3
    have xH:=bK lx
    have xI:=fun l y=>hU lx l (y:=y)
    rcases mR p.az.length with h0 | h0
    · have ht0:=ph h0
      have jf:=OA [] (by decide)
      ((repeat' (first|refine Vc (X5 @cT @bu.eq_1 @ht0 @dC (X5 @dI.{0} @bV.{0} @fK @fF (X5 @fh @vX @k3 @lx (X3 @cw @xH @xI)))) jf ?_|(refine Xi ?_ ?_<;>try intro ht)|exact Xx|fail)))
      have hq:=xG [Ob.var (jn p++[AV.tree 1 (ints [])]),Ob.arr 4 [jn p++[AV.tree 1 (ints [])]]] (AV.tree 1 (ints [])) (fun os' _=>by
        show th p.az _ _ _ _
        rw[ht0]
        exact .inl ⟨rfl,rfl⟩)
      have tq:=cy.Bg (fun c=>uC _) hq (q:=3) (by omega) (Ob.var [.ref a 1 0 m.cls.length,.ref (ot.length+2) 4 0 (i+1),.lit (.slice none 0 0),.lit (.int .i64 m.rules)])
      rw[hU lx] at tq
      exact aq _ (i+1,(ot.set b Ob.gone).set 3 (Ob.var [.ref a 1 0 m.cls.length,.ref (ot.length+2) 4 0 (i+1),.lit (.slice none 0 0),.lit (.int .i64 m.rules)])++[Ob.var (jn p++[AV.tree 1 (ints [])]),Ob.arr 4 [jn p++[AV.tree 1 (ints [])]],Ob.arr 4 (R++[jn p++[AV.tree 1 (ints [])]])])
        ⟨by dsimp only;omega,bK ((bm (by omega)).trans ((bm (by omega)).trans k0)) _,bK ((bm (by omega)).trans ((bm (by omega)).trans k2)) _,il.trans (eR.Jp (by omega) (by omega) _ _),ot.length+2,_,_,bK (iT lx) _,tq⟩ (by dsimp only;omega) (Xv (X2 @ar.eq_1 @V9))
    · have jf:=Oz p.az h0 (by omega)
      ((repeat' (first|refine Va (X5 @cT @bu.eq_1 @dC @dI.{0} (X5 @bV.{0} @fK @fF @fh (X5 @vX @k3 @lx @cw (X2 @xH @xI)))) ?_|(refine Xi ?_ ?_<;>try intro ht)|exact Xx|fail))<;>try with_reducible intro K hK)
      (refine Xn [] (jf) ?_;simp (disch:=omega) only[Ac,↓Pc,simprocAttr,dC,dI,bV])
      ((try revert hK K);((refine Va (X5 @cT @bu.eq_1 @dC @dI.{0} (X5 @bV.{0} @fK @fF @fh (X5 @vX @k3 @lx @cw (X2 @xH @xI)))) ?_)))
      have hq:=xG [Ob.var (jn p++[AV.ref (ot.length+1) 1 0 p.az.length]),Ob.arr 1 (ints p.az),Ob.arr 4 [jn p++[AV.ref (ot.length+1) 1 0 p.az.length]]] (AV.ref (ot.length+1) 1 0 p.az.length) (fun os' iL=>by
        show fX 1 os' ot.length (ot.length+3) (.ref (ot.length+1) 1 0 p.az.length) (ints p.az)
        rw[← kd p.az]
        refine V3 (b:=ot.length+1) ?_ (by omega) (by omega) (oE _)
        rw[iL _ (by omega) (by simp),nj];rfl)
      have tq:=cy.Bg (fun c=>uC _) hq (q:=3) (by omega) (Ob.var [.ref a 1 0 m.cls.length,.ref (ot.length+3) 4 0 (i+1),.lit (.slice none 0 0),.lit (.int .i64 m.rules)])
      rw[hU lx] at tq
      exact aq _ (i+1,(ot.set b Ob.gone).set 3 (Ob.var [.ref a 1 0 m.cls.length,.ref (ot.length+3) 4 0 (i+1),.lit (.slice none 0 0),.lit (.int .i64 m.rules)])++[Ob.var (jn p++[AV.ref (ot.length+1) 1 0 p.az.length]),Ob.arr 1 (ints p.az),Ob.arr 4 [jn p++[AV.ref (ot.length+1) 1 0 p.az.length]],Ob.arr 4 (R++[jn p++[AV.ref (ot.length+1) 1 0 p.az.length]])])
        ⟨by dsimp only;omega,bK ((bm (by omega)).trans ((bm (by omega)).trans k0)) _,bK ((bm (by omega)).trans ((bm (by omega)).trans k2)) _,il.trans (eR.Jp (by omega) (by omega) _ _),ot.length+3,_,_,bK (iT lx) _,tq⟩ (by dsimp only;omega) (Xv (X2 @ar.eq_1 @V9))
  obtain rfl:i=m.ae.length:=by omega
  have uH:=hP.len
  have EX:=hP.at_
  have EY:=hP.qM
  have agd:=(aQ.1 k3).1
  ((repeat' (first|refine Va X0 ?_|(refine Xi ?_ ?_<;>try intro ht)|exact Xx|fail)))
  refine av _ _ rfl ?_;clear aq av Ql
  repeat (refine Xu ?_)
  refine Va @ar.eq_1 ?_
  refine bJ (aB.ld 3 2 4 k3 rfl (by decide)) ?_
  rw[hU k3]
  have sJ:∀ Y:Ob,(ot.set 3 Y++[Ob.arr 4 []])[ot.length]?=some (.arr 4 []):=fun Y=>by
    rw[eK (by rw[bI];exact aG _),bI,j8];rfl
  have uc:∀ Y:Ob,eR 4 ot.length ot (ot.set 3 Y++[Ob.arr 4 []]):=fun Y j h1 h2=>by
    rw[cn (by rw[bI];exact h2),bm (by omega)]
  refine aU (fun z:Nat × List Ob=>(⟨aw [(1,.b7 (ar m)),(2,.ptr 2 0 0),(3,.ptr 3 0 0),(65,.tree 4 (rowsOf aO m.au)),(66,.lit (.int .i64 m.au.length)),(67,.lit (.int .i64 z.1))],z.2⟩:St))
    (fun z=>z.1≤m.au.length∧z.2[0]?=some (.var zM)∧z.2[2]?=some (.var zM)∧eR 4 ot.length ot z.2∧∃ d,z.2[3]?=some (.var [.ref a 1 0 m.cls.length,.ref b 4 0 m.ae.length,.ref d 4 0 z.1,.lit (.int .i64 m.rules)])∧ot.length≤d∧z.2[d]?=some (.arr 4 (rowsOf aO (m.au.take z.1))))
    (fun z=>m.au.length - z.1) (0,ot.set 3 (.var [.ref a 1 0 m.cls.length,.ref b 4 0 m.ae.length,.ref ot.length 4 0 0,.lit (.int .i64 m.rules)])++[Ob.arr 4 []])
    ⟨aM _,bK ((bm (by omega)).trans k0) _,bK ((bm (by omega)).trans k2) _,uc _,ot.length,bK (iT k3) _,aG _,sJ _⟩ (Xv @ar.eq_1) ?_
  clear uc sJ
  rintro ⟨i,oc⟩ ⟨hi,g0,g2,lX,d,g3,hd,gd⟩ Ql aq av
  dsimp only at hi g0 g2 lX g3 gd ⊢
  have xn:=(aQ.1 gd).1
  by_cases hi':i<m.au.length
  · have gp:=aC (l:=m.au) (d:=default) hi'
    have yp:(m.au.getD i default).aS.length<549755813888:=by
      obtain ⟨_,_,_,h4⟩:=lj (hm.ct _ gp)
      have:=yL hm h4
      omega
    have eN:=iD hi'
    have zo:(rowsOf aO (m.au.take i)).length=i:=by rw[b8,List.length_take];omega
    have rI:(rowsOf aO (m.au.take i)).take i=rowsOf aO (m.au.take i):=fN (by omega)
    have lT:=jW (enc:=aO) (m.au.take i) (m.au.getD i default)
    rw[← eN] at lT
    generalize hR:rowsOf aO (m.au.take i)=R at *
    generalize aR:m.au.getD i default=c at *
    have jf:=OB c.aS yp
    have fK:=bK gd
    have fF:=fun l y=>hU gd l (y:=y)
    have lx:(oc.set d .gone)[3]?=_:=(bm (by omega)).trans g3
    have cw:=bK g3
    have xH:=bK lx
    have xI:=fun l y=>hU lx l (y:=y)
    ((repeat' (first|refine Vc (X5 @aR @aO.eq_1 @dC @dI.{0} (X5 @bV.{0} @fK @fF @zo (X5 @rI @g3 @lx @cw (X2 @xH @xI)))) jf ?_|(refine Xi ?_ ?_<;>try intro ht)|exact Xx|fail)))
    refine aq _ (i+1,(oc.set d Ob.gone).set 3 (Ob.var [.ref a 1 0 m.cls.length,.ref b 4 0 m.ae.length,.ref (oc.length+2) 4 0 (i+1),.lit (.int .i64 m.rules)])++[Ob.var (aO c),Ob.arr 4 [aO c],Ob.arr 4 (R++[aO c])])
      ⟨by dsimp only;omega,bK ((bm (by omega)).trans ((bm (by omega)).trans g0)) _,bK ((bm (by omega)).trans ((bm (by omega)).trans g2)) _,lX.trans (eR.Jp (by omega) (by omega) _ _),oc.length+2,bK (iT lx) _,by omega,?_⟩ (by dsimp only;omega) (Xv (X2 @ar.eq_1 @aO.eq_1))
    rw[eK (by rw[bI,bI];omega),bI,bI,Nat.add_sub_cancel_left,← lT]
    rfl
  obtain rfl:i=m.au.length:=by omega
  rw[List.take_length] at gd
  ((repeat' (first|refine Va X0 ?_|(refine Xi ?_ ?_<;>try intro ht)|exact Xx|fail)))
  refine av _ _ rfl ?_;clear aq av Ql
  repeat (refine Xu ?_)
  refine Va (X3 @g3 @g2 @zM.eq_1) ?_
  have g2s:=fun y=>iT (y:=y) g2
  unfold fU
  simp only[dX,dQ]
  simp (disch:=omega) only[Ac,↓Pc,simprocAttr,g2s]
  have age:=(aQ.1 g3).1
  have e1:=cy.same (fun c=>tj _) hC (il.mono (aG _) (by omega)) (il a (by omega) BW)
  have e2:=cy.same (fun c=>tj _) e1 (lX.mono (aG _) (by omega)) (lX a (by omega) (by omega))
  have e3:=cy.same (fun c=>uC _) hP (lX.mono (by omega) (by omega)) (lX b (by omega) uH)
  refine⟨_,_,⟨(bm (by omega)).trans g0,a,b,d,rfl,yv,C,os.length,lY,C2,cy.low (cy.Bg (fun c=>tj _) e2 (by omega) _) (by omega),cy.Bg (fun c=>uC _) e3 (by omega) _,BW,(bm (by omega)).trans gd,by omega⟩,fJ rfl ?_ rfl⟩
  rw[bI];omega
theorem V':∀ (l:List (List bx)) (n:Nat),oU l n≤((n * lr l:Nat):Int)
  | [],n=>by rw[oU,lr,Nat.mul_one];exact Int.le_refl _
  | c::r,n=>by
    rw[oU]
    split
    · exact Int.natCast_nonneg _
    · rw[show (min ((n:Int) * c.length) 65537:Int)=((min (n * c.length) 65537:Nat):Int) by rw[← Int.natCast_mul];omega]
      refine Int.le_trans (V' r _) (Int.ofNat_le.2 ?_)
      rw[lr,← Nat.mul_assoc]
      exact Nat.mul_le_mul_right _ (Nat.min_le_left _ _)
theorem Jr {w:Nat} (hw:1≤w):∀ (l:List (List bx)) (k:Nat),l.length≤k→(∀ x∈l,x.length≤w)→lr l≤w ^ k
  | [],k,_,_=>Nat.pow_pos hw
  | c::r,0,h,_=>by simp at h
  | c::r,k+1,h,hx=>by
    rw[lr,Nat.pow_succ,Nat.mul_comm (w ^ k)]
    exact zC (hx c (by simp)) (Jr hw r k (by simpa using h) fun x h1=>hx x (by simp[h1]))
theorem Wa (x:List bx):∀ l:List (List bx),lr (l++[x])=lr l * x.length
  | []=>by show x.length * 1=1 * x.length;omega
  | c::r=>by rw[da,lr,lr,Wa x r,Nat.mul_assoc]
theorem Wd {m:aj} (k:Nat) (h:lr m.cls≤k):eC m≤k:=by
  unfold eC
  split
  · have:=V' m.cls 1
    rw[show ((1:Nat):Int)=1 from rfl,Nat.one_mul] at this
    omega
  · exact Int.natCast_nonneg k
structure TM (m:aj):Prop where
  om:OM m
  l7:VM m→eC m≤1000
theorem I2.tm {m m':aj} {q:Nat} (hm:MM m 3 3) (hq:q≤24) (h:I2 q m m'):TM m':=⟨h.om.mono (by omega),fun hv=>Wd 1000 (by
  have h3:=Jr (w:=3) (by decide) m.cls 3 hm.l7 fun x hx=>(hm.some x hx).2
  rcases h.cl with e | ⟨x,e⟩
  · rw[e];omega
  · have hx:x.length≤24:=hv.opt x (by rw[e];simp)
    rw[e,Wa]
    exact iJ (zC h3 hx) (by decide))⟩
theorem FW.tm {m:aj} (h:FW m) {xs:List Pr} (hx:xs.length=m.ae.length) (ht:∀ p∈xs,p.az.length≤576) (r:Int):TM ⟨m.cls,xs,m.au,r⟩:=⟨(kr.ae (l:=xs) h.vm.om (by have:=h.vm.ae;omega) fun p hp=>by have:=ht p hp;omega).rules r,fun _=>Wd 1000 (iJ (Jr (by decide) m.cls 4 h.l7 h.opt) (by decide))⟩
theorem Od (L:List Int) (k:Nat) (hk:k≤L.length) (hL:L.length<1000000) :
    eO Tryz.prog 28 [.ptr 0 0 0] [je L k] (fun r os=>∃ m k',TM m∧k'≤L.length∧r=.agg (ar m)∧os=[je L k']):=by
  have jd:=yQ L k 9 (by unfold fc;omega) (by omega) hk hL
  have bS:=gw hk
  generalize xc L k 9=bo at *
  generalize cU L k=k2 at *
  clear hk
  unfold je at *
  refine eO.aD (fn:=Tryz.f28) 51 1 [.cell 2 29] Tryz.func28 rfl rfl rfl rfl rfl (by simp) ?_
  ((refine Va X0 ?_)<;>try with_reducible intro K hK)
  (refine Xn [0] (jd) ?_;simp (disch:=omega) only[Ac,↓Pc,simprocAttr])
  have zw:∀ (env:Nat→AV) (m:aj) (k':Nat) (os:List Ob) (v:AV),TM m→k'≤L.length→env 2=.ptr 1 0 0→os[0]?=some (.var [.tree 1 (ints L),.lit (.int .i64 k')])→os[1]?=some (.var [.tree 1 (rowsOf bD m.cls),v,.tree 4 (rowsOf aO m.au),.lit (.int .i64 m.rules)])→(v=.tree 4 (rowsOf bu m.ae)∨∃ q,v=.ref q 4 0 m.ae.length∧q≠0∧os[q]?=some (.arr 4 (rowsOf bu m.ae))) →
      fU Tryz.prog 1 [.cell 2 29] (fun r os=>∃ m k',TM m∧k'≤L.length∧r=.agg (ar m)∧os=[.var [.tree 1 (ints L),.lit (.int .i64 k')]]) .ret ⟨env,os⟩:=by
    intro env m k' os v eu aH sI h0 h1 hv
    have hl0:=(aQ.1 h0).1
    have CW:cf v=true:=by rcases hv with rfl | ⟨q,rfl,_⟩<;>rfl
    unfold fU
    simp only[dX,dQ,sI]
    simp (disch:=omega) only[Ac,↓Pc,simprocAttr,sI,h1,CW]
    refine⟨_,_,⟨m,k',eu,aH,rfl,rfl⟩,?_⟩
    refine cP [0] true (by decide) ⟨⟨hl0,.inr (by rw[h0];rfl)⟩,trivial⟩ (by decide) (fun i hi=>by
      obtain rfl:i=0:=by omega
      rfl) ?_
    refine (aE.agg _ _ rfl (dY.spec (R:=aE _ _ _ _) (cs:=ar m) (ds:=[.tree 1 (rowsOf bD m.cls),v,.tree 4 (rowsOf aO m.au),.lit (.int .i64 m.rules)]) ⟨.pure rfl,?_,.pure rfl,.pure rfl,trivial⟩).2)
    rcases hv with rfl | ⟨q,rfl,I6,hq⟩
    · exact .pure rfl
    · exact aE.bW hq (eT _) (by rw[b8]) (gK (by simpa using I6)) (jy _)
  repeat' (first|(refine hK _ ?_;clear hK K)|(refine Xi ?_ ?_<;>try intro ht)|refine Xy ?_|fail)
  · have vc:=acu L k2 3 3 bS hL (by decide) (by decide) (by decide)
    unfold je at vc
    refine Zn 2 0 (by decide) _ _ rfl rfl ?_
    intro K hK
    simp (disch:=omega) only[Ac,↓Pc,simprocAttr,List.take,List.drop]
    refine⟨rfl,(show lZ Tryz.prog 26 [.ptr 0 0 0,.lit (.int .i64 (3:Nat)),.lit (.int .i64 (3:Nat))] (some 11) _ _ from ?_)⟩
    refine yy [0] vc (by decide) ⟨rfl,trivial⟩ ⟨.eq rfl,.pure rfl,.pure rfl,trivial⟩ ?_
    rintro r os ⟨m,k,hm,hk,rfl,rfl⟩
    have ur:=hm
    have We:=adS 24 (aG _) L k m hm.vm hm.vm.cls hk hL
    unfold je at We
    simp (disch:=omega) only[Ac,↓Pc,simprocAttr]
    refine⟨rfl,(show lZ Tryz.prog 43 [.ptr 0 0 0,.agg (ar m)] (some 12) _ _ from ?_)⟩
    refine yy [0] We (by decide) ⟨rfl,trivial⟩ ⟨.eq rfl,.pure rfl,trivial⟩ ?_
    rintro r os ⟨m1,k,sZ,hk,rfl,rfl⟩
    have uo:=sZ.tm ur (aG _)
    simp (disch:=omega) only[Ac,↓Pc,simprocAttr]
    refine hK _ ?_;clear hK K
    refine Va X0 ?_
    exact zw _ m1 k _ (.tree 4 (rowsOf bu m1.ae)) uo hk (by simp only[Kc,simprocAttr]) rfl rfl (.inl rfl)
  · have Js:=ad3 L k2 bS hL
    unfold je uE at Js
    refine qv 1 (by decide) _ rfl ?_
    intro K hK
    simp (disch:=omega) only[Ac,↓Pc,simprocAttr,List.take,List.drop]
    refine⟨rfl,(show lZ Tryz.prog 44 [.ptr 0 0 0] (some 14) _ _ from ?_)⟩
    refine yy [0] Js (by decide) ⟨rfl,trivial⟩ ⟨.eq rfl,trivial⟩ ?_
    rintro r os ⟨m,k3,hm,kG,rfl,rfl⟩
    simp (disch:=omega) only[Ac,↓Pc,simprocAttr,qo]
    refine hK _ ?_;clear hK K
    clear Js bS jd
    have dM:=hm.vm
    have cF:=dM.im
    have cq:=dM.ae
    have htb:∀ p∈m.ae,p.az.length≤576:=fun p hp=>Vi dM hp
    refine Va X0 ?_
    refine aU (fun z:Nat × Nat × List Pr=>(⟨aw [(0,.ptr 0 0 0),(2,.ptr 1 0 0),(3,.ptr 3 0 0),(4,.lit (.int .i64 z.1))],[.var [.tree 1 (ints L),.lit (.int .i64 z.2.1)],.var [.lit (.slice none 0 0),.lit (.slice none 0 0),.lit (.slice none 0 0),.lit (.int .i64 0)],.arr 4 (rowsOf bu z.2.2),.var [.tree 1 (rowsOf bD m.cls),.ref 2 4 0 m.ae.length,.tree 4 (rowsOf aO m.au),.lit (.int .i64 (m.rules+2))]]⟩:St))
      (fun z=>z.1≤m.ae.length∧z.2.1≤L.length∧z.2.2.length=m.ae.length∧∀ p∈z.2.2,p.az.length≤576) (fun z=>m.ae.length - z.1) (0,k3,m.ae) ⟨aM _,kG,rfl,htb⟩ (Xv X0) ?_
    rintro ⟨i,k,xs⟩ ⟨hi,hk,pR,EZ⟩ Ql aq av
    dsimp only at hi hk pR EZ ⊢
    by_cases hi':i<m.ae.length
    · have zo:=EZ _ (aC (l:=xs) (i:=i) (d:=default) (by omega))
      generalize cT:xs.getD i default=p at *
      ((repeat' (first|refine Va (X2 @cT @bu.eq_1) ?_|(refine Xi ?_ ?_<;>try intro ht)|exact Xx|fail)))
      refine aU (fun z:Nat × Nat × List Int=>(⟨aw [(0,.ptr 0 0 0),(2,.ptr 1 0 0),(3,.ptr 3 0 0),(4,.lit (.int .i64 i)),(5,.ref 4 1 0 p.az.length),(6,.lit (.int .i64 z.1))],[.var [.tree 1 (ints L),.lit (.int .i64 z.2.1)],.var [.lit (.slice none 0 0),.lit (.slice none 0 0),.lit (.slice none 0 0),.lit (.int .i64 0)],.arr 4 (rowsOf bu xs),.var [.tree 1 (rowsOf bD m.cls),.ref 2 4 0 m.ae.length,.tree 4 (rowsOf aO m.au),.lit (.int .i64 (m.rules+2))],.arr 1 (ints z.2.2)]⟩:St))
        (fun z=>z.1≤p.az.length∧z.2.1≤L.length∧z.2.2.length=p.az.length) (fun z=>p.az.length - z.1) (0,k,p.az) ⟨aM _,hk,rfl⟩ (Xv X0) ?_
      rintro ⟨j,kk,t⟩ ⟨hj,iX,Bw⟩ eo bP bM
      dsimp only at hj iX Bw ⊢
      by_cases c9:j<p.az.length
      · have jd:=yQ L kk 3 (by unfold fc;omega) (by omega) iX hL
        have xA:=gw iX
        unfold je at *
        generalize xc L kk 3=bo2 at *
        generalize cU L kk=k4 at *
        ((repeat' (first|refine Va X0 ?_|(refine Xi ?_ ?_<;>try intro ht)|exact Xx|fail))<;>try with_reducible intro K hK)
        (refine Xn [0] (jd) ?_;simp (disch:=omega) only[Ac,↓Pc,simprocAttr])
        ((try revert hK K);(repeat' (first|refine Va @ints_set ?_|(refine Xi ?_ ?_<;>try intro ht)|fail)))
        · exact bP _ (j+1,k4,t.set j 1099511627776) ⟨by dsimp only;omega,xA,by simpa using Bw⟩ (by dsimp only;omega) (Xv X0)
        · exact bP _ (j+1,k4,t) ⟨by dsimp only;omega,xA,Bw⟩ (by dsimp only;omega) (Xv X0)
      · ((repeat' (first|refine Va X0 ?_|(refine Xi ?_ ?_<;>try intro ht)|exact Xx|fail)))
        refine bM _ _ rfl ?_
        repeat (refine Xu ?_)
        have ht5:t.length<9223372036854775808:=by omega
        refine bJ (aB.FA 5 4 1 (rows:=ints t) rfl (by rw[kd,Bw];simp only[Kc,simprocAttr]) (oE _) (pw _)) ?_
        have jZ:(rowsOf bu xs).set i [.lit (.int .i64 p.fst),.lit (.int .i64 p.snd),.lit (.int .i64 p.aV),.tree 1 (ints t)]=rowsOf bu (xs.set i ⟨p.fst,p.snd,p.aV,t⟩):=yx (enc:=bu) xs i ⟨p.fst,p.snd,p.aV,t⟩
        refine Va (X3 @cT @bu.eq_1 @jZ) ?_
        exact aq _ (i+1,kk,xs.set i ⟨p.fst,p.snd,p.aV,t⟩) ⟨by dsimp only;omega,iX,by simpa using pR,fun y hy=>(List.mem_or_eq_of_mem_set hy).elim (EZ y) fun e=>by rw[e];show t.length≤576;omega⟩ (by dsimp only;omega) (Xs false [0,1,2,3] X0)
    · ((repeat' (first|refine Va X0 ?_|(refine Xi ?_ ?_<;>try intro ht)|exact Xx|fail)))
      refine av _ _ rfl ?_;clear aq av Ql
      repeat (refine Xu ?_)
      refine Va X0 ?_
      exact zw _ ⟨m.cls,xs,m.au,m.rules+2⟩ k _ (.ref 2 4 0 m.ae.length) (hm.tm pR EZ _) hk (by simp only[Kc,simprocAttr]) rfl rfl (.inr ⟨2,by rw[pR],by decide,rfl⟩)
end T

