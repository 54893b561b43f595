import Derived.Test.YtdipcmigdbnheaaGreatX32
import Derived.Test.YtdipcmigdbnheaaGreatX14
import Derived.Test.YtdipcmigdbnheaaGreatX20
import Derived.Test.YtdipcmigdbnheaaGreatX29
import Derived.Test.YtdipcmigdbnheaaGreatX13
import Derived.Test.YtdipcmigdbnheaaGreatX35
import Derived.Test.YtdipcmigdbnheaaGreatX41
import Derived.Test.YtdipcmigdbnheaaGreatX10
set_option linter.unusedVariables false
set_option linter.unusedSimpArgs false
set_option linter.unnecessarySimpa false
set_option linter.unusedSectionVars false
set_option maxHeartbeats 64000000
set_option maxRecDepth 20000
open List renaming mem_or_eq_of_mem_set→pY,getD_eq_getElem?_getD→ay,map_set→qD,take→pZ,drop→mZ
open Nat renaming le_trans→tp,zero_le→aH,le_refl→aV
open Go Go.Am Go.Proofs
open Nat (reduceEqDiff reduceAdd reduceLeDiff reduceMul)
open Int (reduceNeg reduceLE reduceToNat)
namespace T
def xH (c:Int) (p:Pr):Bool:=decide (p.fst≠c∧p.snd≠c)
def pT (m:ae) (c:Int):ae:=⟨m.cls.set c.toNat [],m.ah.filter (xH c),[],m.rules⟩
theorem aih {m:ae} (hm:VM m) {c:Int} (hc:0≤c):VM (pT m c):=by
  have cd:∀ l∈(pT m c).cls,l=[]∨l∈m.cls:=fun l hl=>(pY hl).symm
  have key:∀ (l:List Pr) (q:Option Pr),(∀ p∈l,xH c p=true)→fQ m q l=true→fQ (pT m c) q l=true:=by
    intro l
    induction l with
    | nil=>intro q _ _;cases q<;>rfl
    | cons p r ih =>
      intro q ho h
      rw[fQ.eq_def] at h ⊢
      simp only[Bool.and_eq_true] at h ⊢
      obtain ⟨⟨a,b⟩,d⟩:=h
      have hp:=ho p (by simp)
      unfold xH at hp
      rw[decide_eq_true_eq] at hp
      refine⟨⟨?_,b⟩,ih _ (fun x hx=>ho x (by simp[hx])) d⟩
      have e:∀ x:Int,0≤x→x≠c→(pT m c).cls.getD x.toNat default=m.cls.getD x.toNat default:=fun x h0 hx=>by
        unfold pT
        dsimp only
        rw[ay,List.getElem?_set_ne (by omega),← ay]
      have q:=(iY a).2
      unfold eG at *
      rw[e _ q.1 hp.1,e _ (by omega) hp.2,show (pT m c).cls.length=m.cls.length by unfold pT;simp]
      exact a
  refine⟨by unfold pT;simpa using hm.cls,fun l hl=>?_,tp (List.length_filter_le _ _) hm.ah,aH _,hm.mP,fun l hl o ho=>?_,key _ _ (fun p hp=>(List.mem_filter.1 hp).2) (Jo _ hm.pr),fun c hc=>by cases hc⟩
  · rcases cd l hl with rfl | h
    · exact aH _
    · exact hm.opt l h
  · rcases cd l hl with rfl | h
    · cases ho
    · exact hm.mf l h o ho
theorem Zh {R:AV→AV→Prop}:∀ {a c:List (List AV)} {x y:List AV} (j:Nat),iL R a c→iK R x y→iL R (a.set j x) (c.set j y)
  | [],[],_,_,_,_,_=>trivial
  | _::_,_::_,_,_,0,h,k=>⟨k,h.2⟩
  | _::_,_::_,_,_,j+1,h,k=>⟨h.1,Zh j h.2 k⟩
  | [],_::_,_,_,_,h,_=>h.elim
  | _::_,[],_,_,_,h,_=>h.elim
theorem Zi {α:Type} {enc:α→List AV} {w:Nat} [Row enc w] {σ:St} {kp:Nat→Prop} (xs:List α):iL (cw σ kp) (rowsOf enc xs) (rowsOf enc xs) :=
  iL.zf (f:=fun _=>[]) (g:=fun _=>[]) rfl fun j c d hc hd=>by rw[hc] at hd;cases hd;exact Gd (fun v hv=>tL _ _ (List.mem_of_getElem? hc) v hv) rfl
theorem aii {σ:St} {kp:Nat→Prop} {id n c:Nat} {cls:List (List cB)} (ho:σ.aa[id]?=some (.arr 1 ((rowsOf bA cls).set c [.lit (.slice none 0 0)]))) (hn:n=cls.length) (hk:¬ kp id):cw σ kp (.tree 1 (rowsOf bA (cls.set c []))) (.ref id 1 0 n):=by
  have e:rowsOf bA (cls.set c [])=(rowsOf bA cls).set c (bA []):=by unfold rowsOf;rw[qD]
  refine cw.mk ho (by rw[hn,List.length_set,eP]) hk (kC _) ?_
  rw[e]
  exact Zh c (Zi cls) ⟨.nil 6,trivial⟩
theorem aij (m:ae) (hm:VM m) (c:Int) (hc:0≤c∧c<m.cls.length):ao Tryz.prog 79 [.agg (au m),.lit (.int .i64 c)] [] (.agg (au (pT m c))) []:=by
  have nX:=hm.cls
  have Db:=hm.ah
  have bX:(rowsOf bA m.cls).length=m.cls.length:=eP _
  have aik:∀ ρ,bD ρ (.arr 1 ((rowsOf bA m.cls).set c.toNat [.lit (.slice none 0 0)]))=.arr 1 ((rowsOf bA m.cls).set c.toNat [.lit (.slice none 0 0)]):=fun ρ=>by
    have h:bD ρ (.arr 1 (rowsOf bA m.cls))=.arr 1 (rowsOf bA m.cls):=by rw[Ai]
    simp only[bD,Ob.arr.injEq,true_and] at h ⊢
    rw[qD,h]
    simp[aX]
  have xn:∀ (xs:List Pr) (p:Pr),rowsOf bc xs++[[AV.lit (.int .i64 p.fst),AV.lit (.int .i64 p.snd),AV.lit (.int .i64 p.db),AV.tree 1 (ints p.aP)]]=rowsOf bc (xs++[p]):=fun xs p=>qZ xs p
  refine ao.aD (fn:=Tryz.f79) 53 0 [.cell 4 29] Tryz.func79 rfl rfl rfl rfl rfl (by simp) ?_
  repeat' (first|((fail_if_success (first|refine iV 1 ?_|refine iW 1 ?_));refine Xr X0 ?_;intro K hK)|(refine hK _ ?_;clear hK K)|refine XY ?_|fail)
  refine VB ?_;intro Q hn he
  refine xV ⟨aw [(1,.lit (.int .i64 c)),(2,.ptr 0 0 0),(4,.ptr 1 0 0),(5,.ptr 3 0 0)],[.var (au m),.var [.lit (.slice none 0 0),.lit (.slice none 0 0),.lit (.slice none 0 0),.lit (.int .i64 0)],.arr 1 (rowsOf bA m.cls),.var [.ref 2 1 0 m.cls.length,.lit (.slice none 0 0),.lit (.slice none 0 0),.lit (.int .i64 m.rules)]]⟩ hn ?_ (fun key=>?_)
  rotate_left
  · refine sj [] (.take 0 (.take 1 (.three 2 (.take 3 (.take 4 (.take 5 (.take 6 (.take 7 .nil))))) 3 (.three 2 (.take 4 (.take 5 (.take 6 (.take 7 .nil)))) 4 (.both 2 (.take 5 (.take 6 (.take 7 .nil))) 6 (.take 2 (.take 5 (.take 7 .nil)))) 6 (.both 2 (.take 4 (.take 5 (.take 7 .nil))) 4 (.take 2 (.take 5 (.take 7 .nil))))) 6 (.both 2 (.take 3 (.take 4 (.take 5 (.take 7 .nil)))) 3 (.both 2 (.take 4 (.take 5 (.take 7 .nil))) 4 (.take 2 (.take 5 (.take 7 .nil)))))))) rfl (by decide) (by decide +kernel) ?_
    simp (disch:=omega) only[Ac,↓Pc,simprocAttr,Pw]
    repeat' (first|with_reducible refine And.intro ?_ ?_|omega)
    all_goals
      refine key _ ?_
      first|(exact Xv X0;done)|(exact Xs false [0,1,3,2] X0)
  (try clear hn;try clear he)
  refine Vb @bX ?_
  refine dO (aQ.q7 3 1 4 rfl rfl (by decide)) ?_
  refine aG (fun z:Nat × List Pr=>(⟨aw [(1,.lit (.int .i64 c)),(2,.ptr 0 0 0),(4,.ptr 1 0 0),(5,.ptr 3 0 0),(6,.lit (.int .i64 z.1))],[.var (au m),.var [.lit (.slice none 0 0),.lit (.slice none 0 0),.lit (.slice none 0 0),.lit (.int .i64 0)],.arr 1 ((rowsOf bA m.cls).set c.toNat [.lit (.slice none 0 0)]),.var [.ref 2 1 0 m.cls.length,.ref 4 4 0 z.2.length,.lit (.slice none 0 0),.lit (.int .i64 m.rules)],.arr 4 (rowsOf bc z.2)]⟩:St))
    (fun z=>z.1≤m.ah.length∧z.2=(m.ah.take z.1).filter (xH c)) (fun z=>m.ah.length - z.1) (0,[]) ⟨aH _,rfl⟩ (Xv X0) ?_
  rintro ⟨i,xs⟩ ⟨hi,cl⟩ Ql ak aq
  dsimp only at hi cl ⊢
  by_cases ax:i<m.ah.length
  · have ef:=eU ax
    have sV:xs.length≤4000:=by
      rw[cl]
      exact tp (List.length_filter_le _ _) (by rw[List.length_take];omega)
    generalize bQ:m.ah.getD i default=p at *
    have hf:(m.ah.take (i+1)).filter (xH c)=xs++if xH c p=true then [p] else []:=by
      rw[ef,List.filter_append,← cl]
      congr 1
      rw[List.filter_cons,List.filter_nil]
    by_cases Zj:p.fst≠c∧p.snd≠c
    · rw[if_pos (by unfold xH;exact decide_eq_true Zj)] at hf
      ((repeat' (first|refine Va (X2 @bQ @bc.eq_1) ?_|(refine V2 (X2 @bQ @bc.eq_1) ?_ ?_<;>try with_reducible intro hb)|(refine Xi ?_ ?_<;>try intro ht)|exact Xx|fail)))
      all_goals exact ak _ (i+1,xs++[p]) ⟨by dsimp only;omega,hf.symm⟩ (by dsimp only;omega) (Xs false [0,1,2,3,6] (X2 @aik @xn))
    · rw[if_neg (by unfold xH;simpa using Zj),List.append_nil] at hf
      ((repeat' (first|refine Va (X2 @bQ @bc.eq_1) ?_|(refine V2 (X2 @bQ @bc.eq_1) ?_ ?_<;>try with_reducible intro hb)|(refine Xi ?_ ?_<;>try intro ht)|exact Xx|fail)))
      all_goals exact ak _ (i+1,xs) ⟨by dsimp only;omega,hf.symm⟩ (by dsimp only;omega) (Xv X0)
  · rw[List.take_of_length_le (by omega)] at cl
    ((repeat' (first|refine Va X0 ?_|(refine V2 X0 ?_ ?_<;>try with_reducible intro hb)|(refine Xi ?_ ?_<;>try intro ht)|exact Xx|fail)))
    refine aq _ _ rfl ?_;clear ak aq Ql
    repeat (refine Xu ?_)
    refine Vb X0 ?_
    simp (disch:=omega) only[Ac,↓Pc,simprocAttr,rowOf]
    refine dR [] true (by decide) trivial (by decide) (by decide) ?_
    refine (aO.agg _ _ rfl (iK.spec (R:=aO _ _ _ _) (cs:=au (pT m c)) (ds:=[.ref 2 1 0 m.cls.length,.ref 4 4 0 xs.length,.lit (.slice none 0 0),.lit (.int .i64 m.rules)]) ⟨.snap _ _ rfl (aii rfl rfl (jk (by decide))),.snap _ _ rfl ?_,.snap _ _ rfl (.nil 4),.pure rfl,trivial⟩).2)
    unfold pT
    dsimp only
    rw[← cl]
    exact cw.mk rfl (by rw[eP]) (jk (by decide)) (kC _) (Zi xs)
structure FW (m:ae):Prop where
  vm:VM m
  uo:m.cls.length≤4
  opt:∀ l∈m.cls,l.length≤4
theorem FW.cap {m:ae} (h:FW m):j6 m m.cls.length≤8000 :=
  tp (Qs h.opt _ (aV _)) (tp (Nat.pow_le_pow_right (by decide) h.uo) (by decide))
theorem MM.fw {m:ae} {a b:Nat} (h:MM m a b) (ha:a≤4) (hb:b≤4):FW m:=⟨h.vm,tp h.uo ha,fun l hl=>tp (h.some l hl).2 hb⟩
theorem FW.ail {m:ae} (h:FW m) {c:Int} (hc:0≤c):FW (pT m c):=⟨aih h.vm hc,by unfold pT;simpa using h.uo,fun l hl=>by
  rcases pY hl with h1 | h1
  · exact h.opt l h1
  · rw[h1];exact aH _⟩
theorem aim (L:List Int) (k:Nat) (hk:k≤L.length) (hL:L.length<1000000) :
    il Tryz.prog 44 [.ptr 0 0 0] [jq L k] (fun r os=>∃ m k',FW m∧k'≤L.length∧r=.agg (au m)∧os=[jq L k']):=by
  have qY:=KR L k 4 4 hk hL (by decide) (by decide) (by decide)
  unfold jq at *
  refine il.aD (fn:=Tryz.f44) 117 1 [.cell 2 29] Tryz.func44 rfl rfl rfl rfl rfl (by simp) ?_
  repeat' (first|((fail_if_success (first|refine iV 1 ?_|refine iW 1 ?_));refine Xr X0 ?_;intro K hK)|(refine hK _ ?_;clear hK K)|refine Xy ?_|fail)
  refine wI 1 (by decide) _ rfl ?_
  intro K hK
  simp (disch:=omega) only[Ac,↓Pc,simprocAttr,pZ,mZ]
  refine⟨rfl,(show pB Tryz.prog 26 [.ptr 0 0 0,.lit (.int .i64 (4:Nat)),.lit (.int .i64 (4:Nat))] (some 11) _ _ from ?_)⟩
  refine Aj [0] qY (by decide) ⟨rfl,trivial⟩ ⟨.eq rfl,.pure rfl,.pure rfl,trivial⟩ ?_
  rintro r os ⟨m,k1,hm,fl,rfl,rfl⟩
  clear qY hk
  have LK:=hm.fw (aV 4) (aV 4)
  have qq:oc m.cls≤256:=Int.le_trans (XE (w:=4) m.cls 4 (by decide) hm.uo hm.some) (by decide)
  have eZ:=af2 m hm.vm (fun l hl=>(hm.some l hl).1) (by omega)
  generalize oc m.cls=pn at *
  simp (disch:=omega) only[Ac,↓Pc,simprocAttr]
  refine hK _ ?_
  clear hK K
  repeat (refine Xu ?_)
  have mD:=C6 L k1 12 (by unfold fH;omega) (by omega) fl hL
  have bG:=gP fl
  refine Va X0 ?_
  refine aG (fun _:Unit=>(⟨aw [(0,.ptr 0 0 0),(2,.ptr 1 0 0),(3,.ptr 2 0 0)],[.var [.tree 1 (ints L),.lit (.int .i64 k1)],.var [.lit (.slice none 0 0),.lit (.slice none 0 0),.lit (.slice none 0 0),.lit (.int .i64 0)],.var (au m)]⟩:St)) (fun _=>True) (fun _=>0) () trivial (Xv X0) ?_
  rintro _ _ Ql ak aq
  ((repeat' (first|refine Vc X0 eZ ?_|(refine Xi ?_ ?_<;>try intro ht)|exact Xx|fail)))
  refine aq _ _ rfl ?_;clear ak aq Ql
  repeat (refine Xu ?_)
  clear eZ qq
  have Bw:∀ (env:Nat→AV) (m:ae) (k':Nat) (x:Ob),FW m→k'≤L.length→env 2=.ptr 1 0 0→iU Tryz.prog 1 [.cell 2 29] (fun r os=>∃ m k',FW m∧k'≤L.length∧r=.agg (au m)∧os=[.var [.tree 1 (ints L),.lit (.int .i64 k')]]) .ret ⟨env,[.var [.tree 1 (ints L),.lit (.int .i64 k')],.var (au m),x]⟩:=by
    intro env m k' x fq aF tK
    unfold iU
    simp only[fi,ew,tK]
    simp (disch:=omega) only[Ac,↓Pc,simprocAttr,tK]
    refine⟨_,_,⟨m,k',fq,aF,rfl,rfl⟩,?_⟩
    exact Xw true [0] X0
  ((repeat' (first|refine Va X0 ?_|(refine V2 X0 ?_ ?_<;>try with_reducible intro hb)|(refine Xi ?_ ?_<;>try intro ht)|exact Xx|fail))<;>try with_reducible intro K hK)
  rotate_left
  · exact Bw _ m k1 _ LK fl (by simp only[Kc,simprocAttr])
  have lD:0<m.cls.length:=by omega
  have oQ:=jB L (cN L k1) (m.cls.length:Int) (by unfold fH;have:=hm.vm.cls;omega) bG hL
  have xw:=mQ (L:=L) (k:=cN L k1) (n:=(m.cls.length:Int)) (by omega)
  have hwo:=aij m hm.vm (eH L (cN L k1) (m.cls.length:Int)) xw
  have hwf:=LK.ail xw.1
  have ma:=gP bG
  unfold jq at *
  generalize AZ L k1 12=bo at *
  generalize eH L (cN L k1) (m.cls.length:Int)=v at *
  generalize cN L (cN L k1)=k3 at *
  generalize cN L k1=k2 at *
  generalize pT m v=mw at *
  (refine Xn [0] (mD) ?_;simp (disch:=omega) only[Ac,↓Pc,simprocAttr])
  ((try revert hK K);(repeat' (first|refine Va X0 ?_|(refine Xi ?_ ?_<;>try intro ht)|fail))<;>try with_reducible intro K hK)
  · (refine Xn [0] (oQ) ?_;simp (disch:=omega) only[Ac,↓Pc,simprocAttr])
    ((try revert hK K);(refine Vc X0 hwo ?_))
    exact Bw _ mw k3 _ hwf ma (by simp only[Kc,simprocAttr])
  · exact Bw _ m k2 _ LK bG (by simp only[Kc,simprocAttr])
theorem abE (L:List Int) (k:Nat) (hk:k≤L.length) (hL:L.length<1000000) :
    il Tryz.prog 13 [.ptr 0 0 0] [jq L k] (fun r os=>∃ m k',OM m∧k'≤L.length∧r=.agg (au m)∧os=[jq L k']):=by
  have mD:=C6 L k 8 (by unfold fH;omega) (by omega) hk hL
  have bG:=gP hk
  generalize AZ L k 8=bo at *
  generalize cN L k=k2 at *
  clear hk
  unfold jq at *
  refine il.aD (fn:=Tryz.f13) 11 1 [.cell 2 29] Tryz.func13 rfl rfl rfl rfl rfl (by simp) ?_
  ((refine Va X0 ?_)<;>try with_reducible intro K hK)
  (refine Xn [0] (mD) ?_;simp (disch:=omega) only[Ac,↓Pc,simprocAttr])
  have Bw:∀ (env:Nat→AV) (m:ae) (k':Nat),OM m→k'≤L.length→env 2=.ptr 1 0 0→iU Tryz.prog 1 [.cell 2 29] (fun r os=>∃ m k',OM m∧k'≤L.length∧r=.agg (au m)∧os=[.var [.tree 1 (ints L),.lit (.int .i64 k')]]) .ret ⟨env,[.var [.tree 1 (ints L),.lit (.int .i64 k')],.var (au m)]⟩:=by
    intro env m k' fq aF tK
    unfold iU
    simp only[fi,ew,tK]
    simp (disch:=omega) only[Ac,↓Pc,simprocAttr,tK]
    refine⟨_,_,⟨m,k',fq,aF,rfl,rfl⟩,?_⟩
    exact Xw true [0] X0
  repeat' (first|(refine hK _ ?_;clear hK K)|(refine Xi ?_ ?_<;>try intro ht)|refine Xy ?_|fail)
  · have qY:=KR L k2 3 3 bG hL (by decide) (by decide) (by decide)
    unfold jq at qY
    refine adB 2 0 (by decide) _ _ rfl rfl ?_
    intro K hK
    simp (disch:=omega) only[Ac,↓Pc,simprocAttr,pZ,mZ]
    refine⟨rfl,(show pB Tryz.prog 26 [.ptr 0 0 0,.lit (.int .i64 (3:Nat)),.lit (.int .i64 (3:Nat))] (some 7) _ _ from ?_)⟩
    refine Aj [0] qY (by decide) ⟨rfl,trivial⟩ ⟨.eq rfl,.pure rfl,.pure rfl,trivial⟩ ?_
    rintro r os ⟨m,k,hm,hk,rfl,rfl⟩
    have Zk:=af1 L k m hm.vm hk hL
    unfold jq at Zk
    simp (disch:=omega) only[Ac,↓Pc,simprocAttr]
    refine⟨rfl,(show pB Tryz.prog 43 [.ptr 0 0 0,.agg (au m)] (some 8) _ _ from ?_)⟩
    refine Aj [0] Zk (by decide) ⟨rfl,trivial⟩ ⟨.eq rfl,.pure rfl,trivial⟩ ?_
    rintro r os ⟨m,k,hm,hk,rfl,rfl⟩
    simp (disch:=omega) only[Ac,↓Pc,simprocAttr]
    refine hK _ ?_;clear hK K
    refine Va X0 ?_
    exact Bw _ m k hm hk (by simp only[Kc,simprocAttr])
  · have Zl:=aim L k2 bG hL
    unfold jq at Zl
    refine wI 1 (by decide) _ rfl ?_
    intro K hK
    simp (disch:=omega) only[Ac,↓Pc,simprocAttr,pZ,mZ]
    refine⟨rfl,(show pB Tryz.prog 44 [.ptr 0 0 0] (some 10) _ _ from ?_)⟩
    refine Aj [0] Zl (by decide) ⟨rfl,trivial⟩ ⟨.eq rfl,trivial⟩ ?_
    rintro r os ⟨m,k,hm,hk,rfl,rfl⟩
    simp (disch:=omega) only[Ac,↓Pc,simprocAttr]
    refine hK _ ?_;clear hK K
    refine Va X0 ?_
    exact Bw _ m k hm.vm.om hk (by simp only[Kc,simprocAttr])
end T

