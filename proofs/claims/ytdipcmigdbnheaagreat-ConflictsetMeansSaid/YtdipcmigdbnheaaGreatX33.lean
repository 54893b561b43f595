import Derived.Test.YtdipcmigdbnheaaGreatX27
import Derived.Test.YtdipcmigdbnheaaGreatX05
import Derived.Test.YtdipcmigdbnheaaGreatX08
import Derived.Test.YtdipcmigdbnheaaGreatX15
import Derived.Test.YtdipcmigdbnheaaGreatX13
import Derived.Test.YtdipcmigdbnheaaGreatX20
import Derived.Test.YtdipcmigdbnheaaGreatX16
import Derived.Test.YtdipcmigdbnheaaGreatX14
import Derived.Test.YtdipcmigdbnheaaGreatX26
import Derived.Test.YtdipcmigdbnheaaGreatX17
import Derived.Test.YtdipcmigdbnheaaGreatX32
import Derived.Test.YtdipcmigdbnheaaGreatX06
set_option linter.unusedVariables false
set_option linter.unusedSimpArgs false
set_option linter.unnecessarySimpa false
set_option linter.unusedSectionVars false
set_option maxHeartbeats 64000000
set_option maxRecDepth 20000
open List renaming replicate→bY,mem_append→cr,mem_singleton→eM,mem_or_eq_of_mem_set→pY,length_set→bI,length_replicate→tG,getD_eq_getElem?_getD→aA,length_filter_le→xP,map_set→tC,mem_of_mem_drop→sq,getElem?_eq_some_iff→aQ
open Int renaming mul_le_mul→pj
open Nat renaming le_trans→iJ,zero_le→aM,le_refl→aG
open And renaming intro→fB
open Go Go.Am Go.Proofs
open Nat (reduceEqDiff reduceAdd reduceLeDiff reduceMul)
open Int (reduceNeg reduceLE reduceToNat)
namespace T
theorem Vf {P:Program} {N n0:Nat} {σ:St} {Q:Exit→St→Prop} {x:Code} {id:Nat} (h:∀ Q':Exit→St→Prop,(∀ s,Q .normal s→Q' .normal s)→W P N n0 x Q' σ):W P N n0 x (Bq id Q) σ:=h _ .n
theorem Vg {σ:St} {kp:Nat→Prop}:∀ {l:List AV},(∀ v∈l,(∃ x,v=AV.lit x)∨∃ s r,v=AV.tree s r)→dY (cg σ kp) l l
  | [],_=>trivial
  | v::l,h=>⟨by rcases h v (by simp) with ⟨x,rfl⟩ | ⟨s,r,rfl⟩;exact .lit _;exact .tree _ _,Vg fun x hx=>h x (by simp[hx])⟩
theorem xz {σ:St} {kp:Nat→Prop}:∀ {rows:List (List AV)},(∀ row∈rows,∀ v∈row,(∃ x,v=AV.lit x)∨∃ s r,v=AV.tree s r)→jI (cg σ kp) rows rows
  | [],_=>trivial
  | r::rows,h=>⟨Vg (h r (by simp)),xz fun x hx=>h x (by simp[hx])⟩
theorem BJ {R:AV→AV→Prop}:∀ {a c:List (List AV)} {b d:List (List AV)},jI R a c→jI R b d→jI R (a++b) (c++d)
  | [],[],_,_,_,k=>k
  | _::_,_::_,_,_,h,k=>⟨h.1,BJ h.2 k⟩
  | [],_::_,_,_,h,_=>h.elim
  | _::_,[],_,_,h,_=>h.elim
theorem adQ {R:AV→AV→Prop}:∀ {a c:List (List AV)} {x y:List AV},jI R a c→dY R x y→jI R (a.set 0 x) (c.set 0 y)
  | [],[],_,_,_,_=>trivial
  | _::_,_::_,_,_,h,k=>⟨k,h.2⟩
  | [],_::_,_,_,h,_=>h.elim
  | _::_,[],_,_,h,_=>h.elim
theorem Vh {R:AV→AV→Prop} {x y:List AV} (h:dY R x y):∀ n,jI R (bY n x) (bY n y)
  | 0=>trivial
  | n+1=>⟨h,Vh h n⟩
theorem Vi {m:aj} (h:VM m) {p:Pr} (hp:p∈m.ae):p.az.length≤576:=by
  obtain ⟨_,h1,h2,h3,h4⟩:=kJ (jh h.pr p hp)
  have a:=h.opt _ (aC (l:=m.cls) (i:=p.fst.toNat) (d:=default) (by omega))
  have b:=h.opt _ (aC (l:=m.cls) (i:=p.snd.toNat) (d:=default) (by omega))
  have:((m.cls.getD p.fst.toNat default).length:Int) * (m.cls.getD p.snd.toNat default).length≤24 * 24:=pj (by omega) (by omega) (by omega) (by omega)
  omega
theorem pe {σ:St} {kp:Nat→Prop} {ρ:Nat→Nat} {snap:Bool} {a b c d a' b' c' d':AV} (h1:aE σ kp ρ snap a a') (h2:aE σ kp ρ snap b b') (h3:aE σ kp ρ snap c c') (h4:aE σ kp ρ snap d d'):aE σ kp ρ snap (.agg [a,b,c,d]) (.agg [a',b',c',d']) :=
  .agg _ _ rfl (dY.spec (R:=aE σ kp ρ snap) (cs:=[a,b,c,d]) (ds:=[a',b',c',d']) ⟨h1,h2,h3,h4,trivial⟩).2
structure kr (q:Nat) (m:aj):Prop where
  mb:MB m
  l7:m.cls.length≤q
  opt:∀ l∈m.cls,l.length≤25
abbrev OM (m:aj):Prop:=kr 25 m
theorem kr.mono {q r:Nat} {m:aj} (h:kr q m) (hr:q≤r):kr r m:=⟨h.mb,iJ h.l7 hr,h.opt⟩
theorem kr.rules {q:Nat} {m:aj} (h:kr q m) (r:Int):kr q ⟨m.cls,m.ae,m.au,r⟩:=⟨⟨h.mb.cls,h.mb.opt,h.mb.ch,h.mb.ae,h.mb.az,h.mb.au,h.mb.kK⟩,h.l7,h.opt⟩
theorem kr.ae {q:Nat} {m:aj} (h:kr q m) {l:List Pr} (h1:l.length<9223372036854775808) (h2:∀ p∈l,p.az.length<9223372036854775808):kr q ⟨m.cls,l,m.au,m.rules⟩:=⟨⟨h.mb.cls,h.mb.opt,h.mb.ch,h1,h2,h.mb.au,h.mb.kK⟩,h.l7,h.opt⟩
theorem kr.au {q:Nat} {m:aj} (h:kr q m) {l:List Ct} (h1:l.length<9223372036854775808) (h2:∀ p∈l,p.aS.length<9223372036854775808):kr q ⟨m.cls,m.ae,l,m.rules⟩:=⟨⟨h.mb.cls,h.mb.opt,h.mb.ch,h.mb.ae,h.mb.az,h1,h2⟩,h.l7,h.opt⟩
theorem kr.cls {q:Nat} {m:aj} (h:kr q m) (hq:q≤25) {l:List (List bx)} (h1:l.length≤q) (h2:∀ x∈l,x.length≤25∧∀ o∈x,o.ch.length<9223372036854775808):kr q ⟨l,m.ae,m.au,m.rules⟩ :=
  ⟨⟨by dsimp only;omega,fun x hx=>by have:=(h2 x hx).1;omega,fun x hx=>(h2 x hx).2,h.mb.ae,h.mb.az,h.mb.au,h.mb.kK⟩,h1,fun x hx=>(h2 x hx).1⟩
theorem VM.om {m:aj} (h:VM m):OM m:=⟨h.mb,by have:=h.cls;omega,fun l hl=>by have:=h.opt l hl;omega⟩
theorem VM.omq {m:aj} (h:VM m) {q:Nat} (hl:m.cls.length≤q):kr q m:=⟨h.mb,hl,fun l hl=>by have:=h.opt l hl;omega⟩
structure I2 (q:Nat) (m m':aj):Prop where
  om:kr (q+1) m'
  cl:m'.cls=m.cls∨∃ x,m'.cls=m.cls++[x]
theorem kr.Vj {q:Nat} {m:aj} (h:kr q m) (hp:0<m.ae.length):(m.ae.getD 0 default).az.length<9223372036854775808:=h.mb.az _ (aC hp)
theorem adS (q:Nat) (af4:q≤24) (L:List Int) (k:Nat) (m:aj) (hm:VM m) (hq:m.cls.length≤q) (hk:k≤L.length) (hL:L.length<1000000) :
    eO Tryz.prog 43 [.ptr 0 0 0,.agg (ar m)] [je L k] (fun r os=>∃ m' k',I2 q m m'∧k'≤L.length∧r=.agg (ar m')∧os=[je L k']):=by
  have h1:=hm.cls
  have h2:=hm.opt
  have h3:=hm.ae
  have h4:=hm.au
  have eu:kr (q+1) m:=hm.omq (by omega)
  have h8:=jA L k 8 (by unfold fc;omega) hk hL
  have h8r:=mf (L:=L) (k:=k) (n:=8) (by omega)
  have bS:=gw hk
  have r4:List.range 4=[0,1,2,3]:=by decide
  unfold je at *
  generalize eH L k 8=j at *
  generalize cU L k=k2 at *
  refine eO.aD (fn:=Tryz.f43) 126 1 [.cell 4 29] Tryz.func43 rfl rfl rfl rfl rfl (by simp) ?_
  ((refine Va X0 ?_)<;>try with_reducible intro K hK)
  (refine Xn [0] (h8) ?_;simp (disch:=omega) only[Ac,↓Pc,simprocAttr])
  ((try revert hK K);(repeat' (first|refine Va @r4 ?_|(refine Xi ?_ ?_<;>try intro ht)|fail))<;>try with_reducible intro K hK)
  ·
    have oy:=jA L k2 4 (by unfold fc;omega) bS hL
    have BK:=mf (L:=L) (k:=k2) (n:=4) (by omega)
    have kG:=gw bS
    unfold je at *
    generalize eH L k2 4=i at *
    generalize cU L k2=k3 at *
    (refine Xn [0] (oy) ?_;simp (disch:=omega) only[Ac,↓Pc,simprocAttr,r4])
    have hi:i=0∨i=1∨i=2∨i=3:=by omega
    rcases hi with rfl | rfl | rfl | rfl
    · simp (disch:=omega) only[Ac,↓Pc,simprocAttr]
      ((try revert hK K);(refine Va X0 ?_))
      unfold fU
      simp only[dX,dQ]
      simp (disch:=omega) only[Ac,↓Pc,simprocAttr]
      refine⟨_,_,⟨⟨m.cls,m.ae,m.au,-1⟩,k3,⟨eu.rules _,by first|exact .inl rfl|exact .inr ⟨_,rfl⟩⟩,by omega,rfl,rfl⟩,?_⟩
      refine cP [0] true (by decide) ⟨⟨by simp,.inr rfl⟩,trivial⟩ (by decide) (by decide) (pe (aE.pure rfl) (?_) (?_) (.pure rfl))
      all_goals first|exact .pure rfl|exact .eq rfl|exact .fz rfl (by simp only[Bc,Rc])
    · simp (disch:=omega) only[Ac,↓Pc,simprocAttr]
      ((try revert hK K);(refine Va X0 ?_))
      unfold fU
      simp only[dX,dQ]
      simp (disch:=omega) only[Ac,↓Pc,simprocAttr]
      refine⟨_,_,⟨⟨m.cls,m.ae,m.au,0⟩,k3,⟨eu.rules _,by first|exact .inl rfl|exact .inr ⟨_,rfl⟩⟩,by omega,rfl,rfl⟩,?_⟩
      refine cP [0] true (by decide) ⟨⟨by simp,.inr rfl⟩,trivial⟩ (by decide) (by decide) (pe (aE.pure rfl) (?_) (?_) (.pure rfl))
      all_goals first|exact .pure rfl|exact .eq rfl|exact .fz rfl (by simp only[Bc,Rc])
    · simp (disch:=omega) only[Ac,↓Pc,simprocAttr]
      ((try revert hK K);(refine Va X0 ?_))
      unfold fU
      simp only[dX,dQ]
      simp (disch:=omega) only[Ac,↓Pc,simprocAttr]
      refine⟨_,_,⟨⟨m.cls,m.ae,m.au,56⟩,k3,⟨eu.rules _,by first|exact .inl rfl|exact .inr ⟨_,rfl⟩⟩,by omega,rfl,rfl⟩,?_⟩
      refine cP [0] true (by decide) ⟨⟨by simp,.inr rfl⟩,trivial⟩ (by decide) (by decide) (pe (aE.pure rfl) (?_) (?_) (.pure rfl))
      all_goals first|exact .pure rfl|exact .eq rfl|exact .fz rfl (by simp only[Bc,Rc])
    · simp (disch:=omega) only[Ac,↓Pc,simprocAttr]
      ((try revert hK K);(refine Va X0 ?_))
      unfold fU
      simp only[dX,dQ]
      simp (disch:=omega) only[Ac,↓Pc,simprocAttr]
      refine⟨_,_,⟨⟨m.cls,m.ae,m.au,57⟩,k3,⟨eu.rules _,by first|exact .inl rfl|exact .inr ⟨_,rfl⟩⟩,by omega,rfl,rfl⟩,?_⟩
      refine cP [0] true (by decide) ⟨⟨by simp,.inr rfl⟩,trivial⟩ (by decide) (by decide) (pe (aE.pure rfl) (?_) (?_) (.pure rfl))
      all_goals first|exact .pure rfl|exact .eq rfl|exact .fz rfl (by simp only[Bc,Rc])
  ·
    have e:=jW (enc:=bu) m.ae (m.ae.getD 0 default)
    simp only[bu] at e
    rw[e]
    unfold fU
    simp only[dX,dQ]
    simp (disch:=omega) only[Ac,↓Pc,simprocAttr]
    refine⟨_,_,⟨⟨m.cls,m.ae++[m.ae.getD 0 default],m.au,m.rules⟩,k2,⟨eu.ae (by simp;omega) (fun p hp=>(cr.1 hp).elim (eu.mb.az p) fun h=>by rw[eM.1 h];exact eu.Vj (by omega)),by first|exact .inl rfl|exact .inr ⟨_,rfl⟩⟩,by omega,rfl,rfl⟩,?_⟩
    refine cP [0] true (by decide) ⟨⟨by simp,.inr rfl⟩,trivial⟩ (by decide) (by decide) (pe (aE.pure rfl) (?_) (?_) (.pure rfl))
    all_goals first|exact .pure rfl|exact .eq rfl|exact .fz rfl (by simp only[Bc,Rc])
  ·
    unfold fU
    simp only[dX,dQ]
    simp (disch:=omega) only[Ac,↓Pc,simprocAttr]
    refine⟨_,_,⟨m,k2,⟨eu,by first|exact .inl rfl|exact .inr ⟨_,rfl⟩⟩,by omega,rfl,rfl⟩,?_⟩
    refine cP [0] true (by decide) ⟨⟨by simp,.inr rfl⟩,trivial⟩ (by decide) (by decide) (pe (aE.pure rfl) (?_) (?_) (.pure rfl))
    all_goals first|exact .pure rfl|exact .eq rfl|exact .fz rfl (by simp only[Bc,Rc])
  ·
    have oy:=jA L k2 2 (by unfold fc;omega) bS hL
    have BK:=mf (L:=L) (k:=k2) (n:=2) (by omega)
    have kG:=gw bS
    have af6:(m.ae.getD 0 default).az.length≤576:=Vi hm (aC (by omega))
    unfold je at *
    generalize eH L k2 2=x1 at *
    generalize cU L k2=k3 at *
    refine Vf ?_;intro Qb yh
    refine CA ⟨aw [(3,.ptr 1 0 0),(4,.ptr 2 0 0)],[.var [.tree 1 (ints L),.lit (.int .i64 k3)],.var [.tree 1 (rowsOf bD m.cls),.ref 3 4 0 m.ae.length,.ref 4 4 0 m.au.length,.lit (.int .i64 m.rules)],
      .var [.lit (.slice none 0 0),.lit (.slice none 0 0),.lit (.slice none 0 0),.lit (.int .i64 0)],
      .arr 4 ((rowsOf bu m.ae).set 0 [.lit (.int .i64 (m.ae.getD 0 default).fst),.lit (.int .i64 (m.ae.getD 0 default).snd),.lit (.int .i64 (m.ae.getD 0 default).aV),.ref 6 1 0 (1+(m.ae.getD 0 default).az.length)]),
      .arr 4 (rowsOf aO m.au),.gone,.arr 1 ([.lit (.int .i64 (x1 - 1))]::ints (m.ae.getD 0 default).az)]⟩ (fun s h=>yh _ (hn _ h)) ?_ (fun key=>?_)
    rotate_left
    · refine MX 0 [] [3] (.take 2 (.take 6 (.take 7 (.take 8 (.take 9 (.take 10 (.both 0 (.both 1 (.take 3 (.take 4 (.take 5 (.take 11 (.take 12 (.take 13 (.take 14 .nil))))))) 3 (.take 4 (.both 1 (.take 5 (.take 11 (.take 12 (.take 13 (.take 14 .nil))))) 5 (.both 1 (.take 11 (.take 12 (.take 13 (.take 14 .nil)))) 11 (.take 1 (.take 12 (.take 13 (.take 14 .nil)))))))) 3 (.take 4 (.both 0 (.both 1 (.take 5 (.take 11 (.take 12 (.take 13 (.take 14 .nil))))) 5 (.both 1 (.take 11 (.take 12 (.take 13 (.take 14 .nil)))) 11 (.take 1 (.take 12 (.take 13 (.take 14 .nil)))))) 5 (.both 0 (.both 1 (.take 11 (.take 12 (.take 13 (.take 14 .nil)))) 11 (.take 1 (.take 12 (.take 13 (.take 14 .nil))))) 11 (.take 0 (.take 1 (.take 12 (.take 13 (.take 14 .nil))))))))))))))) rfl (by decide) (by decide +kernel) ?_
      simp (disch:=omega) only[Ac,↓Pc,simprocAttr,Hc,fV]
      repeat' (first|with_reducible refine fB ?_ ?_|omega|(refine Aw (oy) rfl rfl rfl rfl (by (repeat' (first|exact trivial|refine fB ?_ ?_))<;>first|exact .inl ⟨rfl,rfl⟩|exact .inr ⟨rfl,rfl⟩) ?_;simp (disch:=omega) only[Ac,↓Pc,simprocAttr,Hc,fV]))
      all_goals refine key _ ?_
      all_goals exact Xv X0
    refine Va X0 ?_
    unfold fU
    simp only[dX,dQ]
    simp (disch:=omega) only[Ac,↓Pc,simprocAttr]
    refine⟨_,_,⟨⟨m.cls,m.ae.set 0 ⟨(m.ae.getD 0 default).fst,(m.ae.getD 0 default).snd,(m.ae.getD 0 default).aV,[x1 - 1]++(m.ae.getD 0 default).az⟩,m.au,m.rules⟩,k3,⟨eu.ae (by simp;omega) (fun p hp=>(pY hp).elim (eu.mb.az p) fun h=>by rw[h];show ([x1 - 1]++(m.ae.getD 0 default).az).length<_;rw[List.length_append,List.length_singleton];omega),by first|exact .inl rfl|exact .inr ⟨_,rfl⟩⟩,by omega,rfl,rfl⟩,?_⟩
    refine cP [0] true (by decide) ⟨⟨by simp,.inr rfl⟩,trivial⟩ (by decide) (by decide) (pe (aE.pure rfl) (.snap _ _ rfl ?_) (?_) (.pure rfl))
    · refine cg.mk rfl (by simp only[Bc,Rc,bI]) (gK (by decide)) (eT _) ?_
      rw[← yx]
      exact adQ (xz (jy _)) ⟨.lit _,.lit _,.lit _,cg.mk rfl (by simp[ints];omega) (gK (by decide)) (oE _) (xz (pw ([x1 - 1]++(m.ae.getD 0 default).az))),trivial⟩
    · first|exact .pure rfl|exact .eq rfl|exact .fz rfl (by simp only[Bc,Rc])
  ·
    unfold fU
    simp only[dX,dQ]
    simp (disch:=omega) only[Ac,↓Pc,simprocAttr]
    refine⟨_,_,⟨m,k2,⟨eu,by first|exact .inl rfl|exact .inr ⟨_,rfl⟩⟩,by omega,rfl,rfl⟩,?_⟩
    refine cP [0] true (by decide) ⟨⟨by simp,.inr rfl⟩,trivial⟩ (by decide) (by decide) (pe (aE.pure rfl) (?_) (?_) (.pure rfl))
    all_goals first|exact .pure rfl|exact .eq rfl|exact .fz rfl (by simp only[Bc,Rc])
  ·
    have e:=yx (enc:=bu) m.ae 0 ⟨(m.ae.getD 0 default).fst,(m.ae.getD 0 default).fst,(m.ae.getD 0 default).aV,(m.ae.getD 0 default).az⟩
    simp only[bu] at e
    rw[e]
    unfold fU
    simp only[dX,dQ]
    simp (disch:=omega) only[Ac,↓Pc,simprocAttr]
    refine⟨_,_,⟨⟨m.cls,m.ae.set 0 ⟨(m.ae.getD 0 default).fst,(m.ae.getD 0 default).fst,(m.ae.getD 0 default).aV,(m.ae.getD 0 default).az⟩,m.au,m.rules⟩,k2,⟨eu.ae (by simp;omega) (fun p hp=>(pY hp).elim (eu.mb.az p) fun h=>by rw[h];exact eu.Vj (by omega)),by first|exact .inl rfl|exact .inr ⟨_,rfl⟩⟩,by omega,rfl,rfl⟩,?_⟩
    refine cP [0] true (by decide) ⟨⟨by simp,.inr rfl⟩,trivial⟩ (by decide) (by decide) (pe (aE.pure rfl) (?_) (?_) (.pure rfl))
    all_goals first|exact .pure rfl|exact .eq rfl|exact .fz rfl (by simp only[Bc,Rc])
  ·
    unfold fU
    simp only[dX,dQ]
    simp (disch:=omega) only[Ac,↓Pc,simprocAttr]
    refine⟨_,_,⟨m,k2,⟨eu,by first|exact .inl rfl|exact .inr ⟨_,rfl⟩⟩,by omega,rfl,rfl⟩,?_⟩
    refine cP [0] true (by decide) ⟨⟨by simp,.inr rfl⟩,trivial⟩ (by decide) (by decide) (pe (aE.pure rfl) (?_) (?_) (.pure rfl))
    all_goals first|exact .pure rfl|exact .eq rfl|exact .fz rfl (by simp only[Bc,Rc])
  ·
    unfold fU
    simp only[dX,dQ]
    simp (disch:=omega) only[Ac,↓Pc,simprocAttr]
    refine⟨_,_,⟨⟨m.cls,m.ae,m.au++[⟨0,[],-1,1⟩],m.rules⟩,k2,⟨eu.au (by simp;omega) (fun p hp=>(cr.1 hp).elim (eu.mb.kK p) fun h=>by rw[eM.1 h];decide),by first|exact .inl rfl|exact .inr ⟨_,rfl⟩⟩,by omega,rfl,rfl⟩,?_⟩
    refine cP [0] true (by decide) ⟨⟨by simp,.inr rfl⟩,trivial⟩ (by decide) (by decide) (pe (aE.pure rfl) (?_) (.snap _ _ rfl ?_) (.pure rfl))
    · first|exact .pure rfl|exact .eq rfl|exact .fz rfl (by simp only[Bc,Rc])
    · refine cg.mk rfl (by simp only[Bc,Rc]) (gK (by decide)) (eT _) ?_
      rw[← jW]
      exact BJ (xz (jy _)) ⟨⟨.lit _,.nil 3,.lit _,.lit _,trivial⟩,trivial⟩
  ·
    have hnw:=jA L k2 3 (by unfold fc;omega) bS hL
    have kG:=gw bS
    have oy:=jA L (cU L k2) 4 (by unfold fc;omega) kG hL
    have xA:=gw kG
    have I3:=jA L (cU L (cU L k2)) 2 (by unfold fc;omega) xA hL
    have Vk:=gw xA
    have hnz:=jA L (cU L (cU L (cU L k2))) 2 (by unfold fc;omega) Vk hL
    have hk6:=gw Vk
    unfold je at *
    generalize eH L k2 3=x1 at *
    generalize cU L k2=k3 at *
    generalize eH L k3 4=x2 at *
    generalize cU L k3=k4 at *
    generalize eH L k4 2=x3 at *
    generalize cU L k4=k5 at *
    generalize eH L k5 2=x4 at *
    generalize cU L k5=k6 at *
    refine Vf ?_;intro Qb yh
    refine CA ⟨aw [(3,.ptr 1 0 0),(4,.ptr 2 0 0)],[.var [.tree 1 (ints L),.lit (.int .i64 k6)],.var [.tree 1 (rowsOf bD m.cls),.ref 3 4 0 m.ae.length,.ref 7 4 0 (m.au.length+1),.lit (.int .i64 m.rules)],
      .var [.lit (.slice none 0 0),.lit (.slice none 0 0),.lit (.slice none 0 0),.lit (.int .i64 0)],.arr 4 (rowsOf bu m.ae),.gone,.arr 3 [[.lit (.int .i64 x1),.lit (.int .i64 x2),.lit (.int .i64 x3)]],
      .arr 4 [[.lit (.int .i64 0),.ref 5 3 0 1,.lit (.int .i64 0),.lit (.int .i64 x4)]],.arr 4 (rowsOf aO m.au++[[.lit (.int .i64 0),.ref 5 3 0 1,.lit (.int .i64 0),.lit (.int .i64 x4)]])]⟩ (fun s h=>yh _ (hn _ h)) ?_ (fun key=>?_)
    rotate_left
    · refine MX 0 [] [3,5,7,11] (.take 0 (.take 1 (.take 2 (.take 3 (.take 4 (.take 5 (.take 6 (.take 7 (.take 8 (.take 10 (.both 9 (.take 11 (.take 12 (.take 13 (.take 14 (.take 15 (.take 16 .nil)))))) 11 (.take 9 (.take 12 (.take 13 (.take 14 (.take 15 (.take 16 .nil))))))))))))))))) rfl (by decide) (by decide +kernel) ?_
      simp (disch:=omega) only[Ac,↓Pc,simprocAttr,Hc,fV]
      repeat' (first|with_reducible refine fB ?_ ?_|omega|(refine Aw (hnw) rfl rfl rfl rfl (by (repeat' (first|exact trivial|refine fB ?_ ?_))<;>first|exact .inl ⟨rfl,rfl⟩|exact .inr ⟨rfl,rfl⟩) ?_;simp (disch:=omega) only[Ac,↓Pc,simprocAttr,Hc,fV])|(refine Aw (oy) rfl rfl rfl rfl (by (repeat' (first|exact trivial|refine fB ?_ ?_))<;>first|exact .inl ⟨rfl,rfl⟩|exact .inr ⟨rfl,rfl⟩) ?_;simp (disch:=omega) only[Ac,↓Pc,simprocAttr,Hc,fV])|(refine Aw (I3) rfl rfl rfl rfl (by (repeat' (first|exact trivial|refine fB ?_ ?_))<;>first|exact .inl ⟨rfl,rfl⟩|exact .inr ⟨rfl,rfl⟩) ?_;simp (disch:=omega) only[Ac,↓Pc,simprocAttr,Hc,fV])|(refine Aw (hnz) rfl rfl rfl rfl (by (repeat' (first|exact trivial|refine fB ?_ ?_))<;>first|exact .inl ⟨rfl,rfl⟩|exact .inr ⟨rfl,rfl⟩) ?_;simp (disch:=omega) only[Ac,↓Pc,simprocAttr,Hc,fV]))
      all_goals refine key _ ?_
      all_goals exact Xv X0
    refine Va X0 ?_
    unfold fU
    simp only[dX,dQ]
    simp (disch:=omega) only[Ac,↓Pc,simprocAttr]
    refine⟨_,_,⟨⟨m.cls,m.ae,m.au++[⟨0,[⟨x1,x2,x3⟩],0,x4⟩],m.rules⟩,k6,⟨eu.au (by simp;omega) (fun p hp=>(cr.1 hp).elim (eu.mb.kK p) fun h=>by rw[eM.1 h];simp),by first|exact .inl rfl|exact .inr ⟨_,rfl⟩⟩,by omega,rfl,rfl⟩,?_⟩
    refine cP [0] true (by decide) ⟨⟨by simp,.inr rfl⟩,trivial⟩ (by decide) (by decide) (pe (aE.pure rfl) (?_) (.snap _ _ rfl ?_) (.pure rfl))
    · first|exact .pure rfl|exact .eq rfl|exact .fz rfl (by simp only[Bc,Rc])
    · refine cg.mk rfl (by simp only[Bc,Rc]) (gK (by decide)) (eT _) ?_
      rw[← jW]
      exact BJ (xz (jy _)) ⟨⟨.lit _,cg.mk rfl rfl (gK (by decide)) (eT _) ⟨⟨.lit _,.lit _,.lit _,trivial⟩,trivial⟩,.lit _,.lit _,trivial⟩,trivial⟩
  ·
    have oy:=jA L k2 5 (by unfold fc;omega) bS hL
    have kG:=gw bS
    have I3:=jA L (cU L k2) 2 (by unfold fc;omega) kG hL
    have xA:=gw kG
    unfold je at *
    generalize eH L k2 5=x1 at *
    generalize cU L k2=k3 at *
    generalize eH L k3 2=x2 at *
    generalize cU L k3=k4 at *
    (refine Xn [0] (oy) ?_;simp (disch:=omega) only[Ac,↓Pc,simprocAttr])
    (refine Xn [0] (I3) ?_;simp (disch:=omega) only[Ac,↓Pc,simprocAttr])
    ((try revert hK K);(refine Va X0 ?_))
    unfold fU
    simp only[dX,dQ]
    simp (disch:=omega) only[Ac,↓Pc,simprocAttr]
    refine⟨_,_,⟨⟨m.cls++[[⟨0,0,0,0,0,[(x1,x2)]⟩]],m.ae,m.au,m.rules⟩,k4,⟨eu.cls (by omega) (by simp;omega) (fun l hl=>(cr.1 hl).elim (fun h=>⟨eu.opt l h,eu.mb.ch l h⟩) fun h=>by rw[eM.1 h];exact⟨by simp,fun o ho=>by rw[eM.1 ho];simp⟩),by first|exact .inl rfl|exact .inr ⟨_,rfl⟩⟩,by omega,rfl,rfl⟩,?_⟩
    refine cP [0] true (by decide) ⟨⟨by simp,.inr rfl⟩,trivial⟩ (by decide) (by decide) (pe (.snap _ _ rfl ?_) (?_) (?_) (.pure rfl))
    · refine cg.mk rfl (by simp only[Bc,Rc]) (gK (by decide)) (eT _) ?_
      rw[← jW]
      refine BJ (xz (jy _)) ⟨⟨?_,trivial⟩,trivial⟩
      refine cg.mk rfl rfl (gK (by decide)) (eT _) ⟨⟨.lit _,.lit _,.lit _,.lit _,.lit _,?_,trivial⟩,trivial⟩
      exact cg.mk rfl rfl (gK (by decide)) (eT _) ⟨⟨.lit _,.lit _,trivial⟩,trivial⟩
    · first|exact .pure rfl|exact .eq rfl|exact .fz rfl (by simp only[Bc,Rc])
    · first|exact .pure rfl|exact .eq rfl|exact .fz rfl (by simp only[Bc,Rc])
  ·
    have oy:=jA L k2 2 (by unfold fc;omega) bS hL
    have BK:=mf (L:=L) (k:=k2) (n:=2) (by omega)
    have kG:=gw bS
    unfold je at *
    generalize eH L k2 2=x1 at *
    generalize cU L k2=k3 at *
    (refine Xn [0] (oy) ?_;simp (disch:=omega) only[Ac,↓Pc,simprocAttr])
    ((try revert hK K);(refine Va X0 ?_))
    unfold fU
    simp only[dX,dQ]
    simp (disch:=omega) only[Ac,↓Pc,simprocAttr]
    refine⟨_,_,⟨⟨m.cls++[bY (24+x1).toNat ⟨0,0,0,0,0,[]⟩],m.ae,m.au,m.rules⟩,k3,⟨eu.cls (by omega) (by simp;omega) (fun l hl=>(cr.1 hl).elim (fun h=>⟨eu.opt l h,eu.mb.ch l h⟩) fun h=>by rw[eM.1 h];exact⟨by rw[tG];omega,fun o ho=>by rw[List.eq_of_mem_replicate ho];decide⟩),by first|exact .inl rfl|exact .inr ⟨_,rfl⟩⟩,by omega,rfl,rfl⟩,?_⟩
    refine cP [0] true (by decide) ⟨⟨by simp,.inr rfl⟩,trivial⟩ (by decide) (by decide) (pe (.snap _ _ rfl ?_) (?_) (?_) (.pure rfl))
    · refine cg.mk rfl (by simp only[Bc,Rc]) (gK (by decide)) (eT _) ?_
      rw[← jW]
      refine BJ (xz (jy _)) ⟨⟨?_,trivial⟩,trivial⟩
      refine cg.mk rfl (by rw[tG]) (gK (by decide)) (eT _) ?_
      rw[show rowsOf cD (bY (24+x1).toNat ⟨0,0,0,0,0,[]⟩)=bY (24+x1).toNat (cD ⟨0,0,0,0,0,[]⟩) by rw[rowsOf,List.map_replicate]]
      refine Vh ?_ _
      exact⟨.lit _,.lit _,.lit _,.lit _,.lit _,.nil 2,trivial⟩
    · first|exact .pure rfl|exact .eq rfl|exact .fz rfl (by simp only[Bc,Rc])
    · first|exact .pure rfl|exact .eq rfl|exact .fz rfl (by simp only[Bc,Rc])
def vU (c:Int) (p:Pr):Bool:=decide (p.fst≠c∧p.snd≠c)
def oz (m:aj) (c:Int):aj:=⟨m.cls.set c.toNat [],m.ae.filter (vU c),[],m.rules⟩
theorem adV {m:aj} (hm:VM m) {c:Int} (hc:0≤c):VM (oz m c):=by
  have cX:∀ l∈(oz m c).cls,l=[]∨l∈m.cls:=fun l hl=>(pY hl).symm
  have key:∀ (l:List Pr) (q:Option Pr),(∀ p∈l,vU c p=true)→ee m q l=true→ee (oz m c) q l=true:=by
    intro l
    induction l with
    | nil=>intro q _ _;cases q<;>rfl
    | cons p r ih =>
      intro q ho h
      rw[ee.eq_def] at h ⊢
      simp only[Bool.and_eq_true] at h ⊢
      obtain ⟨⟨a,b⟩,d⟩:=h
      have hp:=ho p (by simp)
      unfold vU at hp
      rw[decide_eq_true_eq] at hp
      refine⟨⟨?_,b⟩,ih _ (fun x hx=>ho x (by simp[hx])) d⟩
      have e:∀ x:Int,0≤x→x≠c→(oz m c).cls.getD x.toNat default=m.cls.getD x.toNat default:=fun x h0 hx=>by
        unfold oz
        dsimp only
        rw[aA,List.getElem?_set_ne (by omega),← aA]
      have q:=(kJ a).2
      unfold eW at *
      rw[e _ q.1 hp.1,e _ (by omega) hp.2,show (oz m c).cls.length=m.cls.length by unfold oz;simp]
      exact a
  refine⟨by unfold oz;simpa using hm.cls,fun l hl=>?_,iJ (xP _ _) hm.ae,aM _,hm.im,fun l hl o ho=>?_,key _ _ (fun p hp=>(List.mem_filter.1 hp).2) (D2 _ hm.pr),fun c hc=>by cases hc⟩
  · rcases cX l hl with rfl | h
    · exact aM _
    · exact hm.opt l h
  · rcases cX l hl with rfl | h
    · cases ho
    · exact hm.kI l h o ho
theorem Vl {R:AV→AV→Prop}:∀ {a c:List (List AV)} {x y:List AV} (j:Nat),jI R a c→dY R x y→jI R (a.set j x) (c.set j y)
  | [],[],_,_,_,_,_=>trivial
  | _::_,_::_,_,_,0,h,k=>⟨k,h.2⟩
  | _::_,_::_,_,_,j+1,h,k=>⟨h.1,Vl j h.2 k⟩
  | [],_::_,_,_,_,h,_=>h.elim
  | _::_,[],_,_,_,h,_=>h.elim
theorem adW {α:Type} {enc:α→List AV} {w:Nat} [Row enc w] {σ:St} {kp:Nat→Prop} (xs:List α):jI (cg σ kp) (rowsOf enc xs) (rowsOf enc xs) :=
  jI.yO (f:=fun _=>[]) (g:=fun _=>[]) rfl fun j c d hc hd=>by rw[hc] at hd;cases hd;exact DG (fun v hv=>jy _ _ (List.mem_of_getElem? hc) v hv) rfl
theorem adX {σ:St} {kp:Nat→Prop} {id n c:Nat} {cls:List (List bx)} (ho:σ.aa[id]?=some (.arr 1 ((rowsOf bD cls).set c [.lit (.slice none 0 0)]))) (hn:n=cls.length) (hk:¬ kp id):cg σ kp (.tree 1 (rowsOf bD (cls.set c []))) (.ref id 1 0 n):=by
  have e:rowsOf bD (cls.set c [])=(rowsOf bD cls).set c (bD []):=by unfold rowsOf;rw[tC]
  refine cg.mk ho (by rw[hn,bI,b8]) hk (eT _) ?_
  rw[e]
  exact Vl c (adW cls) ⟨.nil 6,trivial⟩
def I4 (m:aj):List AV:=[.tree 1 (rowsOf bD m.cls),.ref 0 4 0 m.ae.length,.tree 4 (rowsOf aO m.au),.lit (.int .i64 m.rules)]
theorem adY (m:aj) (hm:VM m) (c:Int) (hc:0≤c∧c<m.cls.length):an Tryz.prog 79 [.agg (ar m),.lit (.int .i64 c)] [] (.agg (I4 (oz m c))) [.arr 4 (rowsOf bu (oz m c).ae)]:=by
  have rG:=hm.cls
  have yN:=hm.ae
  have cF:(rowsOf bD m.cls).length=m.cls.length:=b8 _
  have adZ:∀ ρ,bO ρ (.arr 1 ((rowsOf bD m.cls).set c.toNat [.lit (.slice none 0 0)]))=.arr 1 ((rowsOf bD m.cls).set c.toNat [.lit (.slice none 0 0)]):=fun ρ=>by
    have h:bO ρ (.arr 1 (rowsOf bD m.cls))=.arr 1 (rowsOf bD m.cls):=by rw[qo]
    simp only[bO,Ob.arr.injEq,true_and] at h ⊢
    rw[tC,h]
    simp[a6]
  have ha1:∀ (xs:List Pr) (p:Pr),rowsOf bu xs++[[AV.lit (.int .i64 p.fst),AV.lit (.int .i64 p.snd),AV.lit (.int .i64 p.aV),AV.tree 1 (ints p.az)]]=rowsOf bu (xs++[p]):=fun xs p=>jW xs p
  refine an.aD (fn:=Tryz.f79) 53 0 [.cell 4 29] Tryz.func79 rfl rfl rfl rfl rfl (by simp) ?_
  repeat' (first|((fail_if_success (first|refine ej 1 ?_|refine ek 1 ?_));refine Xr X0 ?_;intro K hK)|(refine hK _ ?_;clear hK K)|refine XY ?_|fail)
  refine aaG ?_;intro Q hn he
  refine CA ⟨aw [(1,.lit (.int .i64 c)),(2,.ptr 0 0 0),(4,.ptr 1 0 0),(5,.ptr 3 0 0)],[.var (ar m),.var [.lit (.slice none 0 0),.lit (.slice none 0 0),.lit (.slice none 0 0),.lit (.int .i64 0)],.arr 1 (rowsOf bD m.cls),.var [.ref 2 1 0 m.cls.length,.lit (.slice none 0 0),.lit (.slice none 0 0),.lit (.int .i64 m.rules)]]⟩ hn ?_ (fun key=>?_)
  rotate_left
  · refine jT [] (.take 0 (.take 1 (.three 2 (.take 3 (.take 4 (.take 5 (.take 6 (.take 7 .nil))))) 3 (.three 2 (.take 4 (.take 5 (.take 6 (.take 7 .nil)))) 4 (.both 2 (.take 5 (.take 6 (.take 7 .nil))) 6 (.take 2 (.take 5 (.take 7 .nil)))) 6 (.both 2 (.take 4 (.take 5 (.take 7 .nil))) 4 (.take 2 (.take 5 (.take 7 .nil))))) 6 (.both 2 (.take 3 (.take 4 (.take 5 (.take 7 .nil)))) 3 (.both 2 (.take 4 (.take 5 (.take 7 .nil))) 4 (.take 2 (.take 5 (.take 7 .nil)))))))) rfl (by decide) (by decide +kernel) ?_
    simp (disch:=omega) only[Ac,↓Pc,simprocAttr,Pw]
    repeat' (first|with_reducible refine fB ?_ ?_|omega)
    all_goals
      refine key _ ?_
      first|(exact Xv X0;done)|(exact Xs false [0,1,3,2] X0)
  (try clear hn;try clear he)
  refine Vb @cF ?_
  refine bJ (aB.ld 3 1 4 rfl rfl (by decide)) ?_
  refine aU (fun z:Nat × List Pr=>(⟨aw [(1,.lit (.int .i64 c)),(2,.ptr 0 0 0),(4,.ptr 1 0 0),(5,.ptr 3 0 0),(6,.lit (.int .i64 z.1))],[.var (ar m),.var [.lit (.slice none 0 0),.lit (.slice none 0 0),.lit (.slice none 0 0),.lit (.int .i64 0)],.arr 1 ((rowsOf bD m.cls).set c.toNat [.lit (.slice none 0 0)]),.var [.ref 2 1 0 m.cls.length,.ref 4 4 0 z.2.length,.lit (.slice none 0 0),.lit (.int .i64 m.rules)],.arr 4 (rowsOf bu z.2)]⟩:St))
    (fun z=>z.1≤m.ae.length∧z.2=(m.ae.take z.1).filter (vU c)) (fun z=>m.ae.length - z.1) (0,[]) ⟨aM _,rfl⟩ (Xv X0) ?_
  rintro ⟨i,xs⟩ ⟨hi,ew⟩ Ql aq av
  dsimp only at hi ew ⊢
  by_cases hi':i<m.ae.length
  · have eN:=iD hi'
    have pR:xs.length≤4000:=by
      rw[ew]
      exact iJ (xP _ _) (by rw[List.length_take];omega)
    generalize cT:m.ae.getD i default=p at *
    have hf:(m.ae.take (i+1)).filter (vU c)=xs++if vU c p=true then [p] else []:=by
      rw[eN,List.filter_append,← ew]
      congr 1
      rw[List.filter_cons,List.filter_nil]
    by_cases Vm:p.fst≠c∧p.snd≠c
    · rw[if_pos (by unfold vU;exact decide_eq_true Vm)] at hf
      ((repeat' (first|refine Va (X2 @cT @bu.eq_1) ?_|(refine V2 (X2 @cT @bu.eq_1) ?_ ?_<;>try with_reducible intro hb)|(refine Xi ?_ ?_<;>try intro ht)|exact Xx|fail)))
      all_goals exact aq _ (i+1,xs++[p]) ⟨by dsimp only;omega,hf.symm⟩ (by dsimp only;omega) (Xs false [0,1,2,3,6] (X2 @adZ @ha1))
    · rw[if_neg (by unfold vU;simpa using Vm),List.append_nil] at hf
      ((repeat' (first|refine Va (X2 @cT @bu.eq_1) ?_|(refine V2 (X2 @cT @bu.eq_1) ?_ ?_<;>try with_reducible intro hb)|(refine Xi ?_ ?_<;>try intro ht)|exact Xx|fail)))
      all_goals exact aq _ (i+1,xs) ⟨by dsimp only;omega,hf.symm⟩ (by dsimp only;omega) (Xv X0)
  · rw[List.take_of_length_le (by omega)] at ew
    ((repeat' (first|refine Va X0 ?_|(refine V2 X0 ?_ ?_<;>try with_reducible intro hb)|(refine Xi ?_ ?_<;>try intro ht)|exact Xx|fail)))
    refine av _ _ rfl ?_;clear aq av Ql
    repeat (refine Xu ?_)
    refine Vb X0 ?_
    simp (disch:=omega) only[Ac,↓Pc,simprocAttr,rowOf]
    have jZ:(oz m c).ae=xs:=by rw[ew];rfl
    rw[jZ]
    refine cP [4] true (by decide) ⟨⟨by simp,.inr (by rw[qo];rfl)⟩,trivial⟩ (by decide) (by decide) ?_
    refine (aE.agg _ _ rfl (dY.spec (R:=aE _ _ _ _) (cs:=I4 (oz m c)) (ds:=[.ref 2 1 0 m.cls.length,.ref 4 4 0 xs.length,.lit (.slice none 0 0),.lit (.int .i64 m.rules)]) ⟨.snap _ _ rfl (adX rfl rfl (gK (by decide))),.eq (by rw[jZ];rfl),.snap _ _ rfl (.nil 4),.pure rfl,trivial⟩).2)
def nq:List (List bx)→Int
  | []=>1
  | l::r=>l.length * nq r
theorem BL:∀ (cls:List (List bx)),(∀ l∈cls,1≤l.length)→1≤nq cls
  | [],_=>Int.le_refl _
  | l::r,h=>by
    have h1:=h l (by simp)
    have h2:=BL r fun x hx=>h x (by simp[hx])
    rw[nq]
    have:(1:Int) * 1≤l.length * nq r:=pj (by omega) h2 (by omega) (by omega)
    omega
theorem ad1 (m:aj) (hm:VM m) (nk:∀ l∈m.cls,1≤l.length) (hb:nq m.cls≤9999):an Tryz.prog 78 [.agg (ar m)] [] (.lit (.int .i64 (nq m.cls))) []:=by
  have rG:=hm.cls
  have af8:=BL m.cls nk
  generalize ao:nq m.cls=res at *
  refine an.aD (fn:=Tryz.f78) 26 0 [.tmp 2] Tryz.func78 rfl rfl rfl rfl rfl (by simp) ?_
  refine Vb X0 ?_
  refine aU (fun z:Nat × Int=>(⟨aw [(1,.ptr 0 0 0),(3,.lit (.int .i64 z.2)),(4,.lit (.int .i64 z.1))],[.var (ar m)]⟩:St)) (fun z=>z.1≤m.cls.length∧1≤z.2∧z.2 * nq (m.cls.drop z.1)=res) (fun z=>m.cls.length - z.1) (0,1) ⟨aM _,by decide,by rw[List.drop_zero,ao];exact Int.one_mul _⟩ (Xv X0) ?_
  rintro ⟨i,n⟩ ⟨hi,e9,hr⟩ Ql aq av
  dsimp only at hi e9 hr ⊢
  have HA:=BL (m.cls.drop i) fun x hx=>nk x (sq hx)
  have af9:n≤res:=by
    rw[← hr]
    have:n * 1≤n * nq (m.cls.drop i):=Int.mul_le_mul_of_nonneg_left HA (by omega)
    omega
  by_cases hi':i<m.cls.length
  · have vH:=hm.opt _ (aC (l:=m.cls) (i:=i) (d:=default) hi')
    have xg:=nk _ (aC (l:=m.cls) (i:=i) (d:=default) hi')
    rw[cA m.cls i default hi',nq,← Int.mul_assoc] at hr
    have RZ:=BL (m.cls.drop (i+1)) fun x hx=>nk x (sq hx)
    generalize aR:m.cls.getD i default=c at *
    have sZ:n * 1≤n * (c.length:Int):=Int.mul_le_mul_of_nonneg_left (by omega) (by omega)
    have uo:n * (c.length:Int)≤10000 * 24:=pj (by omega) (by omega) (by omega) (by omega)
    generalize w8:n * (c.length:Int)=nc at *
    ((repeat' (first|refine Va (X3 @aR @bD.eq_1 @w8) ?_|(refine V2 (X3 @aR @bD.eq_1 @w8) ?_ ?_<;>try with_reducible intro hb)|(refine Xi ?_ ?_<;>try intro ht)|exact Xx|fail)))
    exact aq _ (i+1,nc) ⟨by dsimp only;omega,by dsimp only;omega,hr⟩ (by dsimp only;omega) (Xv X0)
  · rw[List.drop_eq_nil_of_le (by omega),nq,Int.mul_one] at hr
    ((repeat' (first|refine Va X0 ?_|(refine V2 X0 ?_ ?_<;>try with_reducible intro hb)|(refine Xi ?_ ?_<;>try intro ht)|exact Xx|fail)))
    all_goals
      refine av _ _ rfl ?_;clear aq av Ql
      repeat (refine Xu ?_)
      refine Vb X0 ?_
      exact aK rfl (by rw[← hr,Int.min_eq_left (by omega)])
theorem Vn {w:Nat}:∀ (cls:List (List bx)) (k:Nat),1≤w→cls.length≤k→(∀ l∈cls,1≤l.length∧l.length≤w)→nq cls≤(w:Int) ^ k
  | [],k,hw,_,_=>by
    rw[nq]
    have:(0:Int)<(w:Int) ^ k:=Int.pow_pos (by omega)
    omega
  | l::r,0,_,hk,_=>by simp at hk
  | l::r,k+1,hw,hk,h=>by
    have h1:=h l (by simp)
    have h2:=Vn r k hw (by simpa using hk) fun x hx=>h x (by simp[hx])
    have h3:=BL r fun x hx=>(h x (by simp[hx])).1
    rw[nq,Int.pow_succ,Int.mul_comm ((w:Int) ^ k)]
    exact pj (by omega) h2 (by omega) (by omega)
structure FW (m:aj):Prop where
  vm:VM m
  l7:m.cls.length≤4
  opt:∀ l∈m.cls,l.length≤4
theorem FW.cap {m:aj} (h:FW m):jO m m.cls.length≤8000 :=
  iJ (Ux h.opt _ (aG _)) (iJ (Nat.pow_le_pow_right (by decide) h.l7) (by decide))
theorem MM.fw {m:aj} {a b:Nat} (h:MM m a b) (ha:a≤4) (hb:b≤4):FW m:=⟨h.vm,iJ h.l7 ha,fun l hl=>iJ (h.some l hl).2 hb⟩
theorem FW.ad2 {m:aj} (h:FW m) {c:Int} (hc:0≤c):FW (oz m c):=⟨adV h.vm hc,by unfold oz;simpa using h.l7,fun l hl=>by
  rcases pY hl with h1 | h1
  · exact h.opt l h1
  · rw[h1];exact aM _⟩
theorem ad3 (L:List Int) (k:Nat) (hk:k≤L.length) (hL:L.length<1000000) :
    eO Tryz.prog 44 [.ptr 0 0 0] [je L k] (fun r os=>∃ m k',FW m∧k'≤L.length∧r=.agg (uE m)∧os=[je L k',.arr 4 (rowsOf bu m.ae)]):=by
  have vc:=TG L k 4 4 hk hL (by decide) (by decide) (by decide)
  unfold je at *
  refine eO.aD (fn:=Tryz.f44) 117 1 [.cell 2 29] Tryz.func44 rfl rfl rfl rfl rfl (by simp) ?_
  repeat' (first|((fail_if_success (first|refine ej 1 ?_|refine ek 1 ?_));refine Xr X0 ?_;intro K hK)|(refine hK _ ?_;clear hK K)|refine Xy ?_|fail)
  refine qv 1 (by decide) _ rfl ?_
  intro K hK
  simp (disch:=omega) only[Ac,↓Pc,simprocAttr,List.take,List.drop]
  refine⟨rfl,(show lZ Tryz.prog 26 [.ptr 0 0 0,.lit (.int .i64 (4:Nat)),.lit (.int .i64 (4:Nat))] (some 11) _ _ from ?_)⟩
  refine yy [0] vc (by decide) ⟨rfl,trivial⟩ ⟨.eq rfl,.pure rfl,.pure rfl,trivial⟩ ?_
  rintro r os ⟨m,k1,hm,gy,rfl,rfl⟩
  clear vc hk
  have I5:=hm.fw (aG 4) (aG 4)
  have m6:nq m.cls≤256:=Int.le_trans (Vn (w:=4) m.cls 4 (by decide) hm.l7 hm.some) (by decide)
  have j9:=ad1 m hm.vm (fun l hl=>(hm.some l hl).1) (by omega)
  generalize nq m.cls=pn at *
  unfold uE
  simp (disch:=omega) only[Ac,↓Pc,simprocAttr,qo]
  refine hK _ ?_
  clear hK K
  repeat (refine Xu ?_)
  have jd:=yQ L k1 12 (by unfold fc;omega) (by omega) gy hL
  have bS:=gw gy
  refine Va X0 ?_
  refine aU (fun _:Unit=>(⟨aw [(0,.ptr 0 0 0),(2,.ptr 1 0 0),(3,.ptr 3 0 0)],[.var [.tree 1 (ints L),.lit (.int .i64 k1)],.var [.lit (.slice none 0 0),.lit (.slice none 0 0),.lit (.slice none 0 0),.lit (.int .i64 0)],.arr 4 (rowsOf bu m.ae),.var [.tree 1 (rowsOf bD m.cls),.ref 2 4 0 m.ae.length,.tree 4 (rowsOf aO m.au),.lit (.int .i64 m.rules)]]⟩:St)) (fun _=>True) (fun _=>0) () trivial (Xv X0) ?_
  rintro _ _ Ql aq av
  ((refine Va X0 ?_)<;>try with_reducible intro K hK)
  refine nI [] j9 (by decide) trivial ⟨(aE.agg _ _ rfl (dY.spec (R:=aE _ _ _ _) (cs:=ar m) (ds:=[.tree 1 (rowsOf bD m.cls),.ref 2 4 0 m.ae.length,.tree 4 (rowsOf aO m.au),.lit (.int .i64 m.rules)]) ⟨.pure rfl,aE.bW rfl (eT _) (by rw[b8]) (by simp) (jy _),.pure rfl,.pure rfl,trivial⟩).2),trivial⟩ rfl (by simp) ?_
  simp (disch:=omega) only[Ac,↓Pc,simprocAttr]
  ((try revert hK K);(repeat' (first|refine Va X0 ?_|(refine Xi ?_ ?_<;>try intro ht)|exact Xx|fail)))
  refine av _ _ rfl ?_;clear aq av Ql
  repeat (refine Xu ?_)
  clear j9 m6
  have zw:∀ (env:Nat→AV) (m:aj) (k':Nat) (q:Nat) (os:List Ob),FW m→k'≤L.length→env 2=.ptr 1 0 0→os[0]?=some (.var [.tree 1 (ints L),.lit (.int .i64 k')])→os[1]?=some (.var [.tree 1 (rowsOf bD m.cls),.ref q 4 0 m.ae.length,.tree 4 (rowsOf aO m.au),.lit (.int .i64 m.rules)])→os[q]?=some (.arr 4 (rowsOf bu m.ae))→q≠0 →
      fU Tryz.prog 1 [.cell 2 29] (fun r os=>∃ m k',FW m∧k'≤L.length∧r=.agg (uE m)∧os=[.var [.tree 1 (ints L),.lit (.int .i64 k')],.arr 4 (rowsOf bu m.ae)]) .ret ⟨env,os⟩:=by
    intro env m k' q os eu aH sI h0 h1 hq I6
    have hl0:=(aQ.1 h0).1
    have hlq:=(aQ.1 hq).1
    unfold fU
    simp only[dX,dQ,sI]
    simp (disch:=omega) only[Ac,↓Pc,simprocAttr,sI,h1]
    refine⟨_,_,⟨m,k',eu,aH,rfl,rfl⟩,?_⟩
    refine cP [0,q] true (by simp[Ne.symm I6]) ⟨⟨hl0,.inr (by rw[h0];rfl)⟩,⟨hlq,.inr (by rw[hq,qo])⟩,trivial⟩ (by simp) (fun i hi=>by
      obtain rfl:i=0:=by omega
      rfl) ?_
    refine (aE.agg _ _ rfl (dY.spec (R:=aE _ _ _ _) (cs:=uE m) (ds:=[.tree 1 (rowsOf bD m.cls),.ref q 4 0 m.ae.length,.tree 4 (rowsOf aO m.au),.lit (.int .i64 m.rules)]) ⟨.pure rfl,.eq rfl,.pure rfl,.pure rfl,trivial⟩).2)
  ((repeat' (first|refine Va X0 ?_|(refine V2 X0 ?_ ?_<;>try with_reducible intro hb)|(refine Xi ?_ ?_<;>try intro ht)|exact Xx|fail))<;>try with_reducible intro K hK)
  rotate_left
  · exact zw _ m k1 2 _ I5 gy (by simp only[Kc,simprocAttr]) rfl rfl rfl (by decide)
  have nQ:0<m.cls.length:=by omega
  have oy:=jA L (cU L k1) (m.cls.length:Int) (by unfold fc;have:=hm.vm.cls;omega) bS hL
  have BK:=mf (L:=L) (k:=cU L k1) (n:=(m.cls.length:Int)) (by omega)
  have Vo:=adY m hm.vm (eH L (cU L k1) (m.cls.length:Int)) BK
  have hwf:=I5.ad2 BK.1
  have kG:=gw bS
  unfold je at *
  generalize xc L k1 12=bo at *
  generalize eH L (cU L k1) (m.cls.length:Int)=v at *
  generalize cU L (cU L k1)=k3 at *
  generalize cU L k1=k2 at *
  generalize oz m v=mw at *
  (refine Xn [0] (jd) ?_;simp (disch:=omega) only[Ac,↓Pc,simprocAttr])
  ((try revert hK K);(repeat' (first|refine Va X0 ?_|(refine Xi ?_ ?_<;>try intro ht)|fail))<;>try with_reducible intro K hK)
  · (refine Xn [0] (oy) ?_;simp (disch:=omega) only[Ac,↓Pc,simprocAttr])
    repeat' (first|(refine hK _ ?_;clear hK K)|refine Xy ?_|fail)
    refine bJ (aB.sM 2 3 1 4 (by rfl) (by rfl) (by rw[b8];rfl) (eT _) (jy _)) ?_
    unfold I4 at Vo
    ((refine Va X0 ?_)<;>try with_reducible intro K hK)
    (refine Xn [] (Vo) ?_;simp (disch:=omega) only[Ac,↓Pc,simprocAttr,qo])
    ((try revert hK K);(refine Va X0 ?_))
    exact zw _ mw k3 4 _ hwf kG (by simp only[Kc,simprocAttr]) rfl rfl rfl (by decide)
  · exact zw _ m k2 2 _ I5 bS (by simp only[Kc,simprocAttr]) rfl rfl rfl (by decide)
end T

