import Derived.Test.YtdipcmigdbnheaaGreatX23
import Derived.Test.YtdipcmigdbnheaaGreatX11
import Derived.Test.YtdipcmigdbnheaaGreatX16
import Derived.Test.YtdipcmigdbnheaaGreatX14
import Derived.Test.YtdipcmigdbnheaaGreatX21
import Derived.Test.YtdipcmigdbnheaaGreatX25
import Derived.Test.YtdipcmigdbnheaaGreatX15
import Derived.Test.YtdipcmigdbnheaaGreatX24
import Derived.Test.YtdipcmigdbnheaaGreatX40
import Derived.Test.YtdipcmigdbnheaaGreatX45
set_option linter.unusedVariables false
set_option linter.unusedSimpArgs false
set_option linter.unnecessarySimpa false
set_option linter.unusedSectionVars false
set_option maxHeartbeats 64000000
set_option maxRecDepth 20000
open List renaming replicate→bq,mem_append→cy,mem_singleton→ek,mem_or_eq_of_mem_set→rf,length_set→bm,length_replicate→nK,getD_eq_getElem?_getD→ay,map_set→p6,take→lR,drop→ly
open Nat renaming le_trans→j5,le_refl→aH,zero_le→aD
open And renaming intro→kD
open Go Go.Am Go.Proofs
open Nat (reduceEqDiff reduceAdd reduceLeDiff reduceMul)
open Int (reduceNeg reduceLE reduceToNat)
namespace T
theorem XD {P:Program} {N n0:Nat} {σ:St} {Q:Exit→St→Prop} {x:Code} {id:Nat} (h:∀ Q':Exit→St→Prop,(∀ s,Q .normal s→Q' .normal s)→W P N n0 x Q' σ):W P N n0 x (Bq id Q) σ:=h _ .n
theorem XE {σ:St} {kp:Nat→Prop}:∀ {l:List AV},(∀ v∈l,(∃ x,v=AV.lit x)∨∃ s r,v=AV.tree s r)→fD (bV σ kp) l l
  | [],_=>trivial
  | v::l,h=>⟨by rcases h v (by simp) with ⟨x,rfl⟩ | ⟨s,r,rfl⟩;exact .lit _;exact .tree _ _,XE fun x hx=>h x (by simp[hx])⟩
theorem yr {σ:St} {kp:Nat→Prop}:∀ {rows:List (List AV)},(∀ row∈rows,∀ v∈row,(∃ x,v=AV.lit x)∨∃ s r,v=AV.tree s r)→iF (bV σ kp) rows rows
  | [],_=>trivial
  | r::rows,h=>⟨XE (h r (by simp)),yr fun x hx=>h x (by simp[hx])⟩
theorem C3 {R:AV→AV→Prop}:∀ {a c:List (List AV)} {b d:List (List AV)},iF R a c→iF R b d→iF R (a++b) (c++d)
  | [],[],_,_,_,k=>k
  | _::_,_::_,_,_,h,k=>⟨h.1,C3 h.2 k⟩
  | [],_::_,_,_,h,_=>h.elim
  | _::_,[],_,_,h,_=>h.elim
theorem agx {R:AV→AV→Prop}:∀ {a c:List (List AV)} {x y:List AV},iF R a c→fD R x y→iF R (a.set 0 x) (c.set 0 y)
  | [],[],_,_,_,_=>trivial
  | _::_,_::_,_,_,h,k=>⟨k,h.2⟩
  | [],_::_,_,_,h,_=>h.elim
  | _::_,[],_,_,h,_=>h.elim
theorem XF {R:AV→AV→Prop} {x y:List AV} (h:fD R x y):∀ n,iF R (bq n x) (bq n y)
  | 0=>trivial
  | n+1=>⟨h,XF h n⟩
theorem agy {m:ah} (h:VM m) {p:Pr} (hp:p∈m.ae):p.ax.length≤576:=by
  obtain ⟨_,h1,h2,h3,h4⟩:=mj (jn h.pr p hp)
  have a:=h.opt _ (az (l:=m.cls) (i:=p.fst.toNat) (d:=default) (by omega))
  have b:=h.opt _ (az (l:=m.cls) (i:=p.snd.toNat) (d:=default) (by omega))
  have:((m.cls.getD p.fst.toNat default).length:Int) * (m.cls.getD p.snd.toNat default).length≤24 * 24:=Int.mul_le_mul (by omega) (by omega) (by omega) (by omega)
  omega
theorem pw {σ:St} {kp:Nat→Prop} {ρ:Nat→Nat} {snap:Bool} {a b c d a' b' c' d':AV} (h1:aN σ kp ρ snap a a') (h2:aN σ kp ρ snap b b') (h3:aN σ kp ρ snap c c') (h4:aN σ kp ρ snap d d'):aN σ kp ρ snap (.agg [a,b,c,d]) (.agg [a',b',c',d']) :=
  .agg _ _ rfl (fD.spec (R:=aN σ kp ρ snap) (cs:=[a,b,c,d]) (ds:=[a',b',c',d']) ⟨h1,h2,h3,h4,trivial⟩).2
structure kU (q:Nat) (m:ah):Prop where
  mb:MB m
  s7:m.cls.length≤q
  opt:∀ l∈m.cls,l.length≤25
abbrev OM (m:ah):Prop:=kU 25 m
theorem kU.mono {q r:Nat} {m:ah} (h:kU q m) (hr:q≤r):kU r m:=⟨h.mb,j5 h.s7 hr,h.opt⟩
theorem kU.rules {q:Nat} {m:ah} (h:kU q m) (r:Int):kU q ⟨m.cls,m.ae,m.au,r⟩:=⟨⟨h.mb.cls,h.mb.opt,h.mb.ch,h.mb.ae,h.mb.ax,h.mb.au,h.mb.kr⟩,h.s7,h.opt⟩
theorem kU.ae {q:Nat} {m:ah} (h:kU q m) {l:List Pr} (h1:l.length<9223372036854775808) (h2:∀ p∈l,p.ax.length<9223372036854775808):kU q ⟨m.cls,l,m.au,m.rules⟩:=⟨⟨h.mb.cls,h.mb.opt,h.mb.ch,h1,h2,h.mb.au,h.mb.kr⟩,h.s7,h.opt⟩
theorem kU.au {q:Nat} {m:ah} (h:kU q m) {l:List Ct} (h1:l.length<9223372036854775808) (h2:∀ p∈l,p.aK.length<9223372036854775808):kU q ⟨m.cls,m.ae,l,m.rules⟩:=⟨⟨h.mb.cls,h.mb.opt,h.mb.ch,h.mb.ae,h.mb.ax,h1,h2⟩,h.s7,h.opt⟩
theorem kU.cls {q:Nat} {m:ah} (h:kU q m) (hq:q≤25) {l:List (List bK)} (h1:l.length≤q) (h2:∀ x∈l,x.length≤25∧∀ o∈x,o.ch.length<9223372036854775808):kU q ⟨l,m.ae,m.au,m.rules⟩ :=
  ⟨⟨by dsimp only;omega,fun x hx=>by have:=(h2 x hx).1;omega,fun x hx=>(h2 x hx).2,h.mb.ae,h.mb.ax,h.mb.au,h.mb.kr⟩,h1,fun x hx=>(h2 x hx).1⟩
theorem VM.om {m:ah} (h:VM m):OM m:=⟨h.mb,by have:=h.cls;omega,fun l hl=>by have:=h.opt l hl;omega⟩
theorem VM.omq {m:ah} (h:VM m) {q:Nat} (hl:m.cls.length≤q):kU q m:=⟨h.mb,hl,fun l hl=>by have:=h.opt l hl;omega⟩
theorem kU.XG {q:Nat} {m:ah} (h:kU q m) (hp:0<m.ae.length):(m.ae.getD 0 default).ax.length<9223372036854775808:=h.mb.ax _ (az hp)
theorem agA (q:Nat) (ah1:q≤24) (L:List Int) (k:Nat) (m:ah) (hm:VM m) (hq:m.cls.length≤q) (hk:k≤L.length) (hL:L.length<1000000) :
    fF Tryz.prog 43 [.ptr 0 0 0,.agg (ar m)] [jE L k] (fun r os=>∃ m' k',kU (q+1) m'∧k'≤L.length∧r=.agg (ar m')∧os=[jE L k']):=by
  have h1:=hm.cls
  have h2:=hm.opt
  have h3:=hm.ae
  have h4:=hm.au
  have eh:kU (q+1) m:=hm.omq (by omega)
  have h8:=jr L k 8 (by unfold fR;omega) hk hL
  have h8r:=mi (L:=L) (k:=k) (n:=8) (by omega)
  have bQ:=gM hk
  have r4:List.range 4=[0,1,2,3]:=by decide
  unfold jE at *
  generalize eC L k 8=j at *
  generalize cQ L k=k2 at *
  refine fF.aF (fn:=Tryz.f43) 126 1 [.cell 4 29] Tryz.func43 rfl rfl rfl rfl rfl (by simp) ?_
  ((try revert hK K);(repeat' (first|refine Va X0 ?_|(refine V2 X0 ?_ ?_<;>try with_reducible intro hb)|(refine Xi ?_ ?_<;>try intro ht)|refine VD ?_ ?_|exact Xx|fail))<;>try with_reducible intro K hK)
  (refine Xn [0] (h8) ?_;simp (disch:=omega) only[Ac,↓Pc,simprocAttr])
  ((try revert hK K);(repeat' (first|refine Va @r4 ?_|(refine V2 @r4 ?_ ?_<;>try with_reducible intro hb)|(refine Xi ?_ ?_<;>try intro ht)|refine VD ?_ ?_|exact Xx|fail))<;>try with_reducible intro K hK)
  ·
    have oF:=jr L k2 4 (by unfold fR;omega) bQ hL
    have C4:=mi (L:=L) (k:=k2) (n:=4) (by omega)
    have lL:=gM bQ
    unfold jE at *
    generalize eC L k2 4=i at *
    generalize cQ L k2=k3 at *
    (refine Xn [0] (oF) ?_;simp (disch:=omega) only[Ac,↓Pc,simprocAttr,r4])
    have hi:i=0∨i=1∨i=2∨i=3:=by omega
    rcases hi with rfl | rfl | rfl | rfl
    · simp (disch:=omega) only[Ac,↓Pc,simprocAttr]
      ((try revert hK K);(repeat' (first|refine Va X0 ?_|(refine V2 X0 ?_ ?_<;>try with_reducible intro hb)|(refine Xi ?_ ?_<;>try intro ht)|refine VD ?_ ?_|exact Xx|fail))<;>try with_reducible intro K hK)
      unfold gH
      simp only[ei,ee]
      simp (disch:=omega) only[Ac,↓Pc,simprocAttr]
      refine⟨_,_,⟨⟨m.cls,m.ae,m.au,-1⟩,k3,eh.rules _,by omega,rfl,rfl⟩,?_⟩
      refine eA [0] true (by decide) ⟨⟨by simp,.inr rfl⟩,trivial⟩ (by decide) (by decide) (pw (aN.pure rfl) (?_) (?_) (.pure rfl))
      all_goals first|exact .pure rfl|exact .eq rfl|exact .fz rfl (by simp only[Bc,Rc])
    · simp (disch:=omega) only[Ac,↓Pc,simprocAttr]
      ((try revert hK K);(repeat' (first|refine Va X0 ?_|(refine V2 X0 ?_ ?_<;>try with_reducible intro hb)|(refine Xi ?_ ?_<;>try intro ht)|refine VD ?_ ?_|exact Xx|fail))<;>try with_reducible intro K hK)
      unfold gH
      simp only[ei,ee]
      simp (disch:=omega) only[Ac,↓Pc,simprocAttr]
      refine⟨_,_,⟨⟨m.cls,m.ae,m.au,0⟩,k3,eh.rules _,by omega,rfl,rfl⟩,?_⟩
      refine eA [0] true (by decide) ⟨⟨by simp,.inr rfl⟩,trivial⟩ (by decide) (by decide) (pw (aN.pure rfl) (?_) (?_) (.pure rfl))
      all_goals first|exact .pure rfl|exact .eq rfl|exact .fz rfl (by simp only[Bc,Rc])
    · simp (disch:=omega) only[Ac,↓Pc,simprocAttr]
      ((try revert hK K);(repeat' (first|refine Va X0 ?_|(refine V2 X0 ?_ ?_<;>try with_reducible intro hb)|(refine Xi ?_ ?_<;>try intro ht)|refine VD ?_ ?_|exact Xx|fail))<;>try with_reducible intro K hK)
      unfold gH
      simp only[ei,ee]
      simp (disch:=omega) only[Ac,↓Pc,simprocAttr]
      refine⟨_,_,⟨⟨m.cls,m.ae,m.au,56⟩,k3,eh.rules _,by omega,rfl,rfl⟩,?_⟩
      refine eA [0] true (by decide) ⟨⟨by simp,.inr rfl⟩,trivial⟩ (by decide) (by decide) (pw (aN.pure rfl) (?_) (?_) (.pure rfl))
      all_goals first|exact .pure rfl|exact .eq rfl|exact .fz rfl (by simp only[Bc,Rc])
    · simp (disch:=omega) only[Ac,↓Pc,simprocAttr]
      ((try revert hK K);(repeat' (first|refine Va X0 ?_|(refine V2 X0 ?_ ?_<;>try with_reducible intro hb)|(refine Xi ?_ ?_<;>try intro ht)|refine VD ?_ ?_|exact Xx|fail))<;>try with_reducible intro K hK)
      unfold gH
      simp only[ei,ee]
      simp (disch:=omega) only[Ac,↓Pc,simprocAttr]
      refine⟨_,_,⟨⟨m.cls,m.ae,m.au,57⟩,k3,eh.rules _,by omega,rfl,rfl⟩,?_⟩
      refine eA [0] true (by decide) ⟨⟨by simp,.inr rfl⟩,trivial⟩ (by decide) (by decide) (pw (aN.pure rfl) (?_) (?_) (.pure rfl))
      all_goals first|exact .pure rfl|exact .eq rfl|exact .fz rfl (by simp only[Bc,Rc])
  ·
    have e:=l8 (enc:=aV) m.ae (m.ae.getD 0 default)
    simp only[aV] at e
    rw[e]
    unfold gH
    simp only[ei,ee]
    simp (disch:=omega) only[Ac,↓Pc,simprocAttr]
    refine⟨_,_,⟨⟨m.cls,m.ae++[m.ae.getD 0 default],m.au,m.rules⟩,k2,eh.ae (by simp;omega) (fun p hp=>(cy.1 hp).elim (eh.mb.ax p) fun h=>by rw[ek.1 h];exact eh.XG (by omega)),by omega,rfl,rfl⟩,?_⟩
    refine eA [0] true (by decide) ⟨⟨by simp,.inr rfl⟩,trivial⟩ (by decide) (by decide) (pw (aN.pure rfl) (?_) (?_) (.pure rfl))
    all_goals first|exact .pure rfl|exact .eq rfl|exact .fz rfl (by simp only[Bc,Rc])
  ·
    unfold gH
    simp only[ei,ee]
    simp (disch:=omega) only[Ac,↓Pc,simprocAttr]
    refine⟨_,_,⟨m,k2,eh,by omega,rfl,rfl⟩,?_⟩
    refine eA [0] true (by decide) ⟨⟨by simp,.inr rfl⟩,trivial⟩ (by decide) (by decide) (pw (aN.pure rfl) (?_) (?_) (.pure rfl))
    all_goals first|exact .pure rfl|exact .eq rfl|exact .fz rfl (by simp only[Bc,Rc])
  ·
    have oF:=jr L k2 2 (by unfold fR;omega) bQ hL
    have C4:=mi (L:=L) (k:=k2) (n:=2) (by omega)
    have lL:=gM bQ
    have ah3:(m.ae.getD 0 default).ax.length≤576:=agy hm (az (by omega))
    unfold jE at *
    generalize eC L k2 2=x1 at *
    generalize cQ L k2=k3 at *
    refine XD ?_;intro Qb y6
    refine vt ⟨av [(3,.ptr 1 0 0),(4,.ptr 2 0 0)],[.var [.tree 1 (ints L),.lit (.int .i64 k3)],.var [.tree 1 (rowsOf bn m.cls),.ref 3 4 0 m.ae.length,.ref 4 4 0 m.au.length,.lit (.int .i64 m.rules)],
      .var [.lit (.slice none 0 0),.lit (.slice none 0 0),.lit (.slice none 0 0),.lit (.int .i64 0)],
      .arr 4 ((rowsOf aV m.ae).set 0 [.lit (.int .i64 (m.ae.getD 0 default).fst),.lit (.int .i64 (m.ae.getD 0 default).snd),.lit (.int .i64 (m.ae.getD 0 default).cB),.ref 6 1 0 (1+(m.ae.getD 0 default).ax.length)]),
      .arr 4 (rowsOf aU m.au),.gone,.arr 1 ([.lit (.int .i64 (x1 - 1))]::ints (m.ae.getD 0 default).ax)]⟩ (fun s h=>y6 _ (hn _ h)) ?_ (fun key=>?_)
    rotate_left
    · refine P6 0 [] [3] (.take 2 (.take 6 (.take 7 (.take 8 (.take 9 (.take 10 (.both 0 (.both 1 (.take 3 (.take 4 (.take 5 (.take 11 (.take 12 (.take 13 (.take 14 .nil))))))) 3 (.take 4 (.both 1 (.take 5 (.take 11 (.take 12 (.take 13 (.take 14 .nil))))) 5 (.both 1 (.take 11 (.take 12 (.take 13 (.take 14 .nil)))) 11 (.take 1 (.take 12 (.take 13 (.take 14 .nil)))))))) 3 (.take 4 (.both 0 (.both 1 (.take 5 (.take 11 (.take 12 (.take 13 (.take 14 .nil))))) 5 (.both 1 (.take 11 (.take 12 (.take 13 (.take 14 .nil)))) 11 (.take 1 (.take 12 (.take 13 (.take 14 .nil)))))) 5 (.both 0 (.both 1 (.take 11 (.take 12 (.take 13 (.take 14 .nil)))) 11 (.take 1 (.take 12 (.take 13 (.take 14 .nil))))) 11 (.take 0 (.take 1 (.take 12 (.take 13 (.take 14 .nil))))))))))))))) rfl (by decide) (by decide +kernel) ?_
      simp (disch:=omega) only[Ac,↓Pc,simprocAttr,Hc,gf]
      repeat' (first|with_reducible refine kD ?_ ?_|omega|with_reducible rfl|(refine BW (oF) rfl rfl rfl rfl (by (repeat' (first|exact trivial|refine kD ?_ ?_))<;>first|exact .inl ⟨rfl,rfl⟩|exact .inr ⟨rfl,rfl⟩) ?_;simp (disch:=omega) only[Ac,↓Pc,simprocAttr,Hc,gf]))
      all_goals refine key _ ?_
      all_goals exact Xv X0
    ((try revert hK K);(repeat' (first|refine Va X0 ?_|(refine V2 X0 ?_ ?_<;>try with_reducible intro hb)|(refine Xi ?_ ?_<;>try intro ht)|refine VD ?_ ?_|exact Xx|fail))<;>try with_reducible intro K hK)
    unfold gH
    simp only[ei,ee]
    simp (disch:=omega) only[Ac,↓Pc,simprocAttr]
    refine⟨_,_,⟨⟨m.cls,m.ae.set 0 ⟨(m.ae.getD 0 default).fst,(m.ae.getD 0 default).snd,(m.ae.getD 0 default).cB,[x1 - 1]++(m.ae.getD 0 default).ax⟩,m.au,m.rules⟩,k3,eh.ae (by simp;omega) (fun p hp=>(rf hp).elim (eh.mb.ax p) fun h=>by rw[h];show ([x1 - 1]++(m.ae.getD 0 default).ax).length<_;rw[List.length_append,List.length_singleton];omega),by omega,rfl,rfl⟩,?_⟩
    refine eA [0] true (by decide) ⟨⟨by simp,.inr rfl⟩,trivial⟩ (by decide) (by decide) (pw (aN.pure rfl) (.snap _ _ rfl ?_) (?_) (.pure rfl))
    · refine bV.mk rfl (by simp only[Bc,Rc,bm]) (hU (by decide)) (fZ _) ?_
      rw[← D5]
      exact agx (yr (l9 _)) ⟨.lit _,.lit _,.lit _,bV.mk rfl (by simp[ints];omega) (hU (by decide)) (qq _) (yr (sL ([x1 - 1]++(m.ae.getD 0 default).ax))),trivial⟩
    · first|exact .pure rfl|exact .eq rfl|exact .fz rfl (by simp only[Bc,Rc])
  ·
    unfold gH
    simp only[ei,ee]
    simp (disch:=omega) only[Ac,↓Pc,simprocAttr]
    refine⟨_,_,⟨m,k2,eh,by omega,rfl,rfl⟩,?_⟩
    refine eA [0] true (by decide) ⟨⟨by simp,.inr rfl⟩,trivial⟩ (by decide) (by decide) (pw (aN.pure rfl) (?_) (?_) (.pure rfl))
    all_goals first|exact .pure rfl|exact .eq rfl|exact .fz rfl (by simp only[Bc,Rc])
  ·
    have e:=D5 (enc:=aV) m.ae 0 ⟨(m.ae.getD 0 default).fst,(m.ae.getD 0 default).fst,(m.ae.getD 0 default).cB,(m.ae.getD 0 default).ax⟩
    simp only[aV] at e
    rw[e]
    unfold gH
    simp only[ei,ee]
    simp (disch:=omega) only[Ac,↓Pc,simprocAttr]
    refine⟨_,_,⟨⟨m.cls,m.ae.set 0 ⟨(m.ae.getD 0 default).fst,(m.ae.getD 0 default).fst,(m.ae.getD 0 default).cB,(m.ae.getD 0 default).ax⟩,m.au,m.rules⟩,k2,eh.ae (by simp;omega) (fun p hp=>(rf hp).elim (eh.mb.ax p) fun h=>by rw[h];exact eh.XG (by omega)),by omega,rfl,rfl⟩,?_⟩
    refine eA [0] true (by decide) ⟨⟨by simp,.inr rfl⟩,trivial⟩ (by decide) (by decide) (pw (aN.pure rfl) (?_) (?_) (.pure rfl))
    all_goals first|exact .pure rfl|exact .eq rfl|exact .fz rfl (by simp only[Bc,Rc])
  ·
    unfold gH
    simp only[ei,ee]
    simp (disch:=omega) only[Ac,↓Pc,simprocAttr]
    refine⟨_,_,⟨m,k2,eh,by omega,rfl,rfl⟩,?_⟩
    refine eA [0] true (by decide) ⟨⟨by simp,.inr rfl⟩,trivial⟩ (by decide) (by decide) (pw (aN.pure rfl) (?_) (?_) (.pure rfl))
    all_goals first|exact .pure rfl|exact .eq rfl|exact .fz rfl (by simp only[Bc,Rc])
  ·
    unfold gH
    simp only[ei,ee]
    simp (disch:=omega) only[Ac,↓Pc,simprocAttr]
    refine⟨_,_,⟨⟨m.cls,m.ae,m.au++[⟨0,[],-1,1⟩],m.rules⟩,k2,eh.au (by simp;omega) (fun p hp=>(cy.1 hp).elim (eh.mb.kr p) fun h=>by rw[ek.1 h];decide),by omega,rfl,rfl⟩,?_⟩
    refine eA [0] true (by decide) ⟨⟨by simp,.inr rfl⟩,trivial⟩ (by decide) (by decide) (pw (aN.pure rfl) (?_) (.snap _ _ rfl ?_) (.pure rfl))
    · first|exact .pure rfl|exact .eq rfl|exact .fz rfl (by simp only[Bc,Rc])
    · refine bV.mk rfl (by simp only[Bc,Rc]) (hU (by decide)) (fZ _) ?_
      rw[← l8]
      exact C3 (yr (l9 _)) ⟨⟨.lit _,.nil 3,.lit _,.lit _,trivial⟩,trivial⟩
  ·
    have hnw:=jr L k2 3 (by unfold fR;omega) bQ hL
    have lL:=gM bQ
    have oF:=jr L (cQ L k2) 4 (by unfold fR;omega) lL hL
    have Ga:=gM lL
    have KH:=jr L (cQ L (cQ L k2)) 2 (by unfold fR;omega) Ga hL
    have XH:=gM Ga
    have hnz:=jr L (cQ L (cQ L (cQ L k2))) 2 (by unfold fR;omega) XH hL
    have hk6:=gM XH
    unfold jE at *
    generalize eC L k2 3=x1 at *
    generalize cQ L k2=k3 at *
    generalize eC L k3 4=x2 at *
    generalize cQ L k3=k4 at *
    generalize eC L k4 2=x3 at *
    generalize cQ L k4=k5 at *
    generalize eC L k5 2=x4 at *
    generalize cQ L k5=k6 at *
    refine XD ?_;intro Qb y6
    refine vt ⟨av [(3,.ptr 1 0 0),(4,.ptr 2 0 0)],[.var [.tree 1 (ints L),.lit (.int .i64 k6)],.var [.tree 1 (rowsOf bn m.cls),.ref 3 4 0 m.ae.length,.ref 7 4 0 (m.au.length+1),.lit (.int .i64 m.rules)],
      .var [.lit (.slice none 0 0),.lit (.slice none 0 0),.lit (.slice none 0 0),.lit (.int .i64 0)],.arr 4 (rowsOf aV m.ae),.gone,.arr 3 [[.lit (.int .i64 x1),.lit (.int .i64 x2),.lit (.int .i64 x3)]],
      .arr 4 [[.lit (.int .i64 0),.ref 5 3 0 1,.lit (.int .i64 0),.lit (.int .i64 x4)]],.arr 4 (rowsOf aU m.au++[[.lit (.int .i64 0),.ref 5 3 0 1,.lit (.int .i64 0),.lit (.int .i64 x4)]])]⟩ (fun s h=>y6 _ (hn _ h)) ?_ (fun key=>?_)
    rotate_left
    · refine P6 0 [] [3,5,7,11] (.take 0 (.take 1 (.take 2 (.take 3 (.take 4 (.take 5 (.take 6 (.take 7 (.take 8 (.take 10 (.both 9 (.take 11 (.take 12 (.take 13 (.take 14 (.take 15 (.take 16 .nil)))))) 11 (.take 9 (.take 12 (.take 13 (.take 14 (.take 15 (.take 16 .nil))))))))))))))))) rfl (by decide) (by decide +kernel) ?_
      simp (disch:=omega) only[Ac,↓Pc,simprocAttr,Hc,gf]
      repeat' (first|with_reducible refine kD ?_ ?_|omega|with_reducible rfl|(refine BW (hnw) rfl rfl rfl rfl (by (repeat' (first|exact trivial|refine kD ?_ ?_))<;>first|exact .inl ⟨rfl,rfl⟩|exact .inr ⟨rfl,rfl⟩) ?_;simp (disch:=omega) only[Ac,↓Pc,simprocAttr,Hc,gf])|(refine BW (oF) rfl rfl rfl rfl (by (repeat' (first|exact trivial|refine kD ?_ ?_))<;>first|exact .inl ⟨rfl,rfl⟩|exact .inr ⟨rfl,rfl⟩) ?_;simp (disch:=omega) only[Ac,↓Pc,simprocAttr,Hc,gf])|(refine BW (KH) rfl rfl rfl rfl (by (repeat' (first|exact trivial|refine kD ?_ ?_))<;>first|exact .inl ⟨rfl,rfl⟩|exact .inr ⟨rfl,rfl⟩) ?_;simp (disch:=omega) only[Ac,↓Pc,simprocAttr,Hc,gf])|(refine BW (hnz) rfl rfl rfl rfl (by (repeat' (first|exact trivial|refine kD ?_ ?_))<;>first|exact .inl ⟨rfl,rfl⟩|exact .inr ⟨rfl,rfl⟩) ?_;simp (disch:=omega) only[Ac,↓Pc,simprocAttr,Hc,gf]))
      all_goals refine key _ ?_
      all_goals exact Xv X0
    ((try revert hK K);(repeat' (first|refine Va X0 ?_|(refine V2 X0 ?_ ?_<;>try with_reducible intro hb)|(refine Xi ?_ ?_<;>try intro ht)|refine VD ?_ ?_|exact Xx|fail))<;>try with_reducible intro K hK)
    unfold gH
    simp only[ei,ee]
    simp (disch:=omega) only[Ac,↓Pc,simprocAttr]
    refine⟨_,_,⟨⟨m.cls,m.ae,m.au++[⟨0,[⟨x1,x2,x3⟩],0,x4⟩],m.rules⟩,k6,eh.au (by simp;omega) (fun p hp=>(cy.1 hp).elim (eh.mb.kr p) fun h=>by rw[ek.1 h];simp),by omega,rfl,rfl⟩,?_⟩
    refine eA [0] true (by decide) ⟨⟨by simp,.inr rfl⟩,trivial⟩ (by decide) (by decide) (pw (aN.pure rfl) (?_) (.snap _ _ rfl ?_) (.pure rfl))
    · first|exact .pure rfl|exact .eq rfl|exact .fz rfl (by simp only[Bc,Rc])
    · refine bV.mk rfl (by simp only[Bc,Rc]) (hU (by decide)) (fZ _) ?_
      rw[← l8]
      exact C3 (yr (l9 _)) ⟨⟨.lit _,bV.mk rfl rfl (hU (by decide)) (fZ _) ⟨⟨.lit _,.lit _,.lit _,trivial⟩,trivial⟩,.lit _,.lit _,trivial⟩,trivial⟩
  ·
    have oF:=jr L k2 5 (by unfold fR;omega) bQ hL
    have lL:=gM bQ
    have KH:=jr L (cQ L k2) 2 (by unfold fR;omega) lL hL
    have Ga:=gM lL
    unfold jE at *
    generalize eC L k2 5=x1 at *
    generalize cQ L k2=k3 at *
    generalize eC L k3 2=x2 at *
    generalize cQ L k3=k4 at *
    (refine Xn [0] (oF) ?_;simp (disch:=omega) only[Ac,↓Pc,simprocAttr])
    (refine Xn [0] (KH) ?_;simp (disch:=omega) only[Ac,↓Pc,simprocAttr])
    ((try revert hK K);(repeat' (first|refine Va X0 ?_|(refine V2 X0 ?_ ?_<;>try with_reducible intro hb)|(refine Xi ?_ ?_<;>try intro ht)|refine VD ?_ ?_|exact Xx|fail))<;>try with_reducible intro K hK)
    unfold gH
    simp only[ei,ee]
    simp (disch:=omega) only[Ac,↓Pc,simprocAttr]
    refine⟨_,_,⟨⟨m.cls++[[⟨0,0,0,0,0,[(x1,x2)]⟩]],m.ae,m.au,m.rules⟩,k4,eh.cls (by omega) (by simp;omega) (fun l hl=>(cy.1 hl).elim (fun h=>⟨eh.opt l h,eh.mb.ch l h⟩) fun h=>by rw[ek.1 h];exact⟨by simp,fun o ho=>by rw[ek.1 ho];simp⟩),by omega,rfl,rfl⟩,?_⟩
    refine eA [0] true (by decide) ⟨⟨by simp,.inr rfl⟩,trivial⟩ (by decide) (by decide) (pw (.snap _ _ rfl ?_) (?_) (?_) (.pure rfl))
    · refine bV.mk rfl (by simp only[Bc,Rc]) (hU (by decide)) (fZ _) ?_
      rw[← l8]
      refine C3 (yr (l9 _)) ⟨⟨?_,trivial⟩,trivial⟩
      refine bV.mk rfl rfl (hU (by decide)) (fZ _) ⟨⟨.lit _,.lit _,.lit _,.lit _,.lit _,?_,trivial⟩,trivial⟩
      exact bV.mk rfl rfl (hU (by decide)) (fZ _) ⟨⟨.lit _,.lit _,trivial⟩,trivial⟩
    · first|exact .pure rfl|exact .eq rfl|exact .fz rfl (by simp only[Bc,Rc])
    · first|exact .pure rfl|exact .eq rfl|exact .fz rfl (by simp only[Bc,Rc])
  ·
    have oF:=jr L k2 2 (by unfold fR;omega) bQ hL
    have C4:=mi (L:=L) (k:=k2) (n:=2) (by omega)
    have lL:=gM bQ
    unfold jE at *
    generalize eC L k2 2=x1 at *
    generalize cQ L k2=k3 at *
    (refine Xn [0] (oF) ?_;simp (disch:=omega) only[Ac,↓Pc,simprocAttr])
    ((try revert hK K);(repeat' (first|refine Va X0 ?_|(refine V2 X0 ?_ ?_<;>try with_reducible intro hb)|(refine Xi ?_ ?_<;>try intro ht)|refine VD ?_ ?_|exact Xx|fail))<;>try with_reducible intro K hK)
    unfold gH
    simp only[ei,ee]
    simp (disch:=omega) only[Ac,↓Pc,simprocAttr]
    refine⟨_,_,⟨⟨m.cls++[bq (24+x1).toNat ⟨0,0,0,0,0,[]⟩],m.ae,m.au,m.rules⟩,k3,eh.cls (by omega) (by simp;omega) (fun l hl=>(cy.1 hl).elim (fun h=>⟨eh.opt l h,eh.mb.ch l h⟩) fun h=>by rw[ek.1 h];exact⟨by rw[nK];omega,fun o ho=>by rw[List.eq_of_mem_replicate ho];decide⟩),by omega,rfl,rfl⟩,?_⟩
    refine eA [0] true (by decide) ⟨⟨by simp,.inr rfl⟩,trivial⟩ (by decide) (by decide) (pw (.snap _ _ rfl ?_) (?_) (?_) (.pure rfl))
    · refine bV.mk rfl (by simp only[Bc,Rc]) (hU (by decide)) (fZ _) ?_
      rw[← l8]
      refine C3 (yr (l9 _)) ⟨⟨?_,trivial⟩,trivial⟩
      refine bV.mk rfl (by rw[nK]) (hU (by decide)) (fZ _) ?_
      rw[show rowsOf bX (bq (24+x1).toNat ⟨0,0,0,0,0,[]⟩)=bq (24+x1).toNat (bX ⟨0,0,0,0,0,[]⟩) by rw[rowsOf,List.map_replicate]]
      refine XF ?_ _
      exact⟨.lit _,.lit _,.lit _,.lit _,.lit _,.nil 2,trivial⟩
    · first|exact .pure rfl|exact .eq rfl|exact .fz rfl (by simp only[Bc,Rc])
    · first|exact .pure rfl|exact .eq rfl|exact .fz rfl (by simp only[Bc,Rc])
theorem agD (L:List Int) (k:Nat) (m:ah) (hm:VM m) (hk:k≤L.length) (hL:L.length<1000000) :
    fF Tryz.prog 43 [.ptr 0 0 0,.agg (ar m)] [jE L k] (fun r os=>∃ m' k',OM m'∧k'≤L.length∧r=.agg (ar m')∧os=[jE L k']):=agA 24 (aH _) L k m hm hm.cls hk hL
def wB (c:Int) (p:Pr):Bool:=decide (p.fst≠c∧p.snd≠c)
def py (m:ah) (c:Int):ah:=⟨m.cls.set c.toNat [],m.ae.filter (wB c),[],m.rules⟩
theorem agE {m:ah} (hm:VM m) {c:Int} (hc:0≤c):VM (py m c):=by
  have cp:∀ l∈(py m c).cls,l=[]∨l∈m.cls:=fun l hl=>(rf hl).symm
  have key:∀ (l:List Pr) (q:Option Pr),(∀ p∈l,wB c p=true)→eI m q l=true→eI (py m c) q l=true:=by
    intro l
    induction l with
    | nil=>intro q _ _;cases q<;>rfl
    | cons p r ih =>
      intro q ho h
      rw[eI.eq_def] at h ⊢
      simp only[Bool.and_eq_true] at h ⊢
      obtain ⟨⟨a,b⟩,d⟩:=h
      have hp:=ho p (by simp)
      unfold wB at hp
      rw[decide_eq_true_eq] at hp
      refine⟨⟨?_,b⟩,ih _ (fun x hx=>ho x (by simp[hx])) d⟩
      have e:∀ x:Int,0≤x→x≠c→(py m c).cls.getD x.toNat default=m.cls.getD x.toNat default:=fun x h0 hx=>by
        unfold py
        dsimp only
        rw[ay,List.getElem?_set_ne (by omega),← ay]
      have q:=(mj a).2
      unfold fJ at *
      rw[e _ q.1 hp.1,e _ (by omega) hp.2,show (py m c).cls.length=m.cls.length by unfold py;simp]
      exact a
  refine⟨by unfold py;simpa using hm.cls,fun l hl=>?_,j5 (List.length_filter_le _ _) hm.ae,aD _,hm.nx,fun l hl o ho=>?_,key _ _ (fun p hp=>(List.mem_filter.1 hp).2) (IB _ hm.pr),fun c hc=>by cases hc⟩
  · rcases cp l hl with rfl | h
    · exact aD _
    · exact hm.opt l h
  · rcases cp l hl with rfl | h
    · cases ho
    · exact hm.nu l h o ho
theorem XI {R:AV→AV→Prop}:∀ {a c:List (List AV)} {x y:List AV} (j:Nat),iF R a c→fD R x y→iF R (a.set j x) (c.set j y)
  | [],[],_,_,_,_,_=>trivial
  | _::_,_::_,_,_,0,h,k=>⟨k,h.2⟩
  | _::_,_::_,_,_,j+1,h,k=>⟨h.1,XI j h.2 k⟩
  | [],_::_,_,_,_,h,_=>h.elim
  | _::_,[],_,_,_,h,_=>h.elim
theorem XJ {α:Type} {enc:α→List AV} {w:Nat} [Row enc w] {σ:St} {kp:Nat→Prop} (xs:List α):iF (bV σ kp) (rowsOf enc xs) (rowsOf enc xs) :=
  iF.xB (f:=fun _=>[]) (g:=fun _=>[]) rfl fun j c d hc hd=>by rw[hc] at hd;cases hd;exact Es (fun v hv=>l9 _ _ (List.mem_of_getElem? hc) v hv) rfl
theorem agF {σ:St} {kp:Nat→Prop} {id n c:Nat} {cls:List (List bK)} (ho:σ.aa[id]?=some (.arr 1 ((rowsOf bn cls).set c [.lit (.slice none 0 0)]))) (hn:n=cls.length) (hk:¬ kp id):bV σ kp (.tree 1 (rowsOf bn (cls.set c []))) (.ref id 1 0 n):=by
  have e:rowsOf bn (cls.set c [])=(rowsOf bn cls).set c (bn []):=by unfold rowsOf;rw[p6]
  refine bV.mk ho (by rw[hn,bm,b5]) hk (fZ _) ?_
  rw[e]
  exact XI c (XJ cls) ⟨.nil 6,trivial⟩
theorem agG (m:ah) (hm:VM m) (c:Int) (hc:0≤c∧c<m.cls.length):ao Tryz.prog 79 [.agg (ar m),.lit (.int .i64 c)] [] (.agg (ar (py m c))) []:=by
  have mc:=hm.cls
  have xU:=hm.ae
  have cK:(rowsOf bn m.cls).length=m.cls.length:=b5 _
  have agH:∀ ρ,bC ρ (.arr 1 ((rowsOf bn m.cls).set c.toNat [.lit (.slice none 0 0)]))=.arr 1 ((rowsOf bn m.cls).set c.toNat [.lit (.slice none 0 0)]):=fun ρ=>by
    have h:bC ρ (.arr 1 (rowsOf bn m.cls))=.arr 1 (rowsOf bn m.cls):=by rw[zo]
    simp only[bC,Ob.arr.injEq,true_and] at h ⊢
    rw[p6,h]
    simp[aX]
  have Aa:∀ (xs:List Pr) (p:Pr),rowsOf aV xs++[[AV.lit (.int .i64 p.fst),AV.lit (.int .i64 p.snd),AV.lit (.int .i64 p.cB),AV.tree 1 (ints p.ax)]]=rowsOf aV (xs++[p]):=fun xs p=>l8 xs p
  refine ao.aF (fn:=Tryz.f79) 53 0 [.cell 4 29] Tryz.func79 rfl rfl rfl rfl rfl (by simp) ?_
  repeat' (first|((fail_if_success (first|refine im 1 ?_|refine iq 1 ?_));refine Xr X0 ?_;intro K hK)|(refine hK _ ?_;clear hK K)|refine XY ?_|fail)
  refine IQ ?_;intro Q hn he
  refine vt ⟨av [(1,.lit (.int .i64 c)),(2,.ptr 0 0 0),(4,.ptr 1 0 0),(5,.ptr 3 0 0)],[.var (ar m),.var [.lit (.slice none 0 0),.lit (.slice none 0 0),.lit (.slice none 0 0),.lit (.int .i64 0)],.arr 1 (rowsOf bn m.cls),.var [.ref 2 1 0 m.cls.length,.lit (.slice none 0 0),.lit (.slice none 0 0),.lit (.int .i64 m.rules)]]⟩ hn ?_ (fun key=>?_)
  rotate_left
  · refine oT [] (.take 0 (.take 1 (.three 2 (.take 3 (.take 4 (.take 5 (.take 6 (.take 7 .nil))))) 3 (.three 2 (.take 4 (.take 5 (.take 6 (.take 7 .nil)))) 4 (.both 2 (.take 5 (.take 6 (.take 7 .nil))) 6 (.take 2 (.take 5 (.take 7 .nil)))) 6 (.both 2 (.take 4 (.take 5 (.take 7 .nil))) 4 (.take 2 (.take 5 (.take 7 .nil))))) 6 (.both 2 (.take 3 (.take 4 (.take 5 (.take 7 .nil)))) 3 (.both 2 (.take 4 (.take 5 (.take 7 .nil))) 4 (.take 2 (.take 5 (.take 7 .nil)))))))) rfl (by decide) (by decide +kernel) ?_
    simp (disch:=omega) only[Ac,↓Pc,simprocAttr,Pw]
    repeat' (first|with_reducible refine kD ?_ ?_|omega)
    all_goals
      refine key _ ?_
      first|(exact Xv X0;done)|(exact Xs false [0,1,3,2] X0)
  (try clear hn;try clear he)
  refine Vb @cK ?_
  refine cA (aA.ma 3 1 4 rfl rfl (by decide)) ?_
  refine aI (fun z:Nat × List Pr=>(⟨av [(1,.lit (.int .i64 c)),(2,.ptr 0 0 0),(4,.ptr 1 0 0),(5,.ptr 3 0 0),(6,.lit (.int .i64 z.1))],[.var (ar m),.var [.lit (.slice none 0 0),.lit (.slice none 0 0),.lit (.slice none 0 0),.lit (.int .i64 0)],.arr 1 ((rowsOf bn m.cls).set c.toNat [.lit (.slice none 0 0)]),.var [.ref 2 1 0 m.cls.length,.ref 4 4 0 z.2.length,.lit (.slice none 0 0),.lit (.int .i64 m.rules)],.arr 4 (rowsOf aV z.2)]⟩:St))
    (fun z=>z.1≤m.ae.length∧z.2=(m.ae.take z.1).filter (wB c)) (fun z=>m.ae.length - z.1) (0,[]) ⟨aD _,rfl⟩ (Xv X0) ?_
  rintro ⟨i,xs⟩ ⟨hi,cF⟩ Ql ak aq
  dsimp only at hi cF ⊢
  by_cases hi':i<m.ae.length
  · have cS:=eu hi'
    have uy:xs.length≤4000:=by
      rw[cF]
      exact j5 (List.length_filter_le _ _) (by rw[List.length_take];omega)
    generalize bT:m.ae.getD i default=p at *
    have hf:(m.ae.take (i+1)).filter (wB c)=xs++if wB c p=true then [p] else []:=by
      rw[cS,List.filter_append,← cF]
      congr 1
      rw[List.filter_cons,List.filter_nil]
    by_cases XK:p.fst≠c∧p.snd≠c
    · rw[if_pos (by unfold wB;exact decide_eq_true XK)] at hf
      ((repeat' (first|refine Va (X2 @bT @aV.eq_1) ?_|(refine V2 (X2 @bT @aV.eq_1) ?_ ?_<;>try with_reducible intro hb)|(refine Xi ?_ ?_<;>try intro ht)|exact Xx|fail)))
      all_goals exact ak _ (i+1,xs++[p]) ⟨by dsimp only;omega,hf.symm⟩ (by dsimp only;omega) (Xs false [0,1,2,3,6] (X2 @agH @Aa))
    · rw[if_neg (by unfold wB;simpa using XK),List.append_nil] at hf
      ((repeat' (first|refine Va (X2 @bT @aV.eq_1) ?_|(refine V2 (X2 @bT @aV.eq_1) ?_ ?_<;>try with_reducible intro hb)|(refine Xi ?_ ?_<;>try intro ht)|exact Xx|fail)))
      all_goals exact ak _ (i+1,xs) ⟨by dsimp only;omega,hf.symm⟩ (by dsimp only;omega) (Xv X0)
  · rw[List.take_of_length_le (by omega)] at cF
    ((repeat' (first|refine Va X0 ?_|(refine V2 X0 ?_ ?_<;>try with_reducible intro hb)|(refine Xi ?_ ?_<;>try intro ht)|exact Xx|fail)))
    refine aq _ _ rfl ?_;clear ak aq Ql
    repeat (refine Xu ?_)
    refine Vb X0 ?_
    simp (disch:=omega) only[Ac,↓Pc,simprocAttr,rowOf]
    refine eA [] true (by decide) trivial (by decide) (by decide) ?_
    refine (aN.agg _ _ rfl (fD.spec (R:=aN _ _ _ _) (cs:=ar (py m c)) (ds:=[.ref 2 1 0 m.cls.length,.ref 4 4 0 xs.length,.lit (.slice none 0 0),.lit (.int .i64 m.rules)]) ⟨.snap _ _ rfl (agF rfl rfl (hU (by decide))),.snap _ _ rfl ?_,.snap _ _ rfl (.nil 4),.pure rfl,trivial⟩).2)
    unfold py
    dsimp only
    rw[← cF]
    exact bV.mk rfl (by rw[b5]) (hU (by decide)) (fZ _) (XJ xs)
structure FW (m:ah):Prop where
  vm:VM m
  s7:m.cls.length≤4
  opt:∀ l∈m.cls,l.length≤4
theorem FW.cap {m:ah} (h:FW m):ki m m.cls.length≤8000 :=
  j5 (Wg h.opt _ (aH _)) (j5 (Nat.pow_le_pow_right (by decide) h.s7) (by decide))
theorem MM.fw {m:ah} {a b:Nat} (h:MM m a b) (ha:a≤4) (hb:b≤4):FW m:=⟨h.vm,j5 h.s7 ha,fun l hl=>j5 (h.some l hl).2 hb⟩
theorem FW.agI {m:ah} (h:FW m) {c:Int} (hc:0≤c):FW (py m c):=⟨agE h.vm hc,by unfold py;simpa using h.s7,fun l hl=>by
  rcases rf hl with h1 | h1
  · exact h.opt l h1
  · rw[h1];exact aD _⟩
theorem agJ (L:List Int) (k:Nat) (hk:k≤L.length) (hL:L.length<1000000) :
    fF Tryz.prog 44 [.ptr 0 0 0] [jE L k] (fun r os=>∃ m k',FW m∧k'≤L.length∧r=.agg (ar m)∧os=[jE L k']):=by
  have vD:=U0 L k 4 4 hk hL (by decide) (by decide) (by decide)
  unfold jE at *
  refine fF.aF (fn:=Tryz.f44) 117 1 [.cell 2 29] Tryz.func44 rfl rfl rfl rfl rfl (by simp) ?_
  repeat' (first|((fail_if_success (first|refine im 1 ?_|refine iq 1 ?_));refine Xr X0 ?_;intro K hK)|(refine hK _ ?_;clear hK K)|refine Xy ?_|fail)
  refine sV 1 (by decide) _ rfl ?_
  intro K hK
  simp (disch:=omega) only[Ac,↓Pc,simprocAttr,lR,ly]
  refine⟨rfl,(show nm Tryz.prog 26 [.ptr 0 0 0,.lit (.int .i64 (4:Nat)),.lit (.int .i64 (4:Nat))] (some 11) _ _ from ?_)⟩
  refine Bj [0] vD (by decide) ⟨rfl,trivial⟩ ⟨.eq rfl,.pure rfl,.pure rfl,trivial⟩ ?_
  rintro r os ⟨m,k1,hm,gv,rfl,rfl⟩
  clear vD hk
  have KI:=hm.fw (aH 4) (aH 4)
  have n8:nE m.cls≤256:=Int.le_trans (UZ (w:=4) m.cls 4 (by decide) hm.s7 hm.some) (by decide)
  have gk:=ac7 m hm.vm (fun l hl=>(hm.some l hl).1) (by omega)
  generalize nE m.cls=pn at *
  simp (disch:=omega) only[Ac,↓Pc,simprocAttr]
  refine hK _ ?_
  clear hK K
  repeat (refine Xu ?_)
  have l7:=B6 L k1 12 (by unfold fR;omega) (by omega) gv hL
  have bQ:=gM gv
  refine Va X0 ?_
  refine aI (fun _:Unit=>(⟨av [(0,.ptr 0 0 0),(2,.ptr 1 0 0),(3,.ptr 2 0 0)],[.var [.tree 1 (ints L),.lit (.int .i64 k1)],.var [.lit (.slice none 0 0),.lit (.slice none 0 0),.lit (.slice none 0 0),.lit (.int .i64 0)],.var (ar m)]⟩:St)) (fun _=>True) (fun _=>0) () trivial (Xv X0) ?_
  rintro _ _ Ql ak aq
  ((repeat' (first|refine Vc X0 gk ?_|(refine Xi ?_ ?_<;>try intro ht)|exact Xx|fail)))
  refine aq _ _ rfl ?_;clear ak aq Ql
  repeat (refine Xu ?_)
  clear gk n8
  have Av:∀ (env:Nat→AV) (m:ah) (k':Nat) (x:Ob),FW m→k'≤L.length→env 2=.ptr 1 0 0→gH Tryz.prog 1 [.cell 2 29] (fun r os=>∃ m k',FW m∧k'≤L.length∧r=.agg (ar m)∧os=[.var [.tree 1 (ints L),.lit (.int .i64 k')]]) .ret ⟨env,[.var [.tree 1 (ints L),.lit (.int .i64 k')],.var (ar m),x]⟩:=by
    intro env m k' x eh aP sO
    unfold gH
    simp only[ei,ee,sO]
    simp (disch:=omega) only[Ac,↓Pc,simprocAttr,sO]
    refine⟨_,_,⟨m,k',eh,aP,rfl,rfl⟩,?_⟩
    exact Xw true [0] X0
  ((repeat' (first|refine Va X0 ?_|(refine V2 X0 ?_ ?_<;>try with_reducible intro hb)|(refine Xi ?_ ?_<;>try intro ht)|exact Xx|fail))<;>try with_reducible intro K hK)
  rotate_left
  · exact Av _ m k1 _ KI gv (by simp only[Kc,simprocAttr])
  have mM:0<m.cls.length:=by omega
  have oF:=jr L (cQ L k1) (m.cls.length:Int) (by unfold fR;have:=hm.vm.cls;omega) bQ hL
  have C4:=mi (L:=L) (k:=cQ L k1) (n:=(m.cls.length:Int)) (by omega)
  have hwo:=agG m hm.vm (eC L (cQ L k1) (m.cls.length:Int)) C4
  have hwf:=KI.agI C4.1
  have lL:=gM bQ
  unfold jE at *
  generalize zS L k1 12=bo at *
  generalize eC L (cQ L k1) (m.cls.length:Int)=v at *
  generalize cQ L (cQ L k1)=k3 at *
  generalize cQ L k1=k2 at *
  generalize py m v=mw at *
  (refine Xn [0] (l7) ?_;simp (disch:=omega) only[Ac,↓Pc,simprocAttr])
  ((try revert hK K);(repeat' (first|refine Va X0 ?_|(refine Xi ?_ ?_<;>try intro ht)|fail))<;>try with_reducible intro K hK)
  · (refine Xn [0] (oF) ?_;simp (disch:=omega) only[Ac,↓Pc,simprocAttr])
    ((try revert hK K);(refine Vc X0 hwo ?_))
    exact Av _ mw k3 _ hwf lL (by simp only[Kc,simprocAttr])
  · exact Av _ m k2 _ KI bQ (by simp only[Kc,simprocAttr])
theorem Z8 (L:List Int) (k:Nat) (hk:k≤L.length) (hL:L.length<1000000) :
    fF Tryz.prog 13 [.ptr 0 0 0] [jE L k] (fun r os=>∃ m k',OM m∧k'≤L.length∧r=.agg (ar m)∧os=[jE L k']):=by
  have l7:=B6 L k 8 (by unfold fR;omega) (by omega) hk hL
  have bQ:=gM hk
  generalize zS L k 8=bo at *
  generalize cQ L k=k2 at *
  clear hk
  unfold jE at *
  refine fF.aF (fn:=Tryz.f13) 11 1 [.cell 2 29] Tryz.func13 rfl rfl rfl rfl rfl (by simp) ?_
  ((refine Va X0 ?_)<;>try with_reducible intro K hK)
  (refine Xn [0] (l7) ?_;simp (disch:=omega) only[Ac,↓Pc,simprocAttr])
  have Av:∀ (env:Nat→AV) (m:ah) (k':Nat),OM m→k'≤L.length→env 2=.ptr 1 0 0→gH Tryz.prog 1 [.cell 2 29] (fun r os=>∃ m k',OM m∧k'≤L.length∧r=.agg (ar m)∧os=[.var [.tree 1 (ints L),.lit (.int .i64 k')]]) .ret ⟨env,[.var [.tree 1 (ints L),.lit (.int .i64 k')],.var (ar m)]⟩:=by
    intro env m k' eh aP sO
    unfold gH
    simp only[ei,ee,sO]
    simp (disch:=omega) only[Ac,↓Pc,simprocAttr,sO]
    refine⟨_,_,⟨m,k',eh,aP,rfl,rfl⟩,?_⟩
    exact Xw true [0] X0
  repeat' (first|(refine hK _ ?_;clear hK K)|(refine Xi ?_ ?_<;>try intro ht)|refine Xy ?_|fail)
  · have vD:=U0 L k2 3 3 bQ hL (by decide) (by decide) (by decide)
    unfold jE at vD
    refine abJ 2 0 (by decide) _ _ rfl rfl ?_
    intro K hK
    simp (disch:=omega) only[Ac,↓Pc,simprocAttr,lR,ly]
    refine⟨rfl,(show nm Tryz.prog 26 [.ptr 0 0 0,.lit (.int .i64 (3:Nat)),.lit (.int .i64 (3:Nat))] (some 7) _ _ from ?_)⟩
    refine Bj [0] vD (by decide) ⟨rfl,trivial⟩ ⟨.eq rfl,.pure rfl,.pure rfl,trivial⟩ ?_
    rintro r os ⟨m,k,hm,hk,rfl,rfl⟩
    have XL:=agD L k m hm.vm hk hL
    unfold jE at XL
    simp (disch:=omega) only[Ac,↓Pc,simprocAttr]
    refine⟨rfl,(show nm Tryz.prog 43 [.ptr 0 0 0,.agg (ar m)] (some 8) _ _ from ?_)⟩
    refine Bj [0] XL (by decide) ⟨rfl,trivial⟩ ⟨.eq rfl,.pure rfl,trivial⟩ ?_
    rintro r os ⟨m,k,hm,hk,rfl,rfl⟩
    simp (disch:=omega) only[Ac,↓Pc,simprocAttr]
    refine hK _ ?_;clear hK K
    refine Va X0 ?_
    exact Av _ m k hm hk (by simp only[Kc,simprocAttr])
  · have XM:=agJ L k2 bQ hL
    unfold jE at XM
    refine sV 1 (by decide) _ rfl ?_
    intro K hK
    simp (disch:=omega) only[Ac,↓Pc,simprocAttr,lR,ly]
    refine⟨rfl,(show nm Tryz.prog 44 [.ptr 0 0 0] (some 10) _ _ from ?_)⟩
    refine Bj [0] XM (by decide) ⟨rfl,trivial⟩ ⟨.eq rfl,trivial⟩ ?_
    rintro r os ⟨m,k,hm,hk,rfl,rfl⟩
    simp (disch:=omega) only[Ac,↓Pc,simprocAttr]
    refine hK _ ?_;clear hK K
    refine Va X0 ?_
    exact Av _ m k hm.vm.om hk (by simp only[Kc,simprocAttr])
end T

