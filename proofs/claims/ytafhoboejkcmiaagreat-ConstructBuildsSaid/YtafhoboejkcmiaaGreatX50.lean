import Derived.Test.YtafhoboejkcmiaaGreatX29
import Derived.Test.YtafhoboejkcmiaaGreatX10
import Derived.Test.YtafhoboejkcmiaaGreatX14
set_option linter.unusedVariables false
set_option linter.unusedSimpArgs false
set_option linter.unnecessarySimpa false
set_option linter.unusedSectionVars false
set_option maxHeartbeats 64000000
set_option maxRecDepth 20000
open Go Go.Am Go.Proofs
open Nat (reduceEqDiff reduceAdd reduceLeDiff reduceMul)
open Int (reduceNeg reduceLE reduceToNat)
namespace T
theorem unB {P:Program} {N n0:Nat} {σ:St} {Q:Exit→St→Prop} {x:Code} {id:Nat} (h:∀ Q':Exit→St→Prop,(∀ s,Q .normal s→Q' .normal s)→W P N n0 x Q' σ):W P N n0 x (Bq id Q) σ:=h _ .n
theorem argsR_flat {σ:St} {kp:Nat→Prop}:∀ {l:List AV},(∀ v∈l,(∃ x,v=AV.lit x)∨∃ s r,v=AV.tree s r)→ArgsR (Frz σ kp) l l
  | [],_=>trivial
  | v::l,h=>⟨by rcases h v (by simp) with ⟨x,rfl⟩ | ⟨s,r,rfl⟩;exact .lit _;exact .tree _ _,argsR_flat fun x hx=>h x (by simp[hx])⟩
theorem rowsR_flat {σ:St} {kp:Nat→Prop}:∀ {rows:List (List AV)},(∀ row∈rows,∀ v∈row,(∃ x,v=AV.lit x)∨∃ s r,v=AV.tree s r)→RowsR (Frz σ kp) rows rows
  | [],_=>trivial
  | r::rows,h=>⟨argsR_flat (h r (by simp)),rowsR_flat fun x hx=>h x (by simp[hx])⟩
theorem rowsR_app {R:AV→AV→Prop}:∀ {a c:List (List AV)} {b d:List (List AV)},RowsR R a c→RowsR R b d→RowsR R (a++b) (c++d)
  | [],[],_,_,_,k=>k
  | _::_,_::_,_,_,h,k=>⟨h.1,rowsR_app h.2 k⟩
  | [],_::_,_,_,h,_=>h.elim
  | _::_,[],_,_,h,_=>h.elim
theorem rowsR_set0 {R:AV→AV→Prop}:∀ {a c:List (List AV)} {x y:List AV},RowsR R a c→ArgsR R x y→RowsR R (a.set 0 x) (c.set 0 y)
  | [],[],_,_,_,_=>trivial
  | _::_,_::_,_,_,h,k=>⟨k,h.2⟩
  | [],_::_,_,_,h,_=>h.elim
  | _::_,[],_,_,h,_=>h.elim
theorem rowsR_rep {R:AV→AV→Prop} {x y:List AV} (h:ArgsR R x y):∀ n,RowsR R (List.replicate n x) (List.replicate n y)
  | 0=>trivial
  | n+1=>⟨h,rowsR_rep h n⟩
theorem vm_tab' {m:Mdl} (h:VM m) {p:Pr} (hp:p∈m.prs):p.tab.length≤576:=by
  obtain ⟨_,h1,h2,h3,h4⟩:=pairB_iff (prsL_mem h.pr p hp)
  have a:=h.opt _ (getD_mem (l:=m.cls) (i:=p.fst.toNat) (d:=default) (by omega))
  have b:=h.opt _ (getD_mem (l:=m.cls) (i:=p.snd.toNat) (d:=default) (by omega))
  have:((m.cls.getD p.fst.toNat default).length:Int) * (m.cls.getD p.snd.toNat default).length≤24 * 24:=Int.mul_le_mul (by omega) (by omega) (by omega) (by omega)
  omega
theorem agg4 {σ:St} {kp:Nat→Prop} {ρ:Nat→Nat} {snap:Bool} {a b c d a' b' c' d':AV} (h1:ArgR σ kp ρ snap a a') (h2:ArgR σ kp ρ snap b b') (h3:ArgR σ kp ρ snap c c') (h4:ArgR σ kp ρ snap d d'):ArgR σ kp ρ snap (.agg [a,b,c,d]) (.agg [a',b',c',d']) :=
  .agg _ _ rfl (ArgsR.spec (R:=ArgR σ kp ρ snap) (cs:=[a,b,c,d]) (ds:=[a',b',c',d']) ⟨h1,h2,h3,h4,trivial⟩).2
structure OMq (q:Nat) (m:Mdl):Prop where
  mb:MB m
  few:m.cls.length≤q
  opt:∀ l∈m.cls,l.length≤25
abbrev OM (m:Mdl):Prop:=OMq 25 m
theorem OMq.mono {q r:Nat} {m:Mdl} (h:OMq q m) (hr:q≤r):OMq r m:=⟨h.mb,Nat.le_trans h.few hr,h.opt⟩
theorem OMq.rules {q:Nat} {m:Mdl} (h:OMq q m) (r:Int):OMq q ⟨m.cls,m.prs,m.cts,r⟩:=⟨⟨h.mb.cls,h.mb.opt,h.mb.ch,h.mb.prs,h.mb.tab,h.mb.cts,h.mb.lds⟩,h.few,h.opt⟩
theorem OMq.prs {q:Nat} {m:Mdl} (h:OMq q m) {l:List Pr} (h1:l.length<9223372036854775808) (h2:∀ p∈l,p.tab.length<9223372036854775808):OMq q ⟨m.cls,l,m.cts,m.rules⟩:=⟨⟨h.mb.cls,h.mb.opt,h.mb.ch,h1,h2,h.mb.cts,h.mb.lds⟩,h.few,h.opt⟩
theorem OMq.cts {q:Nat} {m:Mdl} (h:OMq q m) {l:List Ct} (h1:l.length<9223372036854775808) (h2:∀ p∈l,p.loads.length<9223372036854775808):OMq q ⟨m.cls,m.prs,l,m.rules⟩:=⟨⟨h.mb.cls,h.mb.opt,h.mb.ch,h.mb.prs,h.mb.tab,h1,h2⟩,h.few,h.opt⟩
theorem OMq.cls {q:Nat} {m:Mdl} (h:OMq q m) (hq:q≤25) {l:List (List Opt)} (h1:l.length≤q) (h2:∀ x∈l,x.length≤25∧∀ o∈x,o.ch.length<9223372036854775808):OMq q ⟨l,m.prs,m.cts,m.rules⟩ :=
  ⟨⟨by dsimp only;omega,fun x hx=>by have:=(h2 x hx).1;omega,fun x hx=>(h2 x hx).2,h.mb.prs,h.mb.tab,h.mb.cts,h.mb.lds⟩,h1,fun x hx=>(h2 x hx).1⟩
theorem VM.omq {m:Mdl} (h:VM m) {q:Nat} (hl:m.cls.length≤q):OMq q m:=⟨h.mb,hl,fun l hl=>by have:=h.opt l hl;omega⟩
theorem OMq.pin {q:Nat} {m:Mdl} (h:OMq q m) (hp:0<m.prs.length):(m.prs.getD 0 default).tab.length<9223372036854775808:=h.mb.tab _ (getD_mem hp)
theorem odd_okq (q:Nat) (hq24:q≤24) (L:List Int) (k:Nat) (m:Mdl) (hm:VM m) (hq:m.cls.length≤q) (hk:k≤L.length) (hL:L.length<1000000) :
    HoldsR Tryz.prog 28 [.ptr 0 0 0,.agg (eMdl m)] [dice L k] (fun r os=>∃ m' k',OMq (q+1) m'∧k'≤L.length∧r=.agg (eMdl m')∧os=[dice L k']):=by
  have h1:=hm.cls
  have h2:=hm.opt
  have h3:=hm.prs
  have h4:=hm.cts
  have hom:OMq (q+1) m:=hm.omq (by omega)
  have h8:=next_ok L k 8 (by unfold In64;omega) hk hL
  have h8r:=nextV_range (L:=L) (k:=k) (n:=8) (by omega)
  have hk2:=nextA_le hk
  have r4:List.range 4=[0,1,2,3]:=by decide
  unfold dice at *
  generalize nextV L k 8=j at *
  generalize nextA L k=k2 at *
  refine HoldsR.of_body' (fn:=Tryz.f28) 126 1 [.cell 4 29] Tryz.func28 rfl rfl rfl rfl rfl (by simp) ?_
  ((try revert hK K);(repeat' (first|refine Va X0 ?_|(refine V2 X0 ?_ ?_<;>try with_reducible intro hb)|(refine Xi ?_ ?_<;>try intro ht)|refine VD ?_ ?_|exact Xx|fail))<;>try with_reducible intro K hK)
  (refine Xn [0] (h8) ?_;simp (disch:=omega) only[Ac,↓Pc,simprocAttr])
  ((try revert hK K);(repeat' (first|refine Va @r4 ?_|(refine V2 @r4 ?_ ?_<;>try with_reducible intro hb)|(refine Xi ?_ ?_<;>try intro ht)|refine VD ?_ ?_|exact Xx|fail))<;>try with_reducible intro K hK)
  ·
    have hnx:=next_ok L k2 4 (by unfold In64;omega) hk2 hL
    have hnr:=nextV_range (L:=L) (k:=k2) (n:=4) (by omega)
    have hk3:=nextA_le hk2
    unfold dice at *
    generalize nextV L k2 4=i at *
    generalize nextA L k2=k3 at *
    (refine Xn [0] (hnx) ?_;simp (disch:=omega) only[Ac,↓Pc,simprocAttr,r4])
    have hi:i=0∨i=1∨i=2∨i=3:=by omega
    rcases hi with rfl | rfl | rfl | rfl
    · simp (disch:=omega) only[Ac,↓Pc,simprocAttr]
      ((try revert hK K);(repeat' (first|refine Va X0 ?_|(refine V2 X0 ?_ ?_<;>try with_reducible intro hb)|(refine Xi ?_ ?_<;>try intro ht)|refine VD ?_ ?_|exact Xx|fail))<;>try with_reducible intro K hK)
      unfold retR
      simp only[resW,retV]
      simp (disch:=omega) only[Ac,↓Pc,simprocAttr]
      refine⟨_,_,⟨⟨m.cls,m.prs,m.cts,-1⟩,k3,hom.rules _,by omega,rfl,rfl⟩,?_⟩
      refine RetOK_sel [0] true (by decide) ⟨⟨by simp,.inr rfl⟩,trivial⟩ (by decide) (by decide) (agg4 (ArgR.pure rfl) (?_) (?_) (.pure rfl))
      all_goals first|exact .pure rfl|exact .eq rfl|exact .fz rfl (by simp only[Bc,Rc])
    · simp (disch:=omega) only[Ac,↓Pc,simprocAttr]
      ((try revert hK K);(repeat' (first|refine Va X0 ?_|(refine V2 X0 ?_ ?_<;>try with_reducible intro hb)|(refine Xi ?_ ?_<;>try intro ht)|refine VD ?_ ?_|exact Xx|fail))<;>try with_reducible intro K hK)
      unfold retR
      simp only[resW,retV]
      simp (disch:=omega) only[Ac,↓Pc,simprocAttr]
      refine⟨_,_,⟨⟨m.cls,m.prs,m.cts,0⟩,k3,hom.rules _,by omega,rfl,rfl⟩,?_⟩
      refine RetOK_sel [0] true (by decide) ⟨⟨by simp,.inr rfl⟩,trivial⟩ (by decide) (by decide) (agg4 (ArgR.pure rfl) (?_) (?_) (.pure rfl))
      all_goals first|exact .pure rfl|exact .eq rfl|exact .fz rfl (by simp only[Bc,Rc])
    · simp (disch:=omega) only[Ac,↓Pc,simprocAttr]
      ((try revert hK K);(repeat' (first|refine Va X0 ?_|(refine V2 X0 ?_ ?_<;>try with_reducible intro hb)|(refine Xi ?_ ?_<;>try intro ht)|refine VD ?_ ?_|exact Xx|fail))<;>try with_reducible intro K hK)
      unfold retR
      simp only[resW,retV]
      simp (disch:=omega) only[Ac,↓Pc,simprocAttr]
      refine⟨_,_,⟨⟨m.cls,m.prs,m.cts,56⟩,k3,hom.rules _,by omega,rfl,rfl⟩,?_⟩
      refine RetOK_sel [0] true (by decide) ⟨⟨by simp,.inr rfl⟩,trivial⟩ (by decide) (by decide) (agg4 (ArgR.pure rfl) (?_) (?_) (.pure rfl))
      all_goals first|exact .pure rfl|exact .eq rfl|exact .fz rfl (by simp only[Bc,Rc])
    · simp (disch:=omega) only[Ac,↓Pc,simprocAttr]
      ((try revert hK K);(repeat' (first|refine Va X0 ?_|(refine V2 X0 ?_ ?_<;>try with_reducible intro hb)|(refine Xi ?_ ?_<;>try intro ht)|refine VD ?_ ?_|exact Xx|fail))<;>try with_reducible intro K hK)
      unfold retR
      simp only[resW,retV]
      simp (disch:=omega) only[Ac,↓Pc,simprocAttr]
      refine⟨_,_,⟨⟨m.cls,m.prs,m.cts,57⟩,k3,hom.rules _,by omega,rfl,rfl⟩,?_⟩
      refine RetOK_sel [0] true (by decide) ⟨⟨by simp,.inr rfl⟩,trivial⟩ (by decide) (by decide) (agg4 (ArgR.pure rfl) (?_) (?_) (.pure rfl))
      all_goals first|exact .pure rfl|exact .eq rfl|exact .fz rfl (by simp only[Bc,Rc])
  ·
    have e:=rows_app1 (enc:=ePr) m.prs (m.prs.getD 0 default)
    simp only[ePr] at e
    rw[e]
    unfold retR
    simp only[resW,retV]
    simp (disch:=omega) only[Ac,↓Pc,simprocAttr]
    refine⟨_,_,⟨⟨m.cls,m.prs++[m.prs.getD 0 default],m.cts,m.rules⟩,k2,hom.prs (by simp;omega) (fun p hp=>(List.mem_append.1 hp).elim (hom.mb.tab p) fun h=>by rw[List.mem_singleton.1 h];exact hom.pin (by omega)),by omega,rfl,rfl⟩,?_⟩
    refine RetOK_sel [0] true (by decide) ⟨⟨by simp,.inr rfl⟩,trivial⟩ (by decide) (by decide) (agg4 (ArgR.pure rfl) (?_) (?_) (.pure rfl))
    all_goals first|exact .pure rfl|exact .eq rfl|exact .fz rfl (by simp only[Bc,Rc])
  ·
    unfold retR
    simp only[resW,retV]
    simp (disch:=omega) only[Ac,↓Pc,simprocAttr]
    refine⟨_,_,⟨m,k2,hom,by omega,rfl,rfl⟩,?_⟩
    refine RetOK_sel [0] true (by decide) ⟨⟨by simp,.inr rfl⟩,trivial⟩ (by decide) (by decide) (agg4 (ArgR.pure rfl) (?_) (?_) (.pure rfl))
    all_goals first|exact .pure rfl|exact .eq rfl|exact .fz rfl (by simp only[Bc,Rc])
  ·
    have hnx:=next_ok L k2 2 (by unfold In64;omega) hk2 hL
    have hnr:=nextV_range (L:=L) (k:=k2) (n:=2) (by omega)
    have hk3:=nextA_le hk2
    have hpin:(m.prs.getD 0 default).tab.length≤576:=vm_tab' hm (getD_mem (by omega))
    unfold dice at *
    generalize nextV L k2 2=x1 at *
    generalize nextA L k2=k3 at *
    refine unB ?_;intro Qb hnb
    refine join_here ⟨slots [(3,.ptr 1 0 0),(4,.ptr 2 0 0)],[.var [.tree 1 (ints L),.lit (.int .i64 k3)],.var [.tree 1 (rowsOf eCls m.cls),.ref 3 4 0 m.prs.length,.ref 4 4 0 m.cts.length,.lit (.int .i64 m.rules)],
      .var [.lit (.slice none 0 0),.lit (.slice none 0 0),.lit (.slice none 0 0),.lit (.int .i64 0)],
      .arr 4 ((rowsOf ePr m.prs).set 0 [.lit (.int .i64 (m.prs.getD 0 default).fst),.lit (.int .i64 (m.prs.getD 0 default).snd),.lit (.int .i64 (m.prs.getD 0 default).rule),.ref 6 1 0 (1+(m.prs.getD 0 default).tab.length)]),
      .arr 4 (rowsOf eCt m.cts),.gone,.arr 1 ([.lit (.int .i64 (x1 - 1))]::ints (m.prs.getD 0 default).tab)]⟩ (fun s h=>hnb _ (hn _ h)) ?_ (fun key=>?_)
    rotate_left
    · refine W_drawH 0 [] [3] (.take 2 (.take 6 (.take 7 (.take 8 (.take 9 (.take 10 (.both 0 (.both 1 (.take 3 (.take 4 (.take 5 (.take 11 (.take 12 (.take 13 (.take 14 .nil))))))) 3 (.take 4 (.both 1 (.take 5 (.take 11 (.take 12 (.take 13 (.take 14 .nil))))) 5 (.both 1 (.take 11 (.take 12 (.take 13 (.take 14 .nil)))) 11 (.take 1 (.take 12 (.take 13 (.take 14 .nil)))))))) 3 (.take 4 (.both 0 (.both 1 (.take 5 (.take 11 (.take 12 (.take 13 (.take 14 .nil))))) 5 (.both 1 (.take 11 (.take 12 (.take 13 (.take 14 .nil)))) 11 (.take 1 (.take 12 (.take 13 (.take 14 .nil)))))) 5 (.both 0 (.both 1 (.take 11 (.take 12 (.take 13 (.take 14 .nil)))) 11 (.take 1 (.take 12 (.take 13 (.take 14 .nil))))) 11 (.take 0 (.take 1 (.take 12 (.take 13 (.take 14 .nil))))))))))))))) rfl (by decide) (by decide +kernel) ?_
      simp (disch:=omega) only[Ac,↓Pc,simprocAttr,Hc,stepAtH]
      repeat' (first|with_reducible refine And.intro ?_ ?_|omega|with_reducible rfl|(refine callD_of (hnx) rfl rfl rfl rfl (by (repeat' (first|exact trivial|refine And.intro ?_ ?_))<;>first|exact .inl ⟨rfl,rfl⟩|exact .inr ⟨rfl,rfl⟩) ?_;simp (disch:=omega) only[Ac,↓Pc,simprocAttr,Hc,stepAtH]))
      all_goals refine key _ ?_
      all_goals exact Xv X0
    ((try revert hK K);(repeat' (first|refine Va X0 ?_|(refine V2 X0 ?_ ?_<;>try with_reducible intro hb)|(refine Xi ?_ ?_<;>try intro ht)|refine VD ?_ ?_|exact Xx|fail))<;>try with_reducible intro K hK)
    unfold retR
    simp only[resW,retV]
    simp (disch:=omega) only[Ac,↓Pc,simprocAttr]
    refine⟨_,_,⟨⟨m.cls,m.prs.set 0 ⟨(m.prs.getD 0 default).fst,(m.prs.getD 0 default).snd,(m.prs.getD 0 default).rule,[x1 - 1]++(m.prs.getD 0 default).tab⟩,m.cts,m.rules⟩,k3,hom.prs (by simp;omega) (fun p hp=>(List.mem_or_eq_of_mem_set hp).elim (hom.mb.tab p) fun h=>by rw[h];show ([x1 - 1]++(m.prs.getD 0 default).tab).length<_;rw[List.length_append,List.length_singleton];omega),by omega,rfl,rfl⟩,?_⟩
    refine RetOK_sel [0] true (by decide) ⟨⟨by simp,.inr rfl⟩,trivial⟩ (by decide) (by decide) (agg4 (ArgR.pure rfl) (.snap _ _ rfl ?_) (?_) (.pure rfl))
    · refine Frz.mk rfl (by simp only[Bc,Rc,List.length_set]) (not_kept (by decide)) (rows_wid _) ?_
      rw[← rows_set]
      exact rowsR_set0 (rowsR_flat (rows_frz _)) ⟨.lit _,.lit _,.lit _,Frz.mk rfl (by simp[ints];omega) (not_kept (by decide)) (ints_wid _) (rowsR_flat (ints_frz ([x1 - 1]++(m.prs.getD 0 default).tab))),trivial⟩
    · first|exact .pure rfl|exact .eq rfl|exact .fz rfl (by simp only[Bc,Rc])
  ·
    unfold retR
    simp only[resW,retV]
    simp (disch:=omega) only[Ac,↓Pc,simprocAttr]
    refine⟨_,_,⟨m,k2,hom,by omega,rfl,rfl⟩,?_⟩
    refine RetOK_sel [0] true (by decide) ⟨⟨by simp,.inr rfl⟩,trivial⟩ (by decide) (by decide) (agg4 (ArgR.pure rfl) (?_) (?_) (.pure rfl))
    all_goals first|exact .pure rfl|exact .eq rfl|exact .fz rfl (by simp only[Bc,Rc])
  ·
    have e:=rows_set (enc:=ePr) m.prs 0 ⟨(m.prs.getD 0 default).fst,(m.prs.getD 0 default).fst,(m.prs.getD 0 default).rule,(m.prs.getD 0 default).tab⟩
    simp only[ePr] at e
    rw[e]
    unfold retR
    simp only[resW,retV]
    simp (disch:=omega) only[Ac,↓Pc,simprocAttr]
    refine⟨_,_,⟨⟨m.cls,m.prs.set 0 ⟨(m.prs.getD 0 default).fst,(m.prs.getD 0 default).fst,(m.prs.getD 0 default).rule,(m.prs.getD 0 default).tab⟩,m.cts,m.rules⟩,k2,hom.prs (by simp;omega) (fun p hp=>(List.mem_or_eq_of_mem_set hp).elim (hom.mb.tab p) fun h=>by rw[h];exact hom.pin (by omega)),by omega,rfl,rfl⟩,?_⟩
    refine RetOK_sel [0] true (by decide) ⟨⟨by simp,.inr rfl⟩,trivial⟩ (by decide) (by decide) (agg4 (ArgR.pure rfl) (?_) (?_) (.pure rfl))
    all_goals first|exact .pure rfl|exact .eq rfl|exact .fz rfl (by simp only[Bc,Rc])
  ·
    unfold retR
    simp only[resW,retV]
    simp (disch:=omega) only[Ac,↓Pc,simprocAttr]
    refine⟨_,_,⟨m,k2,hom,by omega,rfl,rfl⟩,?_⟩
    refine RetOK_sel [0] true (by decide) ⟨⟨by simp,.inr rfl⟩,trivial⟩ (by decide) (by decide) (agg4 (ArgR.pure rfl) (?_) (?_) (.pure rfl))
    all_goals first|exact .pure rfl|exact .eq rfl|exact .fz rfl (by simp only[Bc,Rc])
  ·
    unfold retR
    simp only[resW,retV]
    simp (disch:=omega) only[Ac,↓Pc,simprocAttr]
    refine⟨_,_,⟨⟨m.cls,m.prs,m.cts++[⟨0,[],-1,1⟩],m.rules⟩,k2,hom.cts (by simp;omega) (fun p hp=>(List.mem_append.1 hp).elim (hom.mb.lds p) fun h=>by rw[List.mem_singleton.1 h];decide),by omega,rfl,rfl⟩,?_⟩
    refine RetOK_sel [0] true (by decide) ⟨⟨by simp,.inr rfl⟩,trivial⟩ (by decide) (by decide) (agg4 (ArgR.pure rfl) (?_) (.snap _ _ rfl ?_) (.pure rfl))
    · first|exact .pure rfl|exact .eq rfl|exact .fz rfl (by simp only[Bc,Rc])
    · refine Frz.mk rfl (by simp only[Bc,Rc]) (not_kept (by decide)) (rows_wid _) ?_
      rw[← rows_app1]
      exact rowsR_app (rowsR_flat (rows_frz _)) ⟨⟨.lit _,.nil 3,.lit _,.lit _,trivial⟩,trivial⟩
  ·
    have hnw:=next_ok L k2 3 (by unfold In64;omega) hk2 hL
    have hk3:=nextA_le hk2
    have hnx:=next_ok L (nextA L k2) 4 (by unfold In64;omega) hk3 hL
    have hk4:=nextA_le hk3
    have hny:=next_ok L (nextA L (nextA L k2)) 2 (by unfold In64;omega) hk4 hL
    have hk5:=nextA_le hk4
    have hnz:=next_ok L (nextA L (nextA L (nextA L k2))) 2 (by unfold In64;omega) hk5 hL
    have hk6:=nextA_le hk5
    unfold dice at *
    generalize nextV L k2 3=x1 at *
    generalize nextA L k2=k3 at *
    generalize nextV L k3 4=x2 at *
    generalize nextA L k3=k4 at *
    generalize nextV L k4 2=x3 at *
    generalize nextA L k4=k5 at *
    generalize nextV L k5 2=x4 at *
    generalize nextA L k5=k6 at *
    refine unB ?_;intro Qb hnb
    refine join_here ⟨slots [(3,.ptr 1 0 0),(4,.ptr 2 0 0)],[.var [.tree 1 (ints L),.lit (.int .i64 k6)],.var [.tree 1 (rowsOf eCls m.cls),.ref 3 4 0 m.prs.length,.ref 7 4 0 (m.cts.length+1),.lit (.int .i64 m.rules)],
      .var [.lit (.slice none 0 0),.lit (.slice none 0 0),.lit (.slice none 0 0),.lit (.int .i64 0)],.arr 4 (rowsOf ePr m.prs),.gone,.arr 3 [[.lit (.int .i64 x1),.lit (.int .i64 x2),.lit (.int .i64 x3)]],
      .arr 4 [[.lit (.int .i64 0),.ref 5 3 0 1,.lit (.int .i64 0),.lit (.int .i64 x4)]],.arr 4 (rowsOf eCt m.cts++[[.lit (.int .i64 0),.ref 5 3 0 1,.lit (.int .i64 0),.lit (.int .i64 x4)]])]⟩ (fun s h=>hnb _ (hn _ h)) ?_ (fun key=>?_)
    rotate_left
    · refine W_drawH 0 [] [3,5,7,11] (.take 0 (.take 1 (.take 2 (.take 3 (.take 4 (.take 5 (.take 6 (.take 7 (.take 8 (.take 10 (.both 9 (.take 11 (.take 12 (.take 13 (.take 14 (.take 15 (.take 16 .nil)))))) 11 (.take 9 (.take 12 (.take 13 (.take 14 (.take 15 (.take 16 .nil))))))))))))))))) rfl (by decide) (by decide +kernel) ?_
      simp (disch:=omega) only[Ac,↓Pc,simprocAttr,Hc,stepAtH]
      repeat' (first|with_reducible refine And.intro ?_ ?_|omega|with_reducible rfl|(refine callD_of (hnw) rfl rfl rfl rfl (by (repeat' (first|exact trivial|refine And.intro ?_ ?_))<;>first|exact .inl ⟨rfl,rfl⟩|exact .inr ⟨rfl,rfl⟩) ?_;simp (disch:=omega) only[Ac,↓Pc,simprocAttr,Hc,stepAtH])|(refine callD_of (hnx) rfl rfl rfl rfl (by (repeat' (first|exact trivial|refine And.intro ?_ ?_))<;>first|exact .inl ⟨rfl,rfl⟩|exact .inr ⟨rfl,rfl⟩) ?_;simp (disch:=omega) only[Ac,↓Pc,simprocAttr,Hc,stepAtH])|(refine callD_of (hny) rfl rfl rfl rfl (by (repeat' (first|exact trivial|refine And.intro ?_ ?_))<;>first|exact .inl ⟨rfl,rfl⟩|exact .inr ⟨rfl,rfl⟩) ?_;simp (disch:=omega) only[Ac,↓Pc,simprocAttr,Hc,stepAtH])|(refine callD_of (hnz) rfl rfl rfl rfl (by (repeat' (first|exact trivial|refine And.intro ?_ ?_))<;>first|exact .inl ⟨rfl,rfl⟩|exact .inr ⟨rfl,rfl⟩) ?_;simp (disch:=omega) only[Ac,↓Pc,simprocAttr,Hc,stepAtH]))
      all_goals refine key _ ?_
      all_goals exact Xv X0
    ((try revert hK K);(repeat' (first|refine Va X0 ?_|(refine V2 X0 ?_ ?_<;>try with_reducible intro hb)|(refine Xi ?_ ?_<;>try intro ht)|refine VD ?_ ?_|exact Xx|fail))<;>try with_reducible intro K hK)
    unfold retR
    simp only[resW,retV]
    simp (disch:=omega) only[Ac,↓Pc,simprocAttr]
    refine⟨_,_,⟨⟨m.cls,m.prs,m.cts++[⟨0,[⟨x1,x2,x3⟩],0,x4⟩],m.rules⟩,k6,hom.cts (by simp;omega) (fun p hp=>(List.mem_append.1 hp).elim (hom.mb.lds p) fun h=>by rw[List.mem_singleton.1 h];simp),by omega,rfl,rfl⟩,?_⟩
    refine RetOK_sel [0] true (by decide) ⟨⟨by simp,.inr rfl⟩,trivial⟩ (by decide) (by decide) (agg4 (ArgR.pure rfl) (?_) (.snap _ _ rfl ?_) (.pure rfl))
    · first|exact .pure rfl|exact .eq rfl|exact .fz rfl (by simp only[Bc,Rc])
    · refine Frz.mk rfl (by simp only[Bc,Rc]) (not_kept (by decide)) (rows_wid _) ?_
      rw[← rows_app1]
      exact rowsR_app (rowsR_flat (rows_frz _)) ⟨⟨.lit _,Frz.mk rfl rfl (not_kept (by decide)) (rows_wid _) ⟨⟨.lit _,.lit _,.lit _,trivial⟩,trivial⟩,.lit _,.lit _,trivial⟩,trivial⟩
  ·
    have hnx:=next_ok L k2 5 (by unfold In64;omega) hk2 hL
    have hk3:=nextA_le hk2
    have hny:=next_ok L (nextA L k2) 2 (by unfold In64;omega) hk3 hL
    have hk4:=nextA_le hk3
    unfold dice at *
    generalize nextV L k2 5=x1 at *
    generalize nextA L k2=k3 at *
    generalize nextV L k3 2=x2 at *
    generalize nextA L k3=k4 at *
    (refine Xn [0] (hnx) ?_;simp (disch:=omega) only[Ac,↓Pc,simprocAttr])
    (refine Xn [0] (hny) ?_;simp (disch:=omega) only[Ac,↓Pc,simprocAttr])
    ((try revert hK K);(repeat' (first|refine Va X0 ?_|(refine V2 X0 ?_ ?_<;>try with_reducible intro hb)|(refine Xi ?_ ?_<;>try intro ht)|refine VD ?_ ?_|exact Xx|fail))<;>try with_reducible intro K hK)
    unfold retR
    simp only[resW,retV]
    simp (disch:=omega) only[Ac,↓Pc,simprocAttr]
    refine⟨_,_,⟨⟨m.cls++[[⟨0,0,0,0,0,[(x1,x2)]⟩]],m.prs,m.cts,m.rules⟩,k4,hom.cls (by omega) (by simp;omega) (fun l hl=>(List.mem_append.1 hl).elim (fun h=>⟨hom.opt l h,hom.mb.ch l h⟩) fun h=>by rw[List.mem_singleton.1 h];exact⟨by simp,fun o ho=>by rw[List.mem_singleton.1 ho];simp⟩),by omega,rfl,rfl⟩,?_⟩
    refine RetOK_sel [0] true (by decide) ⟨⟨by simp,.inr rfl⟩,trivial⟩ (by decide) (by decide) (agg4 (.snap _ _ rfl ?_) (?_) (?_) (.pure rfl))
    · refine Frz.mk rfl (by simp only[Bc,Rc]) (not_kept (by decide)) (rows_wid _) ?_
      rw[← rows_app1]
      refine rowsR_app (rowsR_flat (rows_frz _)) ⟨⟨?_,trivial⟩,trivial⟩
      refine Frz.mk rfl rfl (not_kept (by decide)) (rows_wid _) ⟨⟨.lit _,.lit _,.lit _,.lit _,.lit _,?_,trivial⟩,trivial⟩
      exact Frz.mk rfl rfl (not_kept (by decide)) (rows_wid _) ⟨⟨.lit _,.lit _,trivial⟩,trivial⟩
    · first|exact .pure rfl|exact .eq rfl|exact .fz rfl (by simp only[Bc,Rc])
    · first|exact .pure rfl|exact .eq rfl|exact .fz rfl (by simp only[Bc,Rc])
  ·
    have hnx:=next_ok L k2 2 (by unfold In64;omega) hk2 hL
    have hnr:=nextV_range (L:=L) (k:=k2) (n:=2) (by omega)
    have hk3:=nextA_le hk2
    unfold dice at *
    generalize nextV L k2 2=x1 at *
    generalize nextA L k2=k3 at *
    (refine Xn [0] (hnx) ?_;simp (disch:=omega) only[Ac,↓Pc,simprocAttr])
    ((try revert hK K);(repeat' (first|refine Va X0 ?_|(refine V2 X0 ?_ ?_<;>try with_reducible intro hb)|(refine Xi ?_ ?_<;>try intro ht)|refine VD ?_ ?_|exact Xx|fail))<;>try with_reducible intro K hK)
    unfold retR
    simp only[resW,retV]
    simp (disch:=omega) only[Ac,↓Pc,simprocAttr]
    refine⟨_,_,⟨⟨m.cls++[List.replicate (24+x1).toNat ⟨0,0,0,0,0,[]⟩],m.prs,m.cts,m.rules⟩,k3,hom.cls (by omega) (by simp;omega) (fun l hl=>(List.mem_append.1 hl).elim (fun h=>⟨hom.opt l h,hom.mb.ch l h⟩) fun h=>by rw[List.mem_singleton.1 h];exact⟨by rw[List.length_replicate];omega,fun o ho=>by rw[List.eq_of_mem_replicate ho];decide⟩),by omega,rfl,rfl⟩,?_⟩
    refine RetOK_sel [0] true (by decide) ⟨⟨by simp,.inr rfl⟩,trivial⟩ (by decide) (by decide) (agg4 (.snap _ _ rfl ?_) (?_) (?_) (.pure rfl))
    · refine Frz.mk rfl (by simp only[Bc,Rc]) (not_kept (by decide)) (rows_wid _) ?_
      rw[← rows_app1]
      refine rowsR_app (rowsR_flat (rows_frz _)) ⟨⟨?_,trivial⟩,trivial⟩
      refine Frz.mk rfl (by rw[List.length_replicate]) (not_kept (by decide)) (rows_wid _) ?_
      rw[show rowsOf eOpt (List.replicate (24+x1).toNat ⟨0,0,0,0,0,[]⟩)=List.replicate (24+x1).toNat (eOpt ⟨0,0,0,0,0,[]⟩) by rw[rowsOf,List.map_replicate]]
      refine rowsR_rep ?_ _
      exact⟨.lit _,.lit _,.lit _,.lit _,.lit _,.nil 2,trivial⟩
    · first|exact .pure rfl|exact .eq rfl|exact .fz rfl (by simp only[Bc,Rc])
    · first|exact .pure rfl|exact .eq rfl|exact .fz rfl (by simp only[Bc,Rc])
end T

