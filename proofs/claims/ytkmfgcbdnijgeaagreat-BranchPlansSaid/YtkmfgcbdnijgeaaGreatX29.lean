import Derived.Test.YtkmfgcbdnijgeaaGreatX28
import Derived.Test.YtkmfgcbdnijgeaaGreatX06
import Derived.Test.YtkmfgcbdnijgeaaGreatX17
import Derived.Test.YtkmfgcbdnijgeaaGreatX26
import Derived.Test.YtkmfgcbdnijgeaaGreatX14
set_option linter.unusedVariables false
set_option linter.unusedSimpArgs false
set_option linter.unnecessarySimpa false
set_option linter.unusedSectionVars false
set_option maxHeartbeats 64000000
set_option maxRecDepth 20000
open Go Go.Am Go.Proofs
open Nat (reduceEqDiff reduceAdd reduceLeDiff reduceMul)
open Int (reduceNeg reduceLE reduceToNat)
namespace T
theorem unB {P:Program} {N n0:Nat} {σ:St} {Q:Exit→St→Prop} {x:Code} {id:Nat} (h:∀ Q':Exit→St→Prop,(∀ s,Q .normal s→Q' .normal s)→W P N n0 x Q' σ):W P N n0 x (Bq id Q) σ:=h _ .n
theorem argsR_flat {σ:St} {kp:Nat→Prop}:∀ {l:List AV},(∀ v∈l,(∃ x,v=AV.lit x)∨∃ s r,v=AV.tree s r)→ArgsR (Frz σ kp) l l
  | [],_=>trivial
  | v::l,h=>⟨by rcases h v (by simp) with ⟨x,rfl⟩ | ⟨s,r,rfl⟩;exact .lit _;exact .tree _ _,argsR_flat fun x hx=>h x (by simp[hx])⟩
theorem rowsR_flat {σ:St} {kp:Nat→Prop}:∀ {rows:List (List AV)},(∀ row∈rows,∀ v∈row,(∃ x,v=AV.lit x)∨∃ s r,v=AV.tree s r)→RowsR (Frz σ kp) rows rows
  | [],_=>trivial
  | r::rows,h=>⟨argsR_flat (h r (by simp)),rowsR_flat fun x hx=>h x (by simp[hx])⟩
theorem rowsR_app {R:AV→AV→Prop}:∀ {a c:List (List AV)} {b d:List (List AV)},RowsR R a c→RowsR R b d→RowsR R (a++b) (c++d)
  | [],[],_,_,_,k=>k
  | _::_,_::_,_,_,h,k=>⟨h.1,rowsR_app h.2 k⟩
  | [],_::_,_,_,h,_=>h.elim
  | _::_,[],_,_,h,_=>h.elim
theorem rowsR_set0 {R:AV→AV→Prop}:∀ {a c:List (List AV)} {x y:List AV},RowsR R a c→ArgsR R x y→RowsR R (a.set 0 x) (c.set 0 y)
  | [],[],_,_,_,_=>trivial
  | _::_,_::_,_,_,h,k=>⟨k,h.2⟩
  | [],_::_,_,_,h,_=>h.elim
  | _::_,[],_,_,h,_=>h.elim
theorem rowsR_rep {R:AV→AV→Prop} {x y:List AV} (h:ArgsR R x y):∀ n,RowsR R (List.replicate n x) (List.replicate n y)
  | 0=>trivial
  | n+1=>⟨h,rowsR_rep h n⟩
theorem vm_tab' {m:Mdl} (h:VM m) {p:Pr} (hp:p∈m.prs):p.tab.length≤576:=by
  obtain ⟨_,h1,h2,h3,h4⟩:=pairB_iff (prsL_mem h.pr p hp)
  have a:=h.opt _ (getD_mem (l:=m.cls) (i:=p.fst.toNat) (d:=default) (by omega))
  have b:=h.opt _ (getD_mem (l:=m.cls) (i:=p.snd.toNat) (d:=default) (by omega))
  have:((m.cls.getD p.fst.toNat default).length:Int) * (m.cls.getD p.snd.toNat default).length≤24 * 24:=Int.mul_le_mul (by omega) (by omega) (by omega) (by omega)
  omega
theorem agg4 {σ:St} {kp:Nat→Prop} {ρ:Nat→Nat} {snap:Bool} {a b c d a' b' c' d':AV} (h1:ArgR σ kp ρ snap a a') (h2:ArgR σ kp ρ snap b b') (h3:ArgR σ kp ρ snap c c') (h4:ArgR σ kp ρ snap d d'):ArgR σ kp ρ snap (.agg [a,b,c,d]) (.agg [a',b',c',d']) :=
  .agg _ _ rfl (ArgsR.spec (R:=ArgR σ kp ρ snap) (cs:=[a,b,c,d]) (ds:=[a',b',c',d']) ⟨h1,h2,h3,h4,trivial⟩).2
structure OM (m:Mdl):Prop where
  mb:MB m
  few:m.cls.length≤25
  opt:∀ l∈m.cls,l.length≤25
theorem OM.rules {m:Mdl} (h:OM m) (r:Int):OM ⟨m.cls,m.prs,m.cts,r⟩:=⟨⟨h.mb.cls,h.mb.opt,h.mb.ch,h.mb.prs,h.mb.tab,h.mb.cts,h.mb.lds⟩,h.few,h.opt⟩
theorem OM.prs {m:Mdl} (h:OM m) {l:List Pr} (h1:l.length<9223372036854775808) (h2:∀ p∈l,p.tab.length<9223372036854775808):OM ⟨m.cls,l,m.cts,m.rules⟩:=⟨⟨h.mb.cls,h.mb.opt,h.mb.ch,h1,h2,h.mb.cts,h.mb.lds⟩,h.few,h.opt⟩
theorem OM.cts {m:Mdl} (h:OM m) {l:List Ct} (h1:l.length<9223372036854775808) (h2:∀ p∈l,p.loads.length<9223372036854775808):OM ⟨m.cls,m.prs,l,m.rules⟩:=⟨⟨h.mb.cls,h.mb.opt,h.mb.ch,h.mb.prs,h.mb.tab,h1,h2⟩,h.few,h.opt⟩
theorem OM.cls {m:Mdl} (h:OM m) {l:List (List Opt)} (h1:l.length≤25) (h2:∀ x∈l,x.length≤25∧∀ o∈x,o.ch.length<9223372036854775808):OM ⟨l,m.prs,m.cts,m.rules⟩ :=
  ⟨⟨by dsimp only;omega,fun x hx=>by have:=(h2 x hx).1;omega,fun x hx=>(h2 x hx).2,h.mb.prs,h.mb.tab,h.mb.cts,h.mb.lds⟩,h1,fun x hx=>(h2 x hx).1⟩
theorem VM.om {m:Mdl} (h:VM m):OM m:=⟨h.mb,by have:=h.cls;omega,fun l hl=>by have:=h.opt l hl;omega⟩
theorem OM.pin {m:Mdl} (h:OM m) (hp:0<m.prs.length):(m.prs.getD 0 default).tab.length<9223372036854775808:=h.mb.tab _ (getD_mem hp)
theorem odd_ok (L:List Int) (k:Nat) (m:Mdl) (hm:VM m) (hk:k≤L.length) (hL:L.length<1000000) :
    HoldsR Tryz.prog 32 [.ptr 0 0 0,.agg (eMdl m)] [dice L k] (fun r os=>∃ m' k',OM m'∧k'≤L.length∧r=.agg (eMdl m')∧os=[dice L k']):=by
  have h1:=hm.cls
  have h2:=hm.opt
  have h3:=hm.prs
  have h4:=hm.cts
  have hom:=hm.om
  have h8:=next_ok L k 8 (by unfold In64;omega) hk hL
  have h8r:=nextV_range (L:=L) (k:=k) (n:=8) (by omega)
  have hk2:=nextA_le hk
  have r4:List.range 4=[0,1,2,3]:=by decide
  unfold dice at *
  generalize nextV L k 8=j at *
  generalize nextA L k=k2 at *
  refine HoldsR.of_body' (fn:=Tryz.f32) 126 1 [.cell 4 31] Tryz.func32 rfl rfl rfl rfl rfl (by simp) ?_
  ((refine Va X0 ?_)<;>try with_reducible intro K hK)
  (refine Xn [0] (h8) ?_;simp (disch:=omega) only[Ac,↓Pc,simprocAttr])
  ((try revert hK K);(repeat' (first|refine Va @r4 ?_|(refine Xi ?_ ?_<;>try intro ht)|fail))<;>try with_reducible intro K hK)
  ·
    have hnx:=next_ok L k2 4 (by unfold In64;omega) hk2 hL
    have hnr:=nextV_range (L:=L) (k:=k2) (n:=4) (by omega)
    have hk3:=nextA_le hk2
    unfold dice at *
    generalize nextV L k2 4=i at *
    generalize nextA L k2=k3 at *
    (refine Xn [0] (hnx) ?_;simp (disch:=omega) only[Ac,↓Pc,simprocAttr,r4])
    have hi:i=0∨i=1∨i=2∨i=3:=by omega
    rcases hi with rfl | rfl | rfl | rfl
    · simp (disch:=omega) only[Ac,↓Pc,simprocAttr]
      ((try revert hK K);(refine Va X0 ?_))
      unfold retR
      simp only[resW,retV]
      simp (disch:=omega) only[Ac,↓Pc,simprocAttr]
      refine⟨_,_,⟨⟨m.cls,m.prs,m.cts,-1⟩,k3,hom.rules _,by omega,rfl,rfl⟩,?_⟩
      refine RetOK_sel [0] true (by decide) ⟨⟨by simp,.inr rfl⟩,trivial⟩ (by decide) (by decide) (agg4 (ArgR.pure rfl) (?_) (?_) (.pure rfl))
      all_goals first|exact .pure rfl|exact .eq rfl|exact .fz rfl (by simp only[Bc,Rc])
    · simp (disch:=omega) only[Ac,↓Pc,simprocAttr]
      ((try revert hK K);(refine Va X0 ?_))
      unfold retR
      simp only[resW,retV]
      simp (disch:=omega) only[Ac,↓Pc,simprocAttr]
      refine⟨_,_,⟨⟨m.cls,m.prs,m.cts,0⟩,k3,hom.rules _,by omega,rfl,rfl⟩,?_⟩
      refine RetOK_sel [0] true (by decide) ⟨⟨by simp,.inr rfl⟩,trivial⟩ (by decide) (by decide) (agg4 (ArgR.pure rfl) (?_) (?_) (.pure rfl))
      all_goals first|exact .pure rfl|exact .eq rfl|exact .fz rfl (by simp only[Bc,Rc])
    · simp (disch:=omega) only[Ac,↓Pc,simprocAttr]
      ((try revert hK K);(refine Va X0 ?_))
      unfold retR
      simp only[resW,retV]
      simp (disch:=omega) only[Ac,↓Pc,simprocAttr]
      refine⟨_,_,⟨⟨m.cls,m.prs,m.cts,56⟩,k3,hom.rules _,by omega,rfl,rfl⟩,?_⟩
      refine RetOK_sel [0] true (by decide) ⟨⟨by simp,.inr rfl⟩,trivial⟩ (by decide) (by decide) (agg4 (ArgR.pure rfl) (?_) (?_) (.pure rfl))
      all_goals first|exact .pure rfl|exact .eq rfl|exact .fz rfl (by simp only[Bc,Rc])
    · simp (disch:=omega) only[Ac,↓Pc,simprocAttr]
      ((try revert hK K);(refine Va X0 ?_))
      unfold retR
      simp only[resW,retV]
      simp (disch:=omega) only[Ac,↓Pc,simprocAttr]
      refine⟨_,_,⟨⟨m.cls,m.prs,m.cts,57⟩,k3,hom.rules _,by omega,rfl,rfl⟩,?_⟩
      refine RetOK_sel [0] true (by decide) ⟨⟨by simp,.inr rfl⟩,trivial⟩ (by decide) (by decide) (agg4 (ArgR.pure rfl) (?_) (?_) (.pure rfl))
      all_goals first|exact .pure rfl|exact .eq rfl|exact .fz rfl (by simp only[Bc,Rc])
  ·
    have e:=rows_app1 (enc:=ePr) m.prs (m.prs.getD 0 default)
    simp only[ePr] at e
    rw[e]
    unfold retR
    simp only[resW,retV]
    simp (disch:=omega) only[Ac,↓Pc,simprocAttr]
    refine⟨_,_,⟨⟨m.cls,m.prs++[m.prs.getD 0 default],m.cts,m.rules⟩,k2,hom.prs (by simp;omega) (fun p hp=>(List.mem_append.1 hp).elim (hom.mb.tab p) fun h=>by rw[List.mem_singleton.1 h];exact hom.pin (by omega)),by omega,rfl,rfl⟩,?_⟩
    refine RetOK_sel [0] true (by decide) ⟨⟨by simp,.inr rfl⟩,trivial⟩ (by decide) (by decide) (agg4 (ArgR.pure rfl) (?_) (?_) (.pure rfl))
    all_goals first|exact .pure rfl|exact .eq rfl|exact .fz rfl (by simp only[Bc,Rc])
  ·
    unfold retR
    simp only[resW,retV]
    simp (disch:=omega) only[Ac,↓Pc,simprocAttr]
    refine⟨_,_,⟨m,k2,hom,by omega,rfl,rfl⟩,?_⟩
    refine RetOK_sel [0] true (by decide) ⟨⟨by simp,.inr rfl⟩,trivial⟩ (by decide) (by decide) (agg4 (ArgR.pure rfl) (?_) (?_) (.pure rfl))
    all_goals first|exact .pure rfl|exact .eq rfl|exact .fz rfl (by simp only[Bc,Rc])
  ·
    have hnx:=next_ok L k2 2 (by unfold In64;omega) hk2 hL
    have hnr:=nextV_range (L:=L) (k:=k2) (n:=2) (by omega)
    have hk3:=nextA_le hk2
    have hpin:(m.prs.getD 0 default).tab.length≤576:=vm_tab' hm (getD_mem (by omega))
    unfold dice at *
    generalize nextV L k2 2=x1 at *
    generalize nextA L k2=k3 at *
    refine unB ?_;intro Qb hnb
    refine join_here ⟨slots [(3,.ptr 1 0 0),(4,.ptr 2 0 0)],[.var [.tree 1 (ints L),.lit (.int .i64 k3)],.var [.tree 1 (rowsOf eCls m.cls),.ref 3 4 0 m.prs.length,.ref 4 4 0 m.cts.length,.lit (.int .i64 m.rules)],
      .var [.lit (.slice none 0 0),.lit (.slice none 0 0),.lit (.slice none 0 0),.lit (.int .i64 0)],
      .arr 4 ((rowsOf ePr m.prs).set 0 [.lit (.int .i64 (m.prs.getD 0 default).fst),.lit (.int .i64 (m.prs.getD 0 default).snd),.lit (.int .i64 (m.prs.getD 0 default).rule),.ref 6 1 0 (1+(m.prs.getD 0 default).tab.length)]),
      .arr 4 (rowsOf eCt m.cts),.gone,.arr 1 ([.lit (.int .i64 (x1 - 1))]::ints (m.prs.getD 0 default).tab)]⟩ (fun s h=>hnb _ (hn _ h)) ?_ (fun key=>?_)
    rotate_left
    · refine W_drawH 0 [] [3] (.take 2 (.take 6 (.take 7 (.take 8 (.take 9 (.take 10 (.both 0 (.both 1 (.take 3 (.take 4 (.take 5 (.take 11 (.take 12 (.take 13 (.take 14 .nil))))))) 3 (.take 4 (.both 1 (.take 5 (.take 11 (.take 12 (.take 13 (.take 14 .nil))))) 5 (.both 1 (.take 11 (.take 12 (.take 13 (.take 14 .nil)))) 11 (.take 1 (.take 12 (.take 13 (.take 14 .nil)))))))) 3 (.take 4 (.both 0 (.both 1 (.take 5 (.take 11 (.take 12 (.take 13 (.take 14 .nil))))) 5 (.both 1 (.take 11 (.take 12 (.take 13 (.take 14 .nil)))) 11 (.take 1 (.take 12 (.take 13 (.take 14 .nil)))))) 5 (.both 0 (.both 1 (.take 11 (.take 12 (.take 13 (.take 14 .nil)))) 11 (.take 1 (.take 12 (.take 13 (.take 14 .nil))))) 11 (.take 0 (.take 1 (.take 12 (.take 13 (.take 14 .nil))))))))))))))) rfl (by decide) (by decide +kernel) ?_
      simp (disch:=omega) only[Ac,↓Pc,simprocAttr,Hc,stepAtH]
      repeat' (first|with_reducible refine And.intro ?_ ?_|omega|(refine callD_of (hnx) rfl rfl rfl rfl (by (repeat' (first|exact trivial|refine And.intro ?_ ?_))<;>first|exact .inl ⟨rfl,rfl⟩|exact .inr ⟨rfl,rfl⟩) ?_;simp (disch:=omega) only[Ac,↓Pc,simprocAttr,Hc,stepAtH]))
      all_goals refine key _ ?_
      all_goals exact Xv X0
    refine Va X0 ?_
    unfold retR
    simp only[resW,retV]
    simp (disch:=omega) only[Ac,↓Pc,simprocAttr]
    refine⟨_,_,⟨⟨m.cls,m.prs.set 0 ⟨(m.prs.getD 0 default).fst,(m.prs.getD 0 default).snd,(m.prs.getD 0 default).rule,[x1 - 1]++(m.prs.getD 0 default).tab⟩,m.cts,m.rules⟩,k3,hom.prs (by simp;omega) (fun p hp=>(List.mem_or_eq_of_mem_set hp).elim (hom.mb.tab p) fun h=>by rw[h];show ([x1 - 1]++(m.prs.getD 0 default).tab).length<_;rw[List.length_append,List.length_singleton];omega),by omega,rfl,rfl⟩,?_⟩
    refine RetOK_sel [0] true (by decide) ⟨⟨by simp,.inr rfl⟩,trivial⟩ (by decide) (by decide) (agg4 (ArgR.pure rfl) (.snap _ _ rfl ?_) (?_) (.pure rfl))
    · refine Frz.mk rfl (by simp only[Bc,Rc,List.length_set]) (not_kept (by decide)) (rows_wid _) ?_
      rw[← rows_set]
      exact rowsR_set0 (rowsR_flat (rows_frz _)) ⟨.lit _,.lit _,.lit _,Frz.mk rfl (by simp[ints];omega) (not_kept (by decide)) (ints_wid _) (rowsR_flat (ints_frz ([x1 - 1]++(m.prs.getD 0 default).tab))),trivial⟩
    · first|exact .pure rfl|exact .eq rfl|exact .fz rfl (by simp only[Bc,Rc])
  ·
    unfold retR
    simp only[resW,retV]
    simp (disch:=omega) only[Ac,↓Pc,simprocAttr]
    refine⟨_,_,⟨m,k2,hom,by omega,rfl,rfl⟩,?_⟩
    refine RetOK_sel [0] true (by decide) ⟨⟨by simp,.inr rfl⟩,trivial⟩ (by decide) (by decide) (agg4 (ArgR.pure rfl) (?_) (?_) (.pure rfl))
    all_goals first|exact .pure rfl|exact .eq rfl|exact .fz rfl (by simp only[Bc,Rc])
  ·
    have e:=rows_set (enc:=ePr) m.prs 0 ⟨(m.prs.getD 0 default).fst,(m.prs.getD 0 default).fst,(m.prs.getD 0 default).rule,(m.prs.getD 0 default).tab⟩
    simp only[ePr] at e
    rw[e]
    unfold retR
    simp only[resW,retV]
    simp (disch:=omega) only[Ac,↓Pc,simprocAttr]
    refine⟨_,_,⟨⟨m.cls,m.prs.set 0 ⟨(m.prs.getD 0 default).fst,(m.prs.getD 0 default).fst,(m.prs.getD 0 default).rule,(m.prs.getD 0 default).tab⟩,m.cts,m.rules⟩,k2,hom.prs (by simp;omega) (fun p hp=>(List.mem_or_eq_of_mem_set hp).elim (hom.mb.tab p) fun h=>by rw[h];exact hom.pin (by omega)),by omega,rfl,rfl⟩,?_⟩
    refine RetOK_sel [0] true (by decide) ⟨⟨by simp,.inr rfl⟩,trivial⟩ (by decide) (by decide) (agg4 (ArgR.pure rfl) (?_) (?_) (.pure rfl))
    all_goals first|exact .pure rfl|exact .eq rfl|exact .fz rfl (by simp only[Bc,Rc])
  ·
    unfold retR
    simp only[resW,retV]
    simp (disch:=omega) only[Ac,↓Pc,simprocAttr]
    refine⟨_,_,⟨m,k2,hom,by omega,rfl,rfl⟩,?_⟩
    refine RetOK_sel [0] true (by decide) ⟨⟨by simp,.inr rfl⟩,trivial⟩ (by decide) (by decide) (agg4 (ArgR.pure rfl) (?_) (?_) (.pure rfl))
    all_goals first|exact .pure rfl|exact .eq rfl|exact .fz rfl (by simp only[Bc,Rc])
  ·
    unfold retR
    simp only[resW,retV]
    simp (disch:=omega) only[Ac,↓Pc,simprocAttr]
    refine⟨_,_,⟨⟨m.cls,m.prs,m.cts++[⟨0,[],-1,1⟩],m.rules⟩,k2,hom.cts (by simp;omega) (fun p hp=>(List.mem_append.1 hp).elim (hom.mb.lds p) fun h=>by rw[List.mem_singleton.1 h];decide),by omega,rfl,rfl⟩,?_⟩
    refine RetOK_sel [0] true (by decide) ⟨⟨by simp,.inr rfl⟩,trivial⟩ (by decide) (by decide) (agg4 (ArgR.pure rfl) (?_) (.snap _ _ rfl ?_) (.pure rfl))
    · first|exact .pure rfl|exact .eq rfl|exact .fz rfl (by simp only[Bc,Rc])
    · refine Frz.mk rfl (by simp only[Bc,Rc]) (not_kept (by decide)) (rows_wid _) ?_
      rw[← rows_app1]
      exact rowsR_app (rowsR_flat (rows_frz _)) ⟨⟨.lit _,.nil 3,.lit _,.lit _,trivial⟩,trivial⟩
  ·
    have hnw:=next_ok L k2 3 (by unfold In64;omega) hk2 hL
    have hk3:=nextA_le hk2
    have hnx:=next_ok L (nextA L k2) 4 (by unfold In64;omega) hk3 hL
    have hk4:=nextA_le hk3
    have hny:=next_ok L (nextA L (nextA L k2)) 2 (by unfold In64;omega) hk4 hL
    have hk5:=nextA_le hk4
    have hnz:=next_ok L (nextA L (nextA L (nextA L k2))) 2 (by unfold In64;omega) hk5 hL
    have hk6:=nextA_le hk5
    unfold dice at *
    generalize nextV L k2 3=x1 at *
    generalize nextA L k2=k3 at *
    generalize nextV L k3 4=x2 at *
    generalize nextA L k3=k4 at *
    generalize nextV L k4 2=x3 at *
    generalize nextA L k4=k5 at *
    generalize nextV L k5 2=x4 at *
    generalize nextA L k5=k6 at *
    refine unB ?_;intro Qb hnb
    refine join_here ⟨slots [(3,.ptr 1 0 0),(4,.ptr 2 0 0)],[.var [.tree 1 (ints L),.lit (.int .i64 k6)],.var [.tree 1 (rowsOf eCls m.cls),.ref 3 4 0 m.prs.length,.ref 7 4 0 (m.cts.length+1),.lit (.int .i64 m.rules)],
      .var [.lit (.slice none 0 0),.lit (.slice none 0 0),.lit (.slice none 0 0),.lit (.int .i64 0)],.arr 4 (rowsOf ePr m.prs),.gone,.arr 3 [[.lit (.int .i64 x1),.lit (.int .i64 x2),.lit (.int .i64 x3)]],
      .arr 4 [[.lit (.int .i64 0),.ref 5 3 0 1,.lit (.int .i64 0),.lit (.int .i64 x4)]],.arr 4 (rowsOf eCt m.cts++[[.lit (.int .i64 0),.ref 5 3 0 1,.lit (.int .i64 0),.lit (.int .i64 x4)]])]⟩ (fun s h=>hnb _ (hn _ h)) ?_ (fun key=>?_)
    rotate_left
    · refine W_drawH 0 [] [3,5,7,11] (.take 0 (.take 1 (.take 2 (.take 3 (.take 4 (.take 5 (.take 6 (.take 7 (.take 8 (.take 10 (.both 9 (.take 11 (.take 12 (.take 13 (.take 14 (.take 15 (.take 16 .nil)))))) 11 (.take 9 (.take 12 (.take 13 (.take 14 (.take 15 (.take 16 .nil))))))))))))))))) rfl (by decide) (by decide +kernel) ?_
      simp (disch:=omega) only[Ac,↓Pc,simprocAttr,Hc,stepAtH]
      repeat' (first|with_reducible refine And.intro ?_ ?_|omega|(refine callD_of (hnw) rfl rfl rfl rfl (by (repeat' (first|exact trivial|refine And.intro ?_ ?_))<;>first|exact .inl ⟨rfl,rfl⟩|exact .inr ⟨rfl,rfl⟩) ?_;simp (disch:=omega) only[Ac,↓Pc,simprocAttr,Hc,stepAtH])|(refine callD_of (hnx) rfl rfl rfl rfl (by (repeat' (first|exact trivial|refine And.intro ?_ ?_))<;>first|exact .inl ⟨rfl,rfl⟩|exact .inr ⟨rfl,rfl⟩) ?_;simp (disch:=omega) only[Ac,↓Pc,simprocAttr,Hc,stepAtH])|(refine callD_of (hny) rfl rfl rfl rfl (by (repeat' (first|exact trivial|refine And.intro ?_ ?_))<;>first|exact .inl ⟨rfl,rfl⟩|exact .inr ⟨rfl,rfl⟩) ?_;simp (disch:=omega) only[Ac,↓Pc,simprocAttr,Hc,stepAtH])|(refine callD_of (hnz) rfl rfl rfl rfl (by (repeat' (first|exact trivial|refine And.intro ?_ ?_))<;>first|exact .inl ⟨rfl,rfl⟩|exact .inr ⟨rfl,rfl⟩) ?_;simp (disch:=omega) only[Ac,↓Pc,simprocAttr,Hc,stepAtH]))
      all_goals refine key _ ?_
      all_goals exact Xv X0
    refine Va X0 ?_
    unfold retR
    simp only[resW,retV]
    simp (disch:=omega) only[Ac,↓Pc,simprocAttr]
    refine⟨_,_,⟨⟨m.cls,m.prs,m.cts++[⟨0,[⟨x1,x2,x3⟩],0,x4⟩],m.rules⟩,k6,hom.cts (by simp;omega) (fun p hp=>(List.mem_append.1 hp).elim (hom.mb.lds p) fun h=>by rw[List.mem_singleton.1 h];simp),by omega,rfl,rfl⟩,?_⟩
    refine RetOK_sel [0] true (by decide) ⟨⟨by simp,.inr rfl⟩,trivial⟩ (by decide) (by decide) (agg4 (ArgR.pure rfl) (?_) (.snap _ _ rfl ?_) (.pure rfl))
    · first|exact .pure rfl|exact .eq rfl|exact .fz rfl (by simp only[Bc,Rc])
    · refine Frz.mk rfl (by simp only[Bc,Rc]) (not_kept (by decide)) (rows_wid _) ?_
      rw[← rows_app1]
      exact rowsR_app (rowsR_flat (rows_frz _)) ⟨⟨.lit _,Frz.mk rfl rfl (not_kept (by decide)) (rows_wid _) ⟨⟨.lit _,.lit _,.lit _,trivial⟩,trivial⟩,.lit _,.lit _,trivial⟩,trivial⟩
  ·
    have hnx:=next_ok L k2 5 (by unfold In64;omega) hk2 hL
    have hk3:=nextA_le hk2
    have hny:=next_ok L (nextA L k2) 2 (by unfold In64;omega) hk3 hL
    have hk4:=nextA_le hk3
    unfold dice at *
    generalize nextV L k2 5=x1 at *
    generalize nextA L k2=k3 at *
    generalize nextV L k3 2=x2 at *
    generalize nextA L k3=k4 at *
    (refine Xn [0] (hnx) ?_;simp (disch:=omega) only[Ac,↓Pc,simprocAttr])
    (refine Xn [0] (hny) ?_;simp (disch:=omega) only[Ac,↓Pc,simprocAttr])
    ((try revert hK K);(refine Va X0 ?_))
    unfold retR
    simp only[resW,retV]
    simp (disch:=omega) only[Ac,↓Pc,simprocAttr]
    refine⟨_,_,⟨⟨m.cls++[[⟨0,0,0,0,0,[(x1,x2)]⟩]],m.prs,m.cts,m.rules⟩,k4,hom.cls (by simp;omega) (fun l hl=>(List.mem_append.1 hl).elim (fun h=>⟨hom.opt l h,hom.mb.ch l h⟩) fun h=>by rw[List.mem_singleton.1 h];exact⟨by simp,fun o ho=>by rw[List.mem_singleton.1 ho];simp⟩),by omega,rfl,rfl⟩,?_⟩
    refine RetOK_sel [0] true (by decide) ⟨⟨by simp,.inr rfl⟩,trivial⟩ (by decide) (by decide) (agg4 (.snap _ _ rfl ?_) (?_) (?_) (.pure rfl))
    · refine Frz.mk rfl (by simp only[Bc,Rc]) (not_kept (by decide)) (rows_wid _) ?_
      rw[← rows_app1]
      refine rowsR_app (rowsR_flat (rows_frz _)) ⟨⟨?_,trivial⟩,trivial⟩
      refine Frz.mk rfl rfl (not_kept (by decide)) (rows_wid _) ⟨⟨.lit _,.lit _,.lit _,.lit _,.lit _,?_,trivial⟩,trivial⟩
      exact Frz.mk rfl rfl (not_kept (by decide)) (rows_wid _) ⟨⟨.lit _,.lit _,trivial⟩,trivial⟩
    · first|exact .pure rfl|exact .eq rfl|exact .fz rfl (by simp only[Bc,Rc])
    · first|exact .pure rfl|exact .eq rfl|exact .fz rfl (by simp only[Bc,Rc])
  ·
    have hnx:=next_ok L k2 2 (by unfold In64;omega) hk2 hL
    have hnr:=nextV_range (L:=L) (k:=k2) (n:=2) (by omega)
    have hk3:=nextA_le hk2
    unfold dice at *
    generalize nextV L k2 2=x1 at *
    generalize nextA L k2=k3 at *
    (refine Xn [0] (hnx) ?_;simp (disch:=omega) only[Ac,↓Pc,simprocAttr])
    ((try revert hK K);(refine Va X0 ?_))
    unfold retR
    simp only[resW,retV]
    simp (disch:=omega) only[Ac,↓Pc,simprocAttr]
    refine⟨_,_,⟨⟨m.cls++[List.replicate (24+x1).toNat ⟨0,0,0,0,0,[]⟩],m.prs,m.cts,m.rules⟩,k3,hom.cls (by simp;omega) (fun l hl=>(List.mem_append.1 hl).elim (fun h=>⟨hom.opt l h,hom.mb.ch l h⟩) fun h=>by rw[List.mem_singleton.1 h];exact⟨by rw[List.length_replicate];omega,fun o ho=>by rw[List.eq_of_mem_replicate ho];decide⟩),by omega,rfl,rfl⟩,?_⟩
    refine RetOK_sel [0] true (by decide) ⟨⟨by simp,.inr rfl⟩,trivial⟩ (by decide) (by decide) (agg4 (.snap _ _ rfl ?_) (?_) (?_) (.pure rfl))
    · refine Frz.mk rfl (by simp only[Bc,Rc]) (not_kept (by decide)) (rows_wid _) ?_
      rw[← rows_app1]
      refine rowsR_app (rowsR_flat (rows_frz _)) ⟨⟨?_,trivial⟩,trivial⟩
      refine Frz.mk rfl (by rw[List.length_replicate]) (not_kept (by decide)) (rows_wid _) ?_
      rw[show rowsOf eOpt (List.replicate (24+x1).toNat ⟨0,0,0,0,0,[]⟩)=List.replicate (24+x1).toNat (eOpt ⟨0,0,0,0,0,[]⟩) by rw[rowsOf,List.map_replicate]]
      refine rowsR_rep ?_ _
      exact⟨.lit _,.lit _,.lit _,.lit _,.lit _,.nil 2,trivial⟩
    · first|exact .pure rfl|exact .eq rfl|exact .fz rfl (by simp only[Bc,Rc])
    · first|exact .pure rfl|exact .eq rfl|exact .fz rfl (by simp only[Bc,Rc])
def offB (c:Int) (p:Pr):Bool:=decide (p.fst≠c∧p.snd≠c)
def withoutM (m:Mdl) (c:Int):Mdl:=⟨m.cls.set c.toNat [],m.prs.filter (offB c),[],m.rules⟩
theorem without_vm {m:Mdl} (hm:VM m) {c:Int} (hc:0≤c):VM (withoutM m c):=by
  have hmem:∀ l∈(withoutM m c).cls,l=[]∨l∈m.cls:=fun l hl=>(List.mem_or_eq_of_mem_set hl).symm
  have key:∀ (l:List Pr) (q:Option Pr),(∀ p∈l,offB c p=true)→prsL m q l=true→prsL (withoutM m c) q l=true:=by
    intro l
    induction l with
    | nil=>intro q _ _;cases q<;>rfl
    | cons p r ih =>
      intro q ho h
      rw[prsL.eq_def] at h ⊢
      simp only[Bool.and_eq_true] at h ⊢
      obtain ⟨⟨a,b⟩,d⟩:=h
      have hp:=ho p (by simp)
      unfold offB at hp
      rw[decide_eq_true_eq] at hp
      refine⟨⟨?_,b⟩,ih _ (fun x hx=>ho x (by simp[hx])) d⟩
      have e:∀ x:Int,0≤x→x≠c→(withoutM m c).cls.getD x.toNat default=m.cls.getD x.toNat default:=fun x h0 hx=>by
        unfold withoutM
        dsimp only
        rw[List.getD_eq_getElem?_getD,List.getElem?_set_ne (by omega),← List.getD_eq_getElem?_getD]
      have q:=(pairB_iff a).2
      unfold pairB at *
      rw[e _ q.1 hp.1,e _ (by omega) hp.2,show (withoutM m c).cls.length=m.cls.length by unfold withoutM;simp]
      exact a
  refine⟨by unfold withoutM;simpa using hm.cls,fun l hl=>?_,Nat.le_trans (List.length_filter_le _ _) hm.prs,Nat.zero_le _,hm.rul,fun l hl o ho=>?_,key _ _ (fun p hp=>(List.mem_filter.1 hp).2) (prsL_filter _ hm.pr),fun c hc=>by cases hc⟩
  · rcases hmem l hl with rfl | h
    · exact Nat.zero_le _
    · exact hm.opt l h
  · rcases hmem l hl with rfl | h
    · cases ho
    · exact hm.chs l h o ho
theorem rowsR_setQ {R:AV→AV→Prop}:∀ {a c:List (List AV)} {x y:List AV} (j:Nat),RowsR R a c→ArgsR R x y→RowsR R (a.set j x) (c.set j y)
  | [],[],_,_,_,_,_=>trivial
  | _::_,_::_,_,_,0,h,k=>⟨k,h.2⟩
  | _::_,_::_,_,_,j+1,h,k=>⟨h.1,rowsR_setQ j h.2 k⟩
  | [],_::_,_,_,_,h,_=>h.elim
  | _::_,[],_,_,_,h,_=>h.elim
theorem rowsR_refl {α:Type} {enc:α→List AV} {w:Nat} [Row enc w] {σ:St} {kp:Nat→Prop} (xs:List α):RowsR (Frz σ kp) (rowsOf enc xs) (rowsOf enc xs) :=
  RowsR.of_get (f:=fun _=>[]) (g:=fun _=>[]) rfl fun j c d hc hd=>by rw[hc] at hd;cases hd;exact frz_row (fun v hv=>rows_frz _ _ (List.mem_of_getElem? hc) v hv) rfl
theorem frz_without {σ:St} {kp:Nat→Prop} {id n c:Nat} {cls:List (List Opt)} (ho:σ.objs[id]?=some (.arr 1 ((rowsOf eCls cls).set c [.lit (.slice none 0 0)]))) (hn:n=cls.length) (hk:¬ kp id):Frz σ kp (.tree 1 (rowsOf eCls (cls.set c []))) (.ref id 1 0 n):=by
  have e:rowsOf eCls (cls.set c [])=(rowsOf eCls cls).set c (eCls []):=by unfold rowsOf;rw[List.map_set]
  refine Frz.mk ho (by rw[hn,List.length_set,rows_length]) hk (rows_wid _) ?_
  rw[e]
  exact rowsR_setQ c (rowsR_refl cls) ⟨.nil 6,trivial⟩
theorem without_ok (m:Mdl) (hm:VM m) (c:Int) (hc:0≤c∧c<m.cls.length):Holds Tryz.prog 47 [.agg (eMdl m),.lit (.int .i64 c)] [] (.agg (eMdl (withoutM m c))) []:=by
  have hc24:=hm.cls
  have hp4:=hm.prs
  have hrl:(rowsOf eCls m.cls).length=m.cls.length:=rows_length _
  have hren:∀ ρ,renO ρ (.arr 1 ((rowsOf eCls m.cls).set c.toNat [.lit (.slice none 0 0)]))=.arr 1 ((rowsOf eCls m.cls).set c.toNat [.lit (.slice none 0 0)]):=fun ρ=>by
    have h:renO ρ (.arr 1 (rowsOf eCls m.cls))=.arr 1 (rowsOf eCls m.cls):=by rw[rows_ren]
    simp only[renO,Ob.arr.injEq,true_and] at h ⊢
    rw[List.map_set,h]
    simp[ren]
  have ha1:∀ (xs:List Pr) (p:Pr),rowsOf ePr xs++[[AV.lit (.int .i64 p.fst),AV.lit (.int .i64 p.snd),AV.lit (.int .i64 p.rule),AV.tree 1 (ints p.tab)]]=rowsOf ePr (xs++[p]):=fun xs p=>rows_app1 xs p
  refine Holds.of_body' (fn:=Tryz.f47) 53 0 [.cell 4 31] Tryz.func47 rfl rfl rfl rfl rfl (by simp) ?_
  repeat' (first|((fail_if_success (first|refine W_at 1 ?_|refine W_atE 1 ?_));refine Xr X0 ?_;intro K hK)|(refine hK _ ?_;clear hK K)|refine XY ?_|fail)
  refine unSq ?_;intro Q hn he
  refine join_here ⟨slots [(1,.lit (.int .i64 c)),(2,.ptr 0 0 0),(4,.ptr 1 0 0),(5,.ptr 3 0 0)],[.var (eMdl m),.var [.lit (.slice none 0 0),.lit (.slice none 0 0),.lit (.slice none 0 0),.lit (.int .i64 0)],.arr 1 (rowsOf eCls m.cls),.var [.ref 2 1 0 m.cls.length,.lit (.slice none 0 0),.lit (.slice none 0 0),.lit (.int .i64 m.rules)]]⟩ hn ?_ (fun key=>?_)
  rotate_left
  · refine W_draw [] (.take 0 (.take 1 (.three 2 (.take 3 (.take 4 (.take 5 (.take 6 (.take 7 .nil))))) 3 (.three 2 (.take 4 (.take 5 (.take 6 (.take 7 .nil)))) 4 (.both 2 (.take 5 (.take 6 (.take 7 .nil))) 6 (.take 2 (.take 5 (.take 7 .nil)))) 6 (.both 2 (.take 4 (.take 5 (.take 7 .nil))) 4 (.take 2 (.take 5 (.take 7 .nil))))) 6 (.both 2 (.take 3 (.take 4 (.take 5 (.take 7 .nil)))) 3 (.both 2 (.take 4 (.take 5 (.take 7 .nil))) 4 (.take 2 (.take 5 (.take 7 .nil)))))))) rfl (by decide) (by decide +kernel) ?_
    simp (disch:=omega) only[Ac,↓Pc,simprocAttr,Pw]
    repeat' (first|with_reducible refine And.intro ?_ ?_|omega)
    all_goals
      refine key _ ?_
      first|(exact Xv X0;done)|(exact Xs false [0,1,3,2] X0)
  (try clear hn;try clear he)
  refine Vb @hrl ?_
  refine W_turn (Turns.nilC 3 1 4 rfl rfl (by decide)) ?_
  refine W_loopS (fun z:Nat × List Pr=>(⟨slots [(1,.lit (.int .i64 c)),(2,.ptr 0 0 0),(4,.ptr 1 0 0),(5,.ptr 3 0 0),(6,.lit (.int .i64 z.1))],[.var (eMdl m),.var [.lit (.slice none 0 0),.lit (.slice none 0 0),.lit (.slice none 0 0),.lit (.int .i64 0)],.arr 1 ((rowsOf eCls m.cls).set c.toNat [.lit (.slice none 0 0)]),.var [.ref 2 1 0 m.cls.length,.ref 4 4 0 z.2.length,.lit (.slice none 0 0),.lit (.int .i64 m.rules)],.arr 4 (rowsOf ePr z.2)]⟩:St))
    (fun z=>z.1≤m.prs.length∧z.2=(m.prs.take z.1).filter (offB c)) (fun z=>m.prs.length - z.1) (0,[]) ⟨Nat.zero_le _,rfl⟩ (Xv X0) ?_
  rintro ⟨i,xs⟩ ⟨hi,hxs⟩ Ql hnl hel
  dsimp only at hi hxs ⊢
  by_cases hi':i<m.prs.length
  · have hts:=take_snoc hi'
    have hxl:xs.length≤4000:=by
      rw[hxs]
      exact Nat.le_trans (List.length_filter_le _ _) (by rw[List.length_take];omega)
    generalize hpp:m.prs.getD i default=p at *
    have hf:(m.prs.take (i+1)).filter (offB c)=xs++if offB c p=true then [p] else []:=by
      rw[hts,List.filter_append,← hxs]
      congr 1
      rw[List.filter_cons,List.filter_nil]
    by_cases hoff:p.fst≠c∧p.snd≠c
    · rw[if_pos (by unfold offB;exact decide_eq_true hoff)] at hf
      ((repeat' (first|refine Va (X2 @hpp @ePr.eq_1) ?_|(refine V2 (X2 @hpp @ePr.eq_1) ?_ ?_<;>try with_reducible intro hb)|(refine Xi ?_ ?_<;>try intro ht)|exact Xx|fail)))
      all_goals exact hnl _ (i+1,xs++[p]) ⟨by dsimp only;omega,hf.symm⟩ (by dsimp only;omega) (Xs false [0,1,2,3,6] (X2 @hren @ha1))
    · rw[if_neg (by unfold offB;simpa using hoff),List.append_nil] at hf
      ((repeat' (first|refine Va (X2 @hpp @ePr.eq_1) ?_|(refine V2 (X2 @hpp @ePr.eq_1) ?_ ?_<;>try with_reducible intro hb)|(refine Xi ?_ ?_<;>try intro ht)|exact Xx|fail)))
      all_goals exact hnl _ (i+1,xs) ⟨by dsimp only;omega,hf.symm⟩ (by dsimp only;omega) (Xv X0)
  · rw[List.take_of_length_le (by omega)] at hxs
    ((repeat' (first|refine Va X0 ?_|(refine V2 X0 ?_ ?_<;>try with_reducible intro hb)|(refine Xi ?_ ?_<;>try intro ht)|exact Xx|fail)))
    refine hel _ _ rfl ?_;clear hnl hel Ql
    repeat (refine Xu ?_)
    refine Vb X0 ?_
    simp (disch:=omega) only[Ac,↓Pc,simprocAttr,rowOf]
    refine RetOK_sel [] true (by decide) trivial (by decide) (by decide) ?_
    refine (ArgR.agg _ _ rfl (ArgsR.spec (R:=ArgR _ _ _ _) (cs:=eMdl (withoutM m c)) (ds:=[.ref 2 1 0 m.cls.length,.ref 4 4 0 xs.length,.lit (.slice none 0 0),.lit (.int .i64 m.rules)]) ⟨.snap _ _ rfl (frz_without rfl rfl (not_kept (by decide))),.snap _ _ rfl ?_,.snap _ _ rfl (.nil 4),.pure rfl,trivial⟩).2)
    unfold withoutM
    dsimp only
    rw[← hxs]
    exact Frz.mk rfl (by rw[rows_length]) (not_kept (by decide)) (rows_wid _) (rowsR_refl xs)
end T

