import Derived.Test.YtfoopmojjjpapaaGreatX47
import Derived.Test.YtfoopmojjjpapaaGreatX40
set_option linter.all false
set_option maxHeartbeats 0
set_option maxRecDepth 20000
open List renaming replicate→aJ,mem_singleton→cU,eq_of_mem_replicate→AM,mem_append→cC,mem_or_eq_of_mem_set→qU,length_append→bF,length_singleton→AL,length_set→bK,length_replicate→mL,getD_eq_getElem?_getD→aB,length_filter_le→N7,map_set→rV,append_nil→pP,append_assoc→bC,cons_append→dh,nil_append→ec,replicate_zero→AQ,length_cons→dt,mem_cons_of_mem→dI
open Int renaming mul_le_mul→pT,toNat_natCast→ep
open Nat renaming le_trans→rY,zero_le→aT,le_refl→bb,sub_self→iT,mul_le_mul→u6
open And renaming intro→cK
open Bool renaming and_eq_true→aZ
open Go Go.Am Go.Proofs
namespace T
def unB{P:Program}{N n0:Nat}{σ:St}{Q:Exit->St->Prop}{x:Code}{id:Nat}(h:∀ Q':Exit->St->Prop,(∀ s,Q .normal s->Q' .normal s)->W P N n0 x Q' σ):W P N n0 x (Bq id Q) σ:=h _ .n
def aa4{σ:St}{kp:Nat->Prop}:∀ {l:List AV},(∀ v∈l,(∃ x,v=AV.lit x)\/∃ s r,v=AV.tree s r)->ju (cL σ kp) l l
 |[],_=>trivial
 |v::l,h=>⟨by rcases h v Iy with⟨x,rfl⟩|⟨s,r,rfl⟩;exact .lit _;exact .tree _ _,aa4 λx hx=>h x (by simp[hx])⟩
def AA{σ:St}{kp:Nat->Prop}:∀ {rows:List (List AV)},(∀ row∈rows,∀ v∈row,(∃ x,v=AV.lit x)\/∃ s r,v=AV.tree s r)->kL (cL σ kp) rows rows
 |[],_=>trivial
 |r::rows,h=>⟨aa4 (h r Iy),AA λx hx=>h x (by simp[hx])⟩
def EG{R:AV->AV->Prop}:∀ {a c:List (List AV)} {b d:List (List AV)},kL R a c->kL R b d->kL R (a++b) (c++d)
 |[],[],_,_,_,k=>k
 |_::_,_::_,_,_,h,k=>⟨h.1,EG h.2 k⟩
 |[],_::_,_,_,h,_=>h.elim
 |_::_,[],_,_,h,_=>h.elim
def akD{R:AV->AV->Prop}:∀ {a c:List (List AV)} {x y:List AV},kL R a c->ju R x y->kL R (a.set 0 x) (c.set 0 y)
 |[],[],_,_,_,_=>trivial
 |_::_,_::_,_,_,h,k=>⟨k,h.2⟩
 |[],_::_,_,_,h,_=>h.elim
 |_::_,[],_,_,h,_=>h.elim
def aa5{R:AV->AV->Prop}{x y:List AV}(h:ju R x y):∀ n,kL R (aJ n x) (aJ n y)
 |0=>trivial
 |n+1=>⟨h,aa5 h n⟩
def akE{m:ah}(h:VM m){p:Pr}(hp:p∈m.ae):p.ax.length<=576:=by
 obtain⟨_,h1,h2,h3,h4⟩:=qA (jP h.pr p hp);have a:=h.opt _ (aG (l:=m.cls) (i:=p.fst.toNat) (d:=default) Ix);have b:=h.opt _ (aG (l:=m.cls) (i:=p.snd.toNat) (d:=default) Ix);have:((m.cls.getD p.fst.toNat default).length:Int)*(m.cls.getD p.snd.toNat default).length<=24*24:=pT Ix Ix Ix Ix;omega
def qL{σ:St}{kp:Nat->Prop}{ρ:Nat->Nat}{snap:Bool}{a b c d a' b' c' d':AV}(h1:bw σ kp ρ snap a a')(h2:bw σ kp ρ snap b b')(h3:bw σ kp ρ snap c c')(h4:bw σ kp ρ snap d d'):bw σ kp ρ snap (.agg [a,b,c,d]) (.agg [a',b',c',d']) :=
 .agg _ _ rfl (ju.spec (R:=bw σ kp ρ snap) (cs:=[a,b,c,d]) (ds:=[a',b',c',d']) ⟨h1,h2,h3,h4,trivial⟩).2
structure kf(q:Nat)(m:ah):Prop where
 mb:MB m
 pD:m.cls.length<=q
 opt:∀ l∈m.cls,l.length<=25
abbrev OM(m:ah):Prop:=kf 25 m
def kf.mono{q r:Nat}{m:ah}(h:kf q m)(hr:q<=r):kf r m:=⟨h.mb,rY h.pD hr,h.opt⟩
def kf.rules{q:Nat}{m:ah}(h:kf q m)(r:Int):kf q ⟨m.cls,m.ae,m.aC,r⟩:=⟨⟨h.mb.cls,h.mb.opt,h.mb.ch,h.mb.ae,h.mb.ax,h.mb.aC,h.mb.lk⟩,h.pD,h.opt⟩
def kf.ae{q:Nat}{m:ah}(h:kf q m){l:List Pr}(h1:l.length<9223372036854775808)(h2:∀ p∈l,p.ax.length<9223372036854775808):kf q ⟨m.cls,l,m.aC,m.rules⟩:=⟨⟨h.mb.cls,h.mb.opt,h.mb.ch,h1,h2,h.mb.aC,h.mb.lk⟩,h.pD,h.opt⟩
def kf.aC{q:Nat}{m:ah}(h:kf q m){l:List Ct}(h1:l.length<9223372036854775808)(h2:∀ p∈l,p.aY.length<9223372036854775808):kf q ⟨m.cls,m.ae,l,m.rules⟩:=⟨⟨h.mb.cls,h.mb.opt,h.mb.ch,h.mb.ae,h.mb.ax,h1,h2⟩,h.pD,h.opt⟩
def kf.cls{q:Nat}{m:ah}(h:kf q m)(hq:q<=25){l:List (List cg)}(h1:l.length<=q)(h2:∀ x∈l,x.length<=25/\∀ o∈x,o.ch.length<9223372036854775808):kf q ⟨l,m.ae,m.aC,m.rules⟩ :=
 ⟨⟨NQ,λx hx=>by have:=(h2 x hx).1;omega,λx hx=>(h2 x hx).2,h.mb.ae,h.mb.ax,h.mb.aC,h.mb.lk⟩,h1,λx hx=>(h2 x hx).1⟩
def VM.om{m:ah}(h:VM m):OM m:=⟨h.mb,by have:=h.cls;omega,λl hl=>by have:=h.opt l hl;omega⟩
def VM.KS{m:ah}(h:VM m){q:Nat}(hl:m.cls.length<=q):kf q m:=⟨h.mb,hl,λl hl=>by have:=h.opt l hl;omega⟩
def qM(c:List (Int×Int)):∀ o∈[(⟨0,0,0,0,0,c⟩:cg)],o.wk<=3:=λo ho=>by
 rw[cU]at ho;subst ho;show(0:Int)<=3;decide
def qN(n:Nat):∀ o∈aJ n (⟨0,0,0,0,0,[]⟩:cg),o.wk<=3:=λo ho=>by
 rw[AM ho];show(0:Int)<=3;decide
structure OMx(q:Nat)(m m':ah):Prop where
 om:kf (q+1) m'
 cl:m'.cls=m.cls\/∃ x,(∀ o∈x,o.wk<=3)/\m'.cls=m.cls++[x]
def kf.pin{q:Nat}{m:ah}(h:kf q m)(hp:0<m.ae.length):(m.ae.getD 0 default).ax.length<9223372036854775808:=h.mb.ax _ (aG hp)
def af6(q:Nat)(amX:q<=24)(L:List Int)(k:Nat)(m:ah)(hm:VM m)(hq:m.cls.length<=q)(hk:k<=L.length)(hL:L.length<1000000):
    cQ Tryz.prog 36 [.ptr 0 0 0,.agg (ao m)] [gv L k] (λr os=>∃ m' k',OMx q m m'/\k'<=L.length/\r=.agg (ao m')/\os=[gv L k']):=by
  have h1:=hm.cls;have h2:=hm.opt;have h3:=hm.ae;have h4:=hm.aC;have fJ:kf (q+1) m:=hm.KS Ix;have h8:=gD L k 8 (by unfold cS;omega) hk hL;have h8r:=jB (L:=L) (k:=k) (n:=8) Ix;have bd:=eQ hk;have r4:List.range 4=[0,1,2,3]:=NI;unfold gv at *;generalize dN L k 8=j at *;generalize cj L k=k2 at *;refine cQ.aK 126 1 [.cell 4 32] Tryz.func36 ?_;((refine Va X0 ?_)<;>try with_reducible intro K hK)
  (refine Xn [0] (h8) ?_;simp(disch:=omega)only[Ac,↓Pc,simprocAttr])
  ((try revert hK K);(repeat'(first|refine Va @r4 ?_|(refine Xi ?_ ?_<;>try intro ht)|fail))<;>try with_reducible intro K hK)
  ·
    have kr:=gD L k2 4 (by unfold cS;omega) bd hL;have BQ:=jB (L:=L) (k:=k2) (n:=4) Ix;have fU:=eQ bd;unfold gv at *;generalize dN L k2 4=i at *;generalize cj L k2=k3 at *;(refine Xn [0] (kr) ?_;simp(disch:=omega)only[Ac,↓Pc,simprocAttr,r4])
    have hi:i=0\/i=1\/i=2\/i=3:=Ix;rcases hi with rfl|rfl|rfl|rfl
    · simp(disch:=omega)only[Ac,↓Pc,simprocAttr]
      ((try revert hK K);(refine Va X0 ?_))
      unfold eH;simp only[dx,dv];simp(disch:=omega)only[Ac,↓Pc,simprocAttr];refine⟨_,_,⟨⟨m.cls,m.ae,m.aC,-1⟩,k3,⟨fJ.rules _,by first|exact .inl rfl|exact .inr ⟨_,qM _,rfl⟩|exact .inr ⟨_,qN _,rfl⟩⟩,Ix,rfl,rfl⟩,?_⟩;refine j1 [0] true NI ⟨⟨Iy,.inr rfl⟩,trivial⟩ NI NI (qL (bw.pure rfl) (?_) (?_) (.pure rfl));all_goals first|exact .pure rfl|exact .eq rfl|exact .fz rfl (by simp only[Bc,Rc])
    · simp(disch:=omega)only[Ac,↓Pc,simprocAttr]
      ((try revert hK K);(refine Va X0 ?_))
      unfold eH;simp only[dx,dv];simp(disch:=omega)only[Ac,↓Pc,simprocAttr];refine⟨_,_,⟨⟨m.cls,m.ae,m.aC,0⟩,k3,⟨fJ.rules _,by first|exact .inl rfl|exact .inr ⟨_,qM _,rfl⟩|exact .inr ⟨_,qN _,rfl⟩⟩,Ix,rfl,rfl⟩,?_⟩;refine j1 [0] true NI ⟨⟨Iy,.inr rfl⟩,trivial⟩ NI NI (qL (bw.pure rfl) (?_) (?_) (.pure rfl));all_goals first|exact .pure rfl|exact .eq rfl|exact .fz rfl (by simp only[Bc,Rc])
    · simp(disch:=omega)only[Ac,↓Pc,simprocAttr]
      ((try revert hK K);(refine Va X0 ?_))
      unfold eH;simp only[dx,dv];simp(disch:=omega)only[Ac,↓Pc,simprocAttr];refine⟨_,_,⟨⟨m.cls,m.ae,m.aC,56⟩,k3,⟨fJ.rules _,by first|exact .inl rfl|exact .inr ⟨_,qM _,rfl⟩|exact .inr ⟨_,qN _,rfl⟩⟩,Ix,rfl,rfl⟩,?_⟩;refine j1 [0] true NI ⟨⟨Iy,.inr rfl⟩,trivial⟩ NI NI (qL (bw.pure rfl) (?_) (?_) (.pure rfl));all_goals first|exact .pure rfl|exact .eq rfl|exact .fz rfl (by simp only[Bc,Rc])
    · simp(disch:=omega)only[Ac,↓Pc,simprocAttr]
      ((try revert hK K);(refine Va X0 ?_))
      unfold eH;simp only[dx,dv];simp(disch:=omega)only[Ac,↓Pc,simprocAttr];refine⟨_,_,⟨⟨m.cls,m.ae,m.aC,57⟩,k3,⟨fJ.rules _,by first|exact .inl rfl|exact .inr ⟨_,qM _,rfl⟩|exact .inr ⟨_,qN _,rfl⟩⟩,Ix,rfl,rfl⟩,?_⟩;refine j1 [0] true NI ⟨⟨Iy,.inr rfl⟩,trivial⟩ NI NI (qL (bw.pure rfl) (?_) (?_) (.pure rfl));all_goals first|exact .pure rfl|exact .eq rfl|exact .fz rfl (by simp only[Bc,Rc])
  ·
    have e:=ox (enc:=aH) m.ae (m.ae.getD 0 default);simp only[aH]at e;rw[e];unfold eH;simp only[dx,dv];simp(disch:=omega)only[Ac,↓Pc,simprocAttr];refine⟨_,_,⟨⟨m.cls,m.ae++[m.ae.getD 0 default],m.aC,m.rules⟩,k2,⟨fJ.ae NS (λp hp=>(cC.1 hp).elim (fJ.mb.ax p) λh=>by rw[cU.1 h];exact fJ.pin Ix),by first|exact .inl rfl|exact .inr ⟨_,qM _,rfl⟩|exact .inr ⟨_,qN _,rfl⟩⟩,Ix,rfl,rfl⟩,?_⟩;refine j1 [0] true NI ⟨⟨Iy,.inr rfl⟩,trivial⟩ NI NI (qL (bw.pure rfl) (?_) (?_) (.pure rfl));all_goals first|exact .pure rfl|exact .eq rfl|exact .fz rfl (by simp only[Bc,Rc])
  ·
    unfold eH;simp only[dx,dv];simp(disch:=omega)only[Ac,↓Pc,simprocAttr];refine⟨_,_,⟨m,k2,⟨fJ,by first|exact .inl rfl|exact .inr ⟨_,qM _,rfl⟩|exact .inr ⟨_,qN _,rfl⟩⟩,Ix,rfl,rfl⟩,?_⟩;refine j1 [0] true NI ⟨⟨Iy,.inr rfl⟩,trivial⟩ NI NI (qL (bw.pure rfl) (?_) (?_) (.pure rfl));all_goals first|exact .pure rfl|exact .eq rfl|exact .fz rfl (by simp only[Bc,Rc])
  ·
    have kr:=gD L k2 2 (by unfold cS;omega) bd hL;have BQ:=jB (L:=L) (k:=k2) (n:=2) Ix;have fU:=eQ bd;have amZ:(m.ae.getD 0 default).ax.length<=576:=akE hm (aG Ix);unfold gv at *;generalize dN L k2 2=x1 at *;generalize cj L k2=k3 at *;refine unB ?_;intro Qb dC;refine pZ ⟨an [(3,.ptr 1 0 0),(4,.ptr 2 0 0)],[.var [.tree 1 (ints L),N0 k3],.var [.tree 1 (rowsOf aQ m.cls),.ref 3 4 0 m.ae.length,.ref 4 4 0 m.aC.length,N0 m.rules],
      .var [.lit (.slice none 0 0),.lit (.slice none 0 0),.lit (.slice none 0 0),N0 0],
      .arr 4 ((rowsOf aH m.ae).set 0 [N0 (m.ae.getD 0 default).fst,N0 (m.ae.getD 0 default).snd,N0 (m.ae.getD 0 default).dL,.ref 6 1 0 (1+(m.ae.getD 0 default).ax.length)]),
      .arr 4 (rowsOf db m.aC),.gone,.arr 1 ([N0 (x1-1)]::ints (m.ae.getD 0 default).ax)]⟩ (λs h=>dC _ (hn _ h)) ?_ (λkey=>?_)
    rotate_left
    · refine Gs 0 [] [3] (.take 2 (.take 6 (.take 7 (.take 8 (.take 9 (.take 10 (.both 0 (.both 1 (.take 3 (.take 4 (.take 5 (.take 11 (.take 12 (.take 13 (.take 14 .nil))))))) 3 (.take 4 (.both 1 (.take 5 (.take 11 (.take 12 (.take 13 (.take 14 .nil))))) 5 (.both 1 (.take 11 (.take 12 (.take 13 (.take 14 .nil)))) 11 (.take 1 (.take 12 (.take 13 (.take 14 .nil)))))))) 3 (.take 4 (.both 0 (.both 1 (.take 5 (.take 11 (.take 12 (.take 13 (.take 14 .nil))))) 5 (.both 1 (.take 11 (.take 12 (.take 13 (.take 14 .nil)))) 11 (.take 1 (.take 12 (.take 13 (.take 14 .nil)))))) 5 (.both 0 (.both 1 (.take 11 (.take 12 (.take 13 (.take 14 .nil)))) 11 (.take 1 (.take 12 (.take 13 (.take 14 .nil))))) 11 (.take 0 (.take 1 (.take 12 (.take 13 (.take 14 .nil))))))))))))))) rfl NI (by decide +kernel) ?_
      simp(disch:=omega)only[Ac,↓Pc,simprocAttr,Hc,eY];repeat'(first|with_reducible refine cK ?_ ?_|omega|(refine yl (kr) rfl rfl rfl rfl (by(repeat'(first|exact trivial|refine cK ?_ ?_))<;>first|exact .inl ⟨rfl,rfl⟩|exact .inr ⟨rfl,rfl⟩) ?_;simp(disch:=omega)only[Ac,↓Pc,simprocAttr,Hc,eY]))
      all_goals refine key _ ?_
      all_goals exact Xv X0
    refine Va X0 ?_;unfold eH;simp only[dx,dv];simp(disch:=omega)only[Ac,↓Pc,simprocAttr];refine⟨_,_,⟨⟨m.cls,m.ae.set 0 ⟨(m.ae.getD 0 default).fst,(m.ae.getD 0 default).snd,(m.ae.getD 0 default).dL,[x1-1]++(m.ae.getD 0 default).ax⟩,m.aC,m.rules⟩,k3,⟨fJ.ae NS (λp hp=>(qU hp).elim (fJ.mb.ax p) λh=>by rw[h];show([x1-1]++(m.ae.getD 0 default).ax).length<_;rw[bF,AL];omega),by first|exact .inl rfl|exact .inr ⟨_,qM _,rfl⟩|exact .inr ⟨_,qN _,rfl⟩⟩,Ix,rfl,rfl⟩,?_⟩;refine j1 [0] true NI ⟨⟨Iy,.inr rfl⟩,trivial⟩ NI NI (qL (bw.pure rfl) (.snap _ _ rfl ?_) (?_) (.pure rfl))
    · refine cL.mk rfl (by simp only[Bc,Rc,bK]) (kh NI) (ig _) ?_
      rw[<- Qw];exact akD (AA (my _)) ⟨.lit _,.lit _,.lit _,cL.mk rfl (by simp[ints];omega) (kh NI) (tY _) (AA (wN ([x1-1]++(m.ae.getD 0 default).ax))),trivial⟩
    · first|exact .pure rfl|exact .eq rfl|exact .fz rfl (by simp only[Bc,Rc])
  ·
    unfold eH;simp only[dx,dv];simp(disch:=omega)only[Ac,↓Pc,simprocAttr];refine⟨_,_,⟨m,k2,⟨fJ,by first|exact .inl rfl|exact .inr ⟨_,qM _,rfl⟩|exact .inr ⟨_,qN _,rfl⟩⟩,Ix,rfl,rfl⟩,?_⟩;refine j1 [0] true NI ⟨⟨Iy,.inr rfl⟩,trivial⟩ NI NI (qL (bw.pure rfl) (?_) (?_) (.pure rfl));all_goals first|exact .pure rfl|exact .eq rfl|exact .fz rfl (by simp only[Bc,Rc])
  ·
    have e:=Qw (enc:=aH) m.ae 0 ⟨(m.ae.getD 0 default).fst,(m.ae.getD 0 default).fst,(m.ae.getD 0 default).dL,(m.ae.getD 0 default).ax⟩;simp only[aH]at e;rw[e];unfold eH;simp only[dx,dv];simp(disch:=omega)only[Ac,↓Pc,simprocAttr];refine⟨_,_,⟨⟨m.cls,m.ae.set 0 ⟨(m.ae.getD 0 default).fst,(m.ae.getD 0 default).fst,(m.ae.getD 0 default).dL,(m.ae.getD 0 default).ax⟩,m.aC,m.rules⟩,k2,⟨fJ.ae NS (λp hp=>(qU hp).elim (fJ.mb.ax p) λh=>by rw[h];exact fJ.pin Ix),by first|exact .inl rfl|exact .inr ⟨_,qM _,rfl⟩|exact .inr ⟨_,qN _,rfl⟩⟩,Ix,rfl,rfl⟩,?_⟩;refine j1 [0] true NI ⟨⟨Iy,.inr rfl⟩,trivial⟩ NI NI (qL (bw.pure rfl) (?_) (?_) (.pure rfl));all_goals first|exact .pure rfl|exact .eq rfl|exact .fz rfl (by simp only[Bc,Rc])
  ·
    unfold eH;simp only[dx,dv];simp(disch:=omega)only[Ac,↓Pc,simprocAttr];refine⟨_,_,⟨m,k2,⟨fJ,by first|exact .inl rfl|exact .inr ⟨_,qM _,rfl⟩|exact .inr ⟨_,qN _,rfl⟩⟩,Ix,rfl,rfl⟩,?_⟩;refine j1 [0] true NI ⟨⟨Iy,.inr rfl⟩,trivial⟩ NI NI (qL (bw.pure rfl) (?_) (?_) (.pure rfl));all_goals first|exact .pure rfl|exact .eq rfl|exact .fz rfl (by simp only[Bc,Rc])
  ·
    unfold eH;simp only[dx,dv];simp(disch:=omega)only[Ac,↓Pc,simprocAttr];refine⟨_,_,⟨⟨m.cls,m.ae,m.aC++[⟨0,[],-1,1⟩],m.rules⟩,k2,⟨fJ.aC NS (λp hp=>(cC.1 hp).elim (fJ.mb.lk p) λh=>by rw[cU.1 h];decide),by first|exact .inl rfl|exact .inr ⟨_,qM _,rfl⟩|exact .inr ⟨_,qN _,rfl⟩⟩,Ix,rfl,rfl⟩,?_⟩;refine j1 [0] true NI ⟨⟨Iy,.inr rfl⟩,trivial⟩ NI NI (qL (bw.pure rfl) (?_) (.snap _ _ rfl ?_) (.pure rfl))
    · first|exact .pure rfl|exact .eq rfl|exact .fz rfl (by simp only[Bc,Rc])
    · refine cL.mk rfl (by simp only[Bc,Rc]) (kh NI) (ig _) ?_
      rw[<- ox];exact EG (AA (my _)) ⟨⟨.lit _,.nil 3,.lit _,.lit _,trivial⟩,trivial⟩
  ·
    have M9:=gD L k2 3 (by unfold cS;omega) bd hL;have fU:=eQ bd;have kr:=gD L (cj L k2) 4 (by unfold cS;omega) fU hL;have tu:=eQ fU;have EH:=gD L (cj L (cj L k2)) 2 (by unfold cS;omega) tu hL;have hk5:=eQ tu;have M':=gD L (cj L (cj L (cj L k2))) 2 (by unfold cS;omega) hk5 hL;have hk6:=eQ hk5;unfold gv at *;generalize dN L k2 3=x1 at *;generalize cj L k2=k3 at *;generalize dN L k3 4=x2 at *;generalize cj L k3=k4 at *;generalize dN L k4 2=x3 at *;generalize cj L k4=k5 at *;generalize dN L k5 2=x4 at *;generalize cj L k5=k6 at *;refine unB ?_;intro Qb dC;refine pZ ⟨an [(3,.ptr 1 0 0),(4,.ptr 2 0 0)],[.var [.tree 1 (ints L),N0 k6],.var [.tree 1 (rowsOf aQ m.cls),.ref 3 4 0 m.ae.length,.ref 7 4 0 (m.aC.length+1),N0 m.rules],
      .var [.lit (.slice none 0 0),.lit (.slice none 0 0),.lit (.slice none 0 0),N0 0],.arr 4 (rowsOf aH m.ae),.gone,.arr 3 [[N0 x1,N0 x2,N0 x3]],
      .arr 4 [[N0 0,.ref 5 3 0 1,N0 0,N0 x4]],.arr 4 (rowsOf db m.aC++[[N0 0,.ref 5 3 0 1,N0 0,N0 x4]])]⟩ (λs h=>dC _ (hn _ h)) ?_ (λkey=>?_)
    rotate_left
    · refine Gs 0 [] [3,5,7,11] (.take 0 (.take 1 (.take 2 (.take 3 (.take 4 (.take 5 (.take 6 (.take 7 (.take 8 (.take 10 (.both 9 (.take 11 (.take 12 (.take 13 (.take 14 (.take 15 (.take 16 .nil)))))) 11 (.take 9 (.take 12 (.take 13 (.take 14 (.take 15 (.take 16 .nil))))))))))))))))) rfl NI (by decide +kernel) ?_
      simp(disch:=omega)only[Ac,↓Pc,simprocAttr,Hc,eY];repeat'(first|with_reducible refine cK ?_ ?_|omega|(refine yl (M9) rfl rfl rfl rfl (by(repeat'(first|exact trivial|refine cK ?_ ?_))<;>first|exact .inl ⟨rfl,rfl⟩|exact .inr ⟨rfl,rfl⟩) ?_;simp(disch:=omega)only[Ac,↓Pc,simprocAttr,Hc,eY])|(refine yl (kr) rfl rfl rfl rfl (by(repeat'(first|exact trivial|refine cK ?_ ?_))<;>first|exact .inl ⟨rfl,rfl⟩|exact .inr ⟨rfl,rfl⟩) ?_;simp(disch:=omega)only[Ac,↓Pc,simprocAttr,Hc,eY])|(refine yl (EH) rfl rfl rfl rfl (by(repeat'(first|exact trivial|refine cK ?_ ?_))<;>first|exact .inl ⟨rfl,rfl⟩|exact .inr ⟨rfl,rfl⟩) ?_;simp(disch:=omega)only[Ac,↓Pc,simprocAttr,Hc,eY])|(refine yl (M') rfl rfl rfl rfl (by(repeat'(first|exact trivial|refine cK ?_ ?_))<;>first|exact .inl ⟨rfl,rfl⟩|exact .inr ⟨rfl,rfl⟩) ?_;simp(disch:=omega)only[Ac,↓Pc,simprocAttr,Hc,eY]))
      all_goals refine key _ ?_
      all_goals exact Xv X0
    refine Va X0 ?_;unfold eH;simp only[dx,dv];simp(disch:=omega)only[Ac,↓Pc,simprocAttr];refine⟨_,_,⟨⟨m.cls,m.ae,m.aC++[⟨0,[⟨x1,x2,x3⟩],0,x4⟩],m.rules⟩,k6,⟨fJ.aC NS (λp hp=>(cC.1 hp).elim (fJ.mb.lk p) λh=>by rw[cU.1 h];simp),by first|exact .inl rfl|exact .inr ⟨_,qM _,rfl⟩|exact .inr ⟨_,qN _,rfl⟩⟩,Ix,rfl,rfl⟩,?_⟩;refine j1 [0] true NI ⟨⟨Iy,.inr rfl⟩,trivial⟩ NI NI (qL (bw.pure rfl) (?_) (.snap _ _ rfl ?_) (.pure rfl))
    · first|exact .pure rfl|exact .eq rfl|exact .fz rfl (by simp only[Bc,Rc])
    · refine cL.mk rfl (by simp only[Bc,Rc]) (kh NI) (ig _) ?_
      rw[<- ox];exact EG (AA (my _)) ⟨⟨.lit _,cL.mk rfl rfl (kh NI) (ig _) ⟨⟨.lit _,.lit _,.lit _,trivial⟩,trivial⟩,.lit _,.lit _,trivial⟩,trivial⟩
  ·
    have kr:=gD L k2 5 (by unfold cS;omega) bd hL;have fU:=eQ bd;have EH:=gD L (cj L k2) 2 (by unfold cS;omega) fU hL;have tu:=eQ fU;unfold gv at *;generalize dN L k2 5=x1 at *;generalize cj L k2=k3 at *;generalize dN L k3 2=x2 at *;generalize cj L k3=k4 at *;(refine Xn [0] (kr) ?_;simp(disch:=omega)only[Ac,↓Pc,simprocAttr])
    (refine Xn [0] (EH) ?_;simp(disch:=omega)only[Ac,↓Pc,simprocAttr])
    ((try revert hK K);(refine Va X0 ?_))
    unfold eH;simp only[dx,dv];simp(disch:=omega)only[Ac,↓Pc,simprocAttr];refine⟨_,_,⟨⟨m.cls++[[⟨0,0,0,0,0,[(x1,x2)]⟩]],m.ae,m.aC,m.rules⟩,k4,⟨fJ.cls Ix NS (λl hl=>(cC.1 hl).elim (λh=>⟨fJ.opt l h,fJ.mb.ch l h⟩) λh=>by rw[cU.1 h];exact⟨Iy,λo ho=>by rw[cU.1 ho];simp⟩),by first|exact .inl rfl|exact .inr ⟨_,qM _,rfl⟩|exact .inr ⟨_,qN _,rfl⟩⟩,Ix,rfl,rfl⟩,?_⟩;refine j1 [0] true NI ⟨⟨Iy,.inr rfl⟩,trivial⟩ NI NI (qL (.snap _ _ rfl ?_) (?_) (?_) (.pure rfl))
    · refine cL.mk rfl (by simp only[Bc,Rc]) (kh NI) (ig _) ?_
      rw[<- ox];refine EG (AA (my _)) ⟨⟨?_,trivial⟩,trivial⟩;refine cL.mk rfl rfl (kh NI) (ig _) ⟨⟨.lit _,.lit _,.lit _,.lit _,.lit _,?_,trivial⟩,trivial⟩;exact cL.mk rfl rfl (kh NI) (ig _) ⟨⟨.lit _,.lit _,trivial⟩,trivial⟩
    · first|exact .pure rfl|exact .eq rfl|exact .fz rfl (by simp only[Bc,Rc])
    · first|exact .pure rfl|exact .eq rfl|exact .fz rfl (by simp only[Bc,Rc])
  ·
    have kr:=gD L k2 2 (by unfold cS;omega) bd hL;have BQ:=jB (L:=L) (k:=k2) (n:=2) Ix;have fU:=eQ bd;unfold gv at *;generalize dN L k2 2=x1 at *;generalize cj L k2=k3 at *;(refine Xn [0] (kr) ?_;simp(disch:=omega)only[Ac,↓Pc,simprocAttr])
    ((try revert hK K);(refine Va X0 ?_))
    unfold eH;simp only[dx,dv];simp(disch:=omega)only[Ac,↓Pc,simprocAttr];refine⟨_,_,⟨⟨m.cls++[aJ (24+x1).toNat ⟨0,0,0,0,0,[]⟩],m.ae,m.aC,m.rules⟩,k3,⟨fJ.cls Ix NS (λl hl=>(cC.1 hl).elim (λh=>⟨fJ.opt l h,fJ.mb.ch l h⟩) λh=>by rw[cU.1 h];exact⟨by rw[mL];omega,λo ho=>by rw[AM ho];decide⟩),by first|exact .inl rfl|exact .inr ⟨_,qM _,rfl⟩|exact .inr ⟨_,qN _,rfl⟩⟩,Ix,rfl,rfl⟩,?_⟩;refine j1 [0] true NI ⟨⟨Iy,.inr rfl⟩,trivial⟩ NI NI (qL (.snap _ _ rfl ?_) (?_) (?_) (.pure rfl))
    · refine cL.mk rfl (by simp only[Bc,Rc]) (kh NI) (ig _) ?_
      rw[<- ox];refine EG (AA (my _)) ⟨⟨?_,trivial⟩,trivial⟩;refine cL.mk rfl (by rw[mL]) (kh NI) (ig _) ?_;rw[show rowsOf b6 (aJ (24+x1).toNat ⟨0,0,0,0,0,[]⟩)=aJ (24+x1).toNat (b6 ⟨0,0,0,0,0,[]⟩) by rw[rowsOf,List.map_replicate]];refine aa5 ?_ _;exact⟨.lit _,.lit _,.lit _,.lit _,.lit _,.nil 2,trivial⟩
    · first|exact .pure rfl|exact .eq rfl|exact .fz rfl (by simp only[Bc,Rc])
    · first|exact .pure rfl|exact .eq rfl|exact .fz rfl (by simp only[Bc,Rc])
def yS(c:Int)(p:Pr):Bool:=decide (p.fst≠c/\p.snd≠c)
def pE(m:ah)(c:Int):ah:=⟨m.cls.set c.toNat [],m.ae.filter (yS c),[],m.rules⟩
def agt{m:ah}(hm:VM m){c:Int}(hc:0<=c):VM (pE m c):=by
 have cH:∀ l∈(pE m c).cls,l=[]\/l∈m.cls:=λl hl=>(qU hl).symm;have key:∀ (l:List Pr) (q:Option Pr),(∀ p∈l,yS c p=true)->fj m q l=true->fj (pE m c) q l=true:=by
  intro l
  induction l with
  |nil=>intro q _ _;cases q<;>rfl
  |cons p r ih =>
   intro q ho h;rw[fj.eq_def]at h ⊢;simp only[aZ]at h ⊢;obtain⟨⟨a,b⟩,d⟩:=h;have hp:=ho p Iy;unfold yS at hp;rw[decide_eq_true_eq]at hp;refine⟨⟨?_,b⟩,ih _ (λx hx=>ho x (by simp[hx])) d⟩;have e:∀ x:Int,0<=x->x≠c->(pE m c).cls.getD x.toNat default=m.cls.getD x.toNat default:=λx h0 hx=>by
    unfold pE;dsimp only;rw[aB,List.getElem?_set_ne Ix,<- aB]
   have q:=(qA a).2;unfold gB at *;rw[e _ q.1 hp.1,e _ Ix hp.2,show(pE m c).cls.length=m.cls.length by unfold pE;simp];exact a
 refine⟨by unfold pE;simpa using hm.cls,λl hl=>?_,rY (N7 _ _) hm.ae,aT _,hm.uA,λl hl o ho=>?_,key _ _ (λp hp=>(List.mem_filter.1 hp).2) (KQ _ hm.pr),λc hc=>by cases hc⟩
 ·rcases cH l hl with rfl|h
  ·exact aT _
  ·exact hm.opt l h
 ·rcases cH l hl with rfl|h
  ·cases ho
  ·exact hm.rz l h o ho
def aa8{R:AV->AV->Prop}:∀ {a c:List (List AV)} {x y:List AV} (j:Nat),kL R a c->ju R x y->kL R (a.set j x) (c.set j y)
 |[],[],_,_,_,_,_=>trivial
 |_::_,_::_,_,_,0,h,k=>⟨k,h.2⟩
 |_::_,_::_,_,_,j+1,h,k=>⟨h.1,aa8 j h.2 k⟩
 |[],_::_,_,_,_,h,_=>h.elim
 |_::_,[],_,_,_,h,_=>h.elim
def akG{α:Type}{enc:α->List AV}{w:Nat}[Row enc w]{σ:St}{kp:Nat->Prop}(xs:List α):kL (cL σ kp) (rowsOf enc xs) (rowsOf enc xs) :=
 kL.D9 (f:=λ_=>[]) (g:=λ_=>[]) rfl λj c d hc hd=>by rw[hc]at hd;cases hd;exact YR (λv hv=>my _ _ (List.mem_of_getElem? hc) v hv) rfl
def akH{σ:St}{kp:Nat->Prop}{id n c:Nat}{cls:List (List cg)}(ho:σ.aa[id]?=some (.arr 1 ((rowsOf aQ cls).set c [.lit (.slice none 0 0)])))(hn:n=cls.length)(hk:¬ kp id):cL σ kp (.tree 1 (rowsOf aQ (cls.set c []))) (.ref id 1 0 n):=by
 have e:rowsOf aQ (cls.set c [])=(rowsOf aQ cls).set c (aQ []):=by unfold rowsOf;rw[rV]
 refine cL.mk ho (by rw[hn,bK,cf]) hk (ig _) ?_;rw[e];exact aa8 c (akG cls) ⟨.nil 6,trivial⟩
def K5(m:ah):List AV:=[.tree 1 (rowsOf aQ m.cls),.ref 0 4 0 m.ae.length,.tree 4 (rowsOf db m.aC),N0 m.rules]
def agy(m:ah)(hm:VM m)(c:Int)(hc:0<=c/\c<m.cls.length):Holds Tryz.prog 59 [.agg (ao m),N0 c] [] (.agg (K5 (pE m c))) [.arr 4 (rowsOf aH (pE m c).ae)]:=by
 have qE:=hm.cls;have oL:=hm.ae;have cI:(rowsOf aQ m.cls).length=m.cls.length:=cf _;have akI:∀ ρ,bH ρ (.arr 1 ((rowsOf aQ m.cls).set c.toNat [.lit (.slice none 0 0)]))=.arr 1 ((rowsOf aQ m.cls).set c.toNat [.lit (.slice none 0 0)]):=λρ=>by
  have h:bH ρ (.arr 1 (rowsOf aQ m.cls))=.arr 1 (rowsOf aQ m.cls):=by rw[vr]
  simp only[bH,Ob.arr.injEq,true_and]at h ⊢;rw[rV,h];simp[bf]
 have rN:∀ (xs:List Pr) (p:Pr),rowsOf aH xs++[[AV.lit (.int .i64 p.fst),AV.lit (.int .i64 p.snd),AV.lit (.int .i64 p.dL),AV.tree 1 (ints p.ax)]]=rowsOf aH (xs++[p]):=λxs p=>ox xs p;refine Holds.aK 53 0 [.cell 4 32] Tryz.func59 ?_;repeat'(first|((fail_if_success (first|refine ei 1 ?_|refine ej 1 ?_));refine Xr X0 ?_;intro K hK)|(refine hK _ ?_;clear hK K)|refine XY ?_|fail)
 refine ur ?_;intro Q hn he;refine pZ ⟨an [(1,N0 c),(2,.ptr 0 0 0),(4,.ptr 1 0 0),(5,.ptr 3 0 0)],[.var (ao m),.var [.lit (.slice none 0 0),.lit (.slice none 0 0),.lit (.slice none 0 0),N0 0],.arr 1 (rowsOf aQ m.cls),.var [.ref 2 1 0 m.cls.length,.lit (.slice none 0 0),.lit (.slice none 0 0),N0 m.rules]]⟩ hn ?_ (λkey=>?_);rotate_left
 ·refine nY [] (.take 0 (.take 1 (.three 2 (.take 3 (.take 4 (.take 5 (.take 6 (.take 7 .nil))))) 3 (.three 2 (.take 4 (.take 5 (.take 6 (.take 7 .nil)))) 4 (.both 2 (.take 5 (.take 6 (.take 7 .nil))) 6 (.take 2 (.take 5 (.take 7 .nil)))) 6 (.both 2 (.take 4 (.take 5 (.take 7 .nil))) 4 (.take 2 (.take 5 (.take 7 .nil))))) 6 (.both 2 (.take 3 (.take 4 (.take 5 (.take 7 .nil)))) 3 (.both 2 (.take 4 (.take 5 (.take 7 .nil))) 4 (.take 2 (.take 5 (.take 7 .nil)))))))) rfl NI (by decide +kernel) ?_;simp(disch:=omega)only[Ac,↓Pc,simprocAttr,Pw];repeat'(first|with_reducible refine cK ?_ ?_|omega)
  all_goals
   refine key _ ?_;first|(exact Xv X0;done)|(exact Xs false [0,1,3,2] X0)
 (try clear hn;try clear he)
 refine Vb @cI ?_;refine cr (aF.qt 3 1 4 rfl rfl NI) ?_;refine aU (λz:Nat×List Pr=>(⟨an [(1,N0 c),(2,.ptr 0 0 0),(4,.ptr 1 0 0),(5,.ptr 3 0 0),(6,N0 z.1)],[.var (ao m),.var [.lit (.slice none 0 0),.lit (.slice none 0 0),.lit (.slice none 0 0),N0 0],.arr 1 ((rowsOf aQ m.cls).set c.toNat [.lit (.slice none 0 0)]),.var [.ref 2 1 0 m.cls.length,.ref 4 4 0 z.2.length,.lit (.slice none 0 0),N0 m.rules],.arr 4 (rowsOf aH z.2)]⟩:St))
  (λz=>z.1<=m.ae.length/\z.2=(m.ae.take z.1).filter (yS c)) (λz=>m.ae.length-z.1) (0,[]) ⟨aT _,rfl⟩ (Xv X0) ?_
 rintro⟨i,xs⟩⟨hi,dq⟩Ql ak ar;dsimp only at hi dq ⊢;by_cases aq:i<m.ae.length
 ·have e9:=eZ aq;have qF:xs.length<=4000:=by
   rw[dq];exact rY (N7 _ _) (by rw[List.length_take];omega)
  generalize cu:m.ae.getD i default=p at *;have hf:(m.ae.take (i+1)).filter (yS c)=xs++if yS c p=true then [p] else []:=by
   rw[e9,List.filter_append,<- dq];congr 1;rw[List.filter_cons,List.filter_nil]
  by_cases aa9:p.fst≠c/\p.snd≠c
  ·rw[if_pos (by unfold yS;exact decide_eq_true aa9)]at hf;((repeat'(first|refine Va (X2 @cu @aH.eq_1) ?_|(refine V2 (X2 @cu @aH.eq_1) ?_ ?_<;>try with_reducible intro hb)|(refine Xi ?_ ?_<;>try intro ht)|exact Xx|fail)))
   all_goals exact ak _ (i+1,xs++[p]) ⟨NQ,hf.symm⟩ NQ (Xs false [0,1,2,3,6] (X2 @akI @rN))
  ·rw[if_neg (by unfold yS;simpa using aa9),pP]at hf;((repeat'(first|refine Va (X2 @cu @aH.eq_1) ?_|(refine V2 (X2 @cu @aH.eq_1) ?_ ?_<;>try with_reducible intro hb)|(refine Xi ?_ ?_<;>try intro ht)|exact Xx|fail)))
   all_goals exact ak _ (i+1,xs) ⟨NQ,hf.symm⟩ NQ (Xv X0)
 ·rw[List.take_of_length_le Ix]at dq;((repeat'(first|refine Va X0 ?_|(refine V2 X0 ?_ ?_<;>try with_reducible intro hb)|(refine Xi ?_ ?_<;>try intro ht)|exact Xx|fail)))
  refine ar _ _ rfl ?_;clear ak ar Ql;repeat(refine Xu ?_)
  refine Vb X0 ?_;simp(disch:=omega)only[Ac,↓Pc,simprocAttr,rowOf];have hpx:(pE m c).ae=xs:=by rw[dq];rfl
  rw[hpx];refine j1 [4] true NI ⟨⟨Iy,.inr (by rw[vr];rfl)⟩,trivial⟩ NI NI ?_;refine(bw.agg _ _ rfl (ju.spec (R:=bw _ _ _ _) (cs:=K5 (pE m c)) (ds:=[.ref 2 1 0 m.cls.length,.ref 4 4 0 xs.length,.lit (.slice none 0 0),N0 m.rules]) ⟨.snap _ _ rfl (akH rfl rfl (kh NI)),.eq (by rw[hpx];rfl),.snap _ _ rfl (.nil 4),.pure rfl,trivial⟩).2)
def rT(par:List Int)(i:Nat):Nat->List (Int×Int)
 |0=>[]
 |c+1=>rT par i c++if par.getD (i+1+c) 0=i then [((i:Int),((i+1+c:Nat):Int))] else []
def uQ(par:List Int)(n:Nat):Nat->List (Int×Int)
 |0=>[]
 |i+1=>uQ par n i++rT par i (n-(i+1))
def ctU(ch:List (Int×Int)):Prop:=ch=[]\/∃ r c,ch=[(r,c)]/\(0<=r/\r<2)/\1<=c/\c<=40
def Na(l:List cg):Prop:=∀ o∈l,ctU o.ch
def Nb(cls:List (List cg))(p:Pr):Prop:=p.dL=1/\(0<=p.fst/\p.fst<p.snd/\p.snd<cls.length)/\(p.ax.length:Int)=(cls.getD p.fst.toNat default).length*(cls.getD p.snd.toNat default).length/\∀ x∈p.ax,0<=x/\x<=38
structure Ch(m:ah)(par:List Int):Prop where
 n:1<=m.cls.length/\m.cls.length<=5
 pl:par.length=m.cls.length
 pr:∀ i,i<par.length->-1<=par.getD i 0/\par.getD i 0<i
 cl:∀ l∈m.cls,(1<=l.length/\l.length<=3)/\Na l
 fs:m.ae.map (λp=>(p.fst,p.snd))=uQ par m.cls.length m.cls.length
 pt:∀ p∈m.ae,Nb m.cls p
 ct:m.aC=[]
 ru:m.rules=2
def il(L:List Int)(k:Nat)(cls:List (List cg))(ae:List Pr)(par:List Int)(n:Nat):List Ob :=
 [.var [.tree 1 (ints L),N0 k],.var [.lit (.slice none 0 0),.lit (.slice none 0 0),.lit (.slice none 0 0),N0 0],
  .var [.ref 4 1 0 cls.length,.ref 5 4 0 ae.length,.lit (.slice none 0 0),N0 2],.arr 1 (ints (par++aJ (n-par.length) 0)),.arr 1 (rowsOf aQ cls),.arr 4 (rowsOf aH ae)]
def akJ(par:List Int)(n:Nat)(h:par.length<n)(v:Int):(par++aJ (n-par.length) 0).set par.length v=(par++[v])++aJ (n-(par++[v]).length) 0:=by
 rw[List.set_append_right _ _ (bb _),iT,show n-par.length=(n-(par.length+1))+1 by omega,List.replicate_succ,List.set_cons_zero,bF,bC];rfl
def af7(L:List Int)(k:Nat)(hk:k<=L.length)(hL:L.length<1000000):
  cQ Tryz.prog 21 [.ptr 0 0 0] [gv L k] (λr os=>∃ m par k',Ch m par/\k'<=L.length/\r=.agg (ao m)/\os=[gv L k']):=by
 unfold gv;refine cQ.aK 119 1 [.cell 2 32] Tryz.func21 ?_;((try revert hK K);(repeat'(first|refine Va X0 ?_|(refine V2 X0 ?_ ?_<;>try with_reducible intro hb)|(refine Xi ?_ ?_<;>try intro ht)|refine VD ?_ ?_|exact Xx|fail))<;>try with_reducible intro K hK)
 refine jv [0] (gD L k 5 (by unfold cS;omega) hk hL) NI ⟨rfl,trivial⟩ ⟨.eq rfl,.pure rfl,trivial⟩ ?_;have hv:=jB (L:=L) (k:=k) (n:=5) Ix;have bd:=eQ hk;generalize dN L k 5=v at *;generalize cj L k=k2 at *;clear hk;obtain⟨n,lh⟩:∃n:Nat,1+v=n:=⟨(1+v).toNat,Ix⟩;((try revert hK K);(repeat'(first|refine Va @lh ?_|(refine V2 @lh ?_ ?_<;>try with_reducible intro hb)|(refine Xi ?_ ?_<;>try intro ht)|refine VD ?_ ?_|exact Xx|fail))<;>try with_reducible intro K hK)
 refine cr (σ':=⟨an [(0,.ptr 0 0 0),(2,.ptr 1 0 0),(3,.ptr 2 0 0),(4,N0 n),(5,.ref 3 1 0 n),(6,N0 0)],il L k2 [] [] [] n⟩) ?_ ?_
 ·refine aF.trans (aF.qt 2 0 1 rfl rfl NI) ?_;refine aF.trans (aF.qt 2 1 4 rfl rfl NI) ?_;unfold il;exact Xv X0
 have hn5:1<=n/\n<=5:=Ix;(try clear lh;clear hv v)
 refine aU (λz:Nat×Nat×List (List cg)×List Int=>(⟨an [(0,.ptr 0 0 0),(2,.ptr 1 0 0),(3,.ptr 2 0 0),(4,N0 n),(5,.ref 3 1 0 n),(6,N0 z.1)],il L z.2.1 z.2.2.1 [] z.2.2.2 n⟩:St))
  (λz=>z.1<=n/\z.2.1<=L.length/\(z.2.2.1.length=z.1/\∀ l∈z.2.2.1,(1<=l.length/\l.length<=3)/\Na l)/\z.2.2.2.length=z.1/\∀ i,i<z.2.2.2.length->-1<=z.2.2.2.getD i 0/\z.2.2.2.getD i 0<i) (λz=>n-z.1) (0,k2,[],[]) ⟨aT _,bd,⟨rfl,Iy⟩,rfl,Iy⟩ (Xv X0) ?_
 clear bd k2 k;rintro⟨i,k,cls,par⟩⟨hi,hk,⟨bG,oK⟩,dD,Nc⟩Ql ak ar;dsimp only at hi hk bG oK dD Nc ⊢;unfold il;by_cases aq:i<n
 ·((try revert hK K);(repeat'(first|refine Va X0 ?_|(refine V2 X0 ?_ ?_<;>try with_reducible intro hb)|(refine Xi ?_ ?_<;>try intro ht)|refine VD ?_ ?_|exact Xx|fail))<;>try with_reducible intro K hK)
  refine jv [0] (gD L k 3 (by unfold cS;omega) hk hL) NI ⟨rfl,trivial⟩ ⟨.eq rfl,.pure rfl,trivial⟩ ?_;have hv:=jB (L:=L) (k:=k) (n:=3) Ix;have bd:=eQ hk;generalize dN L k 3=v at *;generalize cj L k=k2 at *;clear hk;obtain⟨e0,nF⟩:∃e0:Nat,1+v=e0:=⟨(1+v).toNat,Ix⟩;((try revert hK K);(repeat'(first|refine Va @nF ?_|(refine V2 @nF ?_ ?_<;>try with_reducible intro hb)|(refine Xi ?_ ?_<;>try intro ht)|refine VD ?_ ?_|exact Xx|fail))<;>try with_reducible intro K hK)
  refine aU (λz:Nat×Nat×List cg=>(⟨an [(0,.ptr 0 0 0),(2,.ptr 1 0 0),(3,.ptr 2 0 0),(4,N0 n),(5,.ref 3 1 0 n),(6,N0 i),(7,.ref 6 6 0 z.2.2.length),(8,N0 z.1)],il L z.2.1 cls [] par n++[.arr 6 (rowsOf b6 z.2.2)]⟩:St))
   (λz=>z.1+z.2.2.length=e0/\z.2.1<=L.length/\Na z.2.2) (λz=>z.1) (e0,k2,[]) ⟨Iy,bd,by intro o ho;simp at ho⟩ ?_ ?_
  ·refine aF.trans (aF.nil 7 6 (by simp only[Kc,simprocAttr]) NI) ?_;unfold il;exact Xv X0
  clear bd;rintro⟨e,k,l⟩⟨uD,hk,hl⟩c7 br bx;dsimp only at uD hk hl ⊢;unfold il;simp only[dh,ec];by_cases uh:0<e
  ·obtain⟨e',rfl⟩ :∃e',e=e'+1:=⟨e-1,Ix⟩;have kl:((e'+1:Nat):Int)-1=e':=Ix;have ot:=Bs L k 2 (by unfold cS;omega) NI hk hL;have bd:=eQ hk;generalize w0 L k 2=b at *;generalize cj L k=k2 at *;repeat'(first|((fail_if_success (first|refine ei 12 ?_|refine ej 12 ?_));refine Xr X0 ?_;intro K hK)|refine Xo X0 ?_|(refine hK _ ?_;clear hK K)|(refine Xg X0 ?_ ?_<;>try intro hb)|(refine Xi ?_ ?_<;>try intro ht)|refine Xy ?_|refine Xd ?_ ?_|exact Xx|fail)
   refine cr (σ':=⟨an [(0,.ptr 0 0 0),(2,.ptr 1 0 0),(3,.ptr 2 0 0),(4,N0 n),(5,.ref 3 1 0 n),(6,N0 i),(7,.ref 6 6 0 l.length),(8,N0 (e'+1:Nat)),(9,.ptr 7 0 0)],il L k cls [] par n++[.arr 6 (rowsOf b6 l),.var [N0 1,N0 (e'+1:Nat),N0 0,N0 1,N0 (-1),.ref 8 2 0 0],.arr 2 []]⟩) ?_ ?_
   ·refine aF.trans (aF.qt 7 5 2 rfl rfl NI) ?_;unfold il;exact Xv X0
   unfold il;simp only[dh,ec];((try revert hK K);(repeat'(first|refine Va X0 ?_|(refine V2 X0 ?_ ?_<;>try with_reducible intro hb)|(refine Xi ?_ ?_<;>try intro ht)|refine VD ?_ ?_|exact Xx|fail))<;>try with_reducible intro K hK)
   (refine Xn [0] (ot) ?_;simp(disch:=omega)only[Ac,↓Pc,simprocAttr])
   have abb:∀ (k':Nat) (ch:List (Int×Int)) (s:St),k'<=L.length->ctU ch->aF 1 s ⟨an [(0,.ptr 0 0 0),(2,.ptr 1 0 0),(3,.ptr 2 0 0),(4,N0 n),(5,.ref 3 1 0 n),(6,N0 i),(7,.ref 6 6 0 (l.length+1)),(8,N0 e')],il L k' cls [] par n++[.arr 6 (rowsOf b6 (l++[⟨1,(e'+1:Nat),0,1,-1,ch⟩]))]⟩->c7 .normal s:=λk' ch s h1 h2 h3 =>
    br _ (e',k',l++[⟨1,(e'+1:Nat),0,1,-1,ch⟩]) ⟨NS,h1,λo ho=>by
     rcases cC.1 ho with ho|ho
     ·exact hl o ho
     ·simp only[cU]at ho;subst ho;exact h2⟩ NQ (by rw[bF];exact h3)
   clear br bx;cases b with
   |true =>
    have hx1:=gD L k2 2 (by unfold cS;omega) bd hL;have ED:=jB (L:=L) (k:=k2) (n:=2) Ix;have fU:=eQ bd;generalize dN L k2 2=r1 at *;generalize cj L k2=k3 at *;have Nf:=gD L k3 40 (by unfold cS;omega) fU hL;have Cg:=jB (L:=L) (k:=k3) (n:=40) Ix;have tu:=eQ fU;generalize dN L k3 40=r2 at *;generalize cj L k3=k4 at *;((try revert hK K);(repeat'(first|refine Va X0 ?_|(refine V2 X0 ?_ ?_<;>try with_reducible intro hb)|(refine Xi ?_ ?_<;>try intro ht)|refine VD ?_ ?_|exact Xx|fail))<;>try with_reducible intro K hK)
    (refine Xn [0] (hx1) ?_;simp(disch:=omega)only[Ac,↓Pc,simprocAttr])
    (refine Xn [0] (Nf) ?_;simp(disch:=omega)only[Ac,↓Pc,simprocAttr])
    repeat'(first|((fail_if_success (first|refine ei 14 ?_|refine ej 14 ?_));refine Xr X0 ?_;intro K hK)|refine Xo X0 ?_|(refine hK _ ?_;clear hK K)|(refine Xg X0 ?_ ?_<;>try intro hb)|(refine Xi ?_ ?_<;>try intro ht)|refine Xy ?_|refine Xd ?_ ?_|exact Xx|fail)
    refine cr (aF.wW 9 7 5 2 (rows:=rowsOf dm [(r1,1+r2)]) rfl rfl rfl (ig _) (my _)) ?_;refine cr (σ':=⟨an [(0,.ptr 0 0 0),(2,.ptr 1 0 0),(3,.ptr 2 0 0),(4,N0 n),(5,.ref 3 1 0 n),(6,N0 i),(7,.ref 6 6 0 l.length),(8,N0 (e'+1:Nat)),(9,.ptr 7 0 0)],il L k4 cls [] par n++[.arr 6 (rowsOf b6 l),.var (b6 ⟨1,(e'+1:Nat),0,1,-1,[(r1,1+r2)]⟩),.arr 2 [],.gone]⟩) (by unfold il;exact Xv @b6.eq_1) ?_;unfold il;simp only[dh,ec];((try revert hK K);(repeat'(first|refine Va (X2 @b6.eq_1 @kl) ?_|(refine V2 (X2 @b6.eq_1 @kl) ?_ ?_<;>try with_reducible intro hb)|(refine Xi ?_ ?_<;>try intro ht)|refine VD ?_ ?_|exact Xx|fail))<;>try with_reducible intro K hK)
    refine abb k4 [(r1,1+r2)] _ tu (.inr ⟨r1,1+r2,rfl,ED,Ix,Ix⟩) ?_;unfold il;simp only[dh,ec];rw[show rowsOf b6 l++[[AV.lit (.int .i64 1),AV.lit (.int .i64 (e'+1:Nat)),AV.lit (.int .i64 0),AV.lit (.int .i64 1),AV.lit (.int .i64 (-1)),AV.tree 2 (rowsOf dm [(r1,1+r2)])]]=rowsOf b6 (l++[⟨1,(e'+1:Nat),0,1,-1,[(r1,1+r2)]⟩]) from ox (enc:=b6) l ⟨1,(e'+1:Nat),0,1,-1,[(r1,1+r2)]⟩];exact Xs false [0,1,2,3,4,5,11] X0
   |false =>
    repeat'(first|((fail_if_success (first|refine ei 14 ?_|refine ej 14 ?_));refine Xr X0 ?_;intro K hK)|refine Xo X0 ?_|(refine hK _ ?_;clear hK K)|(refine Xg X0 ?_ ?_<;>try intro hb)|(refine Xi ?_ ?_<;>try intro ht)|refine Xy ?_|refine Xd ?_ ?_|exact Xx|fail)
    refine cr (aF.wW 8 7 5 2 (rows:=rowsOf dm []) rfl rfl rfl (ig _) (my _)) ?_;refine cr (σ':=⟨an [(0,.ptr 0 0 0),(2,.ptr 1 0 0),(3,.ptr 2 0 0),(4,N0 n),(5,.ref 3 1 0 n),(6,N0 i),(7,.ref 6 6 0 l.length),(8,N0 (e'+1:Nat)),(9,.ptr 7 0 0)],il L k2 cls [] par n++[.arr 6 (rowsOf b6 l),.var (b6 ⟨1,(e'+1:Nat),0,1,-1,[]⟩),.gone]⟩) (by unfold il;exact Xv @b6.eq_1) ?_;unfold il;simp only[dh,ec];((try revert hK K);(repeat'(first|refine Va (X2 @b6.eq_1 @kl) ?_|(refine V2 (X2 @b6.eq_1 @kl) ?_ ?_<;>try with_reducible intro hb)|(refine Xi ?_ ?_<;>try intro ht)|refine VD ?_ ?_|exact Xx|fail))<;>try with_reducible intro K hK)
    refine abb k2 [] _ bd (.inl rfl) ?_;unfold il;simp only[dh,ec];rw[show rowsOf b6 l++[[AV.lit (.int .i64 1),AV.lit (.int .i64 (e'+1:Nat)),AV.lit (.int .i64 0),AV.lit (.int .i64 1),AV.lit (.int .i64 (-1)),AV.tree 2 (rowsOf dm [])]]=rowsOf b6 (l++[⟨1,(e'+1:Nat),0,1,-1,[]⟩]) from ox (enc:=b6) l ⟨1,(e'+1:Nat),0,1,-1,[]⟩];exact Xs false [0,1,2,3,4,5,10] X0
  ·obtain rfl:e=0:=Ix;((try revert hK K);(repeat'(first|refine Va X0 ?_|(refine V2 X0 ?_ ?_<;>try with_reducible intro hb)|(refine Xi ?_ ?_<;>try intro ht)|refine VD ?_ ?_|exact Xx|fail))<;>try with_reducible intro K hK)
   refine bx _ _ rfl ?_;clear br bx c7;repeat(first|refine Xu ?_)
   refine cr (σ':=⟨an [(0,.ptr 0 0 0),(2,.ptr 1 0 0),(3,.ptr 2 0 0),(4,N0 n),(5,.ref 3 1 0 n),(6,N0 i),(7,.tree 6 (rowsOf b6 l))],il L k cls [] par n⟩) ?_ ?_
   ·unfold il;exact Xs true [0,1,2,3,4,5] X0
   unfold il;have kr:=gD L k (i+1) (by unfold cS;omega) hk hL;have BQ:=jB (L:=L) (k:=k) (n:=i+1) Ix;have bd:=eQ hk;generalize dN L k (i+1)=w at *;generalize cj L k=k2 at *;have Ic:(par++aJ (n-par.length) 0).length=n:=NS;have iL:=akJ par n Ix (w-1);rw[dD]at iL Ic;rw[dD];have FU:((i+1:Nat):Int)=(i:Int)+1:=Ix;((try revert hK K);(repeat'(first|refine Va X0 ?_|(refine V2 X0 ?_ ?_<;>try with_reducible intro hb)|(refine Xi ?_ ?_<;>try intro ht)|refine VD ?_ ?_|exact Xx|fail))<;>try with_reducible intro K hK)
   (refine Xn [0] (kr) ?_;simp(disch:=omega)only[Ac,↓Pc,simprocAttr,Ic,iL])
   repeat'(first|with_reducible refine cK ?_ ?_|omega|with_reducible rfl)
   ((try revert hK K);(repeat'(first|refine Va (X2 @Ic @iL) ?_|(refine V2 (X2 @Ic @iL) ?_ ?_<;>try with_reducible intro hb)|(refine Xi ?_ ?_<;>try intro ht)|refine VD ?_ ?_|exact Xx|fail))<;>try with_reducible intro K hK)
   all_goals try(exfalso;omega)
   refine ak _ (i+1,k2,cls++[l],par++[w-1]) ⟨NQ,bd,⟨NS,λx hx=>?_⟩,NS,λa ha=>?_⟩ NQ ?_
   ·rcases cC.1 hx with hx|hx
    ·exact oK x hx
    ·simp only[cU]at hx;subst hx;exact⟨⟨Ix,Ix⟩,hl⟩
   ·dsimp only at ha ⊢;rw[bF,AL]at ha;by_cases ha2:a<par.length
    ·rw[aB,List.getElem?_append_left ha2,<- aB];exact Nc a ha2
    ·obtain rfl:a=par.length:=Ix;rw[aB,List.getElem?_append_right (bb _),iT];show -1<=w-1/\w-1<_;omega
   ·unfold il;rw[show rowsOf aQ cls++[[AV.tree 6 (rowsOf b6 l)]]=rowsOf aQ (cls++[l]) from ox (enc:=aQ) cls l];exact Xs false [0,1,2,3,7,5] X0
 ·obtain rfl:i=n:=Ix;((try revert hK K);(repeat'(first|refine Va X0 ?_|(refine V2 X0 ?_ ?_<;>try with_reducible intro hb)|(refine Xi ?_ ?_<;>try intro ht)|refine VD ?_ ?_|exact Xx|fail))<;>try with_reducible intro K hK)
  refine ar _ _ rfl ?_;clear ak ar Ql;repeat(first|refine Xu ?_)
  rw[dD,iT,AQ,pP];have lS:=hn5;have nQ:∀ k ae,il L k cls ae par i=[.var [.tree 1 (ints L),N0 k],.var [.lit (.slice none 0 0),.lit (.slice none 0 0),.lit (.slice none 0 0),N0 0],.var [.ref 4 1 0 cls.length,.ref 5 4 0 ae.length,.lit (.slice none 0 0),N0 2],.arr 1 (ints par),.arr 1 (rowsOf aQ cls),.arr 4 (rowsOf aH ae)]:=λk ae=>by
   unfold il;rw[dD,iT,AQ,pP]
  have ta:∀ a,(cls.getD a default).length<=3:=λa=>by
   rcases Nat.lt_or_ge a cls.length with h|h
   ·exact((oK _ (aG (d:=default) h)).1).2
   ·rw[aB,List.getElem?_eq_none h];decide
  ((try revert hK K);(repeat'(first|refine Va X0 ?_|(refine V2 X0 ?_ ?_<;>try with_reducible intro hb)|(refine Xi ?_ ?_<;>try intro ht)|refine VD ?_ ?_|exact Xx|fail))<;>try with_reducible intro K hK)
  refine aU (λz:Nat×Nat×List Pr=>(⟨an [(0,.ptr 0 0 0),(2,.ptr 1 0 0),(3,.ptr 2 0 0),(4,N0 i),(5,.ref 3 1 0 i),(10,N0 z.1)],il L z.2.1 cls z.2.2 par i⟩:St))
   (λz=>z.1<=i/\z.2.1<=L.length/\(z.2.2.map (λp=>(p.fst,p.snd))=uQ par i z.1/\z.2.2.length<=5*z.1)/\∀ p∈z.2.2,Nb cls p) (λz=>i-z.1) (0,k,[]) ⟨aT _,hk,⟨rfl,Iy⟩,Iy⟩ (by rw[nQ];exact Xv X0) ?_
  clear hk k;rintro⟨a,k,ae⟩⟨ha,hk,⟨iz,Ci⟩,oO⟩Ql ak ar;dsimp only at ha hk iz Ci oO ⊢;by_cases oE:a<i
  ·rw[nQ];((try revert hK K);(repeat'(first|refine Va X0 ?_|(refine V2 X0 ?_ ?_<;>try with_reducible intro hb)|(refine Xi ?_ ?_<;>try intro ht)|refine VD ?_ ?_|exact Xx|fail))<;>try with_reducible intro K hK)
   refine aU (λz:Nat×Nat×List Pr=>(⟨an [(0,.ptr 0 0 0),(2,.ptr 1 0 0),(3,.ptr 2 0 0),(4,N0 i),(5,.ref 3 1 0 i),(10,N0 a),(11,N0 z.1)],il L z.2.1 cls z.2.2 par i⟩:St))
    (λz=>(a+1<=z.1/\z.1<=i)/\z.2.1<=L.length/\(z.2.2.map (λp=>(p.fst,p.snd))=uQ par i a++rT par a (z.1-(a+1))/\z.2.2.length<=5*a+(z.1-(a+1)))/\∀ p∈z.2.2,Nb cls p) (λz=>i-z.1) (a+1,k,ae) ⟨⟨bb _,NQ⟩,hk,⟨by dsimp only;rw[iT];simp[rT,iz],NQ⟩,oO⟩ (by rw[nQ];exact Xv X0) ?_
   clear hk iz Ci oO;rintro⟨q,k,ae⟩⟨⟨tB,Hl⟩,hk,⟨iz,Ci⟩,oO⟩c7 br bx;dsimp only at tB Hl hk iz Ci oO ⊢;rw[nQ];by_cases vA:q<i
   ·have Ie:rT par a (q+1-(a+1))=rT par a (q-(a+1))++if par.getD q 0=a then [((a:Int),(q:Int))] else []:=by
     rw[show q+1-(a+1)=(q-(a+1))+1 by omega,rT,show a+1+(q-(a+1))=q by omega]
    generalize Ag:par.getD q 0=pq at *;by_cases MO:pq=a
    ·rw[if_pos MO]at Ie;have s1:=ta a;have s2:=ta q;generalize Ng:cls.getD a default=ca at *;generalize Eg:cls.getD q default=cq at *;repeat'(first|((fail_if_success (first|refine ei 25 ?_|refine ej 25 ?_));refine Xr (X2 @Ag @dD) ?_;intro K hK)|refine Xo (X2 @Ag @dD) ?_|(refine hK _ ?_;clear hK K)|(refine Xg (X2 @Ag @dD) ?_ ?_<;>try intro hb)|(refine Xi ?_ ?_<;>try intro ht)|refine Xy ?_|refine Xd ?_ ?_|exact Xx|fail)
     all_goals try(exfalso;omega)
     refine cr (σ':=⟨an [(0,.ptr 0 0 0),(2,.ptr 1 0 0),(3,.ptr 2 0 0),(4,N0 i),(5,.ref 3 1 0 i),(10,N0 a),(11,N0 q),(12,.ptr 6 0 0)],il L k cls ae par i++[.var [N0 a,N0 q,N0 1,.ref 7 1 0 0],.arr 1 []]⟩) ?_ ?_
     ·refine aF.trans (aF.qt 6 3 1 rfl rfl NI) ?_;rw[nQ];exact Xv X0
     rw[nQ];simp only[dh,ec];have hP9:ca.length*cq.length<=9:=u6 s1 s2;have Nh:(ca.length:Int)*(cq.length:Int)=((ca.length*cq.length:Nat):Int):=by push_cast;rfl
     generalize hPP:ca.length*cq.length=P0 at *;((try revert hK K);(repeat'(first|refine Va (X4 @Ng @Eg @aQ.eq_1 @Nh) ?_|(refine V2 (X4 @Ng @Eg @aQ.eq_1 @Nh) ?_ ?_<;>try with_reducible intro hb)|(refine Xi ?_ ?_<;>try intro ht)|refine VD ?_ ?_|exact Xx|fail))<;>try with_reducible intro K hK)
     refine aU (λz:Nat×Nat×List Int=>(⟨an [(0,.ptr 0 0 0),(2,.ptr 1 0 0),(3,.ptr 2 0 0),(4,N0 i),(5,.ref 3 1 0 i),(10,N0 a),(11,N0 q),(12,.ptr 6 0 0),(13,N0 z.1)],il L z.2.1 cls ae par i++[.var [N0 a,N0 q,N0 1,.ref 7 1 0 z.2.2.length],.arr 1 (ints z.2.2)]⟩:St))
      (λz=>z.1+z.2.2.length=P0/\z.2.1<=L.length/\∀ x∈z.2.2,0<=x/\x<=38) (λz=>z.1) (P0,k,[]) ⟨Iy,hk,Iy⟩ (by rw[nQ];exact Xv X0) ?_
     clear hk;rintro⟨j,k,ax⟩⟨hj,hk,uM⟩mC gG fI;dsimp only at hj hk uM ⊢;rw[nQ];simp only[dh,ec];by_cases hj0:0<j
     ·obtain⟨j',rfl⟩ :∃j',j=j'+1:=⟨j-1,Ix⟩;have zy:((j'+1:Nat):Int)-1=j':=Ix;have hx1:=gD L k 3 (by unfold cS;omega) hk hL;have ED:=jB (L:=L) (k:=k) (n:=3) Ix;have fU:=eQ hk;generalize dN L k 3=r1 at *;generalize cj L k=k3 at *;have Nf:=gD L k3 20 (by unfold cS;omega) fU hL;have Cg:=jB (L:=L) (k:=k3) (n:=20) Ix;have tu:=eQ fU;generalize dN L k3 20=r2 at *;generalize cj L k3=k4 at *;have hmul:0<=r1*r2/\r1*r2<=38:=⟨Int.mul_nonneg Ix Ix,by
       have:=pT (show r1<=2 by omega) (show r2<=19 by omega) Cg.1 Ix;omega⟩
      generalize gq:r1*r2=rr at *;repeat'(first|((fail_if_success (first|refine ei 28 ?_|refine ej 28 ?_));refine Xr X0 ?_;intro K hK)|refine Xo X0 ?_|(refine hK _ ?_;clear hK K)|(refine Xg X0 ?_ ?_<;>try intro hb)|(refine Xi ?_ ?_<;>try intro ht)|refine Xy ?_|refine Xd ?_ ?_|exact Xx|fail)
      all_goals try(exfalso;omega)
      refine Ht (λs=>aF 1 s ⟨an [(0,.ptr 0 0 0),(2,.ptr 1 0 0),(3,.ptr 2 0 0),(4,N0 i),(5,.ref 3 1 0 i),(10,N0 a),(11,N0 q),(12,.ptr 6 0 0),(13,N0 (j'+1:Nat))],il L k4 cls ae par i++[.var [N0 a,N0 q,N0 1,.ref 9 1 0 (ax.length+1)],.gone,.arr 1 [[N0 rr]],.arr 1 (ints (ax++[rr]))]⟩) ?_ ?_
      ·rintro s hs;repeat(first|refine Xu ?_)
       refine cr hs ?_;rw[nQ];simp only[dh,ec];((try revert hK K);(repeat'(first|refine Va @zy ?_|(refine V2 @zy ?_ ?_<;>try with_reducible intro hb)|(refine Xi ?_ ?_<;>try intro ht)|refine VD ?_ ?_|exact Xx|fail))<;>try with_reducible intro K hK)
       refine gG _ (j',k4,ax++[rr]) ⟨NS,tu,λx hx=>?_⟩ NQ ?_
       ·rcases cC.1 hx with hx|hx
        ·exact uM x hx
        ·simp only[cU]at hx;subst hx;exact hmul
       ·rw[nQ];simp only[dh,ec];exact Xs false [0,1,2,3,4,5,6,9] X0
      intro QQ key;clear gG fI;refine Gs 0 [] [3,5] (.take 0 (.take 1 (.take 2 (.take 3 (.take 4 (.take 5 (.take 6 (.take 7 (.take 8 (.take 9 (.take 10 .nil))))))))))) rfl NI (by decide +kernel) ?_;simp(disch:=omega)only[Ac,↓Pc,simprocAttr,Hc,eY];repeat'(first|with_reducible refine cK ?_ ?_|omega|with_reducible rfl|(refine yl (hx1) rfl rfl rfl rfl (by(repeat'(first|exact trivial|refine cK ?_ ?_))<;>first|exact .inl ⟨rfl,rfl⟩|exact .inr ⟨rfl,rfl⟩) ?_;simp(disch:=omega)only[Ac,↓Pc,simprocAttr,Hc,eY,gq])|(refine yl (Nf) rfl rfl rfl rfl (by(repeat'(first|exact trivial|refine cK ?_ ?_))<;>first|exact .inl ⟨rfl,rfl⟩|exact .inr ⟨rfl,rfl⟩) ?_;simp(disch:=omega)only[Ac,↓Pc,simprocAttr,Hc,eY,gq]))
      all_goals refine key _ ?_
      all_goals rw[nQ]
      all_goals simp only[dh,ec]
      all_goals exact Xv X0
     ·obtain rfl:j=0:=Ix;((try revert hK K);(repeat'(first|refine Va X0 ?_|(refine V2 X0 ?_ ?_<;>try with_reducible intro hb)|(refine Xi ?_ ?_<;>try intro ht)|refine VD ?_ ?_|exact Xx|fail))<;>try with_reducible intro K hK)
      refine fI _ _ rfl ?_;clear gG fI mC;repeat(first|refine Xu ?_)
      refine cr (aF.wW 7 6 3 1 (rows:=ints ax) rfl rfl (by rw[wL];rfl) (tY _) (wN _)) ?_;refine cr (σ':=⟨an [(0,.ptr 0 0 0),(2,.ptr 1 0 0),(3,.ptr 2 0 0),(4,N0 i),(5,.ref 3 1 0 i),(10,N0 a),(11,N0 q),(12,.ptr 6 0 0)],il L k cls ae par i++[.var (aH ⟨a,q,1,ax⟩),.gone]⟩) (by rw[nQ];exact Xv @aH.eq_1) ?_;rw[nQ];simp only[dh,ec];have am4:ae.length<100:=Ix;((try revert hK K);(repeat'(first|refine Va @aH.eq_1 ?_|(refine V2 @aH.eq_1 ?_ ?_<;>try with_reducible intro hb)|(refine Xi ?_ ?_<;>try intro ht)|refine VD ?_ ?_|exact Xx|fail))<;>try with_reducible intro K hK)
      refine br _ (q+1,k,ae++[⟨a,q,1,ax⟩]) ⟨⟨NQ,NQ⟩,hk,⟨by dsimp only;rw[List.map_append,iz,Ie,bC];rfl,by dsimp only;rw[bF];simp only[dt,List.length_nil];omega⟩,λx hx=>?_⟩ NQ ?_
      ·rcases cC.1 hx with hx|hx
       ·exact oO x hx
       ·simp only[cU]at hx;subst hx;refine⟨rfl,⟨NQ,NQ,NQ⟩,?_,uM⟩;dsimp only;rw[ep,ep,Ng,Eg,Nh];omega
      ·rw[nQ];rw[show rowsOf aH ae++[[AV.lit (.int .i64 a),AV.lit (.int .i64 q),AV.lit (.int .i64 1),AV.tree 1 (ints ax)]]=rowsOf aH (ae++[⟨a,q,1,ax⟩]) from ox (enc:=aH) ae ⟨a,q,1,ax⟩];exact Xs false [0,1,2,3,4,9] X0
    ·rw[if_neg MO,pP]at Ie;((try revert hK K);(repeat'(first|refine Va (X2 @Ag @dD) ?_|(refine V2 (X2 @Ag @dD) ?_ ?_<;>try with_reducible intro hb)|(refine Xi ?_ ?_<;>try intro ht)|refine VD ?_ ?_|exact Xx|fail))<;>try with_reducible intro K hK)
     all_goals try(exfalso;omega)
     exact br _ (q+1,k,ae) ⟨⟨NQ,NQ⟩,hk,⟨by dsimp only;rw[Ie];exact iz,NQ⟩,oO⟩ NQ (by rw[nQ];exact Xv X0)
   ·obtain rfl:q=i:=Ix;((try revert hK K);(repeat'(first|refine Va X0 ?_|(refine V2 X0 ?_ ?_<;>try with_reducible intro hb)|(refine Xi ?_ ?_<;>try intro ht)|refine VD ?_ ?_|exact Xx|fail))<;>try with_reducible intro K hK)
    refine bx _ _ rfl ?_;clear br bx c7;repeat(first|refine Xu ?_)
    ((try revert hK K);(repeat'(first|refine Va X0 ?_|(refine V2 X0 ?_ ?_<;>try with_reducible intro hb)|(refine Xi ?_ ?_<;>try intro ht)|refine VD ?_ ?_|exact Xx|fail))<;>try with_reducible intro K hK)
    exact ak _ (a+1,k,ae) ⟨NQ,hk,⟨by dsimp only;rw[uQ];exact iz,NQ⟩,oO⟩ NQ (by rw[nQ];exact Xv X0)
  ·obtain rfl:a=i:=Ix;rw[nQ];((try revert hK K);(repeat'(first|refine Va X0 ?_|(refine V2 X0 ?_ ?_<;>try with_reducible intro hb)|(refine Xi ?_ ?_<;>try intro ht)|refine VD ?_ ?_|exact Xx|fail))<;>try with_reducible intro K hK)
   refine ar _ _ rfl ?_;clear ak ar Ql;repeat(first|refine Xu ?_)
   ((try revert hK K);(repeat'(first|refine Vb X0 ?_|(refine V2 X0 ?_ ?_<;>try with_reducible intro hb)|(refine Xi ?_ ?_<;>try intro ht)|refine VD ?_ ?_|exact Xx|fail))<;>try with_reducible intro K hK)
   have hTr:Ch ⟨cls,ae,[],2⟩ par:=⟨NQ,NQ,Nc,oK,by dsimp only;rw[bG];exact iz,oO,rfl,rfl⟩;unfold eH;simp only[dx,dv];simp(disch:=omega)only[Ac,↓Pc,simprocAttr];refine⟨_,_,⟨⟨cls,ae,[],2⟩,par,k,hTr,hk,rfl,rfl⟩,?_⟩;refine j1 [0] true NI ⟨⟨Iy,.inr rfl⟩,trivial⟩ NI NI (bw.agg _ _ rfl (ju.spec (R:=bw _ _ _ _) (cs:=ao ⟨cls,ae,[],2⟩) (ds:=[.ref 4 1 0 cls.length,.ref 5 4 0 ae.length,.lit (.slice none 0 0),N0 2]) ⟨?_,?_,.snap _ _ rfl (cL.nil 4),.pure rfl,trivial⟩).2)
   ·first|exact .pure rfl|exact .eq rfl|exact .fz rfl (by simp only[Bc,Rc])
   ·first|exact .pure rfl|exact .eq rfl|exact .fz rfl (by simp only[Bc,Rc])
def Cj(a b:Int×Int):Prop:=a.1<b.1\/(a.1=b.1/\a.2<b.2)
def Ig(par:List Int)(i:Nat):∀ c,∀ q∈rT par i c,q.1=(i:Int)/\q.2<((i+1+c:Nat):Int)
 |0,q,h=>by cases h
 |c+1,q,h=>by
  rw[rT,cC]at h;rcases h with h|h
  ·have:=Ig par i c q h;omega
  ·split at h
   ·rw[cU]at h;subst h;dsimp only;omega
   ·cases h
def abd(par:List Int)(n:Nat):∀ i,∀ q∈uQ par n i,q.1<(i:Int)
 |0,q,h=>by cases h
 |i+1,q,h=>by
  rw[uQ,cC]at h;rcases h with h|h
  ·have:=abd par n i q h;omega
  ·have:=(Ig par i _ q h).1;omega
def abe(par:List Int)(i:Nat):∀ c,(rT par i c).Pairwise Cj
 |0=>.nil
 |c+1=>by
  rw[rT,List.pairwise_append];refine⟨abe par i c,by split<;>simp,λa ha b hb=>?_⟩;have h1:=Ig par i c a ha;split at hb
  ·rw[cU]at hb;subst hb;exact .inr ⟨h1.1,h1.2⟩
  ·cases hb
def abf(par:List Int)(n:Nat):∀ i,(uQ par n i).Pairwise Cj
 |0=>.nil
 |i+1=>by
  rw[uQ,List.pairwise_append];refine⟨abf par n i,abe par i _,λa ha b hb=>.inl ?_⟩;have h1:=abd par n i a ha;have h2:=(Ig par i _ b hb).1;omega
def abg(par:List Int)(i:Nat):∀ c,(rT par i c).length<=c
 |0=>bb _
 |c+1=>by
  rw[rT,bF];have:=abg par i c;split<;>simp<;>omega
def abh(par:List Int)(n:Nat):∀ i,(uQ par n i).length<=i*n
 |0=>by rw[Nat.zero_mul];exact bb _
 |i+1=>by
  rw[uQ,bF,Nat.succ_mul];have:=abh par n i;have:=abg par i (n-(i+1));omega
def abi{m:ah}:∀ (l:List Pr) (q:Option Pr),(∀ p∈l,gB m p=true/\p.dL=1)->l.Pairwise (λa b=>Cj (a.fst,a.snd) (b.fst,b.snd))->(∀ p,q=some p->p.dL=1/\∀ x∈l.head?,Cj (p.fst,p.snd) (x.fst,x.snd))->fj m q l=true
 |[],q,_,_,_=>by cases q<;>rfl
 |p::r,q,h,hp,hq=>by
  rw[List.pairwise_cons]at hp;have ih:=abi r (some p) (λx hx=>h x (dI _ hx)) hp.2 λy hy=>by
   cases hy;exact⟨(h p Iy).2,λx hx=>hp.1 x (List.mem_of_mem_head? hx)⟩
  have h1:=h p Iy;cases q with
  |none=>rw[fj,ih,h1.1];rfl
  |some q =>
   rw[fj,ih,h1.1,Bool.and_true,Bool.true_and,decide_eq_true_eq];obtain⟨h2,h3⟩:=hq q rfl;have h4:=h3 p rfl;unfold mX;rw[h2,h1.2];unfold Cj at h4;dsimp only at h4;unfold j5;simp only[qx];repeat' split
   all_goals omega
def Ch.vm{m:ah}{par:List Int}(h:Ch m par):VM m:=by
 have iy:m.ae.length<=25:=by
  have h1:=congrArg List.length h.fs;rw[List.length_map]at h1;have h2:=abh par m.cls.length m.cls.length;have h3:m.cls.length*m.cls.length<=5*5:=u6 h.n.2 h.n.2;omega
 have Mb:m.ae.Pairwise (λa b=>Cj (a.fst,a.snd) (b.fst,b.snd)):=by
  have h1:=abf par m.cls.length m.cls.length;rw[<- h.fs,List.pairwise_map]at h1;exact h1
 refine⟨by have:=h.n;omega,λl hl=>by have:=(h.cl l hl).1;omega,Ix,by rw[h.ct];decide,by rw[h.ru];decide,λl hl o ho=>?_,abi _ _ (λp hp=>?_) Mb (λp hp=>by cases hp),λc hc=>by rw[h.ct]at hc;cases hc⟩
 ·rcases(h.cl l hl).2 o ho with h1|⟨r,c,h1,h2,h3⟩
  ·rw[h1];rfl
  ·rw[h1,h.ru];unfold eh jA jk eh;simp;omega
 ·obtain⟨h1,h2,h3,h4⟩:=h.pt p hp;refine⟨?_,h1⟩;unfold gB jA;rw[h1,h.ru];simp only[aZ,Bool.not_eq_true',decide_eq_true_eq];refine⟨⟨NI,Ix,h2.2.1,h2.2.2,h3⟩,?_⟩;rw[<- Bool.not_eq_true,List.any_eq_true];rintro⟨x,hx,hb⟩;have:=h4 x hx;unfold oB jk at hb;simp at hb;omega
def Ch.KS{m:ah}{par:List Int}(h:Ch m par):kf 5 m:=⟨h.vm.mb,h.n.2,λl hl=>by have:=(h.cl l hl).1;omega⟩
def vL:List (List cg)->Nat
 |[]=>1
 |l::r=>max 1 l.length*vL r
def KR{b:Nat}(hb:1<=b):∀ cls:List (List cg),(∀ l∈cls,l.length<=b)->vL cls<=b^cls.length
 |[],_=>bb _
 |l::r,h=>by
  rw[vL,dt,Nat.pow_succ,Nat.mul_comm];exact u6 (KR hb r λx hx=>h x (dI _ hx)) (by have:=h l Iy;omega)
def Xm(x:List cg):∀ cls:List (List cg),vL (cls++[x])=vL cls*max 1 x.length
 |[]=>by simp[vL]
 |l::r=>by rw[dh,vL,vL,Xm x r,Nat.mul_assoc]
structure DE(m:ah):Prop where
 om:kf 5 m
 cap:vL m.cls<10000
def DE.of{m:ah}(h:kf 5 m)(h4:∀ l∈m.cls,l.length<=4):DE m :=
 ⟨h,Nat.lt_of_le_of_lt (KR NI _ h4) (Nat.lt_of_le_of_lt (Nat.pow_le_pow_right NI h.pD) NI)⟩
end T

