import Derived.Test.YtfoopmojjjpapaaGreatX47
import Derived.Test.YtfoopmojjjpapaaGreatX40
set_option linter.all false
set_option maxHeartbeats 0
set_option maxRecDepth 20000
open List renaming replicate→aJ,mem_singleton→cU,eq_of_mem_replicate→AJ,mem_append→cB,mem_or_eq_of_mem_set→qT,length_append→bE,length_singleton→AI,length_set→bK,length_replicate→mL,getD_eq_getElem?_getD→aB,length_filter_le→N4,map_set→rV,append_nil→pO,append_assoc→bC,cons_append→dq,nil_append→ec,replicate_zero→AN
open Int renaming mul_le_mul→pS,toNat_natCast→ep
open Nat renaming le_trans→rX,zero_le→aT,le_refl→bc,sub_self→iT,mul_le_mul→xE
open And renaming intro→cJ
open Bool renaming and_eq_true→aZ
open Go Go.Am Go.Proofs
namespace T
def unB{P:Program}{N n0:Nat}{σ:St}{Q:Exit->St->Prop}{x:Code}{id:Nat}(h:∀ Q':Exit->St->Prop,(∀ s,Q .normal s->Q' .normal s)->W P N n0 x Q' σ):W P N n0 x (Bq id Q) σ:=h _ .n
def aaZ{σ:St}{kp:Nat->Prop}:∀ {l:List AV},(∀ v∈l,(∃ x,v=AV.lit x)\/∃ s r,v=AV.tree s r)->ju (cK σ kp) l l
 |[],_=>trivial
 |v::l,h=>⟨by rcases h v Iw with⟨x,rfl⟩|⟨s,r,rfl⟩;exact .lit _;exact .tree _ _,aaZ λx hx=>h x (by simp[hx])⟩
def Ay{σ:St}{kp:Nat->Prop}:∀ {rows:List (List AV)},(∀ row∈rows,∀ v∈row,(∃ x,v=AV.lit x)\/∃ s r,v=AV.tree s r)->kL (cK σ kp) rows rows
 |[],_=>trivial
 |r::rows,h=>⟨aaZ (h r Iw),Ay λx hx=>h x (by simp[hx])⟩
def ED{R:AV->AV->Prop}:∀ {a c:List (List AV)} {b d:List (List AV)},kL R a c->kL R b d->kL R (a++b) (c++d)
 |[],[],_,_,_,k=>k
 |_::_,_::_,_,_,h,k=>⟨h.1,ED h.2 k⟩
 |[],_::_,_,_,h,_=>h.elim
 |_::_,[],_,_,h,_=>h.elim
def akA{R:AV->AV->Prop}:∀ {a c:List (List AV)} {x y:List AV},kL R a c->ju R x y->kL R (a.set 0 x) (c.set 0 y)
 |[],[],_,_,_,_=>trivial
 |_::_,_::_,_,_,h,k=>⟨k,h.2⟩
 |[],_::_,_,_,h,_=>h.elim
 |_::_,[],_,_,h,_=>h.elim
def aa0{R:AV->AV->Prop}{x y:List AV}(h:ju R x y):∀ n,kL R (aJ n x) (aJ n y)
 |0=>trivial
 |n+1=>⟨h,aa0 h n⟩
def akB{m:ah}(h:VM m){p:Pr}(hp:p∈m.ae):p.ax.length<=576:=by
 obtain⟨_,h1,h2,h3,h4⟩:=qz (jQ h.pr p hp);have a:=h.opt _ (aG (l:=m.cls) (i:=p.fst.toNat) (d:=default) Iv);have b:=h.opt _ (aG (l:=m.cls) (i:=p.snd.toNat) (d:=default) Iv);have:((m.cls.getD p.fst.toNat default).length:Int)*(m.cls.getD p.snd.toNat default).length<=24*24:=pS Iv Iv Iv Iv;omega
def qK{σ:St}{kp:Nat->Prop}{ρ:Nat->Nat}{snap:Bool}{a b c d a' b' c' d':AV}(h1:bw σ kp ρ snap a a')(h2:bw σ kp ρ snap b b')(h3:bw σ kp ρ snap c c')(h4:bw σ kp ρ snap d d'):bw σ kp ρ snap (.agg [a,b,c,d]) (.agg [a',b',c',d']) :=
 .agg _ _ rfl (ju.spec (R:=bw σ kp ρ snap) (cs:=[a,b,c,d]) (ds:=[a',b',c',d']) ⟨h1,h2,h3,h4,trivial⟩).2
structure jF(q:Nat)(m:ah):Prop where
 mb:MB m
 rF:m.cls.length<=q
 opt:∀ l∈m.cls,l.length<=25
abbrev OM(m:ah):Prop:=jF 25 m
def jF.mono{q r:Nat}{m:ah}(h:jF q m)(hr:q<=r):jF r m:=⟨h.mb,rX h.rF hr,h.opt⟩
def jF.rules{q:Nat}{m:ah}(h:jF q m)(r:Int):jF q ⟨m.cls,m.ae,m.aC,r⟩:=⟨⟨h.mb.cls,h.mb.opt,h.mb.ch,h.mb.ae,h.mb.ax,h.mb.aC,h.mb.lk⟩,h.rF,h.opt⟩
def jF.ae{q:Nat}{m:ah}(h:jF q m){l:List Pr}(h1:l.length<9223372036854775808)(h2:∀ p∈l,p.ax.length<9223372036854775808):jF q ⟨m.cls,l,m.aC,m.rules⟩:=⟨⟨h.mb.cls,h.mb.opt,h.mb.ch,h1,h2,h.mb.aC,h.mb.lk⟩,h.rF,h.opt⟩
def jF.aC{q:Nat}{m:ah}(h:jF q m){l:List Ct}(h1:l.length<9223372036854775808)(h2:∀ p∈l,p.aY.length<9223372036854775808):jF q ⟨m.cls,m.ae,l,m.rules⟩:=⟨⟨h.mb.cls,h.mb.opt,h.mb.ch,h.mb.ae,h.mb.ax,h1,h2⟩,h.rF,h.opt⟩
def jF.cls{q:Nat}{m:ah}(h:jF q m)(hq:q<=25){l:List (List cE)}(h1:l.length<=q)(h2:∀ x∈l,x.length<=25/\∀ o∈x,o.ch.length<9223372036854775808):jF q ⟨l,m.ae,m.aC,m.rules⟩ :=
 ⟨⟨NN,λx hx=>by have:=(h2 x hx).1;omega,λx hx=>(h2 x hx).2,h.mb.ae,h.mb.ax,h.mb.aC,h.mb.lk⟩,h1,λx hx=>(h2 x hx).1⟩
def VM.om{m:ah}(h:VM m):OM m:=⟨h.mb,by have:=h.cls;omega,λl hl=>by have:=h.opt l hl;omega⟩
def VM.KP{m:ah}(h:VM m){q:Nat}(hl:m.cls.length<=q):jF q m:=⟨h.mb,hl,λl hl=>by have:=h.opt l hl;omega⟩
def qL(c:List (Int×Int)):∀ o∈[(⟨0,0,0,0,0,c⟩:cE)],o.wk<=3:=λo ho=>by
 rw[cU]at ho;subst ho;show(0:Int)<=3;decide
def qM(n:Nat):∀ o∈aJ n (⟨0,0,0,0,0,[]⟩:cE),o.wk<=3:=λo ho=>by
 rw[AJ ho];show(0:Int)<=3;decide
structure OMx(q:Nat)(m m':ah):Prop where
 om:jF (q+1) m'
 cl:m'.cls=m.cls\/∃ x,(∀ o∈x,o.wk<=3)/\m'.cls=m.cls++[x]
def jF.pin{q:Nat}{m:ah}(h:jF q m)(hp:0<m.ae.length):(m.ae.getD 0 default).ax.length<9223372036854775808:=h.mb.ax _ (aG hp)
def akD(q:Nat)(aa2:q<=24)(L:List Int)(k:Nat)(m:ah)(hm:VM m)(hq:m.cls.length<=q)(hk:k<=L.length)(hL:L.length<1000000):
    cL Tryz.prog 36 [.ptr 0 0 0,.agg (ao m)] [fV L k] (λr os=>∃ m' k',OMx q m m'/\k'<=L.length/\r=.agg (ao m')/\os=[fV L k']):=by
  have h1:=hm.cls;have h2:=hm.opt;have h3:=hm.ae;have h4:=hm.aC;have fJ:jF (q+1) m:=hm.KP Iv;have h8:=gD L k 8 (by unfold cS;omega) hk hL;have h8r:=jB (L:=L) (k:=k) (n:=8) Iv;have bb:=eQ hk;have r4:List.range 4=[0,1,2,3]:=NF;unfold fV at *;generalize dL L k 8=j at *;generalize cg L k=k2 at *;refine cL.aK 126 1 [.cell 4 32] Tryz.func36 ?_;((refine Va X0 ?_)<;>try with_reducible intro K hK)
  (refine Xn [0] (h8) ?_;simp(disch:=omega)only[Ac,↓Pc,simprocAttr])
  ((try revert hK K);(repeat'(first|refine Va @r4 ?_|(refine Xi ?_ ?_<;>try intro ht)|fail))<;>try with_reducible intro K hK)
  ·
    have kr:=gD L k2 4 (by unfold cS;omega) bb hL;have BM:=jB (L:=L) (k:=k2) (n:=4) Iv;have fU:=eQ bb;unfold fV at *;generalize dL L k2 4=i at *;generalize cg L k2=k3 at *;(refine Xn [0] (kr) ?_;simp(disch:=omega)only[Ac,↓Pc,simprocAttr,r4])
    have hi:i=0\/i=1\/i=2\/i=3:=Iv;rcases hi with rfl|rfl|rfl|rfl
    · simp(disch:=omega)only[Ac,↓Pc,simprocAttr]
      ((try revert hK K);(refine Va X0 ?_))
      unfold eH;simp only[dx,du];simp(disch:=omega)only[Ac,↓Pc,simprocAttr];refine⟨_,_,⟨⟨m.cls,m.ae,m.aC,-1⟩,k3,⟨fJ.rules _,by first|exact .inl rfl|exact .inr ⟨_,qL _,rfl⟩|exact .inr ⟨_,qM _,rfl⟩⟩,Iv,rfl,rfl⟩,?_⟩;refine j2 [0] true NF ⟨⟨Iw,.inr rfl⟩,trivial⟩ NF NF (qK (bw.pure rfl) (?_) (?_) (.pure rfl));all_goals first|exact .pure rfl|exact .eq rfl|exact .fz rfl (by simp only[Bc,Rc])
    · simp(disch:=omega)only[Ac,↓Pc,simprocAttr]
      ((try revert hK K);(refine Va X0 ?_))
      unfold eH;simp only[dx,du];simp(disch:=omega)only[Ac,↓Pc,simprocAttr];refine⟨_,_,⟨⟨m.cls,m.ae,m.aC,0⟩,k3,⟨fJ.rules _,by first|exact .inl rfl|exact .inr ⟨_,qL _,rfl⟩|exact .inr ⟨_,qM _,rfl⟩⟩,Iv,rfl,rfl⟩,?_⟩;refine j2 [0] true NF ⟨⟨Iw,.inr rfl⟩,trivial⟩ NF NF (qK (bw.pure rfl) (?_) (?_) (.pure rfl));all_goals first|exact .pure rfl|exact .eq rfl|exact .fz rfl (by simp only[Bc,Rc])
    · simp(disch:=omega)only[Ac,↓Pc,simprocAttr]
      ((try revert hK K);(refine Va X0 ?_))
      unfold eH;simp only[dx,du];simp(disch:=omega)only[Ac,↓Pc,simprocAttr];refine⟨_,_,⟨⟨m.cls,m.ae,m.aC,56⟩,k3,⟨fJ.rules _,by first|exact .inl rfl|exact .inr ⟨_,qL _,rfl⟩|exact .inr ⟨_,qM _,rfl⟩⟩,Iv,rfl,rfl⟩,?_⟩;refine j2 [0] true NF ⟨⟨Iw,.inr rfl⟩,trivial⟩ NF NF (qK (bw.pure rfl) (?_) (?_) (.pure rfl));all_goals first|exact .pure rfl|exact .eq rfl|exact .fz rfl (by simp only[Bc,Rc])
    · simp(disch:=omega)only[Ac,↓Pc,simprocAttr]
      ((try revert hK K);(refine Va X0 ?_))
      unfold eH;simp only[dx,du];simp(disch:=omega)only[Ac,↓Pc,simprocAttr];refine⟨_,_,⟨⟨m.cls,m.ae,m.aC,57⟩,k3,⟨fJ.rules _,by first|exact .inl rfl|exact .inr ⟨_,qL _,rfl⟩|exact .inr ⟨_,qM _,rfl⟩⟩,Iv,rfl,rfl⟩,?_⟩;refine j2 [0] true NF ⟨⟨Iw,.inr rfl⟩,trivial⟩ NF NF (qK (bw.pure rfl) (?_) (?_) (.pure rfl));all_goals first|exact .pure rfl|exact .eq rfl|exact .fz rfl (by simp only[Bc,Rc])
  ·
    have e:=ox (enc:=aH) m.ae (m.ae.getD 0 default);simp only[aH]at e;rw[e];unfold eH;simp only[dx,du];simp(disch:=omega)only[Ac,↓Pc,simprocAttr];refine⟨_,_,⟨⟨m.cls,m.ae++[m.ae.getD 0 default],m.aC,m.rules⟩,k2,⟨fJ.ae NP (λp hp=>(cB.1 hp).elim (fJ.mb.ax p) λh=>by rw[cU.1 h];exact fJ.pin Iv),by first|exact .inl rfl|exact .inr ⟨_,qL _,rfl⟩|exact .inr ⟨_,qM _,rfl⟩⟩,Iv,rfl,rfl⟩,?_⟩;refine j2 [0] true NF ⟨⟨Iw,.inr rfl⟩,trivial⟩ NF NF (qK (bw.pure rfl) (?_) (?_) (.pure rfl));all_goals first|exact .pure rfl|exact .eq rfl|exact .fz rfl (by simp only[Bc,Rc])
  ·
    unfold eH;simp only[dx,du];simp(disch:=omega)only[Ac,↓Pc,simprocAttr];refine⟨_,_,⟨m,k2,⟨fJ,by first|exact .inl rfl|exact .inr ⟨_,qL _,rfl⟩|exact .inr ⟨_,qM _,rfl⟩⟩,Iv,rfl,rfl⟩,?_⟩;refine j2 [0] true NF ⟨⟨Iw,.inr rfl⟩,trivial⟩ NF NF (qK (bw.pure rfl) (?_) (?_) (.pure rfl));all_goals first|exact .pure rfl|exact .eq rfl|exact .fz rfl (by simp only[Bc,Rc])
  ·
    have kr:=gD L k2 2 (by unfold cS;omega) bb hL;have BM:=jB (L:=L) (k:=k2) (n:=2) Iv;have fU:=eQ bb;have amW:(m.ae.getD 0 default).ax.length<=576:=akB hm (aG Iv);unfold fV at *;generalize dL L k2 2=x1 at *;generalize cg L k2=k3 at *;refine unB ?_;intro Qb dC;refine pY ⟨an [(3,.ptr 1 0 0),(4,.ptr 2 0 0)],[.var [.tree 1 (ints L),NX k3],.var [.tree 1 (rowsOf aQ m.cls),.ref 3 4 0 m.ae.length,.ref 4 4 0 m.aC.length,NX m.rules],
      .var [.lit (.slice none 0 0),.lit (.slice none 0 0),.lit (.slice none 0 0),NX 0],
      .arr 4 ((rowsOf aH m.ae).set 0 [NX (m.ae.getD 0 default).fst,NX (m.ae.getD 0 default).snd,NX (m.ae.getD 0 default).dK,.ref 6 1 0 (1+(m.ae.getD 0 default).ax.length)]),
      .arr 4 (rowsOf db m.aC),.gone,.arr 1 ([NX (x1-1)]::ints (m.ae.getD 0 default).ax)]⟩ (λs h=>dC _ (hn _ h)) ?_ (λkey=>?_)
    rotate_left
    · refine Gp 0 [] [3] (.take 2 (.take 6 (.take 7 (.take 8 (.take 9 (.take 10 (.both 0 (.both 1 (.take 3 (.take 4 (.take 5 (.take 11 (.take 12 (.take 13 (.take 14 .nil))))))) 3 (.take 4 (.both 1 (.take 5 (.take 11 (.take 12 (.take 13 (.take 14 .nil))))) 5 (.both 1 (.take 11 (.take 12 (.take 13 (.take 14 .nil)))) 11 (.take 1 (.take 12 (.take 13 (.take 14 .nil)))))))) 3 (.take 4 (.both 0 (.both 1 (.take 5 (.take 11 (.take 12 (.take 13 (.take 14 .nil))))) 5 (.both 1 (.take 11 (.take 12 (.take 13 (.take 14 .nil)))) 11 (.take 1 (.take 12 (.take 13 (.take 14 .nil)))))) 5 (.both 0 (.both 1 (.take 11 (.take 12 (.take 13 (.take 14 .nil)))) 11 (.take 1 (.take 12 (.take 13 (.take 14 .nil))))) 11 (.take 0 (.take 1 (.take 12 (.take 13 (.take 14 .nil))))))))))))))) rfl NF (by decide +kernel) ?_
      simp(disch:=omega)only[Ac,↓Pc,simprocAttr,Hc,eY];repeat'(first|with_reducible refine cJ ?_ ?_|omega|(refine yj (kr) rfl rfl rfl rfl (by(repeat'(first|exact trivial|refine cJ ?_ ?_))<;>first|exact .inl ⟨rfl,rfl⟩|exact .inr ⟨rfl,rfl⟩) ?_;simp(disch:=omega)only[Ac,↓Pc,simprocAttr,Hc,eY]))
      all_goals refine key _ ?_
      all_goals exact Xv X0
    refine Va X0 ?_;unfold eH;simp only[dx,du];simp(disch:=omega)only[Ac,↓Pc,simprocAttr];refine⟨_,_,⟨⟨m.cls,m.ae.set 0 ⟨(m.ae.getD 0 default).fst,(m.ae.getD 0 default).snd,(m.ae.getD 0 default).dK,[x1-1]++(m.ae.getD 0 default).ax⟩,m.aC,m.rules⟩,k3,⟨fJ.ae NP (λp hp=>(qT hp).elim (fJ.mb.ax p) λh=>by rw[h];show([x1-1]++(m.ae.getD 0 default).ax).length<_;rw[bE,AI];omega),by first|exact .inl rfl|exact .inr ⟨_,qL _,rfl⟩|exact .inr ⟨_,qM _,rfl⟩⟩,Iv,rfl,rfl⟩,?_⟩;refine j2 [0] true NF ⟨⟨Iw,.inr rfl⟩,trivial⟩ NF NF (qK (bw.pure rfl) (.snap _ _ rfl ?_) (?_) (.pure rfl))
    · refine cK.mk rfl (by simp only[Bc,Rc,bK]) (kh NF) (ig _) ?_
      rw[<- Qt];exact akA (Ay (my _)) ⟨.lit _,.lit _,.lit _,cK.mk rfl (by simp[ints];omega) (kh NF) (tY _) (Ay (wK ([x1-1]++(m.ae.getD 0 default).ax))),trivial⟩
    · first|exact .pure rfl|exact .eq rfl|exact .fz rfl (by simp only[Bc,Rc])
  ·
    unfold eH;simp only[dx,du];simp(disch:=omega)only[Ac,↓Pc,simprocAttr];refine⟨_,_,⟨m,k2,⟨fJ,by first|exact .inl rfl|exact .inr ⟨_,qL _,rfl⟩|exact .inr ⟨_,qM _,rfl⟩⟩,Iv,rfl,rfl⟩,?_⟩;refine j2 [0] true NF ⟨⟨Iw,.inr rfl⟩,trivial⟩ NF NF (qK (bw.pure rfl) (?_) (?_) (.pure rfl));all_goals first|exact .pure rfl|exact .eq rfl|exact .fz rfl (by simp only[Bc,Rc])
  ·
    have e:=Qt (enc:=aH) m.ae 0 ⟨(m.ae.getD 0 default).fst,(m.ae.getD 0 default).fst,(m.ae.getD 0 default).dK,(m.ae.getD 0 default).ax⟩;simp only[aH]at e;rw[e];unfold eH;simp only[dx,du];simp(disch:=omega)only[Ac,↓Pc,simprocAttr];refine⟨_,_,⟨⟨m.cls,m.ae.set 0 ⟨(m.ae.getD 0 default).fst,(m.ae.getD 0 default).fst,(m.ae.getD 0 default).dK,(m.ae.getD 0 default).ax⟩,m.aC,m.rules⟩,k2,⟨fJ.ae NP (λp hp=>(qT hp).elim (fJ.mb.ax p) λh=>by rw[h];exact fJ.pin Iv),by first|exact .inl rfl|exact .inr ⟨_,qL _,rfl⟩|exact .inr ⟨_,qM _,rfl⟩⟩,Iv,rfl,rfl⟩,?_⟩;refine j2 [0] true NF ⟨⟨Iw,.inr rfl⟩,trivial⟩ NF NF (qK (bw.pure rfl) (?_) (?_) (.pure rfl));all_goals first|exact .pure rfl|exact .eq rfl|exact .fz rfl (by simp only[Bc,Rc])
  ·
    unfold eH;simp only[dx,du];simp(disch:=omega)only[Ac,↓Pc,simprocAttr];refine⟨_,_,⟨m,k2,⟨fJ,by first|exact .inl rfl|exact .inr ⟨_,qL _,rfl⟩|exact .inr ⟨_,qM _,rfl⟩⟩,Iv,rfl,rfl⟩,?_⟩;refine j2 [0] true NF ⟨⟨Iw,.inr rfl⟩,trivial⟩ NF NF (qK (bw.pure rfl) (?_) (?_) (.pure rfl));all_goals first|exact .pure rfl|exact .eq rfl|exact .fz rfl (by simp only[Bc,Rc])
  ·
    unfold eH;simp only[dx,du];simp(disch:=omega)only[Ac,↓Pc,simprocAttr];refine⟨_,_,⟨⟨m.cls,m.ae,m.aC++[⟨0,[],-1,1⟩],m.rules⟩,k2,⟨fJ.aC NP (λp hp=>(cB.1 hp).elim (fJ.mb.lk p) λh=>by rw[cU.1 h];decide),by first|exact .inl rfl|exact .inr ⟨_,qL _,rfl⟩|exact .inr ⟨_,qM _,rfl⟩⟩,Iv,rfl,rfl⟩,?_⟩;refine j2 [0] true NF ⟨⟨Iw,.inr rfl⟩,trivial⟩ NF NF (qK (bw.pure rfl) (?_) (.snap _ _ rfl ?_) (.pure rfl))
    · first|exact .pure rfl|exact .eq rfl|exact .fz rfl (by simp only[Bc,Rc])
    · refine cK.mk rfl (by simp only[Bc,Rc]) (kh NF) (ig _) ?_
      rw[<- ox];exact ED (Ay (my _)) ⟨⟨.lit _,.nil 3,.lit _,.lit _,trivial⟩,trivial⟩
  ·
    have M6:=gD L k2 3 (by unfold cS;omega) bb hL;have fU:=eQ bb;have kr:=gD L (cg L k2) 4 (by unfold cS;omega) fU hL;have tq:=eQ fU;have EE:=gD L (cg L (cg L k2)) 2 (by unfold cS;omega) tq hL;have hk5:=eQ tq;have M7:=gD L (cg L (cg L (cg L k2))) 2 (by unfold cS;omega) hk5 hL;have hk6:=eQ hk5;unfold fV at *;generalize dL L k2 3=x1 at *;generalize cg L k2=k3 at *;generalize dL L k3 4=x2 at *;generalize cg L k3=k4 at *;generalize dL L k4 2=x3 at *;generalize cg L k4=k5 at *;generalize dL L k5 2=x4 at *;generalize cg L k5=k6 at *;refine unB ?_;intro Qb dC;refine pY ⟨an [(3,.ptr 1 0 0),(4,.ptr 2 0 0)],[.var [.tree 1 (ints L),NX k6],.var [.tree 1 (rowsOf aQ m.cls),.ref 3 4 0 m.ae.length,.ref 7 4 0 (m.aC.length+1),NX m.rules],
      .var [.lit (.slice none 0 0),.lit (.slice none 0 0),.lit (.slice none 0 0),NX 0],.arr 4 (rowsOf aH m.ae),.gone,.arr 3 [[NX x1,NX x2,NX x3]],
      .arr 4 [[NX 0,.ref 5 3 0 1,NX 0,NX x4]],.arr 4 (rowsOf db m.aC++[[NX 0,.ref 5 3 0 1,NX 0,NX x4]])]⟩ (λs h=>dC _ (hn _ h)) ?_ (λkey=>?_)
    rotate_left
    · refine Gp 0 [] [3,5,7,11] (.take 0 (.take 1 (.take 2 (.take 3 (.take 4 (.take 5 (.take 6 (.take 7 (.take 8 (.take 10 (.both 9 (.take 11 (.take 12 (.take 13 (.take 14 (.take 15 (.take 16 .nil)))))) 11 (.take 9 (.take 12 (.take 13 (.take 14 (.take 15 (.take 16 .nil))))))))))))))))) rfl NF (by decide +kernel) ?_
      simp(disch:=omega)only[Ac,↓Pc,simprocAttr,Hc,eY];repeat'(first|with_reducible refine cJ ?_ ?_|omega|(refine yj (M6) rfl rfl rfl rfl (by(repeat'(first|exact trivial|refine cJ ?_ ?_))<;>first|exact .inl ⟨rfl,rfl⟩|exact .inr ⟨rfl,rfl⟩) ?_;simp(disch:=omega)only[Ac,↓Pc,simprocAttr,Hc,eY])|(refine yj (kr) rfl rfl rfl rfl (by(repeat'(first|exact trivial|refine cJ ?_ ?_))<;>first|exact .inl ⟨rfl,rfl⟩|exact .inr ⟨rfl,rfl⟩) ?_;simp(disch:=omega)only[Ac,↓Pc,simprocAttr,Hc,eY])|(refine yj (EE) rfl rfl rfl rfl (by(repeat'(first|exact trivial|refine cJ ?_ ?_))<;>first|exact .inl ⟨rfl,rfl⟩|exact .inr ⟨rfl,rfl⟩) ?_;simp(disch:=omega)only[Ac,↓Pc,simprocAttr,Hc,eY])|(refine yj (M7) rfl rfl rfl rfl (by(repeat'(first|exact trivial|refine cJ ?_ ?_))<;>first|exact .inl ⟨rfl,rfl⟩|exact .inr ⟨rfl,rfl⟩) ?_;simp(disch:=omega)only[Ac,↓Pc,simprocAttr,Hc,eY]))
      all_goals refine key _ ?_
      all_goals exact Xv X0
    refine Va X0 ?_;unfold eH;simp only[dx,du];simp(disch:=omega)only[Ac,↓Pc,simprocAttr];refine⟨_,_,⟨⟨m.cls,m.ae,m.aC++[⟨0,[⟨x1,x2,x3⟩],0,x4⟩],m.rules⟩,k6,⟨fJ.aC NP (λp hp=>(cB.1 hp).elim (fJ.mb.lk p) λh=>by rw[cU.1 h];simp),by first|exact .inl rfl|exact .inr ⟨_,qL _,rfl⟩|exact .inr ⟨_,qM _,rfl⟩⟩,Iv,rfl,rfl⟩,?_⟩;refine j2 [0] true NF ⟨⟨Iw,.inr rfl⟩,trivial⟩ NF NF (qK (bw.pure rfl) (?_) (.snap _ _ rfl ?_) (.pure rfl))
    · first|exact .pure rfl|exact .eq rfl|exact .fz rfl (by simp only[Bc,Rc])
    · refine cK.mk rfl (by simp only[Bc,Rc]) (kh NF) (ig _) ?_
      rw[<- ox];exact ED (Ay (my _)) ⟨⟨.lit _,cK.mk rfl rfl (kh NF) (ig _) ⟨⟨.lit _,.lit _,.lit _,trivial⟩,trivial⟩,.lit _,.lit _,trivial⟩,trivial⟩
  ·
    have kr:=gD L k2 5 (by unfold cS;omega) bb hL;have fU:=eQ bb;have EE:=gD L (cg L k2) 2 (by unfold cS;omega) fU hL;have tq:=eQ fU;unfold fV at *;generalize dL L k2 5=x1 at *;generalize cg L k2=k3 at *;generalize dL L k3 2=x2 at *;generalize cg L k3=k4 at *;(refine Xn [0] (kr) ?_;simp(disch:=omega)only[Ac,↓Pc,simprocAttr])
    (refine Xn [0] (EE) ?_;simp(disch:=omega)only[Ac,↓Pc,simprocAttr])
    ((try revert hK K);(refine Va X0 ?_))
    unfold eH;simp only[dx,du];simp(disch:=omega)only[Ac,↓Pc,simprocAttr];refine⟨_,_,⟨⟨m.cls++[[⟨0,0,0,0,0,[(x1,x2)]⟩]],m.ae,m.aC,m.rules⟩,k4,⟨fJ.cls Iv NP (λl hl=>(cB.1 hl).elim (λh=>⟨fJ.opt l h,fJ.mb.ch l h⟩) λh=>by rw[cU.1 h];exact⟨Iw,λo ho=>by rw[cU.1 ho];simp⟩),by first|exact .inl rfl|exact .inr ⟨_,qL _,rfl⟩|exact .inr ⟨_,qM _,rfl⟩⟩,Iv,rfl,rfl⟩,?_⟩;refine j2 [0] true NF ⟨⟨Iw,.inr rfl⟩,trivial⟩ NF NF (qK (.snap _ _ rfl ?_) (?_) (?_) (.pure rfl))
    · refine cK.mk rfl (by simp only[Bc,Rc]) (kh NF) (ig _) ?_
      rw[<- ox];refine ED (Ay (my _)) ⟨⟨?_,trivial⟩,trivial⟩;refine cK.mk rfl rfl (kh NF) (ig _) ⟨⟨.lit _,.lit _,.lit _,.lit _,.lit _,?_,trivial⟩,trivial⟩;exact cK.mk rfl rfl (kh NF) (ig _) ⟨⟨.lit _,.lit _,trivial⟩,trivial⟩
    · first|exact .pure rfl|exact .eq rfl|exact .fz rfl (by simp only[Bc,Rc])
    · first|exact .pure rfl|exact .eq rfl|exact .fz rfl (by simp only[Bc,Rc])
  ·
    have kr:=gD L k2 2 (by unfold cS;omega) bb hL;have BM:=jB (L:=L) (k:=k2) (n:=2) Iv;have fU:=eQ bb;unfold fV at *;generalize dL L k2 2=x1 at *;generalize cg L k2=k3 at *;(refine Xn [0] (kr) ?_;simp(disch:=omega)only[Ac,↓Pc,simprocAttr])
    ((try revert hK K);(refine Va X0 ?_))
    unfold eH;simp only[dx,du];simp(disch:=omega)only[Ac,↓Pc,simprocAttr];refine⟨_,_,⟨⟨m.cls++[aJ (24+x1).toNat ⟨0,0,0,0,0,[]⟩],m.ae,m.aC,m.rules⟩,k3,⟨fJ.cls Iv NP (λl hl=>(cB.1 hl).elim (λh=>⟨fJ.opt l h,fJ.mb.ch l h⟩) λh=>by rw[cU.1 h];exact⟨by rw[mL];omega,λo ho=>by rw[AJ ho];decide⟩),by first|exact .inl rfl|exact .inr ⟨_,qL _,rfl⟩|exact .inr ⟨_,qM _,rfl⟩⟩,Iv,rfl,rfl⟩,?_⟩;refine j2 [0] true NF ⟨⟨Iw,.inr rfl⟩,trivial⟩ NF NF (qK (.snap _ _ rfl ?_) (?_) (?_) (.pure rfl))
    · refine cK.mk rfl (by simp only[Bc,Rc]) (kh NF) (ig _) ?_
      rw[<- ox];refine ED (Ay (my _)) ⟨⟨?_,trivial⟩,trivial⟩;refine cK.mk rfl (by rw[mL]) (kh NF) (ig _) ?_;rw[show rowsOf b6 (aJ (24+x1).toNat ⟨0,0,0,0,0,[]⟩)=aJ (24+x1).toNat (b6 ⟨0,0,0,0,0,[]⟩) by rw[rowsOf,List.map_replicate]];refine aa0 ?_ _;exact⟨.lit _,.lit _,.lit _,.lit _,.lit _,.nil 2,trivial⟩
    · first|exact .pure rfl|exact .eq rfl|exact .fz rfl (by simp only[Bc,Rc])
    · first|exact .pure rfl|exact .eq rfl|exact .fz rfl (by simp only[Bc,Rc])
def af2(q:Nat)(aa2:q<=24)(L:List Int)(k:Nat)(m:ah)(hm:VM m)(hq:m.cls.length<=q)(hk:k<=L.length)(hL:L.length<1000000):
  cL Tryz.prog 36 [.ptr 0 0 0,.agg (ao m)] [fV L k] (λr os=>∃ m' k',jF (q+1) m'/\k'<=L.length/\r=.agg (ao m')/\os=[fV L k']) :=
 (akD q aa2 L k m hm hq hk hL).mono λ_ _ ⟨m',k',h,r⟩=>⟨m',k',h.om,r⟩
def yQ(c:Int)(p:Pr):Bool:=decide (p.fst≠c/\p.snd≠c)
def pD(m:ah)(c:Int):ah:=⟨m.cls.set c.toNat [],m.ae.filter (yQ c),[],m.rules⟩
def agp{m:ah}(hm:VM m){c:Int}(hc:0<=c):VM (pD m c):=by
 have cH:∀ l∈(pD m c).cls,l=[]\/l∈m.cls:=λl hl=>(qT hl).symm;have key:∀ (l:List Pr) (q:Option Pr),(∀ p∈l,yQ c p=true)->fj m q l=true->fj (pD m c) q l=true:=by
  intro l
  induction l with
  |nil=>intro q _ _;cases q<;>rfl
  |cons p r ih =>
   intro q ho h;rw[fj.eq_def]at h ⊢;simp only[aZ]at h ⊢;obtain⟨⟨a,b⟩,d⟩:=h;have hp:=ho p Iw;unfold yQ at hp;rw[decide_eq_true_eq]at hp;refine⟨⟨?_,b⟩,ih _ (λx hx=>ho x (by simp[hx])) d⟩;have e:∀ x:Int,0<=x->x≠c->(pD m c).cls.getD x.toNat default=m.cls.getD x.toNat default:=λx h0 hx=>by
    unfold pD;dsimp only;rw[aB,List.getElem?_set_ne Iv,<- aB]
   have q:=(qz a).2;unfold gB at *;rw[e _ q.1 hp.1,e _ Iv hp.2,show(pD m c).cls.length=m.cls.length by unfold pD;simp];exact a
 refine⟨by unfold pD;simpa using hm.cls,λl hl=>?_,rX (N4 _ _) hm.ae,aT _,hm.uA,λl hl o ho=>?_,key _ _ (λp hp=>(List.mem_filter.1 hp).2) (KO _ hm.pr),λc hc=>by cases hc⟩
 ·rcases cH l hl with rfl|h
  ·exact aT _
  ·exact hm.opt l h
 ·rcases cH l hl with rfl|h
  ·cases ho
  ·exact hm.ry l h o ho
def aa4{R:AV->AV->Prop}:∀ {a c:List (List AV)} {x y:List AV} (j:Nat),kL R a c->ju R x y->kL R (a.set j x) (c.set j y)
 |[],[],_,_,_,_,_=>trivial
 |_::_,_::_,_,_,0,h,k=>⟨k,h.2⟩
 |_::_,_::_,_,_,j+1,h,k=>⟨h.1,aa4 j h.2 k⟩
 |[],_::_,_,_,_,h,_=>h.elim
 |_::_,[],_,_,_,h,_=>h.elim
def akE{α:Type}{enc:α->List AV}{w:Nat}[Row enc w]{σ:St}{kp:Nat->Prop}(xs:List α):kL (cK σ kp) (rowsOf enc xs) (rowsOf enc xs) :=
 kL.D6 (f:=λ_=>[]) (g:=λ_=>[]) rfl λj c d hc hd=>by rw[hc]at hd;cases hd;exact YN (λv hv=>my _ _ (List.mem_of_getElem? hc) v hv) rfl
def akF{σ:St}{kp:Nat->Prop}{id n c:Nat}{cls:List (List cE)}(ho:σ.aa[id]?=some (.arr 1 ((rowsOf aQ cls).set c [.lit (.slice none 0 0)])))(hn:n=cls.length)(hk:¬ kp id):cK σ kp (.tree 1 (rowsOf aQ (cls.set c []))) (.ref id 1 0 n):=by
 have e:rowsOf aQ (cls.set c [])=(rowsOf aQ cls).set c (aQ []):=by unfold rowsOf;rw[rV]
 refine cK.mk ho (by rw[hn,bK,cf]) hk (ig _) ?_;rw[e];exact aa4 c (akE cls) ⟨.nil 6,trivial⟩
def KZ(m:ah):List AV:=[.tree 1 (rowsOf aQ m.cls),.ref 0 4 0 m.ae.length,.tree 4 (rowsOf db m.aC),NX m.rules]
def agu(m:ah)(hm:VM m)(c:Int)(hc:0<=c/\c<m.cls.length):Holds Tryz.prog 59 [.agg (ao m),NX c] [] (.agg (KZ (pD m c))) [.arr 4 (rowsOf aH (pD m c).ae)]:=by
 have qD:=hm.cls;have oL:=hm.ae;have cQ:(rowsOf aQ m.cls).length=m.cls.length:=cf _;have akG:∀ ρ,bH ρ (.arr 1 ((rowsOf aQ m.cls).set c.toNat [.lit (.slice none 0 0)]))=.arr 1 ((rowsOf aQ m.cls).set c.toNat [.lit (.slice none 0 0)]):=λρ=>by
  have h:bH ρ (.arr 1 (rowsOf aQ m.cls))=.arr 1 (rowsOf aQ m.cls):=by rw[vq]
  simp only[bH,Ob.arr.injEq,true_and]at h ⊢;rw[rV,h];simp[bf]
 have rN:∀ (xs:List Pr) (p:Pr),rowsOf aH xs++[[AV.lit (.int .i64 p.fst),AV.lit (.int .i64 p.snd),AV.lit (.int .i64 p.dK),AV.tree 1 (ints p.ax)]]=rowsOf aH (xs++[p]):=λxs p=>ox xs p;refine Holds.aK 53 0 [.cell 4 32] Tryz.func59 ?_;repeat'(first|((fail_if_success (first|refine ei 1 ?_|refine ej 1 ?_));refine Xr X0 ?_;intro K hK)|(refine hK _ ?_;clear hK K)|refine XY ?_|fail)
 refine ur ?_;intro Q hn he;refine pY ⟨an [(1,NX c),(2,.ptr 0 0 0),(4,.ptr 1 0 0),(5,.ptr 3 0 0)],[.var (ao m),.var [.lit (.slice none 0 0),.lit (.slice none 0 0),.lit (.slice none 0 0),NX 0],.arr 1 (rowsOf aQ m.cls),.var [.ref 2 1 0 m.cls.length,.lit (.slice none 0 0),.lit (.slice none 0 0),NX m.rules]]⟩ hn ?_ (λkey=>?_);rotate_left
 ·refine nY [] (.take 0 (.take 1 (.three 2 (.take 3 (.take 4 (.take 5 (.take 6 (.take 7 .nil))))) 3 (.three 2 (.take 4 (.take 5 (.take 6 (.take 7 .nil)))) 4 (.both 2 (.take 5 (.take 6 (.take 7 .nil))) 6 (.take 2 (.take 5 (.take 7 .nil)))) 6 (.both 2 (.take 4 (.take 5 (.take 7 .nil))) 4 (.take 2 (.take 5 (.take 7 .nil))))) 6 (.both 2 (.take 3 (.take 4 (.take 5 (.take 7 .nil)))) 3 (.both 2 (.take 4 (.take 5 (.take 7 .nil))) 4 (.take 2 (.take 5 (.take 7 .nil)))))))) rfl NF (by decide +kernel) ?_;simp(disch:=omega)only[Ac,↓Pc,simprocAttr,Pw];repeat'(first|with_reducible refine cJ ?_ ?_|omega)
  all_goals
   refine key _ ?_;first|(exact Xv X0;done)|(exact Xs false [0,1,3,2] X0)
 (try clear hn;try clear he)
 refine Vb @cQ ?_;refine cp (aF.qq 3 1 4 rfl rfl NF) ?_;refine aU (λz:Nat×List Pr=>(⟨an [(1,NX c),(2,.ptr 0 0 0),(4,.ptr 1 0 0),(5,.ptr 3 0 0),(6,NX z.1)],[.var (ao m),.var [.lit (.slice none 0 0),.lit (.slice none 0 0),.lit (.slice none 0 0),NX 0],.arr 1 ((rowsOf aQ m.cls).set c.toNat [.lit (.slice none 0 0)]),.var [.ref 2 1 0 m.cls.length,.ref 4 4 0 z.2.length,.lit (.slice none 0 0),NX m.rules],.arr 4 (rowsOf aH z.2)]⟩:St))
  (λz=>z.1<=m.ae.length/\z.2=(m.ae.take z.1).filter (yQ c)) (λz=>m.ae.length-z.1) (0,[]) ⟨aT _,rfl⟩ (Xv X0) ?_
 rintro⟨i,xs⟩⟨hi,dp⟩Ql ak ar;dsimp only at hi dp ⊢;by_cases aq:i<m.ae.length
 ·have e9:=eZ aq;have qE:xs.length<=4000:=by
   rw[dp];exact rX (N4 _ _) (by rw[List.length_take];omega)
  generalize cr:m.ae.getD i default=p at *;have hf:(m.ae.take (i+1)).filter (yQ c)=xs++if yQ c p=true then [p] else []:=by
   rw[e9,List.filter_append,<- dp];congr 1;rw[List.filter_cons,List.filter_nil]
  by_cases aa5:p.fst≠c/\p.snd≠c
  ·rw[if_pos (by unfold yQ;exact decide_eq_true aa5)]at hf;((repeat'(first|refine Va (X2 @cr @aH.eq_1) ?_|(refine V2 (X2 @cr @aH.eq_1) ?_ ?_<;>try with_reducible intro hb)|(refine Xi ?_ ?_<;>try intro ht)|exact Xx|fail)))
   all_goals exact ak _ (i+1,xs++[p]) ⟨NN,hf.symm⟩ NN (Xs false [0,1,2,3,6] (X2 @akG @rN))
  ·rw[if_neg (by unfold yQ;simpa using aa5),pO]at hf;((repeat'(first|refine Va (X2 @cr @aH.eq_1) ?_|(refine V2 (X2 @cr @aH.eq_1) ?_ ?_<;>try with_reducible intro hb)|(refine Xi ?_ ?_<;>try intro ht)|exact Xx|fail)))
   all_goals exact ak _ (i+1,xs) ⟨NN,hf.symm⟩ NN (Xv X0)
 ·rw[List.take_of_length_le Iv]at dp;((repeat'(first|refine Va X0 ?_|(refine V2 X0 ?_ ?_<;>try with_reducible intro hb)|(refine Xi ?_ ?_<;>try intro ht)|exact Xx|fail)))
  refine ar _ _ rfl ?_;clear ak ar Ql;repeat(refine Xu ?_)
  refine Vb X0 ?_;simp(disch:=omega)only[Ac,↓Pc,simprocAttr,rowOf];have hpx:(pD m c).ae=xs:=by rw[dp];rfl
  rw[hpx];refine j2 [4] true NF ⟨⟨Iw,.inr (by rw[vq];rfl)⟩,trivial⟩ NF NF ?_;refine(bw.agg _ _ rfl (ju.spec (R:=bw _ _ _ _) (cs:=KZ (pD m c)) (ds:=[.ref 2 1 0 m.cls.length,.ref 4 4 0 xs.length,.lit (.slice none 0 0),NX m.rules]) ⟨.snap _ _ rfl (akF rfl rfl (kh NF)),.eq (by rw[hpx];rfl),.snap _ _ rfl (.nil 4),.pure rfl,trivial⟩).2)
def rT(par:List Int)(i:Nat):Nat->List (Int×Int)
 |0=>[]
 |c+1=>rT par i c++if par.getD (i+1+c) 0=i then [((i:Int),((i+1+c:Nat):Int))] else []
def uQ(par:List Int)(n:Nat):Nat->List (Int×Int)
 |0=>[]
 |i+1=>uQ par n i++rT par i (n-(i+1))
def ctU(ch:List (Int×Int)):Prop:=ch=[]\/∃ r c,ch=[(r,c)]/\(0<=r/\r<2)/\1<=c/\c<=40
def M8(l:List cE):Prop:=∀ o∈l,ctU o.ch
def M9(cls:List (List cE))(p:Pr):Prop:=p.dK=1/\(0<=p.fst/\p.fst<p.snd/\p.snd<cls.length)/\(p.ax.length:Int)=(cls.getD p.fst.toNat default).length*(cls.getD p.snd.toNat default).length/\∀ x∈p.ax,0<=x/\x<=38
structure Cf(m:ah)(par:List Int):Prop where
 n:1<=m.cls.length/\m.cls.length<=5
 pl:par.length=m.cls.length
 pr:∀ i,i<par.length->-1<=par.getD i 0/\par.getD i 0<i
 cl:∀ l∈m.cls,(1<=l.length/\l.length<=3)/\M8 l
 fs:m.ae.map (λp=>(p.fst,p.snd))=uQ par m.cls.length m.cls.length
 pt:∀ p∈m.ae,M9 m.cls p
 ct:m.aC=[]
 ru:m.rules=2
def il(L:List Int)(k:Nat)(cls:List (List cE))(ae:List Pr)(par:List Int)(n:Nat):List Ob :=
 [.var [.tree 1 (ints L),NX k],.var [.lit (.slice none 0 0),.lit (.slice none 0 0),.lit (.slice none 0 0),NX 0],
  .var [.ref 4 1 0 cls.length,.ref 5 4 0 ae.length,.lit (.slice none 0 0),NX 2],.arr 1 (ints (par++aJ (n-par.length) 0)),.arr 1 (rowsOf aQ cls),.arr 4 (rowsOf aH ae)]
def akH(par:List Int)(n:Nat)(h:par.length<n)(v:Int):(par++aJ (n-par.length) 0).set par.length v=(par++[v])++aJ (n-(par++[v]).length) 0:=by
 rw[List.set_append_right _ _ (bc _),iT,show n-par.length=(n-(par.length+1))+1 by omega,List.replicate_succ,List.set_cons_zero,bE,bC];rfl
def af3(L:List Int)(k:Nat)(hk:k<=L.length)(hL:L.length<1000000):
  cL Tryz.prog 21 [.ptr 0 0 0] [fV L k] (λr os=>∃ m par k',Cf m par/\k'<=L.length/\r=.agg (ao m)/\os=[fV L k']):=by
 unfold fV;refine cL.aK 119 1 [.cell 2 32] Tryz.func21 ?_;((try revert hK K);(repeat'(first|refine Va X0 ?_|(refine V2 X0 ?_ ?_<;>try with_reducible intro hb)|(refine Xi ?_ ?_<;>try intro ht)|refine VD ?_ ?_|exact Xx|fail))<;>try with_reducible intro K hK)
 refine jv [0] (gD L k 5 (by unfold cS;omega) hk hL) NF ⟨rfl,trivial⟩ ⟨.eq rfl,.pure rfl,trivial⟩ ?_;have hv:=jB (L:=L) (k:=k) (n:=5) Iv;have bb:=eQ hk;generalize dL L k 5=v at *;generalize cg L k=k2 at *;clear hk;obtain⟨n,lh⟩:∃n:Nat,1+v=n:=⟨(1+v).toNat,Iv⟩;((try revert hK K);(repeat'(first|refine Va @lh ?_|(refine V2 @lh ?_ ?_<;>try with_reducible intro hb)|(refine Xi ?_ ?_<;>try intro ht)|refine VD ?_ ?_|exact Xx|fail))<;>try with_reducible intro K hK)
 refine cp (σ':=⟨an [(0,.ptr 0 0 0),(2,.ptr 1 0 0),(3,.ptr 2 0 0),(4,NX n),(5,.ref 3 1 0 n),(6,NX 0)],il L k2 [] [] [] n⟩) ?_ ?_
 ·refine aF.trans (aF.qq 2 0 1 rfl rfl NF) ?_;refine aF.trans (aF.qq 2 1 4 rfl rfl NF) ?_;unfold il;exact Xv X0
 have hn5:1<=n/\n<=5:=Iv;(try clear lh;clear hv v)
 refine aU (λz:Nat×Nat×List (List cE)×List Int=>(⟨an [(0,.ptr 0 0 0),(2,.ptr 1 0 0),(3,.ptr 2 0 0),(4,NX n),(5,.ref 3 1 0 n),(6,NX z.1)],il L z.2.1 z.2.2.1 [] z.2.2.2 n⟩:St))
  (λz=>z.1<=n/\z.2.1<=L.length/\(z.2.2.1.length=z.1/\∀ l∈z.2.2.1,(1<=l.length/\l.length<=3)/\M8 l)/\z.2.2.2.length=z.1/\∀ i,i<z.2.2.2.length->-1<=z.2.2.2.getD i 0/\z.2.2.2.getD i 0<i) (λz=>n-z.1) (0,k2,[],[]) ⟨aT _,bb,⟨rfl,Iw⟩,rfl,Iw⟩ (Xv X0) ?_
 clear bb k2 k;rintro⟨i,k,cls,par⟩⟨hi,hk,⟨bG,oK⟩,dD,M'⟩Ql ak ar;dsimp only at hi hk bG oK dD M' ⊢;unfold il;by_cases aq:i<n
 ·((try revert hK K);(repeat'(first|refine Va X0 ?_|(refine V2 X0 ?_ ?_<;>try with_reducible intro hb)|(refine Xi ?_ ?_<;>try intro ht)|refine VD ?_ ?_|exact Xx|fail))<;>try with_reducible intro K hK)
  refine jv [0] (gD L k 3 (by unfold cS;omega) hk hL) NF ⟨rfl,trivial⟩ ⟨.eq rfl,.pure rfl,trivial⟩ ?_;have hv:=jB (L:=L) (k:=k) (n:=3) Iv;have bb:=eQ hk;generalize dL L k 3=v at *;generalize cg L k=k2 at *;clear hk;obtain⟨e0,nF⟩:∃e0:Nat,1+v=e0:=⟨(1+v).toNat,Iv⟩;((try revert hK K);(repeat'(first|refine Va @nF ?_|(refine V2 @nF ?_ ?_<;>try with_reducible intro hb)|(refine Xi ?_ ?_<;>try intro ht)|refine VD ?_ ?_|exact Xx|fail))<;>try with_reducible intro K hK)
  refine aU (λz:Nat×Nat×List cE=>(⟨an [(0,.ptr 0 0 0),(2,.ptr 1 0 0),(3,.ptr 2 0 0),(4,NX n),(5,.ref 3 1 0 n),(6,NX i),(7,.ref 6 6 0 z.2.2.length),(8,NX z.1)],il L z.2.1 cls [] par n++[.arr 6 (rowsOf b6 z.2.2)]⟩:St))
   (λz=>z.1+z.2.2.length=e0/\z.2.1<=L.length/\M8 z.2.2) (λz=>z.1) (e0,k2,[]) ⟨Iw,bb,by intro o ho;simp at ho⟩ ?_ ?_
  ·refine aF.trans (aF.nil 7 6 (by simp only[Kc,simprocAttr]) NF) ?_;unfold il;exact Xv X0
  clear bb;rintro⟨e,k,l⟩⟨uD,hk,hl⟩c7 br bx;dsimp only at uD hk hl ⊢;unfold il;simp only[dq,ec];by_cases uh:0<e
  ·obtain⟨e',rfl⟩ :∃e',e=e'+1:=⟨e-1,Iv⟩;have kl:((e'+1:Nat):Int)-1=e':=Iv;have ot:=Bo L k 2 (by unfold cS;omega) NF hk hL;have bb:=eQ hk;generalize wX L k 2=b at *;generalize cg L k=k2 at *;repeat'(first|((fail_if_success (first|refine ei 12 ?_|refine ej 12 ?_));refine Xr X0 ?_;intro K hK)|refine Xo X0 ?_|(refine hK _ ?_;clear hK K)|(refine Xg X0 ?_ ?_<;>try intro hb)|(refine Xi ?_ ?_<;>try intro ht)|refine Xy ?_|refine Xd ?_ ?_|exact Xx|fail)
   refine cp (σ':=⟨an [(0,.ptr 0 0 0),(2,.ptr 1 0 0),(3,.ptr 2 0 0),(4,NX n),(5,.ref 3 1 0 n),(6,NX i),(7,.ref 6 6 0 l.length),(8,NX (e'+1:Nat)),(9,.ptr 7 0 0)],il L k cls [] par n++[.arr 6 (rowsOf b6 l),.var [NX 1,NX (e'+1:Nat),NX 0,NX 1,NX (-1),.ref 8 2 0 0],.arr 2 []]⟩) ?_ ?_
   ·refine aF.trans (aF.qq 7 5 2 rfl rfl NF) ?_;unfold il;exact Xv X0
   unfold il;simp only[dq,ec];((try revert hK K);(repeat'(first|refine Va X0 ?_|(refine V2 X0 ?_ ?_<;>try with_reducible intro hb)|(refine Xi ?_ ?_<;>try intro ht)|refine VD ?_ ?_|exact Xx|fail))<;>try with_reducible intro K hK)
   (refine Xn [0] (ot) ?_;simp(disch:=omega)only[Ac,↓Pc,simprocAttr])
   have aa8:∀ (k':Nat) (ch:List (Int×Int)) (s:St),k'<=L.length->ctU ch->aF 1 s ⟨an [(0,.ptr 0 0 0),(2,.ptr 1 0 0),(3,.ptr 2 0 0),(4,NX n),(5,.ref 3 1 0 n),(6,NX i),(7,.ref 6 6 0 (l.length+1)),(8,NX e')],il L k' cls [] par n++[.arr 6 (rowsOf b6 (l++[⟨1,(e'+1:Nat),0,1,-1,ch⟩]))]⟩->c7 .normal s:=λk' ch s h1 h2 h3 =>
    br _ (e',k',l++[⟨1,(e'+1:Nat),0,1,-1,ch⟩]) ⟨NP,h1,λo ho=>by
     rcases cB.1 ho with ho|ho
     ·exact hl o ho
     ·simp only[cU]at ho;subst ho;exact h2⟩ NN (by rw[bE];exact h3)
   clear br bx;cases b with
   |true =>
    have hx1:=gD L k2 2 (by unfold cS;omega) bb hL;have EA:=jB (L:=L) (k:=k2) (n:=2) Iv;have fU:=eQ bb;generalize dL L k2 2=r1 at *;generalize cg L k2=k3 at *;have Na:=gD L k3 40 (by unfold cS;omega) fU hL;have Ce:=jB (L:=L) (k:=k3) (n:=40) Iv;have tq:=eQ fU;generalize dL L k3 40=r2 at *;generalize cg L k3=k4 at *;((try revert hK K);(repeat'(first|refine Va X0 ?_|(refine V2 X0 ?_ ?_<;>try with_reducible intro hb)|(refine Xi ?_ ?_<;>try intro ht)|refine VD ?_ ?_|exact Xx|fail))<;>try with_reducible intro K hK)
    (refine Xn [0] (hx1) ?_;simp(disch:=omega)only[Ac,↓Pc,simprocAttr])
    (refine Xn [0] (Na) ?_;simp(disch:=omega)only[Ac,↓Pc,simprocAttr])
    repeat'(first|((fail_if_success (first|refine ei 14 ?_|refine ej 14 ?_));refine Xr X0 ?_;intro K hK)|refine Xo X0 ?_|(refine hK _ ?_;clear hK K)|(refine Xg X0 ?_ ?_<;>try intro hb)|(refine Xi ?_ ?_<;>try intro ht)|refine Xy ?_|refine Xd ?_ ?_|exact Xx|fail)
    refine cp (aF.wT 9 7 5 2 (rows:=rowsOf dj [(r1,1+r2)]) rfl rfl rfl (ig _) (my _)) ?_;refine cp (σ':=⟨an [(0,.ptr 0 0 0),(2,.ptr 1 0 0),(3,.ptr 2 0 0),(4,NX n),(5,.ref 3 1 0 n),(6,NX i),(7,.ref 6 6 0 l.length),(8,NX (e'+1:Nat)),(9,.ptr 7 0 0)],il L k4 cls [] par n++[.arr 6 (rowsOf b6 l),.var (b6 ⟨1,(e'+1:Nat),0,1,-1,[(r1,1+r2)]⟩),.arr 2 [],.gone]⟩) (by unfold il;exact Xv @b6.eq_1) ?_;unfold il;simp only[dq,ec];((try revert hK K);(repeat'(first|refine Va (X2 @b6.eq_1 @kl) ?_|(refine V2 (X2 @b6.eq_1 @kl) ?_ ?_<;>try with_reducible intro hb)|(refine Xi ?_ ?_<;>try intro ht)|refine VD ?_ ?_|exact Xx|fail))<;>try with_reducible intro K hK)
    refine aa8 k4 [(r1,1+r2)] _ tq (.inr ⟨r1,1+r2,rfl,EA,Iv,Iv⟩) ?_;unfold il;simp only[dq,ec];rw[show rowsOf b6 l++[[AV.lit (.int .i64 1),AV.lit (.int .i64 (e'+1:Nat)),AV.lit (.int .i64 0),AV.lit (.int .i64 1),AV.lit (.int .i64 (-1)),AV.tree 2 (rowsOf dj [(r1,1+r2)])]]=rowsOf b6 (l++[⟨1,(e'+1:Nat),0,1,-1,[(r1,1+r2)]⟩]) from ox (enc:=b6) l ⟨1,(e'+1:Nat),0,1,-1,[(r1,1+r2)]⟩];exact Xs false [0,1,2,3,4,5,11] X0
   |false =>
    repeat'(first|((fail_if_success (first|refine ei 14 ?_|refine ej 14 ?_));refine Xr X0 ?_;intro K hK)|refine Xo X0 ?_|(refine hK _ ?_;clear hK K)|(refine Xg X0 ?_ ?_<;>try intro hb)|(refine Xi ?_ ?_<;>try intro ht)|refine Xy ?_|refine Xd ?_ ?_|exact Xx|fail)
    refine cp (aF.wT 8 7 5 2 (rows:=rowsOf dj []) rfl rfl rfl (ig _) (my _)) ?_;refine cp (σ':=⟨an [(0,.ptr 0 0 0),(2,.ptr 1 0 0),(3,.ptr 2 0 0),(4,NX n),(5,.ref 3 1 0 n),(6,NX i),(7,.ref 6 6 0 l.length),(8,NX (e'+1:Nat)),(9,.ptr 7 0 0)],il L k2 cls [] par n++[.arr 6 (rowsOf b6 l),.var (b6 ⟨1,(e'+1:Nat),0,1,-1,[]⟩),.gone]⟩) (by unfold il;exact Xv @b6.eq_1) ?_;unfold il;simp only[dq,ec];((try revert hK K);(repeat'(first|refine Va (X2 @b6.eq_1 @kl) ?_|(refine V2 (X2 @b6.eq_1 @kl) ?_ ?_<;>try with_reducible intro hb)|(refine Xi ?_ ?_<;>try intro ht)|refine VD ?_ ?_|exact Xx|fail))<;>try with_reducible intro K hK)
    refine aa8 k2 [] _ bb (.inl rfl) ?_;unfold il;simp only[dq,ec];rw[show rowsOf b6 l++[[AV.lit (.int .i64 1),AV.lit (.int .i64 (e'+1:Nat)),AV.lit (.int .i64 0),AV.lit (.int .i64 1),AV.lit (.int .i64 (-1)),AV.tree 2 (rowsOf dj [])]]=rowsOf b6 (l++[⟨1,(e'+1:Nat),0,1,-1,[]⟩]) from ox (enc:=b6) l ⟨1,(e'+1:Nat),0,1,-1,[]⟩];exact Xs false [0,1,2,3,4,5,10] X0
  ·obtain rfl:e=0:=Iv;((try revert hK K);(repeat'(first|refine Va X0 ?_|(refine V2 X0 ?_ ?_<;>try with_reducible intro hb)|(refine Xi ?_ ?_<;>try intro ht)|refine VD ?_ ?_|exact Xx|fail))<;>try with_reducible intro K hK)
   refine bx _ _ rfl ?_;clear br bx c7;repeat(first|refine Xu ?_)
   refine cp (σ':=⟨an [(0,.ptr 0 0 0),(2,.ptr 1 0 0),(3,.ptr 2 0 0),(4,NX n),(5,.ref 3 1 0 n),(6,NX i),(7,.tree 6 (rowsOf b6 l))],il L k cls [] par n⟩) ?_ ?_
   ·unfold il;exact Xs true [0,1,2,3,4,5] X0
   unfold il;have kr:=gD L k (i+1) (by unfold cS;omega) hk hL;have BM:=jB (L:=L) (k:=k) (n:=i+1) Iv;have bb:=eQ hk;generalize dL L k (i+1)=w at *;generalize cg L k=k2 at *;have H':(par++aJ (n-par.length) 0).length=n:=NP;have iK:=akH par n Iv (w-1);rw[dD]at iK H';rw[dD];have FQ:((i+1:Nat):Int)=(i:Int)+1:=Iv;((try revert hK K);(repeat'(first|refine Va X0 ?_|(refine V2 X0 ?_ ?_<;>try with_reducible intro hb)|(refine Xi ?_ ?_<;>try intro ht)|refine VD ?_ ?_|exact Xx|fail))<;>try with_reducible intro K hK)
   (refine Xn [0] (kr) ?_;simp(disch:=omega)only[Ac,↓Pc,simprocAttr,H',iK])
   repeat'(first|with_reducible refine cJ ?_ ?_|omega|with_reducible rfl)
   ((try revert hK K);(repeat'(first|refine Va (X2 @H' @iK) ?_|(refine V2 (X2 @H' @iK) ?_ ?_<;>try with_reducible intro hb)|(refine Xi ?_ ?_<;>try intro ht)|refine VD ?_ ?_|exact Xx|fail))<;>try with_reducible intro K hK)
   all_goals try(exfalso;omega)
   refine ak _ (i+1,k2,cls++[l],par++[w-1]) ⟨NN,bb,⟨NP,λx hx=>?_⟩,NP,λa ha=>?_⟩ NN ?_
   ·rcases cB.1 hx with hx|hx
    ·exact oK x hx
    ·simp only[cU]at hx;subst hx;exact⟨⟨Iv,Iv⟩,hl⟩
   ·dsimp only at ha ⊢;rw[bE,AI]at ha;by_cases ha2:a<par.length
    ·rw[aB,List.getElem?_append_left ha2,<- aB];exact M' a ha2
    ·obtain rfl:a=par.length:=Iv;rw[aB,List.getElem?_append_right (bc _),iT];show -1<=w-1/\w-1<_;omega
   ·unfold il;rw[show rowsOf aQ cls++[[AV.tree 6 (rowsOf b6 l)]]=rowsOf aQ (cls++[l]) from ox (enc:=aQ) cls l];exact Xs false [0,1,2,3,7,5] X0
 ·obtain rfl:i=n:=Iv;((try revert hK K);(repeat'(first|refine Va X0 ?_|(refine V2 X0 ?_ ?_<;>try with_reducible intro hb)|(refine Xi ?_ ?_<;>try intro ht)|refine VD ?_ ?_|exact Xx|fail))<;>try with_reducible intro K hK)
  refine ar _ _ rfl ?_;clear ak ar Ql;repeat(first|refine Xu ?_)
  rw[dD,iT,AN,pO];have lS:=hn5;have nQ:∀ k ae,il L k cls ae par i=[.var [.tree 1 (ints L),NX k],.var [.lit (.slice none 0 0),.lit (.slice none 0 0),.lit (.slice none 0 0),NX 0],.var [.ref 4 1 0 cls.length,.ref 5 4 0 ae.length,.lit (.slice none 0 0),NX 2],.arr 1 (ints par),.arr 1 (rowsOf aQ cls),.arr 4 (rowsOf aH ae)]:=λk ae=>by
   unfold il;rw[dD,iT,AN,pO]
  have s9:∀ a,(cls.getD a default).length<=3:=λa=>by
   rcases Nat.lt_or_ge a cls.length with h|h
   ·exact((oK _ (aG (d:=default) h)).1).2
   ·rw[aB,List.getElem?_eq_none h];decide
  ((try revert hK K);(repeat'(first|refine Va X0 ?_|(refine V2 X0 ?_ ?_<;>try with_reducible intro hb)|(refine Xi ?_ ?_<;>try intro ht)|refine VD ?_ ?_|exact Xx|fail))<;>try with_reducible intro K hK)
  refine aU (λz:Nat×Nat×List Pr=>(⟨an [(0,.ptr 0 0 0),(2,.ptr 1 0 0),(3,.ptr 2 0 0),(4,NX i),(5,.ref 3 1 0 i),(10,NX z.1)],il L z.2.1 cls z.2.2 par i⟩:St))
   (λz=>z.1<=i/\z.2.1<=L.length/\(z.2.2.map (λp=>(p.fst,p.snd))=uQ par i z.1/\z.2.2.length<=5*z.1)/\∀ p∈z.2.2,M9 cls p) (λz=>i-z.1) (0,k,[]) ⟨aT _,hk,⟨rfl,Iw⟩,Iw⟩ (by rw[nQ];exact Xv X0) ?_
  clear hk k;rintro⟨a,k,ae⟩⟨ha,hk,⟨iz,Cg⟩,oO⟩Ql ak ar;dsimp only at ha hk iz Cg oO ⊢;by_cases oE:a<i
  ·rw[nQ];((try revert hK K);(repeat'(first|refine Va X0 ?_|(refine V2 X0 ?_ ?_<;>try with_reducible intro hb)|(refine Xi ?_ ?_<;>try intro ht)|refine VD ?_ ?_|exact Xx|fail))<;>try with_reducible intro K hK)
   refine aU (λz:Nat×Nat×List Pr=>(⟨an [(0,.ptr 0 0 0),(2,.ptr 1 0 0),(3,.ptr 2 0 0),(4,NX i),(5,.ref 3 1 0 i),(10,NX a),(11,NX z.1)],il L z.2.1 cls z.2.2 par i⟩:St))
    (λz=>(a+1<=z.1/\z.1<=i)/\z.2.1<=L.length/\(z.2.2.map (λp=>(p.fst,p.snd))=uQ par i a++rT par a (z.1-(a+1))/\z.2.2.length<=5*a+(z.1-(a+1)))/\∀ p∈z.2.2,M9 cls p) (λz=>i-z.1) (a+1,k,ae) ⟨⟨bc _,NN⟩,hk,⟨by dsimp only;rw[iT];simp[rT,iz],NN⟩,oO⟩ (by rw[nQ];exact Xv X0) ?_
   clear hk iz Cg oO;rintro⟨q,k,ae⟩⟨⟨tA,Hi⟩,hk,⟨iz,Cg⟩,oO⟩c7 br bx;dsimp only at tA Hi hk iz Cg oO ⊢;rw[nQ];by_cases vz:q<i
   ·have Ia:rT par a (q+1-(a+1))=rT par a (q-(a+1))++if par.getD q 0=a then [((a:Int),(q:Int))] else []:=by
     rw[show q+1-(a+1)=(q-(a+1))+1 by omega,rT,show a+1+(q-(a+1))=q by omega]
    generalize Ae:par.getD q 0=pq at *;by_cases MK:pq=a
    ·rw[if_pos MK]at Ia;have s1:=s9 a;have s2:=s9 q;generalize Nb:cls.getD a default=ca at *;generalize Ed:cls.getD q default=cq at *;repeat'(first|((fail_if_success (first|refine ei 25 ?_|refine ej 25 ?_));refine Xr (X2 @Ae @dD) ?_;intro K hK)|refine Xo (X2 @Ae @dD) ?_|(refine hK _ ?_;clear hK K)|(refine Xg (X2 @Ae @dD) ?_ ?_<;>try intro hb)|(refine Xi ?_ ?_<;>try intro ht)|refine Xy ?_|refine Xd ?_ ?_|exact Xx|fail)
     all_goals try(exfalso;omega)
     refine cp (σ':=⟨an [(0,.ptr 0 0 0),(2,.ptr 1 0 0),(3,.ptr 2 0 0),(4,NX i),(5,.ref 3 1 0 i),(10,NX a),(11,NX q),(12,.ptr 6 0 0)],il L k cls ae par i++[.var [NX a,NX q,NX 1,.ref 7 1 0 0],.arr 1 []]⟩) ?_ ?_
     ·refine aF.trans (aF.qq 6 3 1 rfl rfl NF) ?_;rw[nQ];exact Xv X0
     rw[nQ];simp only[dq,ec];have hP9:ca.length*cq.length<=9:=xE s1 s2;have Nc:(ca.length:Int)*(cq.length:Int)=((ca.length*cq.length:Nat):Int):=by push_cast;rfl
     generalize hPP:ca.length*cq.length=P0 at *;((try revert hK K);(repeat'(first|refine Va (X4 @Nb @Ed @aQ.eq_1 @Nc) ?_|(refine V2 (X4 @Nb @Ed @aQ.eq_1 @Nc) ?_ ?_<;>try with_reducible intro hb)|(refine Xi ?_ ?_<;>try intro ht)|refine VD ?_ ?_|exact Xx|fail))<;>try with_reducible intro K hK)
     refine aU (λz:Nat×Nat×List Int=>(⟨an [(0,.ptr 0 0 0),(2,.ptr 1 0 0),(3,.ptr 2 0 0),(4,NX i),(5,.ref 3 1 0 i),(10,NX a),(11,NX q),(12,.ptr 6 0 0),(13,NX z.1)],il L z.2.1 cls ae par i++[.var [NX a,NX q,NX 1,.ref 7 1 0 z.2.2.length],.arr 1 (ints z.2.2)]⟩:St))
      (λz=>z.1+z.2.2.length=P0/\z.2.1<=L.length/\∀ x∈z.2.2,0<=x/\x<=38) (λz=>z.1) (P0,k,[]) ⟨Iw,hk,Iw⟩ (by rw[nQ];exact Xv X0) ?_
     clear hk;rintro⟨j,k,ax⟩⟨hj,hk,uM⟩mC gG fI;dsimp only at hj hk uM ⊢;rw[nQ];simp only[dq,ec];by_cases hj0:0<j
     ·obtain⟨j',rfl⟩ :∃j',j=j'+1:=⟨j-1,Iv⟩;have zw:((j'+1:Nat):Int)-1=j':=Iv;have hx1:=gD L k 3 (by unfold cS;omega) hk hL;have EA:=jB (L:=L) (k:=k) (n:=3) Iv;have fU:=eQ hk;generalize dL L k 3=r1 at *;generalize cg L k=k3 at *;have Na:=gD L k3 20 (by unfold cS;omega) fU hL;have Ce:=jB (L:=L) (k:=k3) (n:=20) Iv;have tq:=eQ fU;generalize dL L k3 20=r2 at *;generalize cg L k3=k4 at *;have hmul:0<=r1*r2/\r1*r2<=38:=⟨Int.mul_nonneg Iv Iv,by
       have:=pS (show r1<=2 by omega) (show r2<=19 by omega) Ce.1 Iv;omega⟩
      generalize gr:r1*r2=rr at *;repeat'(first|((fail_if_success (first|refine ei 28 ?_|refine ej 28 ?_));refine Xr X0 ?_;intro K hK)|refine Xo X0 ?_|(refine hK _ ?_;clear hK K)|(refine Xg X0 ?_ ?_<;>try intro hb)|(refine Xi ?_ ?_<;>try intro ht)|refine Xy ?_|refine Xd ?_ ?_|exact Xx|fail)
      all_goals try(exfalso;omega)
      refine Hp (λs=>aF 1 s ⟨an [(0,.ptr 0 0 0),(2,.ptr 1 0 0),(3,.ptr 2 0 0),(4,NX i),(5,.ref 3 1 0 i),(10,NX a),(11,NX q),(12,.ptr 6 0 0),(13,NX (j'+1:Nat))],il L k4 cls ae par i++[.var [NX a,NX q,NX 1,.ref 9 1 0 (ax.length+1)],.gone,.arr 1 [[NX rr]],.arr 1 (ints (ax++[rr]))]⟩) ?_ ?_
      ·rintro s hs;repeat(first|refine Xu ?_)
       refine cp hs ?_;rw[nQ];simp only[dq,ec];((try revert hK K);(repeat'(first|refine Va @zw ?_|(refine V2 @zw ?_ ?_<;>try with_reducible intro hb)|(refine Xi ?_ ?_<;>try intro ht)|refine VD ?_ ?_|exact Xx|fail))<;>try with_reducible intro K hK)
       refine gG _ (j',k4,ax++[rr]) ⟨NP,tq,λx hx=>?_⟩ NN ?_
       ·rcases cB.1 hx with hx|hx
        ·exact uM x hx
        ·simp only[cU]at hx;subst hx;exact hmul
       ·rw[nQ];simp only[dq,ec];exact Xs false [0,1,2,3,4,5,6,9] X0
      intro QQ key;clear gG fI;refine Gp 0 [] [3,5] (.take 0 (.take 1 (.take 2 (.take 3 (.take 4 (.take 5 (.take 6 (.take 7 (.take 8 (.take 9 (.take 10 .nil))))))))))) rfl NF (by decide +kernel) ?_;simp(disch:=omega)only[Ac,↓Pc,simprocAttr,Hc,eY];repeat'(first|with_reducible refine cJ ?_ ?_|omega|with_reducible rfl|(refine yj (hx1) rfl rfl rfl rfl (by(repeat'(first|exact trivial|refine cJ ?_ ?_))<;>first|exact .inl ⟨rfl,rfl⟩|exact .inr ⟨rfl,rfl⟩) ?_;simp(disch:=omega)only[Ac,↓Pc,simprocAttr,Hc,eY,gr])|(refine yj (Na) rfl rfl rfl rfl (by(repeat'(first|exact trivial|refine cJ ?_ ?_))<;>first|exact .inl ⟨rfl,rfl⟩|exact .inr ⟨rfl,rfl⟩) ?_;simp(disch:=omega)only[Ac,↓Pc,simprocAttr,Hc,eY,gr]))
      all_goals refine key _ ?_
      all_goals rw[nQ]
      all_goals simp only[dq,ec]
      all_goals exact Xv X0
     ·obtain rfl:j=0:=Iv;((try revert hK K);(repeat'(first|refine Va X0 ?_|(refine V2 X0 ?_ ?_<;>try with_reducible intro hb)|(refine Xi ?_ ?_<;>try intro ht)|refine VD ?_ ?_|exact Xx|fail))<;>try with_reducible intro K hK)
      refine fI _ _ rfl ?_;clear gG fI mC;repeat(first|refine Xu ?_)
      refine cp (aF.wT 7 6 3 1 (rows:=ints ax) rfl rfl (by rw[wJ];rfl) (tY _) (wK _)) ?_;refine cp (σ':=⟨an [(0,.ptr 0 0 0),(2,.ptr 1 0 0),(3,.ptr 2 0 0),(4,NX i),(5,.ref 3 1 0 i),(10,NX a),(11,NX q),(12,.ptr 6 0 0)],il L k cls ae par i++[.var (aH ⟨a,q,1,ax⟩),.gone]⟩) (by rw[nQ];exact Xv @aH.eq_1) ?_;rw[nQ];simp only[dq,ec];have am1:ae.length<100:=Iv;((try revert hK K);(repeat'(first|refine Va @aH.eq_1 ?_|(refine V2 @aH.eq_1 ?_ ?_<;>try with_reducible intro hb)|(refine Xi ?_ ?_<;>try intro ht)|refine VD ?_ ?_|exact Xx|fail))<;>try with_reducible intro K hK)
      refine br _ (q+1,k,ae++[⟨a,q,1,ax⟩]) ⟨⟨NN,NN⟩,hk,⟨by dsimp only;rw[List.map_append,iz,Ia,bC];rfl,by dsimp only;rw[bE];simp only[List.length_cons,List.length_nil];omega⟩,λx hx=>?_⟩ NN ?_
      ·rcases cB.1 hx with hx|hx
       ·exact oO x hx
       ·simp only[cU]at hx;subst hx;refine⟨rfl,⟨NN,NN,NN⟩,?_,uM⟩;dsimp only;rw[ep,ep,Nb,Ed,Nc];omega
      ·rw[nQ];rw[show rowsOf aH ae++[[AV.lit (.int .i64 a),AV.lit (.int .i64 q),AV.lit (.int .i64 1),AV.tree 1 (ints ax)]]=rowsOf aH (ae++[⟨a,q,1,ax⟩]) from ox (enc:=aH) ae ⟨a,q,1,ax⟩];exact Xs false [0,1,2,3,4,9] X0
    ·rw[if_neg MK,pO]at Ia;((try revert hK K);(repeat'(first|refine Va (X2 @Ae @dD) ?_|(refine V2 (X2 @Ae @dD) ?_ ?_<;>try with_reducible intro hb)|(refine Xi ?_ ?_<;>try intro ht)|refine VD ?_ ?_|exact Xx|fail))<;>try with_reducible intro K hK)
     all_goals try(exfalso;omega)
     exact br _ (q+1,k,ae) ⟨⟨NN,NN⟩,hk,⟨by dsimp only;rw[Ia];exact iz,NN⟩,oO⟩ NN (by rw[nQ];exact Xv X0)
   ·obtain rfl:q=i:=Iv;((try revert hK K);(repeat'(first|refine Va X0 ?_|(refine V2 X0 ?_ ?_<;>try with_reducible intro hb)|(refine Xi ?_ ?_<;>try intro ht)|refine VD ?_ ?_|exact Xx|fail))<;>try with_reducible intro K hK)
    refine bx _ _ rfl ?_;clear br bx c7;repeat(first|refine Xu ?_)
    ((try revert hK K);(repeat'(first|refine Va X0 ?_|(refine V2 X0 ?_ ?_<;>try with_reducible intro hb)|(refine Xi ?_ ?_<;>try intro ht)|refine VD ?_ ?_|exact Xx|fail))<;>try with_reducible intro K hK)
    exact ak _ (a+1,k,ae) ⟨NN,hk,⟨by dsimp only;rw[uQ];exact iz,NN⟩,oO⟩ NN (by rw[nQ];exact Xv X0)
  ·obtain rfl:a=i:=Iv;rw[nQ];((try revert hK K);(repeat'(first|refine Va X0 ?_|(refine V2 X0 ?_ ?_<;>try with_reducible intro hb)|(refine Xi ?_ ?_<;>try intro ht)|refine VD ?_ ?_|exact Xx|fail))<;>try with_reducible intro K hK)
   refine ar _ _ rfl ?_;clear ak ar Ql;repeat(first|refine Xu ?_)
   ((try revert hK K);(repeat'(first|refine Vb X0 ?_|(refine V2 X0 ?_ ?_<;>try with_reducible intro hb)|(refine Xi ?_ ?_<;>try intro ht)|refine VD ?_ ?_|exact Xx|fail))<;>try with_reducible intro K hK)
   have hTr:Cf ⟨cls,ae,[],2⟩ par:=⟨NN,NN,M',oK,by dsimp only;rw[bG];exact iz,oO,rfl,rfl⟩;unfold eH;simp only[dx,du];simp(disch:=omega)only[Ac,↓Pc,simprocAttr];refine⟨_,_,⟨⟨cls,ae,[],2⟩,par,k,hTr,hk,rfl,rfl⟩,?_⟩;refine j2 [0] true NF ⟨⟨Iw,.inr rfl⟩,trivial⟩ NF NF (bw.agg _ _ rfl (ju.spec (R:=bw _ _ _ _) (cs:=ao ⟨cls,ae,[],2⟩) (ds:=[.ref 4 1 0 cls.length,.ref 5 4 0 ae.length,.lit (.slice none 0 0),NX 2]) ⟨?_,?_,.snap _ _ rfl (cK.nil 4),.pure rfl,trivial⟩).2)
   ·first|exact .pure rfl|exact .eq rfl|exact .fz rfl (by simp only[Bc,Rc])
   ·first|exact .pure rfl|exact .eq rfl|exact .fz rfl (by simp only[Bc,Rc])
def Ch(a b:Int×Int):Prop:=a.1<b.1\/(a.1=b.1/\a.2<b.2)
def Ib(par:List Int)(i:Nat):∀ c,∀ q∈rT par i c,q.1=(i:Int)/\q.2<((i+1+c:Nat):Int)
 |0,q,h=>by cases h
 |c+1,q,h=>by
  rw[rT,cB]at h;rcases h with h|h
  ·have:=Ib par i c q h;omega
  ·split at h
   ·rw[cU]at h;subst h;dsimp only;omega
   ·cases h
def aa'(par:List Int)(n:Nat):∀ i,∀ q∈uQ par n i,q.1<(i:Int)
 |0,q,h=>by cases h
 |i+1,q,h=>by
  rw[uQ,cB]at h;rcases h with h|h
  ·have:=aa' par n i q h;omega
  ·have:=(Ib par i _ q h).1;omega
def aba(par:List Int)(i:Nat):∀ c,(rT par i c).Pairwise Ch
 |0=>.nil
 |c+1=>by
  rw[rT,List.pairwise_append];refine⟨aba par i c,by split<;>simp,λa ha b hb=>?_⟩;have h1:=Ib par i c a ha;split at hb
  ·rw[cU]at hb;subst hb;exact .inr ⟨h1.1,h1.2⟩
  ·cases hb
def abb(par:List Int)(n:Nat):∀ i,(uQ par n i).Pairwise Ch
 |0=>.nil
 |i+1=>by
  rw[uQ,List.pairwise_append];refine⟨abb par n i,aba par i _,λa ha b hb=>.inl ?_⟩;have h1:=aa' par n i a ha;have h2:=(Ib par i _ b hb).1;omega
def abc(par:List Int)(i:Nat):∀ c,(rT par i c).length<=c
 |0=>bc _
 |c+1=>by
  rw[rT,bE];have:=abc par i c;split<;>simp<;>omega
def abd(par:List Int)(n:Nat):∀ i,(uQ par n i).length<=i*n
 |0=>by rw[Nat.zero_mul];exact bc _
 |i+1=>by
  rw[uQ,bE,Nat.succ_mul];have:=abd par n i;have:=abc par i (n-(i+1));omega
def abe{m:ah}:∀ (l:List Pr) (q:Option Pr),(∀ p∈l,gB m p=true/\p.dK=1)->l.Pairwise (λa b=>Ch (a.fst,a.snd) (b.fst,b.snd))->(∀ p,q=some p->p.dK=1/\∀ x∈l.head?,Ch (p.fst,p.snd) (x.fst,x.snd))->fj m q l=true
 |[],q,_,_,_=>by cases q<;>rfl
 |p::r,q,h,hp,hq=>by
  rw[List.pairwise_cons]at hp;have ih:=abe r (some p) (λx hx=>h x (List.mem_cons_of_mem _ hx)) hp.2 λy hy=>by
   cases hy;exact⟨(h p Iw).2,λx hx=>hp.1 x (List.mem_of_mem_head? hx)⟩
  have h1:=h p Iw;cases q with
  |none=>rw[fj,ih,h1.1];rfl
  |some q =>
   rw[fj,ih,h1.1,Bool.and_true,Bool.true_and,decide_eq_true_eq];obtain⟨h2,h3⟩:=hq q rfl;have h4:=h3 p rfl;unfold mX;rw[h2,h1.2];unfold Ch at h4;dsimp only at h4;unfold j6;simp only[qw];repeat' split
   all_goals omega
def Cf.vm{m:ah}{par:List Int}(h:Cf m par):VM m:=by
 have iy:m.ae.length<=25:=by
  have h1:=congrArg List.length h.fs;rw[List.length_map]at h1;have h2:=abd par m.cls.length m.cls.length;have h3:m.cls.length*m.cls.length<=5*5:=xE h.n.2 h.n.2;omega
 have L8:m.ae.Pairwise (λa b=>Ch (a.fst,a.snd) (b.fst,b.snd)):=by
  have h1:=abb par m.cls.length m.cls.length;rw[<- h.fs,List.pairwise_map]at h1;exact h1
 refine⟨by have:=h.n;omega,λl hl=>by have:=(h.cl l hl).1;omega,Iv,by rw[h.ct];decide,by rw[h.ru];decide,λl hl o ho=>?_,abe _ _ (λp hp=>?_) L8 (λp hp=>by cases hp),λc hc=>by rw[h.ct]at hc;cases hc⟩
 ·rcases(h.cl l hl).2 o ho with h1|⟨r,c,h1,h2,h3⟩
  ·rw[h1];rfl
  ·rw[h1,h.ru];unfold eh jA jk eh;simp;omega
 ·obtain⟨h1,h2,h3,h4⟩:=h.pt p hp;refine⟨?_,h1⟩;unfold gB jA;rw[h1,h.ru];simp only[aZ,Bool.not_eq_true',decide_eq_true_eq];refine⟨⟨NF,Iv,h2.2.1,h2.2.2,h3⟩,?_⟩;rw[<- Bool.not_eq_true,List.any_eq_true];rintro⟨x,hx,hb⟩;have:=h4 x hx;unfold oB jk at hb;simp at hb;omega
def Cf.KP{m:ah}{par:List Int}(h:Cf m par):jF 5 m:=⟨h.vm.mb,h.n.2,λl hl=>by have:=(h.cl l hl).1;omega⟩
end T

