import Derived.Test.YtjadfapldkfbpaaGreatX27
import Derived.Test.YtjadfapldkfbpaaGreatX14
set_option linter.all false
set_option maxHeartbeats 0
set_option maxRecDepth 20000
open List renaming replicate→bG,mem_singleton→ec,eq_of_mem_replicate→BU,mem_append→cz,mem_or_eq_of_mem_set→oP,length_set→bw,length_replicate→ri,getD_eq_getElem?_getD→aG,length_filter_le→DQ,map_set→pC
open Nat renaming le_trans→j',zero_le→aF
open And renaming intro→cI
open Go Go.Am Go.Proofs
namespace T
def unB{P:Program}{N n0:Nat}{σ:St}{Q:Exit->St->Prop}{x:Code}{id:Nat}(h:∀ Q':Exit->St->Prop,(∀ s,Q .normal s->Q' .normal s)->W P N n0 x Q' σ):W P N n0 x (Bq id Q) σ:=h _ .n
def ach{σ:St}{kp:Nat->Prop}:∀ {l:List AV},(∀ v∈l,(∃ x,v=AV.lit x)\/∃ s r,v=AV.tree s r)->eY (cG σ kp) l l
 |[],_=>trivial
 |v::l,h=>⟨by rcases h v G9 with⟨x,rfl⟩|⟨s,r,rfl⟩;exact .lit _;exact .tree _ _,ach λx hx=>h x (by simp[hx])⟩
def BI{σ:St}{kp:Nat->Prop}:∀ {rows:List (List AV)},(∀ row∈rows,∀ v∈row,(∃ x,v=AV.lit x)\/∃ s r,v=AV.tree s r)->kG (cG σ kp) rows rows
 |[],_=>trivial
 |r::rows,h=>⟨ach (h r G9),BI λx hx=>h x (by simp[hx])⟩
def GF{R:AV->AV->Prop}:∀ {a c:List (List AV)} {b d:List (List AV)},kG R a c->kG R b d->kG R (a++b) (c++d)
 |[],[],_,_,_,k=>k
 |_::_,_::_,_,_,h,k=>⟨h.1,GF h.2 k⟩
 |[],_::_,_,_,h,_=>h.elim
 |_::_,[],_,_,h,_=>h.elim
def alp{R:AV->AV->Prop}:∀ {a c:List (List AV)} {x y:List AV},kG R a c->eY R x y->kG R (a.set 0 x) (c.set 0 y)
 |[],[],_,_,_,_=>trivial
 |_::_,_::_,_,_,h,k=>⟨k,h.2⟩
 |[],_::_,_,_,h,_=>h.elim
 |_::_,[],_,_,h,_=>h.elim
def aci{R:AV->AV->Prop}{x y:List AV}(h:eY R x y):∀ n,kG R (bG n x) (bG n y)
 |0=>trivial
 |n+1=>⟨h,aci h n⟩
def acj{m:ah}(h:VM m){p:Pr}(hp:p∈m.ae):p.aD.length<=576:=by
 obtain⟨_,h1,h2,h3,h4⟩:=m4 (jy h.pr p hp);have a:=h.opt _ (aB (l:=m.cls) (i:=p.fst.toNat) (d:=default) G3);have b:=h.opt _ (aB (l:=m.cls) (i:=p.snd.toNat) (d:=default) G3);have:((m.cls.getD p.fst.toNat default).length:Int)*(m.cls.getD p.snd.toNat default).length<=24*24:=Int.mul_le_mul G3 G3 G3 G3;omega
def sy{σ:St}{kp:Nat->Prop}{ρ:Nat->Nat}{snap:Bool}{a b c d a' b' c' d':AV}(h1:aI σ kp ρ snap a a')(h2:aI σ kp ρ snap b b')(h3:aI σ kp ρ snap c c')(h4:aI σ kp ρ snap d d'):aI σ kp ρ snap (.agg [a,b,c,d]) (.agg [a',b',c',d']) :=
 .agg _ _ rfl (eY.spec (R:=aI σ kp ρ snap) (cs:=[a,b,c,d]) (ds:=[a',b',c',d']) ⟨h1,h2,h3,h4,trivial⟩).2
structure ma(q:Nat)(m:ah):Prop where
 mb:MB m
 qI:m.cls.length<=q
 opt:∀ l∈m.cls,l.length<=25
abbrev OM(m:ah):Prop:=ma 25 m
def ma.mono{q r:Nat}{m:ah}(h:ma q m)(hr:q<=r):ma r m:=⟨h.mb,j' h.qI hr,h.opt⟩
def ma.rules{q:Nat}{m:ah}(h:ma q m)(r:Int):ma q ⟨m.cls,m.ae,m.ax,r⟩:=⟨⟨h.mb.cls,h.mb.opt,h.mb.ch,h.mb.ae,h.mb.aD,h.mb.ax,h.mb.mB⟩,h.qI,h.opt⟩
def ma.ae{q:Nat}{m:ah}(h:ma q m){l:List Pr}(h1:l.length<9223372036854775808)(h2:∀ p∈l,p.aD.length<9223372036854775808):ma q ⟨m.cls,l,m.ax,m.rules⟩:=⟨⟨h.mb.cls,h.mb.opt,h.mb.ch,h1,h2,h.mb.ax,h.mb.mB⟩,h.qI,h.opt⟩
def ma.ax{q:Nat}{m:ah}(h:ma q m){l:List Ct}(h1:l.length<9223372036854775808)(h2:∀ p∈l,p.aJ.length<9223372036854775808):ma q ⟨m.cls,m.ae,l,m.rules⟩:=⟨⟨h.mb.cls,h.mb.opt,h.mb.ch,h.mb.ae,h.mb.aD,h1,h2⟩,h.qI,h.opt⟩
def ma.cls{q:Nat}{m:ah}(h:ma q m)(hq:q<=25){l:List (List bV)}(h1:l.length<=q)(h2:∀ x∈l,x.length<=25/\∀ o∈x,o.ch.length<9223372036854775808):ma q ⟨l,m.ae,m.ax,m.rules⟩ :=
 ⟨⟨Kw,λx hx=>by have:=(h2 x hx).1;omega,λx hx=>(h2 x hx).2,h.mb.ae,h.mb.aD,h.mb.ax,h.mb.mB⟩,h1,λx hx=>(h2 x hx).1⟩
def VM.om{m:ah}(h:VM m):OM m:=⟨h.mb,by have:=h.cls;omega,λl hl=>by have:=h.opt l hl;omega⟩
def VM.omq{m:ah}(h:VM m){q:Nat}(hl:m.cls.length<=q):ma q m:=⟨h.mb,hl,λl hl=>by have:=h.opt l hl;omega⟩
def sA(c:List (Int×Int)):∀ o∈[(⟨0,0,0,0,0,c⟩:bV)],o.wk<=3:=λo ho=>by
 rw[ec]at ho;subst ho;show(0:Int)<=3;decide
def sB(n:Nat):∀ o∈bG n (⟨0,0,0,0,0,[]⟩:bV),o.wk<=3:=λo ho=>by
 rw[BU ho];show(0:Int)<=3;decide
def sx(m:ah)(p:Pr):Prop:=(0<=p.fst/\p.fst<m.cls.length)/\0<=p.snd/\p.snd<m.cls.length
def VM.zS{m:ah}(h:VM m):∀ p∈m.ae,sx m p:=λp hp=>by
 obtain⟨_,h2,h3,h4,_⟩:=m4 (jy h.pr p hp);unfold sx;omega
structure GG(q:Nat)(m m':ah):Prop where
 om:ma (q+1) m'
 cl:m'.cls=m.cls\/∃ x,(∀ o∈x,o.wk<=3)/\m'.cls=m.cls++[x]
 pn:m'.ae.length<=m.ae.length+1/\∀ p∈m'.ae,sx m p
def ma.zS{q:Nat}{m:ah}(h:ma q m)(hp:0<m.ae.length):(m.ae.getD 0 default).aD.length<9223372036854775808:=h.mb.aD _ (aB hp)
def alr(q:Nat)(aoy:q<=24)(L:List Int)(k:Nat)(m:ah)(hm:VM m)(hq:m.cls.length<=q)(hk:k<=L.length)(hL:L.length<1000000):
    fG Tryz.prog 17 [.ptr 0 0 0,.agg (ao m)] [ef L k] (λr os=>∃ m' k',GG q m m'/\k'<=L.length/\r=.agg (ao m')/\os=[ef L k']):=by
  have p0:m.ae.length<=m.ae.length+1/\∀ p∈m.ae,sx m p:=⟨G3,hm.zS⟩;have pG:0<m.ae.length->sx m (m.ae.getD 0 default):=λh=>hm.zS _ (aB h);have pA:0<m.ae.length->(m.ae++[m.ae.getD 0 default]).length<=m.ae.length+1/\∀ p∈m.ae++[m.ae.getD 0 default],sx m p:=λh=>⟨G9,λp hp=>(cz.1 hp).elim (hm.zS p) λe=>by rw[ec.1 e];exact pG h⟩;have pS:∀ q,sx m q->(m.ae.set 0 q).length<=m.ae.length+1/\∀ p∈m.ae.set 0 q,sx m p:=λq hq=>⟨G9,λp hp=>(oP hp).elim (hm.zS p) λe=>by rw[e];exact hq⟩;have h1:=hm.cls;have h2:=hm.opt;have h3:=hm.ae;have h4:=hm.ax;have fq:ma (q+1) m:=hm.omq G3;have h8:=iw L k 8 (by unfold dS;omega) hk hL;have h8r:=kd (L:=L) (k:=k) (n:=8) G3;have bW:=dN hk;have r4:List.range 4=[0,1,2,3]:=Kq;unfold ef at *;generalize da L k 8=j at *;generalize bR L k=k2 at *;refine fG.aC 126 1 [.cell 4 37] Tryz.func17 ?_;((refine Va X0 ?_)<;>try with_reducible intro K hK)
  (refine Xn [0] (h8) ?_;simp(disch:=omega)only[Ac,↓Pc,simprocAttr])
  ((try revert hK K);(repeat'(first|refine Va @r4 ?_|(refine Xi ?_ ?_<;>try intro ht)|fail))<;>try with_reducible intro K hK)
  ·
    have l4:=iw L k2 4 (by unfold dS;omega) bW hL;have GH:=kd (L:=L) (k:=k2) (n:=4) G3;have kR:=dN bW;unfold ef at *;generalize da L k2 4=i at *;generalize bR L k2=k3 at *;(refine Xn [0] (l4) ?_;simp(disch:=omega)only[Ac,↓Pc,simprocAttr,r4])
    have hi:i=0\/i=1\/i=2\/i=3:=G3;rcases hi with rfl|rfl|rfl|rfl
    · simp(disch:=omega)only[Ac,↓Pc,simprocAttr]
      ((try revert hK K);(refine Va X0 ?_))
      unfold gR;simp only[eQ,eG];simp(disch:=omega)only[Ac,↓Pc,simprocAttr];refine⟨_,_,⟨⟨m.cls,m.ae,m.ax,-1⟩,k3,⟨fq.rules _,by first|exact .inl rfl|exact .inr ⟨_,sA _,rfl⟩|exact .inr ⟨_,sB _,rfl⟩,by first|exact p0|exact pA G3|exact pS _ (pG G3)|exact pS _ ⟨(pG G3).1,(pG G3).1⟩⟩,G3,rfl,rfl⟩,?_⟩;refine dr [0] true Kq ⟨⟨G9,.inr rfl⟩,trivial⟩ Kq Kq (sy (aI.pure rfl) (?_) (?_) (.pure rfl));all_goals first|exact .pure rfl|exact .eq rfl|exact .fz rfl (by simp only[Bc,Rc])
    · simp(disch:=omega)only[Ac,↓Pc,simprocAttr]
      ((try revert hK K);(refine Va X0 ?_))
      unfold gR;simp only[eQ,eG];simp(disch:=omega)only[Ac,↓Pc,simprocAttr];refine⟨_,_,⟨⟨m.cls,m.ae,m.ax,0⟩,k3,⟨fq.rules _,by first|exact .inl rfl|exact .inr ⟨_,sA _,rfl⟩|exact .inr ⟨_,sB _,rfl⟩,by first|exact p0|exact pA G3|exact pS _ (pG G3)|exact pS _ ⟨(pG G3).1,(pG G3).1⟩⟩,G3,rfl,rfl⟩,?_⟩;refine dr [0] true Kq ⟨⟨G9,.inr rfl⟩,trivial⟩ Kq Kq (sy (aI.pure rfl) (?_) (?_) (.pure rfl));all_goals first|exact .pure rfl|exact .eq rfl|exact .fz rfl (by simp only[Bc,Rc])
    · simp(disch:=omega)only[Ac,↓Pc,simprocAttr]
      ((try revert hK K);(refine Va X0 ?_))
      unfold gR;simp only[eQ,eG];simp(disch:=omega)only[Ac,↓Pc,simprocAttr];refine⟨_,_,⟨⟨m.cls,m.ae,m.ax,56⟩,k3,⟨fq.rules _,by first|exact .inl rfl|exact .inr ⟨_,sA _,rfl⟩|exact .inr ⟨_,sB _,rfl⟩,by first|exact p0|exact pA G3|exact pS _ (pG G3)|exact pS _ ⟨(pG G3).1,(pG G3).1⟩⟩,G3,rfl,rfl⟩,?_⟩;refine dr [0] true Kq ⟨⟨G9,.inr rfl⟩,trivial⟩ Kq Kq (sy (aI.pure rfl) (?_) (?_) (.pure rfl));all_goals first|exact .pure rfl|exact .eq rfl|exact .fz rfl (by simp only[Bc,Rc])
    · simp(disch:=omega)only[Ac,↓Pc,simprocAttr]
      ((try revert hK K);(refine Va X0 ?_))
      unfold gR;simp only[eQ,eG];simp(disch:=omega)only[Ac,↓Pc,simprocAttr];refine⟨_,_,⟨⟨m.cls,m.ae,m.ax,57⟩,k3,⟨fq.rules _,by first|exact .inl rfl|exact .inr ⟨_,sA _,rfl⟩|exact .inr ⟨_,sB _,rfl⟩,by first|exact p0|exact pA G3|exact pS _ (pG G3)|exact pS _ ⟨(pG G3).1,(pG G3).1⟩⟩,G3,rfl,rfl⟩,?_⟩;refine dr [0] true Kq ⟨⟨G9,.inr rfl⟩,trivial⟩ Kq Kq (sy (aI.pure rfl) (?_) (?_) (.pure rfl));all_goals first|exact .pure rfl|exact .eq rfl|exact .fz rfl (by simp only[Bc,Rc])
  ·
    have e:=lJ (enc:=aQ) m.ae (m.ae.getD 0 default);simp only[aQ]at e;rw[e];unfold gR;simp only[eQ,eG];simp(disch:=omega)only[Ac,↓Pc,simprocAttr];refine⟨_,_,⟨⟨m.cls,m.ae++[m.ae.getD 0 default],m.ax,m.rules⟩,k2,⟨fq.ae PX (λp hp=>(cz.1 hp).elim (fq.mb.aD p) λh=>by rw[ec.1 h];exact fq.zS G3),by first|exact .inl rfl|exact .inr ⟨_,sA _,rfl⟩|exact .inr ⟨_,sB _,rfl⟩,by first|exact p0|exact pA G3|exact pS _ (pG G3)|exact pS _ ⟨(pG G3).1,(pG G3).1⟩⟩,G3,rfl,rfl⟩,?_⟩;refine dr [0] true Kq ⟨⟨G9,.inr rfl⟩,trivial⟩ Kq Kq (sy (aI.pure rfl) (?_) (?_) (.pure rfl));all_goals first|exact .pure rfl|exact .eq rfl|exact .fz rfl (by simp only[Bc,Rc])
  ·
    unfold gR;simp only[eQ,eG];simp(disch:=omega)only[Ac,↓Pc,simprocAttr];refine⟨_,_,⟨m,k2,⟨fq,by first|exact .inl rfl|exact .inr ⟨_,sA _,rfl⟩|exact .inr ⟨_,sB _,rfl⟩,by first|exact p0|exact pA G3|exact pS _ (pG G3)|exact pS _ ⟨(pG G3).1,(pG G3).1⟩⟩,G3,rfl,rfl⟩,?_⟩;refine dr [0] true Kq ⟨⟨G9,.inr rfl⟩,trivial⟩ Kq Kq (sy (aI.pure rfl) (?_) (?_) (.pure rfl));all_goals first|exact .pure rfl|exact .eq rfl|exact .fz rfl (by simp only[Bc,Rc])
  ·
    have l4:=iw L k2 2 (by unfold dS;omega) bW hL;have GH:=kd (L:=L) (k:=k2) (n:=2) G3;have kR:=dN bW;have aoA:(m.ae.getD 0 default).aD.length<=576:=acj hm (aB G3);unfold ef at *;generalize da L k2 2=x1 at *;generalize bR L k2=k3 at *;refine unB ?_;intro Qb kP;refine wa ⟨au [(3,.ptr 1 0 0),(4,.ptr 2 0 0)],[.var [.tree 1 (ints L),aaa k3],.var [.tree 1 (rowsOf a9 m.cls),.ref 3 4 0 m.ae.length,.ref 4 4 0 m.ax.length,aaa m.rules],
      .var [.lit (.slice none 0 0),.lit (.slice none 0 0),.lit (.slice none 0 0),aaa 0],
      .arr 4 ((rowsOf aQ m.ae).set 0 [aaa (m.ae.getD 0 default).fst,aaa (m.ae.getD 0 default).snd,aaa (m.ae.getD 0 default).bF,.ref 6 1 0 (1+(m.ae.getD 0 default).aD.length)]),
      .arr 4 (rowsOf aV m.ax),.gone,.arr 1 ([aaa (x1-1)]::ints (m.ae.getD 0 default).aD)]⟩ (λs h=>kP _ (hn _ h)) ?_ (λkey=>?_)
    rotate_left
    · refine Ia 0 [] [3] (.take 2 (.take 6 (.take 7 (.take 8 (.take 9 (.take 10 (.both 0 (.both 1 (.take 3 (.take 4 (.take 5 (.take 11 (.take 12 (.take 13 (.take 14 .nil))))))) 3 (.take 4 (.both 1 (.take 5 (.take 11 (.take 12 (.take 13 (.take 14 .nil))))) 5 (.both 1 (.take 11 (.take 12 (.take 13 (.take 14 .nil)))) 11 (.take 1 (.take 12 (.take 13 (.take 14 .nil)))))))) 3 (.take 4 (.both 0 (.both 1 (.take 5 (.take 11 (.take 12 (.take 13 (.take 14 .nil))))) 5 (.both 1 (.take 11 (.take 12 (.take 13 (.take 14 .nil)))) 11 (.take 1 (.take 12 (.take 13 (.take 14 .nil)))))) 5 (.both 0 (.both 1 (.take 11 (.take 12 (.take 13 (.take 14 .nil)))) 11 (.take 1 (.take 12 (.take 13 (.take 14 .nil))))) 11 (.take 0 (.take 1 (.take 12 (.take 13 (.take 14 .nil))))))))))))))) rfl Kq (by decide +kernel) ?_
      simp(disch:=omega)only[Ac,↓Pc,simprocAttr,Hc,gK];repeat'(first|with_reducible refine cI ?_ ?_|omega|(refine AK (l4) rfl rfl rfl rfl (by(repeat'(first|exact trivial|refine cI ?_ ?_))<;>first|exact .inl ⟨rfl,rfl⟩|exact .inr ⟨rfl,rfl⟩) ?_;simp(disch:=omega)only[Ac,↓Pc,simprocAttr,Hc,gK]))
      all_goals refine key _ ?_
      all_goals exact Xv X0
    refine Va X0 ?_;unfold gR;simp only[eQ,eG];simp(disch:=omega)only[Ac,↓Pc,simprocAttr];refine⟨_,_,⟨⟨m.cls,m.ae.set 0 ⟨(m.ae.getD 0 default).fst,(m.ae.getD 0 default).snd,(m.ae.getD 0 default).bF,[x1-1]++(m.ae.getD 0 default).aD⟩,m.ax,m.rules⟩,k3,⟨fq.ae PX (λp hp=>(oP hp).elim (fq.mb.aD p) λh=>by rw[h];show([x1-1]++(m.ae.getD 0 default).aD).length<_;rw[List.length_append,List.length_singleton];omega),by first|exact .inl rfl|exact .inr ⟨_,sA _,rfl⟩|exact .inr ⟨_,sB _,rfl⟩,by first|exact p0|exact pA G3|exact pS _ (pG G3)|exact pS _ ⟨(pG G3).1,(pG G3).1⟩⟩,G3,rfl,rfl⟩,?_⟩;refine dr [0] true Kq ⟨⟨G9,.inr rfl⟩,trivial⟩ Kq Kq (sy (aI.pure rfl) (.snap _ _ rfl ?_) (?_) (.pure rfl))
    · refine cG.mk rfl (by simp only[Bc,Rc,bw]) (iD Kq) (fQ _) ?_
      rw[<- Cv];exact alp (BI (jX _)) ⟨.lit _,.lit _,.lit _,cG.mk rfl (by simp[ints];omega) (iD Kq) (ny _) (BI (oa ([x1-1]++(m.ae.getD 0 default).aD))),trivial⟩
    · first|exact .pure rfl|exact .eq rfl|exact .fz rfl (by simp only[Bc,Rc])
  ·
    unfold gR;simp only[eQ,eG];simp(disch:=omega)only[Ac,↓Pc,simprocAttr];refine⟨_,_,⟨m,k2,⟨fq,by first|exact .inl rfl|exact .inr ⟨_,sA _,rfl⟩|exact .inr ⟨_,sB _,rfl⟩,by first|exact p0|exact pA G3|exact pS _ (pG G3)|exact pS _ ⟨(pG G3).1,(pG G3).1⟩⟩,G3,rfl,rfl⟩,?_⟩;refine dr [0] true Kq ⟨⟨G9,.inr rfl⟩,trivial⟩ Kq Kq (sy (aI.pure rfl) (?_) (?_) (.pure rfl));all_goals first|exact .pure rfl|exact .eq rfl|exact .fz rfl (by simp only[Bc,Rc])
  ·
    have e:=Cv (enc:=aQ) m.ae 0 ⟨(m.ae.getD 0 default).fst,(m.ae.getD 0 default).fst,(m.ae.getD 0 default).bF,(m.ae.getD 0 default).aD⟩;simp only[aQ]at e;rw[e];unfold gR;simp only[eQ,eG];simp(disch:=omega)only[Ac,↓Pc,simprocAttr];refine⟨_,_,⟨⟨m.cls,m.ae.set 0 ⟨(m.ae.getD 0 default).fst,(m.ae.getD 0 default).fst,(m.ae.getD 0 default).bF,(m.ae.getD 0 default).aD⟩,m.ax,m.rules⟩,k2,⟨fq.ae PX (λp hp=>(oP hp).elim (fq.mb.aD p) λh=>by rw[h];exact fq.zS G3),by first|exact .inl rfl|exact .inr ⟨_,sA _,rfl⟩|exact .inr ⟨_,sB _,rfl⟩,by first|exact p0|exact pA G3|exact pS _ (pG G3)|exact pS _ ⟨(pG G3).1,(pG G3).1⟩⟩,G3,rfl,rfl⟩,?_⟩;refine dr [0] true Kq ⟨⟨G9,.inr rfl⟩,trivial⟩ Kq Kq (sy (aI.pure rfl) (?_) (?_) (.pure rfl));all_goals first|exact .pure rfl|exact .eq rfl|exact .fz rfl (by simp only[Bc,Rc])
  ·
    unfold gR;simp only[eQ,eG];simp(disch:=omega)only[Ac,↓Pc,simprocAttr];refine⟨_,_,⟨m,k2,⟨fq,by first|exact .inl rfl|exact .inr ⟨_,sA _,rfl⟩|exact .inr ⟨_,sB _,rfl⟩,by first|exact p0|exact pA G3|exact pS _ (pG G3)|exact pS _ ⟨(pG G3).1,(pG G3).1⟩⟩,G3,rfl,rfl⟩,?_⟩;refine dr [0] true Kq ⟨⟨G9,.inr rfl⟩,trivial⟩ Kq Kq (sy (aI.pure rfl) (?_) (?_) (.pure rfl));all_goals first|exact .pure rfl|exact .eq rfl|exact .fz rfl (by simp only[Bc,Rc])
  ·
    unfold gR;simp only[eQ,eG];simp(disch:=omega)only[Ac,↓Pc,simprocAttr];refine⟨_,_,⟨⟨m.cls,m.ae,m.ax++[⟨0,[],-1,1⟩],m.rules⟩,k2,⟨fq.ax PX (λp hp=>(cz.1 hp).elim (fq.mb.mB p) λh=>by rw[ec.1 h];decide),by first|exact .inl rfl|exact .inr ⟨_,sA _,rfl⟩|exact .inr ⟨_,sB _,rfl⟩,by first|exact p0|exact pA G3|exact pS _ (pG G3)|exact pS _ ⟨(pG G3).1,(pG G3).1⟩⟩,G3,rfl,rfl⟩,?_⟩;refine dr [0] true Kq ⟨⟨G9,.inr rfl⟩,trivial⟩ Kq Kq (sy (aI.pure rfl) (?_) (.snap _ _ rfl ?_) (.pure rfl))
    · first|exact .pure rfl|exact .eq rfl|exact .fz rfl (by simp only[Bc,Rc])
    · refine cG.mk rfl (by simp only[Bc,Rc]) (iD Kq) (fQ _) ?_
      rw[<- lJ];exact GF (BI (jX _)) ⟨⟨.lit _,.nil 3,.lit _,.lit _,trivial⟩,trivial⟩
  ·
    have hnw:=iw L k2 3 (by unfold dS;omega) bW hL;have kR:=dN bW;have l4:=iw L (bR L k2) 4 (by unfold dS;omega) kR hL;have w0:=dN kR;have OY:=iw L (bR L (bR L k2)) 2 (by unfold dS;omega) w0 hL;have BH:=dN w0;have hnz:=iw L (bR L (bR L (bR L k2))) 2 (by unfold dS;omega) BH hL;have GC:=dN BH;unfold ef at *;generalize da L k2 3=x1 at *;generalize bR L k2=k3 at *;generalize da L k3 4=x2 at *;generalize bR L k3=k4 at *;generalize da L k4 2=x3 at *;generalize bR L k4=k5 at *;generalize da L k5 2=x4 at *;generalize bR L k5=k6 at *;refine unB ?_;intro Qb kP;refine wa ⟨au [(3,.ptr 1 0 0),(4,.ptr 2 0 0)],[.var [.tree 1 (ints L),aaa k6],.var [.tree 1 (rowsOf a9 m.cls),.ref 3 4 0 m.ae.length,.ref 7 4 0 (m.ax.length+1),aaa m.rules],
      .var [.lit (.slice none 0 0),.lit (.slice none 0 0),.lit (.slice none 0 0),aaa 0],.arr 4 (rowsOf aQ m.ae),.gone,.arr 3 [[aaa x1,aaa x2,aaa x3]],
      .arr 4 [[aaa 0,.ref 5 3 0 1,aaa 0,aaa x4]],.arr 4 (rowsOf aV m.ax++[[aaa 0,.ref 5 3 0 1,aaa 0,aaa x4]])]⟩ (λs h=>kP _ (hn _ h)) ?_ (λkey=>?_)
    rotate_left
    · refine Ia 0 [] [3,5,7,11] (.take 0 (.take 1 (.take 2 (.take 3 (.take 4 (.take 5 (.take 6 (.take 7 (.take 8 (.take 10 (.both 9 (.take 11 (.take 12 (.take 13 (.take 14 (.take 15 (.take 16 .nil)))))) 11 (.take 9 (.take 12 (.take 13 (.take 14 (.take 15 (.take 16 .nil))))))))))))))))) rfl Kq (by decide +kernel) ?_
      simp(disch:=omega)only[Ac,↓Pc,simprocAttr,Hc,gK];repeat'(first|with_reducible refine cI ?_ ?_|omega|(refine AK (hnw) rfl rfl rfl rfl (by(repeat'(first|exact trivial|refine cI ?_ ?_))<;>first|exact .inl ⟨rfl,rfl⟩|exact .inr ⟨rfl,rfl⟩) ?_;simp(disch:=omega)only[Ac,↓Pc,simprocAttr,Hc,gK])|(refine AK (l4) rfl rfl rfl rfl (by(repeat'(first|exact trivial|refine cI ?_ ?_))<;>first|exact .inl ⟨rfl,rfl⟩|exact .inr ⟨rfl,rfl⟩) ?_;simp(disch:=omega)only[Ac,↓Pc,simprocAttr,Hc,gK])|(refine AK (OY) rfl rfl rfl rfl (by(repeat'(first|exact trivial|refine cI ?_ ?_))<;>first|exact .inl ⟨rfl,rfl⟩|exact .inr ⟨rfl,rfl⟩) ?_;simp(disch:=omega)only[Ac,↓Pc,simprocAttr,Hc,gK])|(refine AK (hnz) rfl rfl rfl rfl (by(repeat'(first|exact trivial|refine cI ?_ ?_))<;>first|exact .inl ⟨rfl,rfl⟩|exact .inr ⟨rfl,rfl⟩) ?_;simp(disch:=omega)only[Ac,↓Pc,simprocAttr,Hc,gK]))
      all_goals refine key _ ?_
      all_goals exact Xv X0
    refine Va X0 ?_;unfold gR;simp only[eQ,eG];simp(disch:=omega)only[Ac,↓Pc,simprocAttr];refine⟨_,_,⟨⟨m.cls,m.ae,m.ax++[⟨0,[⟨x1,x2,x3⟩],0,x4⟩],m.rules⟩,k6,⟨fq.ax PX (λp hp=>(cz.1 hp).elim (fq.mb.mB p) λh=>by rw[ec.1 h];simp),by first|exact .inl rfl|exact .inr ⟨_,sA _,rfl⟩|exact .inr ⟨_,sB _,rfl⟩,by first|exact p0|exact pA G3|exact pS _ (pG G3)|exact pS _ ⟨(pG G3).1,(pG G3).1⟩⟩,G3,rfl,rfl⟩,?_⟩;refine dr [0] true Kq ⟨⟨G9,.inr rfl⟩,trivial⟩ Kq Kq (sy (aI.pure rfl) (?_) (.snap _ _ rfl ?_) (.pure rfl))
    · first|exact .pure rfl|exact .eq rfl|exact .fz rfl (by simp only[Bc,Rc])
    · refine cG.mk rfl (by simp only[Bc,Rc]) (iD Kq) (fQ _) ?_
      rw[<- lJ];exact GF (BI (jX _)) ⟨⟨.lit _,cG.mk rfl rfl (iD Kq) (fQ _) ⟨⟨.lit _,.lit _,.lit _,trivial⟩,trivial⟩,.lit _,.lit _,trivial⟩,trivial⟩
  ·
    have l4:=iw L k2 5 (by unfold dS;omega) bW hL;have kR:=dN bW;have OY:=iw L (bR L k2) 2 (by unfold dS;omega) kR hL;have w0:=dN kR;unfold ef at *;generalize da L k2 5=x1 at *;generalize bR L k2=k3 at *;generalize da L k3 2=x2 at *;generalize bR L k3=k4 at *;(refine Xn [0] (l4) ?_;simp(disch:=omega)only[Ac,↓Pc,simprocAttr])
    (refine Xn [0] (OY) ?_;simp(disch:=omega)only[Ac,↓Pc,simprocAttr])
    ((try revert hK K);(refine Va X0 ?_))
    unfold gR;simp only[eQ,eG];simp(disch:=omega)only[Ac,↓Pc,simprocAttr];refine⟨_,_,⟨⟨m.cls++[[⟨0,0,0,0,0,[(x1,x2)]⟩]],m.ae,m.ax,m.rules⟩,k4,⟨fq.cls G3 PX (λl hl=>(cz.1 hl).elim (λh=>⟨fq.opt l h,fq.mb.ch l h⟩) λh=>by rw[ec.1 h];exact⟨G9,λo ho=>by rw[ec.1 ho];simp⟩),by first|exact .inl rfl|exact .inr ⟨_,sA _,rfl⟩|exact .inr ⟨_,sB _,rfl⟩,by first|exact p0|exact pA G3|exact pS _ (pG G3)|exact pS _ ⟨(pG G3).1,(pG G3).1⟩⟩,G3,rfl,rfl⟩,?_⟩;refine dr [0] true Kq ⟨⟨G9,.inr rfl⟩,trivial⟩ Kq Kq (sy (.snap _ _ rfl ?_) (?_) (?_) (.pure rfl))
    · refine cG.mk rfl (by simp only[Bc,Rc]) (iD Kq) (fQ _) ?_
      rw[<- lJ];refine GF (BI (jX _)) ⟨⟨?_,trivial⟩,trivial⟩;refine cG.mk rfl rfl (iD Kq) (fQ _) ⟨⟨.lit _,.lit _,.lit _,.lit _,.lit _,?_,trivial⟩,trivial⟩;exact cG.mk rfl rfl (iD Kq) (fQ _) ⟨⟨.lit _,.lit _,trivial⟩,trivial⟩
    · first|exact .pure rfl|exact .eq rfl|exact .fz rfl (by simp only[Bc,Rc])
    · first|exact .pure rfl|exact .eq rfl|exact .fz rfl (by simp only[Bc,Rc])
  ·
    have l4:=iw L k2 2 (by unfold dS;omega) bW hL;have GH:=kd (L:=L) (k:=k2) (n:=2) G3;have kR:=dN bW;unfold ef at *;generalize da L k2 2=x1 at *;generalize bR L k2=k3 at *;(refine Xn [0] (l4) ?_;simp(disch:=omega)only[Ac,↓Pc,simprocAttr])
    ((try revert hK K);(refine Va X0 ?_))
    unfold gR;simp only[eQ,eG];simp(disch:=omega)only[Ac,↓Pc,simprocAttr];refine⟨_,_,⟨⟨m.cls++[bG (24+x1).toNat ⟨0,0,0,0,0,[]⟩],m.ae,m.ax,m.rules⟩,k3,⟨fq.cls G3 PX (λl hl=>(cz.1 hl).elim (λh=>⟨fq.opt l h,fq.mb.ch l h⟩) λh=>by rw[ec.1 h];exact⟨by rw[ri];omega,λo ho=>by rw[BU ho];decide⟩),by first|exact .inl rfl|exact .inr ⟨_,sA _,rfl⟩|exact .inr ⟨_,sB _,rfl⟩,by first|exact p0|exact pA G3|exact pS _ (pG G3)|exact pS _ ⟨(pG G3).1,(pG G3).1⟩⟩,G3,rfl,rfl⟩,?_⟩;refine dr [0] true Kq ⟨⟨G9,.inr rfl⟩,trivial⟩ Kq Kq (sy (.snap _ _ rfl ?_) (?_) (?_) (.pure rfl))
    · refine cG.mk rfl (by simp only[Bc,Rc]) (iD Kq) (fQ _) ?_
      rw[<- lJ];refine GF (BI (jX _)) ⟨⟨?_,trivial⟩,trivial⟩;refine cG.mk rfl (by rw[ri]) (iD Kq) (fQ _) ?_;rw[show rowsOf cK (bG (24+x1).toNat ⟨0,0,0,0,0,[]⟩)=bG (24+x1).toNat (cK ⟨0,0,0,0,0,[]⟩) by rw[rowsOf,List.map_replicate]];refine aci ?_ _;exact⟨.lit _,.lit _,.lit _,.lit _,.lit _,.nil 2,trivial⟩
    · first|exact .pure rfl|exact .eq rfl|exact .fz rfl (by simp only[Bc,Rc])
    · first|exact .pure rfl|exact .eq rfl|exact .fz rfl (by simp only[Bc,Rc])
def zT(c:Int)(p:Pr):Bool:=decide (p.fst≠c/\p.snd≠c)
def q7(m:ah)(c:Int):ah:=⟨m.cls.set c.toNat [],m.ae.filter (zT c),[],m.rules⟩
def alv{m:ah}(hm:VM m){c:Int}(hc:0<=c):VM (q7 m c):=by
 have bJ:∀ l∈(q7 m c).cls,l=[]\/l∈m.cls:=λl hl=>(oP hl).symm;have key:∀ (l:List Pr) (q:Option Pr),(∀ p∈l,zT c p=true)->fH m q l=true->fH (q7 m c) q l=true:=by
  intro l
  induction l with
  |nil=>intro q _ _;cases q<;>rfl
  |cons p r ih =>
   intro q ho h;rw[fH.eq_def]at h ⊢;simp only[Bool.and_eq_true]at h ⊢;obtain⟨⟨a,b⟩,d⟩:=h;have hp:=ho p G9;unfold zT at hp;rw[decide_eq_true_eq]at hp;refine⟨⟨?_,b⟩,ih _ (λx hx=>ho x (by simp[hx])) d⟩;have e:∀ x:Int,0<=x->x≠c->(q7 m c).cls.getD x.toNat default=m.cls.getD x.toNat default:=λx h0 hx=>by
    unfold q7;dsimp only;rw[aG,List.getElem?_set_ne G3,<- aG]
   have q:=(m4 a).2;unfold gL at *;rw[e _ q.1 hp.1,e _ G3 hp.2,show(q7 m c).cls.length=m.cls.length by unfold q7;simp];exact a
 refine⟨by unfold q7;simpa using hm.cls,λl hl=>?_,j' (DQ _ _) hm.ae,aF _,hm.iI,λl hl o ho=>?_,key _ _ (λp hp=>(List.mem_filter.1 hp).2) (Iv _ hm.pr),λc hc=>by cases hc⟩
 ·rcases bJ l hl with rfl|h
  ·exact aF _
  ·exact hm.opt l h
 ·rcases bJ l hl with rfl|h
  ·cases ho
  ·exact hm.oB l h o ho
def ack{R:AV->AV->Prop}:∀ {a c:List (List AV)} {x y:List AV} (j:Nat),kG R a c->eY R x y->kG R (a.set j x) (c.set j y)
 |[],[],_,_,_,_,_=>trivial
 |_::_,_::_,_,_,0,h,k=>⟨k,h.2⟩
 |_::_,_::_,_,_,j+1,h,k=>⟨h.1,ack j h.2 k⟩
 |[],_::_,_,_,_,h,_=>h.elim
 |_::_,[],_,_,_,h,_=>h.elim
def alw{α:Type}{enc:α->List AV}{w:Nat}[Row enc w]{σ:St}{kp:Nat->Prop}(xs:List α):kG (cG σ kp) (rowsOf enc xs) (rowsOf enc xs) :=
 kG.AZ (f:=λ_=>[]) (g:=λ_=>[]) rfl λj c d hc hd=>by rw[hc]at hd;cases hd;exact JF (λv hv=>jX _ _ (List.mem_of_getElem? hc) v hv) rfl
def alx{σ:St}{kp:Nat->Prop}{id n c:Nat}{cls:List (List bV)}(ho:σ.aa[id]?=some (.arr 1 ((rowsOf a9 cls).set c [.lit (.slice none 0 0)])))(hn:n=cls.length)(hk:¬ kp id):cG σ kp (.tree 1 (rowsOf a9 (cls.set c []))) (.ref id 1 0 n):=by
 have e:rowsOf a9 (cls.set c [])=(rowsOf a9 cls).set c (a9 []):=by unfold rowsOf;rw[pC]
 refine cG.mk ho (by rw[hn,bw,bX]) hk (fQ _) ?_;rw[e];exact ack c (alw cls) ⟨.nil 6,trivial⟩
def OZ(m:ah):List AV:=[.tree 1 (rowsOf a9 m.cls),.ref 0 4 0 m.ae.length,.tree 4 (rowsOf aV m.ax),aaa m.rules]
def aly(m:ah)(hm:VM m)(c:Int)(hc:0<=c/\c<m.cls.length):an Tryz.prog 39 [.agg (ao m),aaa c] [] (.agg (OZ (q7 m c))) [.arr 4 (rowsOf aQ (q7 m c).ae)]:=by
 have nL:=hm.cls;have s7:=hm.ae;have cZ:(rowsOf a9 m.cls).length=m.cls.length:=bX _;have alz:∀ ρ,bU ρ (.arr 1 ((rowsOf a9 m.cls).set c.toNat [.lit (.slice none 0 0)]))=.arr 1 ((rowsOf a9 m.cls).set c.toNat [.lit (.slice none 0 0)]):=λρ=>by
  have h:bU ρ (.arr 1 (rowsOf a9 m.cls))=.arr 1 (rowsOf a9 m.cls):=by rw[rM]
  simp only[bU,Ob.arr.injEq,true_and]at h ⊢;rw[pC,h];simp[br]
 have Dh:∀ (xs:List Pr) (p:Pr),rowsOf aQ xs++[[AV.lit (.int .i64 p.fst),AV.lit (.int .i64 p.snd),AV.lit (.int .i64 p.bF),AV.tree 1 (ints p.aD)]]=rowsOf aQ (xs++[p]):=λxs p=>lJ xs p;refine an.aC 53 0 [.cell 4 37] Tryz.func39 ?_;repeat'(first|((fail_if_success (first|refine dE 1 ?_|refine dF 1 ?_));refine Xr X0 ?_;intro K hK)|(refine hK _ ?_;clear hK K)|refine XY ?_|fail)
 refine E1 ?_;intro Q hn he;refine wa ⟨au [(1,aaa c),(2,.ptr 0 0 0),(4,.ptr 1 0 0),(5,.ptr 3 0 0)],[.var (ao m),.var [.lit (.slice none 0 0),.lit (.slice none 0 0),.lit (.slice none 0 0),aaa 0],.arr 1 (rowsOf a9 m.cls),.var [.ref 2 1 0 m.cls.length,.lit (.slice none 0 0),.lit (.slice none 0 0),aaa m.rules]]⟩ hn ?_ (λkey=>?_);rotate_left
 ·refine jb [] (.take 0 (.take 1 (.three 2 (.take 3 (.take 4 (.take 5 (.take 6 (.take 7 .nil))))) 3 (.three 2 (.take 4 (.take 5 (.take 6 (.take 7 .nil)))) 4 (.both 2 (.take 5 (.take 6 (.take 7 .nil))) 6 (.take 2 (.take 5 (.take 7 .nil)))) 6 (.both 2 (.take 4 (.take 5 (.take 7 .nil))) 4 (.take 2 (.take 5 (.take 7 .nil))))) 6 (.both 2 (.take 3 (.take 4 (.take 5 (.take 7 .nil)))) 3 (.both 2 (.take 4 (.take 5 (.take 7 .nil))) 4 (.take 2 (.take 5 (.take 7 .nil)))))))) rfl Kq (by decide +kernel) ?_;simp(disch:=omega)only[Ac,↓Pc,simprocAttr,Pw];repeat'(first|with_reducible refine cI ?_ ?_|omega)
  all_goals
   refine key _ ?_;first|(exact Xv X0;done)|(exact Xs false [0,1,3,2] X0)
 (try clear hn;try clear he)
 refine Vb @cZ ?_;refine bD (ay.my 3 1 4 rfl rfl Kq) ?_;refine aO (λz:Nat×List Pr=>(⟨au [(1,aaa c),(2,.ptr 0 0 0),(4,.ptr 1 0 0),(5,.ptr 3 0 0),(6,aaa z.1)],[.var (ao m),.var [.lit (.slice none 0 0),.lit (.slice none 0 0),.lit (.slice none 0 0),aaa 0],.arr 1 ((rowsOf a9 m.cls).set c.toNat [.lit (.slice none 0 0)]),.var [.ref 2 1 0 m.cls.length,.ref 4 4 0 z.2.length,.lit (.slice none 0 0),aaa m.rules],.arr 4 (rowsOf aQ z.2)]⟩:St))
  (λz=>z.1<=m.ae.length/\z.2=(m.ae.take z.1).filter (zT c)) (λz=>m.ae.length-z.1) (0,[]) ⟨aF _,rfl⟩ (Xv X0) ?_
 rintro⟨i,xs⟩⟨hi,dj⟩Ql ak ar;dsimp only at hi dj ⊢;by_cases hi':i<m.ae.length
 ·have cq:=eJ hi';have qU:xs.length<=4000:=by
   rw[dj];exact j' (DQ _ _) (by rw[List.length_take];omega)
  generalize bL:m.ae.getD i default=p at *;have hf:(m.ae.take (i+1)).filter (zT c)=xs++if zT c p=true then [p] else []:=by
   rw[cq,List.filter_append,<- dj];congr 1;rw[List.filter_cons,List.filter_nil]
  by_cases acm:p.fst≠c/\p.snd≠c
  ·rw[if_pos (by unfold zT;exact decide_eq_true acm)]at hf;((repeat'(first|refine Va (X2 @bL @aQ.eq_1) ?_|(refine V2 (X2 @bL @aQ.eq_1) ?_ ?_<;>try with_reducible intro hb)|(refine Xi ?_ ?_<;>try intro ht)|exact Xx|fail)))
   all_goals exact ak _ (i+1,xs++[p]) ⟨Kw,hf.symm⟩ Kw (Xs false [0,1,2,3,6] (X2 @alz @Dh))
  ·rw[if_neg (by unfold zT;simpa using acm),List.append_nil]at hf;((repeat'(first|refine Va (X2 @bL @aQ.eq_1) ?_|(refine V2 (X2 @bL @aQ.eq_1) ?_ ?_<;>try with_reducible intro hb)|(refine Xi ?_ ?_<;>try intro ht)|exact Xx|fail)))
   all_goals exact ak _ (i+1,xs) ⟨Kw,hf.symm⟩ Kw (Xv X0)
 ·rw[List.take_of_length_le G3]at dj;((repeat'(first|refine Va X0 ?_|(refine V2 X0 ?_ ?_<;>try with_reducible intro hb)|(refine Xi ?_ ?_<;>try intro ht)|exact Xx|fail)))
  refine ar _ _ rfl ?_;clear ak ar Ql;repeat(refine Xu ?_)
  refine Vb X0 ?_;simp(disch:=omega)only[Ac,↓Pc,simprocAttr,rowOf];have lP:(q7 m c).ae=xs:=by rw[dj];rfl
  rw[lP];refine dr [4] true Kq ⟨⟨G9,.inr (by rw[rM];rfl)⟩,trivial⟩ Kq Kq ?_;refine(aI.agg _ _ rfl (eY.spec (R:=aI _ _ _ _) (cs:=OZ (q7 m c)) (ds:=[.ref 2 1 0 m.cls.length,.ref 4 4 0 xs.length,.lit (.slice none 0 0),aaa m.rules]) ⟨.snap _ _ rfl (alx rfl rfl (iD Kq)),.eq (by rw[lP];rfl),.snap _ _ rfl (.nil 4),.pure rfl,trivial⟩).2)
end T

