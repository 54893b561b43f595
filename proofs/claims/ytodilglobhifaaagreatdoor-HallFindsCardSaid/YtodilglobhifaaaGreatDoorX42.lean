import Derived.Test.YtodilglobhifaaaGreatDoorX41
import Derived.Test.YtodilglobhifaaaGreatDoorX30
set_option linter.all false
set_option maxHeartbeats 0
set_option maxRecDepth 20000
open List renaming replicate→ax,mem_singleton→bm,eq_of_mem_replicate→ui,mem_append→bj,mem_or_eq_of_mem_set→qW,length_replicate→sF
open And renaming intro→kC
open Nat renaming zero_le→aN
open Go Go.Am Go.Proofs
namespace T
def G2{P:Program}{N n0:Nat}{σ:St}{Q:Exit->St->Prop}{x:Code}{id:Nat}(h:∀ Q':Exit->St->Prop,(∀ s,Q .normal s->Q' .normal s)->W P N n0 x Q' σ):W P N n0 x (Bq id Q) σ:=h _ .n
def RN{σ:St}{kp:Nat->Prop}:∀ {l:List AV},(∀ v∈l,(∃ x,v=AV.lit x)\/∃ s r,v=AV.tree s r)->jQ (cA σ kp) l l
 |[],_=>trivial
 |v::l,h=>⟨by rcases h v Dg with⟨x,rfl⟩|⟨s,r,rfl⟩;exact .lit _;exact .tree _ _,RN λx hx=>h x (by simp[hx])⟩
def tY{σ:St}{kp:Nat->Prop}:∀ {rows:List (List AV)},(∀ row∈rows,∀ v∈row,(∃ x,v=AV.lit x)\/∃ s r,v=AV.tree s r)->n6 (cA σ kp) rows rows
 |[],_=>trivial
 |r::rows,h=>⟨RN (h r Dg),tY λx hx=>h x (by simp[hx])⟩
def xG{R:AV->AV->Prop}:∀ {a c:List (List AV)} {b d:List (List AV)},n6 R a c->n6 R b d->n6 R (a++b) (c++d)
 |[],[],_,_,_,k=>k
 |_::_,_::_,_,_,h,k=>⟨h.1,xG h.2 k⟩
 |[],_::_,_,_,h,_=>h.elim
 |_::_,[],_,_,h,_=>h.elim
def ZL{R:AV->AV->Prop}:∀ {a c:List (List AV)} {x y:List AV},n6 R a c->jQ R x y->n6 R (a.set 0 x) (c.set 0 y)
 |[],[],_,_,_,_=>trivial
 |_::_,_::_,_,_,h,k=>⟨k,h.2⟩
 |[],_::_,_,_,h,_=>h.elim
 |_::_,[],_,_,h,_=>h.elim
def RO{R:AV->AV->Prop}{x y:List AV}(h:jQ R x y):∀ n,n6 R (ax n x) (ax n y)
 |0=>trivial
 |n+1=>⟨h,RO h n⟩
def ZM{m:ah}(h:VM m){p:Pr}(hp:p∈m.ae):p.bg.length<=576:=by
 obtain⟨_,h1,h2,h3,h4⟩:=u7 (nr h.pr p hp);have a:=h.opt _ (aG (l:=m.cls) (i:=p.fst.toNat) (d:=default) Ay);have b:=h.opt _ (aG (l:=m.cls) (i:=p.snd.toNat) (d:=default) Ay);have:((m.cls.getD p.fst.toNat default).length:Int)*(m.cls.getD p.snd.toNat default).length<=24*24:=Int.mul_le_mul Ay Ay Ay Ay;omega
def mY{σ:St}{kp:Nat->Prop}{ρ:Nat->Nat}{snap:Bool}{a b c d a' b' c' d':AV}(h1:a9 σ kp ρ snap a a')(h2:a9 σ kp ρ snap b b')(h3:a9 σ kp ρ snap c c')(h4:a9 σ kp ρ snap d d'):a9 σ kp ρ snap (.agg [a,b,c,d]) (.agg [a',b',c',d']) :=
 .agg _ _ rfl (jQ.spec (R:=a9 σ kp ρ snap) (cs:=[a,b,c,d]) (ds:=[a',b',c',d']) ⟨h1,h2,h3,h4,trivial⟩).2
structure jk(q:Nat)(m:ah):Prop where
 mb:MB m
 j5:m.cls.length<=q
 opt:∀ l∈m.cls,l.length<=25
abbrev OM(m:ah):Prop:=jk 25 m
def jk.mono{q r:Nat}{m:ah}(h:jk q m)(hr:q<=r):jk r m:=⟨h.mb,Nat.le_trans h.j5 hr,h.opt⟩
def jk.rules{q:Nat}{m:ah}(h:jk q m)(r:Int):jk q ⟨m.cls,m.ae,m.aL,r⟩:=⟨⟨h.mb.cls,h.mb.opt,h.mb.ch,h.mb.ae,h.mb.bg,h.mb.aL,h.mb.eE⟩,h.j5,h.opt⟩
def jk.ae{q:Nat}{m:ah}(h:jk q m){l:List Pr}(h1:l.length<9223372036854775808)(h2:∀ p∈l,p.bg.length<9223372036854775808):jk q ⟨m.cls,l,m.aL,m.rules⟩:=⟨⟨h.mb.cls,h.mb.opt,h.mb.ch,h1,h2,h.mb.aL,h.mb.eE⟩,h.j5,h.opt⟩
def jk.aL{q:Nat}{m:ah}(h:jk q m){l:List Ct}(h1:l.length<9223372036854775808)(h2:∀ p∈l,p.fH.length<9223372036854775808):jk q ⟨m.cls,m.ae,l,m.rules⟩:=⟨⟨h.mb.cls,h.mb.opt,h.mb.ch,h.mb.ae,h.mb.bg,h1,h2⟩,h.j5,h.opt⟩
def jk.cls{q:Nat}{m:ah}(h:jk q m)(hq:q<=25){l:List (List bh)}(h1:l.length<=q)(h2:∀ x∈l,x.length<=25/\∀ o∈x,o.ch.length<9223372036854775808):jk q ⟨l,m.ae,m.aL,m.rules⟩ :=
 ⟨⟨aaa,λx hx=>by have:=(h2 x hx).1;omega,λx hx=>(h2 x hx).2,h.mb.ae,h.mb.bg,h.mb.aL,h.mb.eE⟩,h1,λx hx=>(h2 x hx).1⟩
def VM.om{m:ah}(h:VM m):OM m:=⟨h.mb,by have:=h.cls;omega,λl hl=>by have:=h.opt l hl;omega⟩
def VM.ZN{m:ah}(h:VM m){q:Nat}(hl:m.cls.length<=q):jk q m:=⟨h.mb,hl,λl hl=>by have:=h.opt l hl;omega⟩
def mZ(c:List (Int×Int)):∀ o∈[(⟨0,0,0,0,0,c⟩:bh)],o.wk<=3:=λo ho=>by
 rw[bm]at ho;subst ho;show(0:Int)<=3;decide
def m4(n:Nat):∀ o∈ax n (⟨0,0,0,0,0,[]⟩:bh),o.wk<=3:=λo ho=>by
 rw[ui ho];show(0:Int)<=3;decide
structure ZO(q:Nat)(m m':ah):Prop where
 om:jk (q+1) m'
 cl:m'.cls=m.cls\/∃ x,(∀ o∈x,o.wk<=3)/\m'.cls=m.cls++[x]
def jk.RP{q:Nat}{m:ah}(h:jk q m)(hp:0<m.ae.length):(m.ae.getD 0 default).bg.length<9223372036854775808:=h.mb.bg _ (aG hp)
def XO(q:Nat)(aaM:q<=24)(L:List Int)(k:Nat)(m:ah)(hm:VM m)(hq:m.cls.length<=q)(hk:k<=L.length)(hL:L.length<1000000):
    eM Tryz.prog 10 [.ptr 0 0 0,.agg (aA m)] [c9 L k] (λr os=>∃ m' k',ZO q m m'/\k'<=L.length/\r=.agg (aA m')/\os=[c9 L k']):=by
  have h1:=hm.cls;have h2:=hm.opt;have h3:=hm.ae;have h4:=hm.aL;have fN:jk (q+1) m:=hm.ZN Ay;have h8:=fP L k 8 (by unfold df;omega) hk hL;have h8r:=iA (L:=L) (k:=k) (n:=8) Ay;have aK:=dg hk;have r4:List.range 4=[0,1,2,3]:=Ha;unfold c9 at *;generalize cJ L k 8=j at *;generalize bH L k=k2 at *;refine eM.aO 126 1 [.cell 4 32] Tryz.func10 ?_;((refine Va X0 ?_)<;>try with_reducible intro K hK)
  (refine Xn [0] (h8) ?_;simp(disch:=omega)only[Ac,↓Pc,simprocAttr])
  ((try revert hK K);(repeat'(first|refine Va @r4 ?_|(refine Xi ?_ ?_<;>try intro ht)|fail))<;>try with_reducible intro K hK)
  ·
    have kv:=fP L k2 4 (by unfold df;omega) aK hL;have RQ:=iA (L:=L) (k:=k2) (n:=4) Ay;have eL:=dg aK;unfold c9 at *;generalize cJ L k2 4=i at *;generalize bH L k2=k3 at *;(refine Xn [0] (kv) ?_;simp(disch:=omega)only[Ac,↓Pc,simprocAttr,r4])
    have hi:i=0\/i=1\/i=2\/i=3:=Ay;rcases hi with rfl|rfl|rfl|rfl
    · simp(disch:=omega)only[Ac,↓Pc,simprocAttr]
      ((try revert hK K);(refine Va X0 ?_))
      unfold gd;simp only[dN,dO];simp(disch:=omega)only[Ac,↓Pc,simprocAttr];refine⟨_,_,⟨⟨m.cls,m.ae,m.aL,-1⟩,k3,⟨fN.rules _,by first|exact .inl rfl|exact .inr ⟨_,mZ _,rfl⟩|exact .inr ⟨_,m4 _,rfl⟩⟩,Ay,rfl,rfl⟩,?_⟩;refine eU [0] true Ha ⟨⟨Dg,.inr rfl⟩,trivial⟩ Ha Ha (mY (a9.pure rfl) (?_) (?_) (.pure rfl));all_goals first|exact .pure rfl|exact .eq rfl|exact .fz rfl (by simp only[Bc,Rc])
    · simp(disch:=omega)only[Ac,↓Pc,simprocAttr]
      ((try revert hK K);(refine Va X0 ?_))
      unfold gd;simp only[dN,dO];simp(disch:=omega)only[Ac,↓Pc,simprocAttr];refine⟨_,_,⟨⟨m.cls,m.ae,m.aL,0⟩,k3,⟨fN.rules _,by first|exact .inl rfl|exact .inr ⟨_,mZ _,rfl⟩|exact .inr ⟨_,m4 _,rfl⟩⟩,Ay,rfl,rfl⟩,?_⟩;refine eU [0] true Ha ⟨⟨Dg,.inr rfl⟩,trivial⟩ Ha Ha (mY (a9.pure rfl) (?_) (?_) (.pure rfl));all_goals first|exact .pure rfl|exact .eq rfl|exact .fz rfl (by simp only[Bc,Rc])
    · simp(disch:=omega)only[Ac,↓Pc,simprocAttr]
      ((try revert hK K);(refine Va X0 ?_))
      unfold gd;simp only[dN,dO];simp(disch:=omega)only[Ac,↓Pc,simprocAttr];refine⟨_,_,⟨⟨m.cls,m.ae,m.aL,56⟩,k3,⟨fN.rules _,by first|exact .inl rfl|exact .inr ⟨_,mZ _,rfl⟩|exact .inr ⟨_,m4 _,rfl⟩⟩,Ay,rfl,rfl⟩,?_⟩;refine eU [0] true Ha ⟨⟨Dg,.inr rfl⟩,trivial⟩ Ha Ha (mY (a9.pure rfl) (?_) (?_) (.pure rfl));all_goals first|exact .pure rfl|exact .eq rfl|exact .fz rfl (by simp only[Bc,Rc])
    · simp(disch:=omega)only[Ac,↓Pc,simprocAttr]
      ((try revert hK K);(refine Va X0 ?_))
      unfold gd;simp only[dN,dO];simp(disch:=omega)only[Ac,↓Pc,simprocAttr];refine⟨_,_,⟨⟨m.cls,m.ae,m.aL,57⟩,k3,⟨fN.rules _,by first|exact .inl rfl|exact .inr ⟨_,mZ _,rfl⟩|exact .inr ⟨_,m4 _,rfl⟩⟩,Ay,rfl,rfl⟩,?_⟩;refine eU [0] true Ha ⟨⟨Dg,.inr rfl⟩,trivial⟩ Ha Ha (mY (a9.pure rfl) (?_) (?_) (.pure rfl));all_goals first|exact .pure rfl|exact .eq rfl|exact .fz rfl (by simp only[Bc,Rc])
  ·
    have e:=jR (enc:=bL) m.ae (m.ae.getD 0 default);simp only[bL]at e;rw[e];unfold gd;simp only[dN,dO];simp(disch:=omega)only[Ac,↓Pc,simprocAttr];refine⟨_,_,⟨⟨m.cls,m.ae++[m.ae.getD 0 default],m.aL,m.rules⟩,k2,⟨fN.ae aab (λp hp=>(bj.1 hp).elim (fN.mb.bg p) λh=>by rw[bm.1 h];exact fN.RP Ay),by first|exact .inl rfl|exact .inr ⟨_,mZ _,rfl⟩|exact .inr ⟨_,m4 _,rfl⟩⟩,Ay,rfl,rfl⟩,?_⟩;refine eU [0] true Ha ⟨⟨Dg,.inr rfl⟩,trivial⟩ Ha Ha (mY (a9.pure rfl) (?_) (?_) (.pure rfl));all_goals first|exact .pure rfl|exact .eq rfl|exact .fz rfl (by simp only[Bc,Rc])
  ·
    unfold gd;simp only[dN,dO];simp(disch:=omega)only[Ac,↓Pc,simprocAttr];refine⟨_,_,⟨m,k2,⟨fN,by first|exact .inl rfl|exact .inr ⟨_,mZ _,rfl⟩|exact .inr ⟨_,m4 _,rfl⟩⟩,Ay,rfl,rfl⟩,?_⟩;refine eU [0] true Ha ⟨⟨Dg,.inr rfl⟩,trivial⟩ Ha Ha (mY (a9.pure rfl) (?_) (?_) (.pure rfl));all_goals first|exact .pure rfl|exact .eq rfl|exact .fz rfl (by simp only[Bc,Rc])
  ·
    have kv:=fP L k2 2 (by unfold df;omega) aK hL;have RQ:=iA (L:=L) (k:=k2) (n:=2) Ay;have eL:=dg aK;have aaO:(m.ae.getD 0 default).bg.length<=576:=ZM hm (aG Ay);unfold c9 at *;generalize cJ L k2 2=x1 at *;generalize bH L k2=k3 at *;refine G2 ?_;intro Qb s0;refine uK ⟨au [(3,.ptr 1 0 0),(4,.ptr 2 0 0)],[.var [.tree 1 (ints L),aah k3],.var [.tree 1 (rowsOf bk m.cls),.ref 3 4 0 m.ae.length,.ref 4 4 0 m.aL.length,aah m.rules],
      .var [.lit (.slice none 0 0),.lit (.slice none 0 0),.lit (.slice none 0 0),aah 0],
      .arr 4 ((rowsOf bL m.ae).set 0 [aah (m.ae.getD 0 default).fst,aah (m.ae.getD 0 default).snd,aah (m.ae.getD 0 default).cX,.ref 6 1 0 (1+(m.ae.getD 0 default).bg.length)]),
      .arr 4 (rowsOf dE m.aL),.gone,.arr 1 ([aah (x1-1)]::ints (m.ae.getD 0 default).bg)]⟩ (λs h=>s0 _ (hn _ h)) ?_ (λkey=>?_)
    rotate_left
    · refine DO 0 [] [3] (.take 2 (.take 6 (.take 7 (.take 8 (.take 9 (.take 10 (.both 0 (.both 1 (.take 3 (.take 4 (.take 5 (.take 11 (.take 12 (.take 13 (.take 14 .nil))))))) 3 (.take 4 (.both 1 (.take 5 (.take 11 (.take 12 (.take 13 (.take 14 .nil))))) 5 (.both 1 (.take 11 (.take 12 (.take 13 (.take 14 .nil)))) 11 (.take 1 (.take 12 (.take 13 (.take 14 .nil)))))))) 3 (.take 4 (.both 0 (.both 1 (.take 5 (.take 11 (.take 12 (.take 13 (.take 14 .nil))))) 5 (.both 1 (.take 11 (.take 12 (.take 13 (.take 14 .nil)))) 11 (.take 1 (.take 12 (.take 13 (.take 14 .nil)))))) 5 (.both 0 (.both 1 (.take 11 (.take 12 (.take 13 (.take 14 .nil)))) 11 (.take 1 (.take 12 (.take 13 (.take 14 .nil))))) 11 (.take 0 (.take 1 (.take 12 (.take 13 (.take 14 .nil))))))))))))))) rfl Ha (by decide +kernel) ?_
      simp(disch:=omega)only[Ac,↓Pc,simprocAttr,Hc,ei];repeat'(first|with_reducible refine kC ?_ ?_|omega|(refine wa (kv) rfl rfl rfl rfl (by(repeat'(first|exact trivial|refine kC ?_ ?_))<;>first|exact .inl ⟨rfl,rfl⟩|exact .inr ⟨rfl,rfl⟩) ?_;simp(disch:=omega)only[Ac,↓Pc,simprocAttr,Hc,ei]))
      all_goals refine key _ ?_
      all_goals exact Xv X0
    refine Va X0 ?_;unfold gd;simp only[dN,dO];simp(disch:=omega)only[Ac,↓Pc,simprocAttr];refine⟨_,_,⟨⟨m.cls,m.ae.set 0 ⟨(m.ae.getD 0 default).fst,(m.ae.getD 0 default).snd,(m.ae.getD 0 default).cX,[x1-1]++(m.ae.getD 0 default).bg⟩,m.aL,m.rules⟩,k3,⟨fN.ae aab (λp hp=>(qW hp).elim (fN.mb.bg p) λh=>by rw[h];show([x1-1]++(m.ae.getD 0 default).bg).length<_;rw[List.length_append,List.length_singleton];omega),by first|exact .inl rfl|exact .inr ⟨_,mZ _,rfl⟩|exact .inr ⟨_,m4 _,rfl⟩⟩,Ay,rfl,rfl⟩,?_⟩;refine eU [0] true Ha ⟨⟨Dg,.inr rfl⟩,trivial⟩ Ha Ha (mY (a9.pure rfl) (.snap _ _ rfl ?_) (?_) (.pure rfl))
    · refine cA.mk rfl (by simp only[Bc,Rc,List.length_set]) (iW Ha) (gb _) ?_
      rw[<- sS];exact ZL (tY (jt _)) ⟨.lit _,.lit _,.lit _,cA.mk rfl (by simp[ints];omega) (iW Ha) (kF _) (tY (n9 ([x1-1]++(m.ae.getD 0 default).bg))),trivial⟩
    · first|exact .pure rfl|exact .eq rfl|exact .fz rfl (by simp only[Bc,Rc])
  ·
    unfold gd;simp only[dN,dO];simp(disch:=omega)only[Ac,↓Pc,simprocAttr];refine⟨_,_,⟨m,k2,⟨fN,by first|exact .inl rfl|exact .inr ⟨_,mZ _,rfl⟩|exact .inr ⟨_,m4 _,rfl⟩⟩,Ay,rfl,rfl⟩,?_⟩;refine eU [0] true Ha ⟨⟨Dg,.inr rfl⟩,trivial⟩ Ha Ha (mY (a9.pure rfl) (?_) (?_) (.pure rfl));all_goals first|exact .pure rfl|exact .eq rfl|exact .fz rfl (by simp only[Bc,Rc])
  ·
    have e:=sS (enc:=bL) m.ae 0 ⟨(m.ae.getD 0 default).fst,(m.ae.getD 0 default).fst,(m.ae.getD 0 default).cX,(m.ae.getD 0 default).bg⟩;simp only[bL]at e;rw[e];unfold gd;simp only[dN,dO];simp(disch:=omega)only[Ac,↓Pc,simprocAttr];refine⟨_,_,⟨⟨m.cls,m.ae.set 0 ⟨(m.ae.getD 0 default).fst,(m.ae.getD 0 default).fst,(m.ae.getD 0 default).cX,(m.ae.getD 0 default).bg⟩,m.aL,m.rules⟩,k2,⟨fN.ae aab (λp hp=>(qW hp).elim (fN.mb.bg p) λh=>by rw[h];exact fN.RP Ay),by first|exact .inl rfl|exact .inr ⟨_,mZ _,rfl⟩|exact .inr ⟨_,m4 _,rfl⟩⟩,Ay,rfl,rfl⟩,?_⟩;refine eU [0] true Ha ⟨⟨Dg,.inr rfl⟩,trivial⟩ Ha Ha (mY (a9.pure rfl) (?_) (?_) (.pure rfl));all_goals first|exact .pure rfl|exact .eq rfl|exact .fz rfl (by simp only[Bc,Rc])
  ·
    unfold gd;simp only[dN,dO];simp(disch:=omega)only[Ac,↓Pc,simprocAttr];refine⟨_,_,⟨m,k2,⟨fN,by first|exact .inl rfl|exact .inr ⟨_,mZ _,rfl⟩|exact .inr ⟨_,m4 _,rfl⟩⟩,Ay,rfl,rfl⟩,?_⟩;refine eU [0] true Ha ⟨⟨Dg,.inr rfl⟩,trivial⟩ Ha Ha (mY (a9.pure rfl) (?_) (?_) (.pure rfl));all_goals first|exact .pure rfl|exact .eq rfl|exact .fz rfl (by simp only[Bc,Rc])
  ·
    unfold gd;simp only[dN,dO];simp(disch:=omega)only[Ac,↓Pc,simprocAttr];refine⟨_,_,⟨⟨m.cls,m.ae,m.aL++[⟨0,[],-1,1⟩],m.rules⟩,k2,⟨fN.aL aab (λp hp=>(bj.1 hp).elim (fN.mb.eE p) λh=>by rw[bm.1 h];decide),by first|exact .inl rfl|exact .inr ⟨_,mZ _,rfl⟩|exact .inr ⟨_,m4 _,rfl⟩⟩,Ay,rfl,rfl⟩,?_⟩;refine eU [0] true Ha ⟨⟨Dg,.inr rfl⟩,trivial⟩ Ha Ha (mY (a9.pure rfl) (?_) (.snap _ _ rfl ?_) (.pure rfl))
    · first|exact .pure rfl|exact .eq rfl|exact .fz rfl (by simp only[Bc,Rc])
    · refine cA.mk rfl (by simp only[Bc,Rc]) (iW Ha) (gb _) ?_
      rw[<- jR];exact xG (tY (jt _)) ⟨⟨.lit _,.nil 3,.lit _,.lit _,trivial⟩,trivial⟩
  ·
    have B0:=fP L k2 3 (by unfold df;omega) aK hL;have eL:=dg aK;have kv:=fP L (bH L k2) 4 (by unfold df;omega) eL hL;have xl:=dg eL;have G3:=fP L (bH L (bH L k2)) 2 (by unfold df;omega) xl hL;have RR:=dg xl;have ZP:=fP L (bH L (bH L (bH L k2))) 2 (by unfold df;omega) RR hL;have hk6:=dg RR;unfold c9 at *;generalize cJ L k2 3=x1 at *;generalize bH L k2=k3 at *;generalize cJ L k3 4=x2 at *;generalize bH L k3=k4 at *;generalize cJ L k4 2=x3 at *;generalize bH L k4=k5 at *;generalize cJ L k5 2=x4 at *;generalize bH L k5=k6 at *;refine G2 ?_;intro Qb s0;refine uK ⟨au [(3,.ptr 1 0 0),(4,.ptr 2 0 0)],[.var [.tree 1 (ints L),aah k6],.var [.tree 1 (rowsOf bk m.cls),.ref 3 4 0 m.ae.length,.ref 7 4 0 (m.aL.length+1),aah m.rules],
      .var [.lit (.slice none 0 0),.lit (.slice none 0 0),.lit (.slice none 0 0),aah 0],.arr 4 (rowsOf bL m.ae),.gone,.arr 3 [[aah x1,aah x2,aah x3]],
      .arr 4 [[aah 0,.ref 5 3 0 1,aah 0,aah x4]],.arr 4 (rowsOf dE m.aL++[[aah 0,.ref 5 3 0 1,aah 0,aah x4]])]⟩ (λs h=>s0 _ (hn _ h)) ?_ (λkey=>?_)
    rotate_left
    · refine DO 0 [] [3,5,7,11] (.take 0 (.take 1 (.take 2 (.take 3 (.take 4 (.take 5 (.take 6 (.take 7 (.take 8 (.take 10 (.both 9 (.take 11 (.take 12 (.take 13 (.take 14 (.take 15 (.take 16 .nil)))))) 11 (.take 9 (.take 12 (.take 13 (.take 14 (.take 15 (.take 16 .nil))))))))))))))))) rfl Ha (by decide +kernel) ?_
      simp(disch:=omega)only[Ac,↓Pc,simprocAttr,Hc,ei];repeat'(first|with_reducible refine kC ?_ ?_|omega|(refine wa (B0) rfl rfl rfl rfl (by(repeat'(first|exact trivial|refine kC ?_ ?_))<;>first|exact .inl ⟨rfl,rfl⟩|exact .inr ⟨rfl,rfl⟩) ?_;simp(disch:=omega)only[Ac,↓Pc,simprocAttr,Hc,ei])|(refine wa (kv) rfl rfl rfl rfl (by(repeat'(first|exact trivial|refine kC ?_ ?_))<;>first|exact .inl ⟨rfl,rfl⟩|exact .inr ⟨rfl,rfl⟩) ?_;simp(disch:=omega)only[Ac,↓Pc,simprocAttr,Hc,ei])|(refine wa (G3) rfl rfl rfl rfl (by(repeat'(first|exact trivial|refine kC ?_ ?_))<;>first|exact .inl ⟨rfl,rfl⟩|exact .inr ⟨rfl,rfl⟩) ?_;simp(disch:=omega)only[Ac,↓Pc,simprocAttr,Hc,ei])|(refine wa (ZP) rfl rfl rfl rfl (by(repeat'(first|exact trivial|refine kC ?_ ?_))<;>first|exact .inl ⟨rfl,rfl⟩|exact .inr ⟨rfl,rfl⟩) ?_;simp(disch:=omega)only[Ac,↓Pc,simprocAttr,Hc,ei]))
      all_goals refine key _ ?_
      all_goals exact Xv X0
    refine Va X0 ?_;unfold gd;simp only[dN,dO];simp(disch:=omega)only[Ac,↓Pc,simprocAttr];refine⟨_,_,⟨⟨m.cls,m.ae,m.aL++[⟨0,[⟨x1,x2,x3⟩],0,x4⟩],m.rules⟩,k6,⟨fN.aL aab (λp hp=>(bj.1 hp).elim (fN.mb.eE p) λh=>by rw[bm.1 h];simp),by first|exact .inl rfl|exact .inr ⟨_,mZ _,rfl⟩|exact .inr ⟨_,m4 _,rfl⟩⟩,Ay,rfl,rfl⟩,?_⟩;refine eU [0] true Ha ⟨⟨Dg,.inr rfl⟩,trivial⟩ Ha Ha (mY (a9.pure rfl) (?_) (.snap _ _ rfl ?_) (.pure rfl))
    · first|exact .pure rfl|exact .eq rfl|exact .fz rfl (by simp only[Bc,Rc])
    · refine cA.mk rfl (by simp only[Bc,Rc]) (iW Ha) (gb _) ?_
      rw[<- jR];exact xG (tY (jt _)) ⟨⟨.lit _,cA.mk rfl rfl (iW Ha) (gb _) ⟨⟨.lit _,.lit _,.lit _,trivial⟩,trivial⟩,.lit _,.lit _,trivial⟩,trivial⟩
  ·
    have kv:=fP L k2 5 (by unfold df;omega) aK hL;have eL:=dg aK;have G3:=fP L (bH L k2) 2 (by unfold df;omega) eL hL;have xl:=dg eL;unfold c9 at *;generalize cJ L k2 5=x1 at *;generalize bH L k2=k3 at *;generalize cJ L k3 2=x2 at *;generalize bH L k3=k4 at *;(refine Xn [0] (kv) ?_;simp(disch:=omega)only[Ac,↓Pc,simprocAttr])
    (refine Xn [0] (G3) ?_;simp(disch:=omega)only[Ac,↓Pc,simprocAttr])
    ((try revert hK K);(refine Va X0 ?_))
    unfold gd;simp only[dN,dO];simp(disch:=omega)only[Ac,↓Pc,simprocAttr];refine⟨_,_,⟨⟨m.cls++[[⟨0,0,0,0,0,[(x1,x2)]⟩]],m.ae,m.aL,m.rules⟩,k4,⟨fN.cls Ay aab (λl hl=>(bj.1 hl).elim (λh=>⟨fN.opt l h,fN.mb.ch l h⟩) λh=>by rw[bm.1 h];exact⟨Dg,λo ho=>by rw[bm.1 ho];simp⟩),by first|exact .inl rfl|exact .inr ⟨_,mZ _,rfl⟩|exact .inr ⟨_,m4 _,rfl⟩⟩,Ay,rfl,rfl⟩,?_⟩;refine eU [0] true Ha ⟨⟨Dg,.inr rfl⟩,trivial⟩ Ha Ha (mY (.snap _ _ rfl ?_) (?_) (?_) (.pure rfl))
    · refine cA.mk rfl (by simp only[Bc,Rc]) (iW Ha) (gb _) ?_
      rw[<- jR];refine xG (tY (jt _)) ⟨⟨?_,trivial⟩,trivial⟩;refine cA.mk rfl rfl (iW Ha) (gb _) ⟨⟨.lit _,.lit _,.lit _,.lit _,.lit _,?_,trivial⟩,trivial⟩;exact cA.mk rfl rfl (iW Ha) (gb _) ⟨⟨.lit _,.lit _,trivial⟩,trivial⟩
    · first|exact .pure rfl|exact .eq rfl|exact .fz rfl (by simp only[Bc,Rc])
    · first|exact .pure rfl|exact .eq rfl|exact .fz rfl (by simp only[Bc,Rc])
  ·
    have kv:=fP L k2 2 (by unfold df;omega) aK hL;have RQ:=iA (L:=L) (k:=k2) (n:=2) Ay;have eL:=dg aK;unfold c9 at *;generalize cJ L k2 2=x1 at *;generalize bH L k2=k3 at *;(refine Xn [0] (kv) ?_;simp(disch:=omega)only[Ac,↓Pc,simprocAttr])
    ((try revert hK K);(refine Va X0 ?_))
    unfold gd;simp only[dN,dO];simp(disch:=omega)only[Ac,↓Pc,simprocAttr];refine⟨_,_,⟨⟨m.cls++[ax (24+x1).toNat ⟨0,0,0,0,0,[]⟩],m.ae,m.aL,m.rules⟩,k3,⟨fN.cls Ay aab (λl hl=>(bj.1 hl).elim (λh=>⟨fN.opt l h,fN.mb.ch l h⟩) λh=>by rw[bm.1 h];exact⟨by rw[sF];omega,λo ho=>by rw[ui ho];decide⟩),by first|exact .inl rfl|exact .inr ⟨_,mZ _,rfl⟩|exact .inr ⟨_,m4 _,rfl⟩⟩,Ay,rfl,rfl⟩,?_⟩;refine eU [0] true Ha ⟨⟨Dg,.inr rfl⟩,trivial⟩ Ha Ha (mY (.snap _ _ rfl ?_) (?_) (?_) (.pure rfl))
    · refine cA.mk rfl (by simp only[Bc,Rc]) (iW Ha) (gb _) ?_
      rw[<- jR];refine xG (tY (jt _)) ⟨⟨?_,trivial⟩,trivial⟩;refine cA.mk rfl (by rw[sF]) (iW Ha) (gb _) ?_;rw[show rowsOf bA (ax (24+x1).toNat ⟨0,0,0,0,0,[]⟩)=ax (24+x1).toNat (bA ⟨0,0,0,0,0,[]⟩) by rw[rowsOf,List.map_replicate]];refine RO ?_ _;exact⟨.lit _,.lit _,.lit _,.lit _,.lit _,.nil 2,trivial⟩
    · first|exact .pure rfl|exact .eq rfl|exact .fz rfl (by simp only[Bc,Rc])
    · first|exact .pure rfl|exact .eq rfl|exact .fz rfl (by simp only[Bc,Rc])
structure EM(m:ah)(gI bG:Nat):Prop where
 vm:VM m
 j5:m.cls.length<=gI
 some:∀ l∈m.cls,1<=l.length/\l.length<=2*bG+1
 rJ:m.rules=2
 aL:m.aL.length<=2*bG
 wk:∀ l∈m.cls,∀ o∈l,o.wk<=3
def xH(bG:Nat)(l:List bh):Prop:=∀ o∈l,dh 2 none o.ch=true/\0<=o.day/\o.day<=1/\o.wk<=3
def xH.app{bG:Nat}{l:List bh}(h:xH bG l){o:bh}(ho:dh 2 none o.ch=true/\0<=o.day/\o.day<=1/\o.wk<=3):xH bG (l++[o]):=λx hx=>by
 rcases bj.1 hx with h'|h'
 ·exact h x h'
 ·rw[bm.1 h'];exact ho
def fQ:Ob:=.var [.lit (.slice none 0 0),.lit (.slice none 0 0),.lit (.slice none 0 0),aah 0]
def XC(L:List Int)(k:Nat)(gI bG:Nat)(hk:k<=L.length)(hL:L.length<1000000)(hc:gI<=24)(hr:1<=bG/\bG<=11):
  eM Tryz.prog 21 [.ptr 0 0 0,aah gI,aah bG] [c9 L k] (λr os=>∃ m k',EM m gI bG/\k'<=L.length/\r=.agg (aA m)/\os=[c9 L k']):=by
 unfold c9;refine eM.aO 105 1 [.cell 6 32] Tryz.func21 ?_;((try revert hK K);(repeat'(first|refine Vb X0 ?_|(refine V2 X0 ?_ ?_<;>try with_reducible intro hb)|(refine Xi ?_ ?_<;>try intro ht)|refine VD ?_ ?_|exact Xx|fail))<;>try with_reducible intro K hK)
 refine fD [0] (fP L k (gI+1) (by unfold df;omega) hk hL) Ha ⟨rfl,trivial⟩ ⟨.eq rfl,.pure rfl,trivial⟩ ?_;have Aj:=iA (L:=L) (k:=k) (n:=gI+1) Ay;have aK:=dg hk;generalize cJ L k (gI+1)=n at *;generalize bH L k=k2 at *;clear hk;obtain⟨c0,rfl⟩:∃c0:Nat,n=c0:=⟨n.toNat,Ay⟩;((try revert hK K);(repeat'(first|refine Vb X0 ?_|(refine V2 X0 ?_ ?_<;>try with_reducible intro hb)|(refine Xi ?_ ?_<;>try intro ht)|refine VD ?_ ?_|exact Xx|fail))<;>try with_reducible intro K hK)
 refine aX (λz:Nat×Nat×List (List bh)=>(⟨au [(0,.ptr 0 0 0),(2,aah bG),(6,.ptr 1 0 0),(7,.ptr 2 0 0),(8,aah z.1)],
   [.var [.tree 1 (ints L),aah z.2.1],fQ,.var [.ref 3 1 0 z.2.2.length,.lit (.slice none 0 0),.lit (.slice none 0 0),aah 2],.arr 1 (rowsOf bk z.2.2)]⟩:St))
  (λz=>z.1+z.2.2.length<=gI/\z.2.1<=L.length/\∀ l∈z.2.2,(1<=l.length/\l.length<=2*bG+1)/\xH bG l) (λz=>z.1) (c0,k2,[]) ⟨aab,aK,Dg⟩ ?_ ?_
 ·refine aC.trans (aC.n5 2 0 1 rfl rfl Ha) ?_;unfold fQ;exact Xv X0
 clear Aj aK;rintro⟨c,k,cls⟩⟨bJ,hk,kT⟩Ql an ay;dsimp only at bJ hk kT ⊢;by_cases iX:0<c
 ·obtain⟨c',rfl⟩ :∃c',c=c'+1:=⟨c-1,Ay⟩;have kI:((c'+1:Nat):Int)-1=c':=Ay;((try revert hK K);(repeat'(first|refine Va X0 ?_|(refine V2 X0 ?_ ?_<;>try with_reducible intro hb)|(refine Xi ?_ ?_<;>try intro ht)|refine VD ?_ ?_|exact Xx|fail))<;>try with_reducible intro K hK)
  refine aX (λz:Nat×Nat×List bh=>(⟨au [(0,.ptr 0 0 0),(2,aah bG),(6,.ptr 1 0 0),(7,.ptr 2 0 0),(8,aah (c'+1:Nat)),(9,.ref 4 6 0 z.2.2.length),(10,aah z.1)],
    [.var [.tree 1 (ints L),aah z.2.1],fQ,.var [.ref 3 1 0 cls.length,.lit (.slice none 0 0),.lit (.slice none 0 0),aah 2],.arr 1 (rowsOf bk cls),.arr 6 (rowsOf bA z.2.2)]⟩:St))
   (λz=>z.1<=2/\z.2.1<=L.length/\(0<z.1->1<=z.2.2.length)/\z.2.2.length<=z.1*bG/\xH bG z.2.2) (λz=>2-z.1) (0,k,[]) ⟨aN _,hk,λh=>by simp at h,Dg,λo ho=>by simp at ho⟩ ?_ ?_
  ·refine aC.trans (aC.nil 9 6 (by simp only[Kc,simprocAttr]) Ha) ?_;exact Xv X0
  clear hk;rintro⟨t,k,l⟩⟨fv,hk,hl1,iK,nF⟩cC aS bf;dsimp only at fv hk hl1 iK nF ⊢;by_cases ZI:t<2
  ·have ZJ:t*bG<=bG:=by
    have:t*bG<=1*bG:=Nat.mul_le_mul_right _ Ay;omega
   have ZK:(t+1)*bG=t*bG+bG:=by rw[Nat.add_mul,Nat.one_mul]
   generalize t*bG=tr at *;have kJ:=rZ L k 3 (by unfold df;omega) Ha hk hL;have yr:=dg hk;generalize oA L k 3=b1 at *;generalize bH L k=ka at *;have wV:(if t=1 then ka else k)<=L.length:=by split<;>omega
   repeat'(first|((fail_if_success (first|refine gP 9 ?_|refine gQ 9 ?_));refine Xr X0 ?_;intro K hK)|refine Xo X0 ?_|(refine hK _ ?_;clear hK K)|(refine Xg X0 ?_ ?_<;>try intro hb)|(refine Xi ?_ ?_<;>try intro ht)|refine Xy ?_|refine Xd ?_ ?_|exact Xx|fail)
   (first|refine EP ?_|refine UA ?_);intro Q0 lV lW
   refine uK ⟨au [(0,.ptr 0 0 0),(2,aah bG),(6,.ptr 1 0 0),(7,.ptr 2 0 0),(8,aah (c'+1:Nat)),(9,.ref 4 6 0 l.length),(10,aah t)],
    [.var [.tree 1 (ints L),aah (if t=1 then ka else k:Nat)],fQ,.var [.ref 3 1 0 cls.length,.lit (.slice none 0 0),.lit (.slice none 0 0),aah 2],.arr 1 (rowsOf bk cls),.arr 6 (rowsOf bA l)]⟩ lV ?_ (λkey=>?_)
   rotate_left
   ·(try clear lV)
    have ZQ:t=0\/t=1:=Ay;rcases ZQ with rfl|rfl
    ·((try revert hK K);(repeat'(first|refine Va X0 ?_|(refine V2 X0 ?_ ?_<;>try with_reducible intro hb)|(refine Xi ?_ ?_<;>try intro ht)|refine VD ?_ ?_|exact Xx|fail))<;>try with_reducible intro K hK)
     all_goals try(exfalso;omega)
     refine key _ ?_;rw[if_neg Ay];exact Xv X0
    ·((try revert hK K);(repeat'(first|refine Va X0 ?_|(refine V2 X0 ?_ ?_<;>try with_reducible intro hb)|(refine Xi ?_ ?_<;>try intro ht)|refine VD ?_ ?_|exact Xx|fail))<;>try with_reducible intro K hK)
     all_goals try(exfalso;omega)
     (refine Xn [0] (kJ) ?_;simp(disch:=omega)only[Ac,↓Pc,simprocAttr])
     ((try revert hK K);(repeat'(first|refine Va X0 ?_|(refine V2 X0 ?_ ?_<;>try with_reducible intro hb)|(refine Xi ?_ ?_<;>try intro ht)|refine VD ?_ ?_|exact Xx|fail))<;>try with_reducible intro K hK)
     ·refine lW _ _ rfl ?_;repeat(first|refine Xu ?_)
      ((try revert hK K);(repeat'(first|refine Va X0 ?_|(refine V2 X0 ?_ ?_<;>try with_reducible intro hb)|(refine Xi ?_ ?_<;>try intro ht)|refine VD ?_ ?_|exact Xx|fail))<;>try with_reducible intro K hK)
      exact aS _ (2,ka,l) ⟨aaa,yr,λ_=>hl1 Ay,aaa,nF⟩ aaa (Xv X0)
     ·refine key _ ?_;rw[if_pos rfl];exact Xv X0
   (try clear hn;try clear he;try clear Q;try clear lV;try clear lW;try clear Q0)
   generalize (if t=1 then ka else k)=kx at *;clear kJ yr hk;((try revert hK K);(repeat'(first|refine Va X0 ?_|(refine V2 X0 ?_ ?_<;>try with_reducible intro hb)|(refine Xi ?_ ?_<;>try intro ht)|refine VD ?_ ?_|exact Xx|fail))<;>try with_reducible intro K hK)
   refine fD [0] (xB L kx wV hL) Ha ⟨rfl,trivial⟩ ⟨.eq rfl,trivial⟩ ?_;obtain⟨nZ,qc,sv⟩:=xA L kx;have hk:=sw wV;generalize jh L kx=cv at *;generalize cU L kx=k at *;clear wV;unfold c9;((try revert hK K);(repeat'(first|refine Va X0 ?_|(refine V2 X0 ?_ ?_<;>try with_reducible intro hb)|(refine Xi ?_ ?_<;>try intro ht)|refine VD ?_ ?_|exact Xx|fail))<;>try with_reducible intro K hK)
   refine aX (λz:Nat×List bh=>(⟨au [(0,.ptr 0 0 0),(2,aah bG),(6,.ptr 1 0 0),(7,.ptr 2 0 0),(8,aah (c'+1:Nat)),(9,.ref 4 6 0 z.2.length),(10,aah t),(11,aah cv),(12,aah z.1)],
     [.var [.tree 1 (ints L),aah k],fQ,.var [.ref 3 1 0 cls.length,.lit (.slice none 0 0),.lit (.slice none 0 0),aah 2],.arr 1 (rowsOf bk cls),.arr 6 (rowsOf bA z.2)]⟩:St))
    (λz=>z.1<=bG/\z.1<=z.2.length/\z.2.length<=tr+z.1/\xH bG z.2) (λz=>bG-z.1) (0,l) ⟨aN _,aN _,aaa,nF⟩ (Xv X0) ?_
   clear hl1 iK nF;rintro⟨r,l⟩⟨yL,hl1,iK,nF⟩jC eH dJ;dsimp only at yL hl1 iK nF ⊢;by_cases mC:r<bG
   ·repeat'(first|((fail_if_success (first|refine gP 17 ?_|refine gQ 17 ?_));refine Xr X0 ?_;intro K hK)|refine Xo X0 ?_|(refine hK _ ?_;clear hK K)|(refine Xg X0 ?_ ?_<;>try intro hb)|(refine Xi ?_ ?_<;>try intro ht)|refine Xy ?_|refine Xd ?_ ?_|exact Xx|fail)
    ·refine cE (aC.qd 6 5 5 2 (rows:=[[aah 0,aah cv]]) rfl rfl rfl Dg Dg) ?_;refine cE (σ':=⟨au [(0,.ptr 0 0 0),(2,aah bG),(6,.ptr 1 0 0),(7,.ptr 2 0 0),(8,aah (c'+1:Nat)),(9,.ref 4 6 0 l.length),(10,aah t),(11,aah cv),(12,aah r),(13,.ptr 5 0 0)],
      [.var [.tree 1 (ints L),aah k],fQ,.var [.ref 3 1 0 cls.length,.lit (.slice none 0 0),.lit (.slice none 0 0),aah 2],.arr 1 (rowsOf bk cls),.arr 6 (rowsOf bA l),.var (bA ⟨1,t,0,1,r,[(0,cv)]⟩),.gone]⟩) (Xv X0) ?_
     ((try revert hK K);(repeat'(first|refine Va X0 ?_|(refine V2 X0 ?_ ?_<;>try with_reducible intro hb)|(refine Xi ?_ ?_<;>try intro ht)|refine VD ?_ ?_|exact Xx|fail))<;>try with_reducible intro K hK)
     rw[show rowsOf bA l++[[AV.lit (.int .i64 1),AV.lit (.int .i64 t),AV.lit (.int .i64 0),AV.lit (.int .i64 1),AV.lit (.int .i64 r),AV.tree 2 (rowsOf aj [(0,cv)])]]=rowsOf bA (l++[⟨1,t,0,1,r,[(0,cv)]⟩]) from jR (enc:=bA) l ⟨1,t,0,1,r,[(0,cv)]⟩];refine eH _ (r+1,l++[⟨1,t,0,1,r,[(0,cv)]⟩]) ⟨aaa,aab,aab,nF.app ⟨?_,aaa,aaa,by dsimp only;decide⟩⟩ aaa (by unfold fQ;exact Xs false [0,1,2,3,8] X0);simp only[dh,Bool.and_true,Bool.and_eq_true,gY,decide_eq_true_eq];exact⟨Ay,sv Ay⟩
    ·refine cE (aC.n5 5 5 2 rfl rfl Ha) ?_;refine cE (aC.qd 6 5 5 2 (rows:=[]) rfl rfl rfl Dg Dg) ?_;refine cE (σ':=⟨au [(0,.ptr 0 0 0),(2,aah bG),(6,.ptr 1 0 0),(7,.ptr 2 0 0),(8,aah (c'+1:Nat)),(9,.ref 4 6 0 l.length),(10,aah t),(11,aah cv),(12,aah r),(13,.ptr 5 0 0)],
      [.var [.tree 1 (ints L),aah k],fQ,.var [.ref 3 1 0 cls.length,.lit (.slice none 0 0),.lit (.slice none 0 0),aah 2],.arr 1 (rowsOf bk cls),.arr 6 (rowsOf bA l),.var (bA ⟨1,t,0,1,r,[]⟩),.gone]⟩) (Xv X0) ?_
     ((try revert hK K);(repeat'(first|refine Va X0 ?_|(refine V2 X0 ?_ ?_<;>try with_reducible intro hb)|(refine Xi ?_ ?_<;>try intro ht)|refine VD ?_ ?_|exact Xx|fail))<;>try with_reducible intro K hK)
     rw[show rowsOf bA l++[[AV.lit (.int .i64 1),AV.lit (.int .i64 t),AV.lit (.int .i64 0),AV.lit (.int .i64 1),AV.lit (.int .i64 r),AV.tree 2 (rowsOf aj [])]]=rowsOf bA (l++[⟨1,t,0,1,r,[]⟩]) from jR (enc:=bA) l ⟨1,t,0,1,r,[]⟩];exact eH _ (r+1,l++[⟨1,t,0,1,r,[]⟩]) ⟨aaa,aab,aab,nF.app ⟨rfl,aaa,aaa,by dsimp only;decide⟩⟩ aaa (by unfold fQ;exact Xs false [0,1,2,3,8] X0)
   ·((try revert hK K);(repeat'(first|refine Va X0 ?_|(refine V2 X0 ?_ ?_<;>try with_reducible intro hb)|(refine Xi ?_ ?_<;>try intro ht)|refine VD ?_ ?_|exact Xx|fail))<;>try with_reducible intro K hK)
    refine dJ _ _ rfl ?_;clear eH dJ jC;repeat(first|refine Xu ?_)
    ((try revert hK K);(repeat'(first|refine Va X0 ?_|(refine V2 X0 ?_ ?_<;>try with_reducible intro hb)|(refine Xi ?_ ?_<;>try intro ht)|refine VD ?_ ?_|exact Xx|fail))<;>try with_reducible intro K hK)
    exact aS _ (t+1,k,l) ⟨aaa,hk,λ_=>aaa,aaa,nF⟩ aaa (Xv X0)
  ·obtain rfl:t=2:=Ay;((try revert hK K);(repeat'(first|refine Va X0 ?_|(refine V2 X0 ?_ ?_<;>try with_reducible intro hb)|(refine Xi ?_ ?_<;>try intro ht)|refine VD ?_ ?_|exact Xx|fail))<;>try with_reducible intro K hK)
   refine bf _ _ rfl ?_;clear aS bf cC;repeat(first|refine Xu ?_)
   ((try revert hK K);(repeat'(first|refine Va X0 ?_|(refine V2 X0 ?_ ?_<;>try with_reducible intro hb)|(refine Xi ?_ ?_<;>try intro ht)|refine VD ?_ ?_|exact Xx|fail))<;>try with_reducible intro K hK)
   refine fD [0] (rZ L k 3 (by unfold df;omega) Ha hk hL) Ha ⟨rfl,trivial⟩ ⟨.eq rfl,.pure rfl,trivial⟩ ?_;have aK:=dg hk;generalize oA L k 3=b at *;generalize bH L k=k2 at *;clear hk;repeat'(first|((fail_if_success (first|refine gP 20 ?_|refine gQ 20 ?_));refine Xr X0 ?_;intro K hK)|refine Xo X0 ?_|(refine hK _ ?_;clear hK K)|(refine Xg X0 ?_ ?_<;>try intro hb)|(refine Xi ?_ ?_<;>try intro ht)|refine Xy ?_|refine Xd ?_ ?_|exact Xx|fail)
   ·have e:=jR (enc:=bA) l ⟨2,0,0,1,-1,[]⟩;refine cE (σ':=⟨au [(0,.ptr 0 0 0),(2,aah bG),(6,.ptr 1 0 0),(7,.ptr 2 0 0),(8,aah (c'+1:Nat)),(9,.tree 6 (rowsOf bA (l++[⟨2,0,0,1,-1,[]⟩])))],
     [.var [.tree 1 (ints L),aah k2],fQ,.var [.ref 3 1 0 cls.length,.lit (.slice none 0 0),.lit (.slice none 0 0),aah 2],.arr 1 (rowsOf bk cls)]⟩) ?_ ?_
    ·unfold fQ;(refine aC.se [0,1,2,3] true (by simp only[Oc,simprocAttr]) ?_;simp only[Hr,↓reduceIte,Nat.reduceEqDiff,Nat.reduceBEq,Nat.reduceAdd];try(and_intros<;>first|exact .pure rfl|exact .eq rfl|exact .fz rfl (by simp only[Bc,Rc])))
     and_intros
     all_goals first|first|exact .pure rfl|exact .eq rfl|exact .fz rfl (by simp only[Bc,Rc])|skip
     rw[<- e];exact .snap _ _ rfl (cA.mk rfl (by simp only[Bc,Rc]) (iW Ha) (by rw[e];exact gb _) (xG (tY (jt _)) ⟨⟨.lit _,.lit _,.lit _,.lit _,.lit _,.nil 2,trivial⟩,trivial⟩))
    ((try revert hK K);(repeat'(first|refine Va @kI ?_|(refine V2 @kI ?_ ?_<;>try with_reducible intro hb)|(refine Xi ?_ ?_<;>try intro ht)|refine VD ?_ ?_|exact Xx|fail))<;>try with_reducible intro K hK)
    have e2:=jR (enc:=bk) cls (l++[(⟨2,0,0,1,-1,[]⟩:bh)]);simp only[bk]at e2;rw[e2];refine an _ (c',k2,cls++[l++[⟨2,0,0,1,-1,[]⟩]]) ⟨aab,aK,λx hx=>?_⟩ aaa (by unfold fQ;exact Xs false [0,1,2,5] X0);rcases bj.1 hx with h|h
    ·exact kT x h
    ·rw[bm.1 h];exact⟨aab,nF.app ⟨rfl,Ha,Ha,Ha⟩⟩
   ·refine cE (σ':=⟨au [(0,.ptr 0 0 0),(2,aah bG),(6,.ptr 1 0 0),(7,.ptr 2 0 0),(8,aah (c'+1:Nat)),(9,.tree 6 (rowsOf bA l))],
     [.var [.tree 1 (ints L),aah k2],fQ,.var [.ref 3 1 0 cls.length,.lit (.slice none 0 0),.lit (.slice none 0 0),aah 2],.arr 1 (rowsOf bk cls)]⟩) (by unfold fQ;exact Xs true [0,1,2,3] X0) ?_
    ((try revert hK K);(repeat'(first|refine Va @kI ?_|(refine V2 @kI ?_ ?_<;>try with_reducible intro hb)|(refine Xi ?_ ?_<;>try intro ht)|refine VD ?_ ?_|exact Xx|fail))<;>try with_reducible intro K hK)
    rw[show rowsOf bk cls++[[AV.tree 6 (rowsOf bA l)]]=rowsOf bk (cls++[l]) from jR (enc:=bk) cls l];refine an _ (c',k2,cls++[l]) ⟨aab,aK,λx hx=>?_⟩ aaa (by unfold fQ;exact Xs false [0,1,2,5] X0);rcases bj.1 hx with h|h
    ·exact kT x h
    ·rw[bm.1 h];exact⟨Ay,nF⟩
 obtain rfl:c=0:=Ay;((try revert hK K);(repeat'(first|refine Va X0 ?_|(refine V2 X0 ?_ ?_<;>try with_reducible intro hb)|(refine Xi ?_ ?_<;>try intro ht)|refine VD ?_ ?_|exact Xx|fail))<;>try with_reducible intro K hK)
 refine ay _ _ rfl ?_;clear an ay Ql;repeat(first|refine Xu ?_)
 refine cE (aC.qd 3 2 0 1 rfl rfl (by rw[cH];rfl) (gb _) (jt _)) ?_;refine cE (aC.n5 2 1 4 rfl rfl Ha) ?_;refine cE (σ':=⟨au [(0,.ptr 0 0 0),(2,aah bG),(6,.ptr 1 0 0),(7,.ptr 2 0 0)],
   [.var [.tree 1 (ints L),aah k],fQ,.var [.tree 1 (rowsOf bk cls),.ref 4 4 0 0,.lit (.slice none 0 0),aah 2],.gone,.arr 4 (rowsOf bL [])]⟩) (by unfold fQ;exact Xv X0) ?_
 refine cE (σ':=⟨au [(0,.ptr 0 0 0),(2,aah bG),(6,.ptr 1 0 0),(7,.ptr 2 0 0)],
   [.var [.tree 1 (ints L),aah k],fQ,.var [.tree 1 (rowsOf bk cls),.ref 3 4 0 0,.lit (.slice none 0 0),aah 2],.arr 4 (rowsOf bL [])]⟩) (by unfold fQ;exact Xs false [0,1,2,4] X0) ?_
 have G4:∀ l∈cls,l.length<=24/\∀ o∈l,0<=o.day/\o.day<=1:=λl hl=>by
  have h1:=kT l hl;exact⟨Ay,λo ho=>⟨(h1.2 o ho).2.1,(h1.2 o ho).2.2.1⟩⟩
 ((try revert hK K);(repeat'(first|refine Va X0 ?_|(refine V2 X0 ?_ ?_<;>try with_reducible intro hb)|(refine Xi ?_ ?_<;>try intro ht)|refine VD ?_ ?_|exact Xx|fail))<;>try with_reducible intro K hK)
 refine aX (λz:Nat×Nat×List Pr=>(⟨au [(0,.ptr 0 0 0),(2,aah bG),(6,.ptr 1 0 0),(7,.ptr 2 0 0),(14,aah z.1)],
   [.var [.tree 1 (ints L),aah z.2.1],fQ,.var [.tree 1 (rowsOf bk cls),.ref 3 4 0 z.2.2.length,.lit (.slice none 0 0),aah 2],.arr 4 (rowsOf bL z.2.2)]⟩:St))
  (λz=>z.1<=cls.length/\z.2.1<=L.length/\pK cls 2 z.2.2 1 z.1 0) (λz=>cls.length-z.1) (0,k,[]) ⟨aN _,hk,rfl,Dg,Dg⟩ (Xv X0) ?_
 clear hk;rintro⟨i,k,ae⟩⟨hi,hk,hP⟩Ql an ay;dsimp only at hi hk hP ⊢;by_cases hi':i<cls.length
 ·((try revert hK K);(repeat'(first|refine Va X0 ?_|(refine V2 X0 ?_ ?_<;>try with_reducible intro hb)|(refine Xi ?_ ?_<;>try intro ht)|refine VD ?_ ?_|exact Xx|fail))<;>try with_reducible intro K hK)
  refine aX (λz:Nat×Nat×List Pr=>(⟨au [(0,.ptr 0 0 0),(2,aah bG),(6,.ptr 1 0 0),(7,.ptr 2 0 0),(14,aah i),(15,aah z.1)],
    [.var [.tree 1 (ints L),aah z.2.1],fQ,.var [.tree 1 (rowsOf bk cls),.ref 3 4 0 z.2.2.length,.lit (.slice none 0 0),aah 2],.arr 4 (rowsOf bL z.2.2)]⟩:St))
   (λz=>i<z.1/\z.1<=cls.length/\z.2.1<=L.length/\pK cls 2 z.2.2 1 i z.1) (λz=>cls.length-z.1) (i+1,k,ae) ⟨aaa,aaa,hk,hP.mono Ay Ay⟩ (Xv X0) ?_
  clear hk hP;rintro⟨j,k,ae⟩⟨mM,hj,hk,hP⟩cC aS bf;dsimp only at mM hj hk hP ⊢;by_cases fW:j<cls.length
  ·have lY:=hP.len;have RS:=ZC L k cls ae 2 i j hk hL hi' fW Ay G4;obtain⟨xc,RL⟩:=RK L k (cls.getD i default) (cls.getD j default);have aK:=ZB hk;generalize vO L k (cls.getD i default) (cls.getD j default)=bg at *;generalize Dc L k=k2 at *;unfold c9 at RS;repeat'(first|((fail_if_success (first|refine gP 27 ?_|refine gQ 27 ?_));refine Xr X0 ?_;intro K hK)|refine Xo X0 ?_|(refine hK _ ?_;clear hK K)|(refine Xg X0 ?_ ?_<;>try intro hb)|(refine Xi ?_ ?_<;>try intro ht)|refine Xy ?_|refine Xd ?_ ?_|exact Xx|fail)
   have e:=jR (enc:=bL) ae ⟨i,j,1,bg⟩;simp only[bL]at e;refine G2 ?_;intro Qb s0;refine uK ⟨au [(0,.ptr 0 0 0),(2,aah bG),(6,.ptr 1 0 0),(7,.ptr 2 0 0),(14,aah i),(15,aah j)],
    [.var [.tree 1 (ints L),aah k2],fQ,.var [.tree 1 (rowsOf bk cls),.ref 3 4 0 (ae.length+1),.lit (.slice none 0 0),aah 2],.arr 4 (rowsOf bL (ae++[⟨i,j,1,bg⟩]))]⟩ (λs h=>s0 _ (hn _ h)) ?_ (λkey=>?_)
   rotate_left
   ·refine lN [] (.take 2 (.take 3 (.take 4 (.take 5 (.both 0 (.both 1 (.take 6 (.take 7 (.take 8 (.take 9 (.take 10 .nil))))) 6 (.take 1 (.take 7 (.take 8 (.take 9 (.take 10 .nil)))))) 6 (.take 0 (.take 1 (.take 7 (.take 8 (.take 9 (.take 10 .nil))))))))))) rfl Ha (by decide +kernel) ?_;simp(disch:=omega)only[Ac,↓Pc,simprocAttr,Pw];repeat'(first|with_reducible refine kC ?_ ?_|omega|with_reducible rfl)
    all_goals
     (refine Xn [0,3] (RS) ?_;simp(disch:=omega)only[Ac,↓Pc,simprocAttr,Pw])
     repeat'(first|with_reducible refine kC ?_ ?_|omega|with_reducible rfl)
    all_goals
     rw[e];refine key _ ?_;unfold fQ;exact Xs false [0,1,2,5] X0
   ((try revert hK K);(repeat'(first|refine Va X0 ?_|(refine V2 X0 ?_ ?_<;>try with_reducible intro hb)|(refine Xi ?_ ?_<;>try intro ht)|refine VD ?_ ?_|exact Xx|fail))<;>try with_reducible intro K hK)
   refine aS _ (j+1,k2,ae++[⟨i,j,1,bg⟩]) ⟨aaa,aaa,aK,hP.app (Pu Ha mM fW RL xc)⟩ aaa (by unfold fQ;exact Xs false [0,1,2,3] X0)
  ·((try revert hK K);(repeat'(first|refine Va X0 ?_|(refine V2 X0 ?_ ?_<;>try with_reducible intro hb)|(refine Xi ?_ ?_<;>try intro ht)|refine VD ?_ ?_|exact Xx|fail))<;>try with_reducible intro K hK)
   refine bf _ _ rfl ?_;clear aS bf cC;repeat(first|refine Xu ?_)
   ((try revert hK K);(repeat'(first|refine Va X0 ?_|(refine V2 X0 ?_ ?_<;>try with_reducible intro hb)|(refine Xi ?_ ?_<;>try intro ht)|refine VD ?_ ?_|exact Xx|fail))<;>try with_reducible intro K hK)
   exact an _ (i+1,k,ae) ⟨aaa,hk,hP.mono Ay Ay⟩ aaa (Xv X0)
 have GY:=hP.ok;have GZ:ae.length<=4000:=by have:=hP.len;omega
 ((try revert hK K);(repeat'(first|refine Va X0 ?_|(refine V2 X0 ?_ ?_<;>try with_reducible intro hb)|(refine Xi ?_ ?_<;>try intro ht)|refine VD ?_ ?_|exact Xx|fail))<;>try with_reducible intro K hK)
 refine ay _ _ rfl ?_;clear an ay Ql;repeat(first|refine Xu ?_)
 refine cE (aC.qd 3 2 1 4 rfl rfl (by rw[cH];rfl) (gb _) (jt _)) ?_;refine cE (aC.n5 2 2 4 rfl rfl Ha) ?_;refine cE (aC.qd 4 2 2 4 (rows:=[]) rfl rfl rfl Dg Dg) ?_;refine cE (σ':=⟨au [(0,.ptr 0 0 0),(2,aah bG),(6,.ptr 1 0 0),(7,.ptr 2 0 0)],
   [.var [.tree 1 (ints L),aah k],fQ,.var (aA ⟨cls,ae,[],2⟩),.gone,.gone]⟩) (by unfold fQ;exact Xv X0) ?_
 refine cE (σ':=⟨au [(0,.ptr 0 0 0),(2,aah bG),(6,.ptr 1 0 0),(7,.ptr 2 0 0)],
   [.var [.tree 1 (ints L),aah k],fQ,.var (aA ⟨cls,ae,[],2⟩)]⟩) (by unfold fQ;exact Xs false [0,1,2] X0) ?_
 ((try revert hK K);(repeat'(first|refine Va X0 ?_|(refine V2 X0 ?_ ?_<;>try with_reducible intro hb)|(refine Xi ?_ ?_<;>try intro ht)|refine VD ?_ ?_|exact Xx|fail))<;>try with_reducible intro K hK)
 have kJ:=rZ L k 2 (by unfold df;omega) Ha hk hL;have aK:=dg hk;generalize oA L k 2=b at *;generalize bH L k=k2 at *;clear hk;have ZR:∀ l∈cls,l.length<=24:=λl hl=>(G4 l hl).1;have sh:∀ aL:List Ct,aL.length<=2*bG->(∀ c∈aL,fE ⟨cls,[],[],2⟩ c=true)->EM ⟨cls,ae,aL,2⟩ gI bG:=λaL h1 h2 =>
  ⟨⟨aaa,λl hl=>(G4 l hl).1,GZ,aaa,aaa,λl hl o ho=>((kT l hl).2 o ho).1,(FB _ _).trans GY,λc hc=>(Ps _).trans (h2 c hc)⟩,aaa,λl hl=>(kT l hl).1,rfl,h1,λl hl o ho=>((kT l hl).2 o ho).2.2.2⟩
 unfold fQ;(refine Xn [0] (kJ) ?_;simp(disch:=omega)only[Ac,↓Pc,simprocAttr])
 repeat'(first|((fail_if_success (first|refine gP 29 ?_|refine gQ 29 ?_));refine Xr X0 ?_;intro K hK)|refine Xo X0 ?_|(refine hK _ ?_;clear hK K)|(refine Xg X0 ?_ ?_<;>try intro hb)|(refine Xi ?_ ?_<;>try intro ht)|refine Xy ?_|refine Xd ?_ ?_|exact Xx|fail)
 ·have RT:=ZG L k2 ⟨cls,ae,[],2⟩ bG aK hL aaa Ay (by show(1:Int)<2;decide) ZR;refine uA 3 Ha _ rfl ?_;intro K hK;simp(disch:=omega)only[Ac,↓Pc,simprocAttr,List.take,List.drop];refine⟨rfl,(show lL Tryz.prog 48 [.ptr 0 0 0,.agg (aA ⟨cls,ae,[],2⟩),aah bG] (some 102) _ _ from ?_)⟩;unfold c9 at RT;refine yh [0] RT Ha ⟨rfl,trivial⟩ ⟨.eq rfl,.pure rfl,.pure rfl,trivial⟩ ?_;rintro r os⟨aL,k3,eL,cS,mX,rfl,rfl⟩;simp(disch:=omega)only[Ac,↓Pc,simprocAttr];refine hK _ ?_;clear hK K;repeat(first|refine Xu ?_)
  ((try revert hK K);(repeat'(first|refine Va X0 ?_|(refine V2 X0 ?_ ?_<;>try with_reducible intro hb)|(refine Xi ?_ ?_<;>try intro ht)|refine VD ?_ ?_|exact Xx|fail))<;>try with_reducible intro K hK)
  unfold gd;simp only[dN,dO];simp(disch:=omega)only[Ac,↓Pc,simprocAttr];refine⟨_,_,⟨⟨cls,ae,aL,2⟩,k3,sh aL cS mX,eL,rfl,rfl⟩,?_⟩;exact Xw true [0] X0
 ·unfold gd;simp only[dN,dO];simp(disch:=omega)only[Ac,↓Pc,simprocAttr];refine⟨_,_,⟨⟨cls,ae,[],2⟩,k2,sh [] Dg Dg,aK,rfl,rfl⟩,?_⟩;exact Xw true [0] X0
end T

