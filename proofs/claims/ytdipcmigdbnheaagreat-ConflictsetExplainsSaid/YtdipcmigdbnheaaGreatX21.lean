import Derived.Test.YtdipcmigdbnheaaGreatX20
set_option linter.all false
set_option maxHeartbeats 0
set_option maxRecDepth 20000
open List renaming replicate→bH,mem_append→cH,mem_singleton→fE,mem_or_eq_of_mem_set→tz,length_append→bQ,length_set→bF,length_replicate→qg,append_assoc→cM
open And renaming intro→eR
open Nat renaming zero_le→aI,sub_self→hJ
open Go Go.Am Go.Proofs
namespace T
def o0:bU:=⟨0,0,0,0,0,[]⟩
def m1:aj:=⟨[[o0,o0],[o0,o0]],[⟨0,1,0,[0,2,4,3]⟩],[],1⟩
def unB{P:Program}{N n0:Nat}{σ:St}{Q:Exit->St->Prop}{x:Code}{id:Nat}(h:∀ Q':Exit->St->Prop,(∀ s,Q .normal s->Q' .normal s)->W P N n0 x Q' σ):W P N n0 x (Bq id Q) σ:=h _ .n
def ab2{σ:St}{kp:Nat->Prop}:∀ {l:List AV},(∀ v∈l,(∃ x,v=AV.lit x)\/∃ s r,v=AV.tree s r)->fF (cL σ kp) l l
 |[],_=>trivial
 |v::l,h=>⟨by rcases h v GF with⟨x,rfl⟩|⟨s,r,rfl⟩;exact .lit _;exact .tree _ _,ab2 λx hx=>h x (by simp[hx])⟩
def Bx{σ:St}{kp:Nat->Prop}:∀ {rows:List (List AV)},(∀ row∈rows,∀ v∈row,(∃ x,v=AV.lit x)\/∃ s r,v=AV.tree s r)->kQ (cL σ kp) rows rows
 |[],_=>trivial
 |r::rows,h=>⟨ab2 (h r GF),Bx λx hx=>h x (by simp[hx])⟩
def F6{R:AV->AV->Prop}:∀ {a c:List (List AV)} {b d:List (List AV)},kQ R a c->kQ R b d->kQ R (a++b) (c++d)
 |[],[],_,_,_,k=>k
 |_::_,_::_,_,_,h,k=>⟨h.1,F6 h.2 k⟩
 |[],_::_,_,_,h,_=>h.elim
 |_::_,[],_,_,h,_=>h.elim
def ak1{R:AV->AV->Prop}:∀ {a c:List (List AV)} {x y:List AV},kQ R a c->fF R x y->kQ R (a.set 0 x) (c.set 0 y)
 |[],[],_,_,_,_=>trivial
 |_::_,_::_,_,_,h,k=>⟨k,h.2⟩
 |[],_::_,_,_,h,_=>h.elim
 |_::_,[],_,_,h,_=>h.elim
def ab3{R:AV->AV->Prop}{x y:List AV}(h:fF R x y):∀ n,kQ R (bH n x) (bH n y)
 |0=>trivial
 |n+1=>⟨h,ab3 h n⟩
def UQ{m:aj}(h:VM m){p:Pr}(hp:p∈m.ae):p.aB.length<=576:=by
 obtain⟨_,h1,h2,h3,h4⟩:=lT (iA h.pr p hp);have a:=h.opt _ (ay (l:=m.cls) (i:=p.fst.toNat) (d:=default) GC);have b:=h.opt _ (ay (l:=m.cls) (i:=p.snd.toNat) (d:=default) GC);have:((m.cls.getD p.fst.toNat default).length:Int)*(m.cls.getD p.snd.toNat default).length<=24*24:=Int.mul_le_mul GC GC GC GC;omega
def sx{σ:St}{kp:Nat->Prop}{ρ:Nat->Nat}{snap:Bool}{a b c d a' b' c' d':AV}(h1:aJ σ kp ρ snap a a')(h2:aJ σ kp ρ snap b b')(h3:aJ σ kp ρ snap c c')(h4:aJ σ kp ρ snap d d'):aJ σ kp ρ snap (.agg [a,b,c,d]) (.agg [a',b',c',d']) :=
 .agg _ _ rfl (fF.spec (R:=aJ σ kp ρ snap) (cs:=[a,b,c,d]) (ds:=[a',b',c',d']) ⟨h1,h2,h3,h4,trivial⟩).2
structure mu(q:Nat)(m:aj):Prop where
 mb:MB m
 nr:m.cls.length<=q
 opt:∀ l∈m.cls,l.length<=25
abbrev OM(m:aj):Prop:=mu 25 m
def mu.mono{q r:Nat}{m:aj}(h:mu q m)(hr:q<=r):mu r m:=⟨h.mb,Nat.le_trans h.nr hr,h.opt⟩
def mu.rules{q:Nat}{m:aj}(h:mu q m)(r:Int):mu q ⟨m.cls,m.ae,m.av,r⟩:=⟨⟨h.mb.cls,h.mb.opt,h.mb.ch,h.mb.ae,h.mb.aB,h.mb.av,h.mb.mW⟩,h.nr,h.opt⟩
def mu.ae{q:Nat}{m:aj}(h:mu q m){l:List Pr}(h1:l.length<9223372036854775808)(h2:∀ p∈l,p.aB.length<9223372036854775808):mu q ⟨m.cls,l,m.av,m.rules⟩:=⟨⟨h.mb.cls,h.mb.opt,h.mb.ch,h1,h2,h.mb.av,h.mb.mW⟩,h.nr,h.opt⟩
def mu.av{q:Nat}{m:aj}(h:mu q m){l:List Ct}(h1:l.length<9223372036854775808)(h2:∀ p∈l,p.aH.length<9223372036854775808):mu q ⟨m.cls,m.ae,l,m.rules⟩:=⟨⟨h.mb.cls,h.mb.opt,h.mb.ch,h.mb.ae,h.mb.aB,h1,h2⟩,h.nr,h.opt⟩
def mu.cls{q:Nat}{m:aj}(h:mu q m)(hq:q<=25){l:List (List bU)}(h1:l.length<=q)(h2:∀ x∈l,x.length<=25/\∀ o∈x,o.ch.length<9223372036854775808):mu q ⟨l,m.ae,m.av,m.rules⟩ :=
 ⟨⟨PA,λx hx=>by have:=(h2 x hx).1;omega,λx hx=>(h2 x hx).2,h.mb.ae,h.mb.aB,h.mb.av,h.mb.mW⟩,h1,λx hx=>(h2 x hx).1⟩
def VM.om{m:aj}(h:VM m):OM m:=⟨h.mb,by have:=h.cls;omega,λl hl=>by have:=h.opt l hl;omega⟩
def VM.omq{m:aj}(h:VM m){q:Nat}(hl:m.cls.length<=q):mu q m:=⟨h.mb,hl,λl hl=>by have:=h.opt l hl;omega⟩
structure L4(q:Nat)(m m':aj):Prop where
 om:mu (q+1) m'
 cl:m'.cls=m.cls\/∃ x,m'.cls=m.cls++[x]
def mu.pin{q:Nat}{m:aj}(h:mu q m)(hp:0<m.ae.length):(m.ae.getD 0 default).aB.length<9223372036854775808:=h.mb.aB _ (ay hp)
def agc(q:Nat)(aob:q<=24)(L:List Int)(k:Nat)(m:aj)(hm:VM m)(hq:m.cls.length<=q)(hk:k<=L.length)(hL:L.length<1000000):
    fh Tryz.prog 43 [.ptr 0 0 0,.agg (aq m)] [kX L k] (λr os=>∃ m' k',L4 q m m'/\k'<=L.length/\r=.agg (aq m')/\os=[kX L k']):=by
  have h1:=hm.cls;have h2:=hm.opt;have h3:=hm.ae;have h4:=hm.av;have fj:mu (q+1) m:=hm.omq GC;have h8:=kZ L k 8 (by unfold gk;omega) hk hL;have h8r:=oO (L:=L) (k:=k) (n:=8) GC;have b9:=iY hk;have r4:List.range 4=[0,1,2,3]:=Px;unfold kX at *;generalize gl L k 8=j at *;generalize dM L k=k2 at *;refine fh.aD 126 1 [.cell 4 29] Tryz.func43 ?_;((refine Va X0 ?_)<;>try with_reducible intro K hK)
  (refine Xn [0] (h8) ?_;simp(disch:=omega)only[Ac,↓Pc,simprocAttr])
  ((try revert hK K);(repeat'(first|refine Va @r4 ?_|(refine Xi ?_ ?_<;>try intro ht)|fail))<;>try with_reducible intro K hK)
  ·
    have rh:=kZ L k2 4 (by unfold gk;omega) b9 hL;have F7:=oO (L:=L) (k:=k2) (n:=4) GC;have mQ:=iY b9;unfold kX at *;generalize gl L k2 4=i at *;generalize dM L k2=k3 at *;(refine Xn [0] (rh) ?_;simp(disch:=omega)only[Ac,↓Pc,simprocAttr,r4])
    have hi:i=0\/i=1\/i=2\/i=3:=GC;rcases hi with rfl|rfl|rfl|rfl
    · simp(disch:=omega)only[Ac,↓Pc,simprocAttr]
      ((try revert hK K);(refine Va X0 ?_))
      unfold gu;simp only[eF,ew];simp(disch:=omega)only[Ac,↓Pc,simprocAttr];refine⟨_,_,⟨⟨m.cls,m.ae,m.av,-1⟩,k3,⟨fj.rules _,by first|exact .inl rfl|exact .inr ⟨_,rfl⟩⟩,GC,rfl,rfl⟩,?_⟩;refine cZ [0] true Px ⟨⟨GF,.inr rfl⟩,trivial⟩ Px Px (sx (aJ.pure rfl) (?_) (?_) (.pure rfl));all_goals first|exact .pure rfl|exact .eq rfl|exact .fz rfl (by simp only[Bc,Rc])
    · simp(disch:=omega)only[Ac,↓Pc,simprocAttr]
      ((try revert hK K);(refine Va X0 ?_))
      unfold gu;simp only[eF,ew];simp(disch:=omega)only[Ac,↓Pc,simprocAttr];refine⟨_,_,⟨⟨m.cls,m.ae,m.av,0⟩,k3,⟨fj.rules _,by first|exact .inl rfl|exact .inr ⟨_,rfl⟩⟩,GC,rfl,rfl⟩,?_⟩;refine cZ [0] true Px ⟨⟨GF,.inr rfl⟩,trivial⟩ Px Px (sx (aJ.pure rfl) (?_) (?_) (.pure rfl));all_goals first|exact .pure rfl|exact .eq rfl|exact .fz rfl (by simp only[Bc,Rc])
    · simp(disch:=omega)only[Ac,↓Pc,simprocAttr]
      ((try revert hK K);(refine Va X0 ?_))
      unfold gu;simp only[eF,ew];simp(disch:=omega)only[Ac,↓Pc,simprocAttr];refine⟨_,_,⟨⟨m.cls,m.ae,m.av,56⟩,k3,⟨fj.rules _,by first|exact .inl rfl|exact .inr ⟨_,rfl⟩⟩,GC,rfl,rfl⟩,?_⟩;refine cZ [0] true Px ⟨⟨GF,.inr rfl⟩,trivial⟩ Px Px (sx (aJ.pure rfl) (?_) (?_) (.pure rfl));all_goals first|exact .pure rfl|exact .eq rfl|exact .fz rfl (by simp only[Bc,Rc])
    · simp(disch:=omega)only[Ac,↓Pc,simprocAttr]
      ((try revert hK K);(refine Va X0 ?_))
      unfold gu;simp only[eF,ew];simp(disch:=omega)only[Ac,↓Pc,simprocAttr];refine⟨_,_,⟨⟨m.cls,m.ae,m.av,57⟩,k3,⟨fj.rules _,by first|exact .inl rfl|exact .inr ⟨_,rfl⟩⟩,GC,rfl,rfl⟩,?_⟩;refine cZ [0] true Px ⟨⟨GF,.inr rfl⟩,trivial⟩ Px Px (sx (aJ.pure rfl) (?_) (?_) (.pure rfl));all_goals first|exact .pure rfl|exact .eq rfl|exact .fz rfl (by simp only[Bc,Rc])
  ·
    have e:=lO (enc:=aP) m.ae (m.ae.getD 0 default);simp only[aP]at e;rw[e];unfold gu;simp only[eF,ew];simp(disch:=omega)only[Ac,↓Pc,simprocAttr];refine⟨_,_,⟨⟨m.cls,m.ae++[m.ae.getD 0 default],m.av,m.rules⟩,k2,⟨fj.ae aar (λp hp=>(cH.1 hp).elim (fj.mb.aB p) λh=>by rw[fE.1 h];exact fj.pin GC),by first|exact .inl rfl|exact .inr ⟨_,rfl⟩⟩,GC,rfl,rfl⟩,?_⟩;refine cZ [0] true Px ⟨⟨GF,.inr rfl⟩,trivial⟩ Px Px (sx (aJ.pure rfl) (?_) (?_) (.pure rfl));all_goals first|exact .pure rfl|exact .eq rfl|exact .fz rfl (by simp only[Bc,Rc])
  ·
    unfold gu;simp only[eF,ew];simp(disch:=omega)only[Ac,↓Pc,simprocAttr];refine⟨_,_,⟨m,k2,⟨fj,by first|exact .inl rfl|exact .inr ⟨_,rfl⟩⟩,GC,rfl,rfl⟩,?_⟩;refine cZ [0] true Px ⟨⟨GF,.inr rfl⟩,trivial⟩ Px Px (sx (aJ.pure rfl) (?_) (?_) (.pure rfl));all_goals first|exact .pure rfl|exact .eq rfl|exact .fz rfl (by simp only[Bc,Rc])
  ·
    have rh:=kZ L k2 2 (by unfold gk;omega) b9 hL;have F7:=oO (L:=L) (k:=k2) (n:=2) GC;have mQ:=iY b9;have aod:(m.ae.getD 0 default).aB.length<=576:=UQ hm (ay GC);unfold kX at *;generalize gl L k2 2=x1 at *;generalize dM L k2=k3 at *;refine unB ?_;intro Qb kU;refine yV ⟨aw [(3,.ptr 1 0 0),(4,.ptr 2 0 0)],[.var [.tree 1 (ints L),aaC k3],.var [.tree 1 (rowsOf bu m.cls),.ref 3 4 0 m.ae.length,.ref 4 4 0 m.av.length,aaC m.rules],
      .var [.lit (.slice none 0 0),.lit (.slice none 0 0),.lit (.slice none 0 0),aaC 0],
      .arr 4 ((rowsOf aP m.ae).set 0 [aaC (m.ae.getD 0 default).fst,aaC (m.ae.getD 0 default).snd,aaC (m.ae.getD 0 default).bz,.ref 6 1 0 (1+(m.ae.getD 0 default).aB.length)]),
      .arr 4 (rowsOf aV m.av),.gone,.arr 1 ([aaC (x1-1)]::ints (m.ae.getD 0 default).aB)]⟩ (λs h=>kU _ (hn _ h)) ?_ (λkey=>?_)
    rotate_left
    · refine SU 0 [] [3] (.take 2 (.take 6 (.take 7 (.take 8 (.take 9 (.take 10 (.both 0 (.both 1 (.take 3 (.take 4 (.take 5 (.take 11 (.take 12 (.take 13 (.take 14 .nil))))))) 3 (.take 4 (.both 1 (.take 5 (.take 11 (.take 12 (.take 13 (.take 14 .nil))))) 5 (.both 1 (.take 11 (.take 12 (.take 13 (.take 14 .nil)))) 11 (.take 1 (.take 12 (.take 13 (.take 14 .nil)))))))) 3 (.take 4 (.both 0 (.both 1 (.take 5 (.take 11 (.take 12 (.take 13 (.take 14 .nil))))) 5 (.both 1 (.take 11 (.take 12 (.take 13 (.take 14 .nil)))) 11 (.take 1 (.take 12 (.take 13 (.take 14 .nil)))))) 5 (.both 0 (.both 1 (.take 11 (.take 12 (.take 13 (.take 14 .nil)))) 11 (.take 1 (.take 12 (.take 13 (.take 14 .nil))))) 11 (.take 0 (.take 1 (.take 12 (.take 13 (.take 14 .nil))))))))))))))) rfl Px (by decide +kernel) ?_
      simp(disch:=omega)only[Ac,↓Pc,simprocAttr,Hc,iN];repeat'(first|with_reducible refine eR ?_ ?_|omega|(refine Et (rh) rfl rfl rfl rfl (by(repeat'(first|exact trivial|refine eR ?_ ?_))<;>first|exact .inl ⟨rfl,rfl⟩|exact .inr ⟨rfl,rfl⟩) ?_;simp(disch:=omega)only[Ac,↓Pc,simprocAttr,Hc,iN]))
      all_goals refine key _ ?_
      all_goals exact Xv X0
    refine Va X0 ?_;unfold gu;simp only[eF,ew];simp(disch:=omega)only[Ac,↓Pc,simprocAttr];refine⟨_,_,⟨⟨m.cls,m.ae.set 0 ⟨(m.ae.getD 0 default).fst,(m.ae.getD 0 default).snd,(m.ae.getD 0 default).bz,[x1-1]++(m.ae.getD 0 default).aB⟩,m.av,m.rules⟩,k3,⟨fj.ae aar (λp hp=>(tz hp).elim (fj.mb.aB p) λh=>by rw[h];show([x1-1]++(m.ae.getD 0 default).aB).length<_;rw[bQ,List.length_singleton];omega),by first|exact .inl rfl|exact .inr ⟨_,rfl⟩⟩,GC,rfl,rfl⟩,?_⟩;refine cZ [0] true Px ⟨⟨GF,.inr rfl⟩,trivial⟩ Px Px (sx (aJ.pure rfl) (.snap _ _ rfl ?_) (?_) (.pure rfl))
    · refine cL.mk rfl (by simp only[Bc,Rc,bF]) (iK Px) (gr _) ?_
      rw[<- Ce];exact ak1 (Bx (kW _)) ⟨.lit _,.lit _,.lit _,cL.mk rfl (by simp[ints];omega) (iK Px) (rH _) (Bx (sL ([x1-1]++(m.ae.getD 0 default).aB))),trivial⟩
    · first|exact .pure rfl|exact .eq rfl|exact .fz rfl (by simp only[Bc,Rc])
  ·
    unfold gu;simp only[eF,ew];simp(disch:=omega)only[Ac,↓Pc,simprocAttr];refine⟨_,_,⟨m,k2,⟨fj,by first|exact .inl rfl|exact .inr ⟨_,rfl⟩⟩,GC,rfl,rfl⟩,?_⟩;refine cZ [0] true Px ⟨⟨GF,.inr rfl⟩,trivial⟩ Px Px (sx (aJ.pure rfl) (?_) (?_) (.pure rfl));all_goals first|exact .pure rfl|exact .eq rfl|exact .fz rfl (by simp only[Bc,Rc])
  ·
    have e:=Ce (enc:=aP) m.ae 0 ⟨(m.ae.getD 0 default).fst,(m.ae.getD 0 default).fst,(m.ae.getD 0 default).bz,(m.ae.getD 0 default).aB⟩;simp only[aP]at e;rw[e];unfold gu;simp only[eF,ew];simp(disch:=omega)only[Ac,↓Pc,simprocAttr];refine⟨_,_,⟨⟨m.cls,m.ae.set 0 ⟨(m.ae.getD 0 default).fst,(m.ae.getD 0 default).fst,(m.ae.getD 0 default).bz,(m.ae.getD 0 default).aB⟩,m.av,m.rules⟩,k2,⟨fj.ae aar (λp hp=>(tz hp).elim (fj.mb.aB p) λh=>by rw[h];exact fj.pin GC),by first|exact .inl rfl|exact .inr ⟨_,rfl⟩⟩,GC,rfl,rfl⟩,?_⟩;refine cZ [0] true Px ⟨⟨GF,.inr rfl⟩,trivial⟩ Px Px (sx (aJ.pure rfl) (?_) (?_) (.pure rfl));all_goals first|exact .pure rfl|exact .eq rfl|exact .fz rfl (by simp only[Bc,Rc])
  ·
    unfold gu;simp only[eF,ew];simp(disch:=omega)only[Ac,↓Pc,simprocAttr];refine⟨_,_,⟨m,k2,⟨fj,by first|exact .inl rfl|exact .inr ⟨_,rfl⟩⟩,GC,rfl,rfl⟩,?_⟩;refine cZ [0] true Px ⟨⟨GF,.inr rfl⟩,trivial⟩ Px Px (sx (aJ.pure rfl) (?_) (?_) (.pure rfl));all_goals first|exact .pure rfl|exact .eq rfl|exact .fz rfl (by simp only[Bc,Rc])
  ·
    unfold gu;simp only[eF,ew];simp(disch:=omega)only[Ac,↓Pc,simprocAttr];refine⟨_,_,⟨⟨m.cls,m.ae,m.av++[⟨0,[],-1,1⟩],m.rules⟩,k2,⟨fj.av aar (λp hp=>(cH.1 hp).elim (fj.mb.mW p) λh=>by rw[fE.1 h];decide),by first|exact .inl rfl|exact .inr ⟨_,rfl⟩⟩,GC,rfl,rfl⟩,?_⟩;refine cZ [0] true Px ⟨⟨GF,.inr rfl⟩,trivial⟩ Px Px (sx (aJ.pure rfl) (?_) (.snap _ _ rfl ?_) (.pure rfl))
    · first|exact .pure rfl|exact .eq rfl|exact .fz rfl (by simp only[Bc,Rc])
    · refine cL.mk rfl (by simp only[Bc,Rc]) (iK Px) (gr _) ?_
      rw[<- lO];exact F6 (Bx (kW _)) ⟨⟨.lit _,.nil 3,.lit _,.lit _,trivial⟩,trivial⟩
  ·
    have hnw:=kZ L k2 3 (by unfold gk;omega) b9 hL;have mQ:=iY b9;have rh:=kZ L (dM L k2) 4 (by unfold gk;omega) mQ hL;have zr:=iY mQ;have OF:=kZ L (dM L (dM L k2)) 2 (by unfold gk;omega) zr hL;have hk5:=iY zr;have hnz:=kZ L (dM L (dM L (dM L k2))) 2 (by unfold gk;omega) hk5 hL;have hk6:=iY hk5;unfold kX at *;generalize gl L k2 3=x1 at *;generalize dM L k2=k3 at *;generalize gl L k3 4=x2 at *;generalize dM L k3=k4 at *;generalize gl L k4 2=x3 at *;generalize dM L k4=k5 at *;generalize gl L k5 2=x4 at *;generalize dM L k5=k6 at *;refine unB ?_;intro Qb kU;refine yV ⟨aw [(3,.ptr 1 0 0),(4,.ptr 2 0 0)],[.var [.tree 1 (ints L),aaC k6],.var [.tree 1 (rowsOf bu m.cls),.ref 3 4 0 m.ae.length,.ref 7 4 0 (m.av.length+1),aaC m.rules],
      .var [.lit (.slice none 0 0),.lit (.slice none 0 0),.lit (.slice none 0 0),aaC 0],.arr 4 (rowsOf aP m.ae),.gone,.arr 3 [[aaC x1,aaC x2,aaC x3]],
      .arr 4 [[aaC 0,.ref 5 3 0 1,aaC 0,aaC x4]],.arr 4 (rowsOf aV m.av++[[aaC 0,.ref 5 3 0 1,aaC 0,aaC x4]])]⟩ (λs h=>kU _ (hn _ h)) ?_ (λkey=>?_)
    rotate_left
    · refine SU 0 [] [3,5,7,11] (.take 0 (.take 1 (.take 2 (.take 3 (.take 4 (.take 5 (.take 6 (.take 7 (.take 8 (.take 10 (.both 9 (.take 11 (.take 12 (.take 13 (.take 14 (.take 15 (.take 16 .nil)))))) 11 (.take 9 (.take 12 (.take 13 (.take 14 (.take 15 (.take 16 .nil))))))))))))))))) rfl Px (by decide +kernel) ?_
      simp(disch:=omega)only[Ac,↓Pc,simprocAttr,Hc,iN];repeat'(first|with_reducible refine eR ?_ ?_|omega|(refine Et (hnw) rfl rfl rfl rfl (by(repeat'(first|exact trivial|refine eR ?_ ?_))<;>first|exact .inl ⟨rfl,rfl⟩|exact .inr ⟨rfl,rfl⟩) ?_;simp(disch:=omega)only[Ac,↓Pc,simprocAttr,Hc,iN])|(refine Et (rh) rfl rfl rfl rfl (by(repeat'(first|exact trivial|refine eR ?_ ?_))<;>first|exact .inl ⟨rfl,rfl⟩|exact .inr ⟨rfl,rfl⟩) ?_;simp(disch:=omega)only[Ac,↓Pc,simprocAttr,Hc,iN])|(refine Et (OF) rfl rfl rfl rfl (by(repeat'(first|exact trivial|refine eR ?_ ?_))<;>first|exact .inl ⟨rfl,rfl⟩|exact .inr ⟨rfl,rfl⟩) ?_;simp(disch:=omega)only[Ac,↓Pc,simprocAttr,Hc,iN])|(refine Et (hnz) rfl rfl rfl rfl (by(repeat'(first|exact trivial|refine eR ?_ ?_))<;>first|exact .inl ⟨rfl,rfl⟩|exact .inr ⟨rfl,rfl⟩) ?_;simp(disch:=omega)only[Ac,↓Pc,simprocAttr,Hc,iN]))
      all_goals refine key _ ?_
      all_goals exact Xv X0
    refine Va X0 ?_;unfold gu;simp only[eF,ew];simp(disch:=omega)only[Ac,↓Pc,simprocAttr];refine⟨_,_,⟨⟨m.cls,m.ae,m.av++[⟨0,[⟨x1,x2,x3⟩],0,x4⟩],m.rules⟩,k6,⟨fj.av aar (λp hp=>(cH.1 hp).elim (fj.mb.mW p) λh=>by rw[fE.1 h];simp),by first|exact .inl rfl|exact .inr ⟨_,rfl⟩⟩,GC,rfl,rfl⟩,?_⟩;refine cZ [0] true Px ⟨⟨GF,.inr rfl⟩,trivial⟩ Px Px (sx (aJ.pure rfl) (?_) (.snap _ _ rfl ?_) (.pure rfl))
    · first|exact .pure rfl|exact .eq rfl|exact .fz rfl (by simp only[Bc,Rc])
    · refine cL.mk rfl (by simp only[Bc,Rc]) (iK Px) (gr _) ?_
      rw[<- lO];exact F6 (Bx (kW _)) ⟨⟨.lit _,cL.mk rfl rfl (iK Px) (gr _) ⟨⟨.lit _,.lit _,.lit _,trivial⟩,trivial⟩,.lit _,.lit _,trivial⟩,trivial⟩
  ·
    have rh:=kZ L k2 5 (by unfold gk;omega) b9 hL;have mQ:=iY b9;have OF:=kZ L (dM L k2) 2 (by unfold gk;omega) mQ hL;have zr:=iY mQ;unfold kX at *;generalize gl L k2 5=x1 at *;generalize dM L k2=k3 at *;generalize gl L k3 2=x2 at *;generalize dM L k3=k4 at *;(refine Xn [0] (rh) ?_;simp(disch:=omega)only[Ac,↓Pc,simprocAttr])
    (refine Xn [0] (OF) ?_;simp(disch:=omega)only[Ac,↓Pc,simprocAttr])
    ((try revert hK K);(refine Va X0 ?_))
    unfold gu;simp only[eF,ew];simp(disch:=omega)only[Ac,↓Pc,simprocAttr];refine⟨_,_,⟨⟨m.cls++[[⟨0,0,0,0,0,[(x1,x2)]⟩]],m.ae,m.av,m.rules⟩,k4,⟨fj.cls GC aar (λl hl=>(cH.1 hl).elim (λh=>⟨fj.opt l h,fj.mb.ch l h⟩) λh=>by rw[fE.1 h];exact⟨GF,λo ho=>by rw[fE.1 ho];simp⟩),by first|exact .inl rfl|exact .inr ⟨_,rfl⟩⟩,GC,rfl,rfl⟩,?_⟩;refine cZ [0] true Px ⟨⟨GF,.inr rfl⟩,trivial⟩ Px Px (sx (.snap _ _ rfl ?_) (?_) (?_) (.pure rfl))
    · refine cL.mk rfl (by simp only[Bc,Rc]) (iK Px) (gr _) ?_
      rw[<- lO];refine F6 (Bx (kW _)) ⟨⟨?_,trivial⟩,trivial⟩;refine cL.mk rfl rfl (iK Px) (gr _) ⟨⟨.lit _,.lit _,.lit _,.lit _,.lit _,?_,trivial⟩,trivial⟩;exact cL.mk rfl rfl (iK Px) (gr _) ⟨⟨.lit _,.lit _,trivial⟩,trivial⟩
    · first|exact .pure rfl|exact .eq rfl|exact .fz rfl (by simp only[Bc,Rc])
    · first|exact .pure rfl|exact .eq rfl|exact .fz rfl (by simp only[Bc,Rc])
  ·
    have rh:=kZ L k2 2 (by unfold gk;omega) b9 hL;have F7:=oO (L:=L) (k:=k2) (n:=2) GC;have mQ:=iY b9;unfold kX at *;generalize gl L k2 2=x1 at *;generalize dM L k2=k3 at *;(refine Xn [0] (rh) ?_;simp(disch:=omega)only[Ac,↓Pc,simprocAttr])
    ((try revert hK K);(refine Va X0 ?_))
    unfold gu;simp only[eF,ew];simp(disch:=omega)only[Ac,↓Pc,simprocAttr];refine⟨_,_,⟨⟨m.cls++[bH (24+x1).toNat ⟨0,0,0,0,0,[]⟩],m.ae,m.av,m.rules⟩,k3,⟨fj.cls GC aar (λl hl=>(cH.1 hl).elim (λh=>⟨fj.opt l h,fj.mb.ch l h⟩) λh=>by rw[fE.1 h];exact⟨by rw[qg];omega,λo ho=>by rw[List.eq_of_mem_replicate ho];decide⟩),by first|exact .inl rfl|exact .inr ⟨_,rfl⟩⟩,GC,rfl,rfl⟩,?_⟩;refine cZ [0] true Px ⟨⟨GF,.inr rfl⟩,trivial⟩ Px Px (sx (.snap _ _ rfl ?_) (?_) (?_) (.pure rfl))
    · refine cL.mk rfl (by simp only[Bc,Rc]) (iK Px) (gr _) ?_
      rw[<- lO];refine F6 (Bx (kW _)) ⟨⟨?_,trivial⟩,trivial⟩;refine cL.mk rfl (by rw[qg]) (iK Px) (gr _) ?_;rw[show rowsOf cQ (bH (24+x1).toNat ⟨0,0,0,0,0,[]⟩)=bH (24+x1).toNat (cQ ⟨0,0,0,0,0,[]⟩) by rw[rowsOf,List.map_replicate]];refine ab3 ?_ _;exact⟨.lit _,.lit _,.lit _,.lit _,.lit _,.nil 2,trivial⟩
    · first|exact .pure rfl|exact .eq rfl|exact .fz rfl (by simp only[Bc,Rc])
    · first|exact .pure rfl|exact .eq rfl|exact .fz rfl (by simp only[Bc,Rc])
def ak5(m:aj)(hm:MB m)(hv:VM m):ao Tryz.prog 146 [.agg (aq m)] [] (.ref 0 1 0 (dH m).length) (.arr 1 (lD 1 (dH m))::qY (dH m)):=by
 have h1:=wx m hm;have rR:=hm.cls;have OG:dH m=lX m:=if_pos (eK.2 hv);generalize ak:dH m=res;refine ao.aD 38 0 [.tmp 2] Tryz.func146 ?_;rw[eK.2 hv]at h1;have nu:=hv.cls;((repeat'(first|refine Vd @bne_self_eq_false.{0} h1 ?_|(refine Xi ?_ ?_<;>try intro ht)|exact Xx|fail)))
 refine aM (λz:Nat×List (List Bool)×List Ob×Nat×List (Nat×Nat)=>(⟨aw [(1,.ptr 0 0 0),(3,.ref z.2.2.2.1 1 0 z.2.2.2.2.length),(4,aaC z.1)],z.2.2.1⟩:St))
  (λz=>z.1<=m.cls.length/\z.2.1=(lX m).take z.1/\eA [(z.2.2.2.1,.arr 1 (rowsOf nA z.2.2.2.2)),(0,.var (aq m))] z.2.2.2.2 z.2.1 z.2.2.1) (λz=>m.cls.length-z.1) (0,[],[.var (aq m),.arr 1 []],1,[]) ⟨aI _,rfl,eA.ajg _⟩ ?_ ?_
 ·refine aF.trans (aF.nil 3 1 (by simp only[Kc,simprocAttr]) Px) ?_;exact Xv X0
 rintro⟨i,xs,os,oi,D⟩⟨hi,dy,hB⟩Ql an ar;dsimp only at hi dy hB ⊢;have fX:(lX m).length=m.cls.length:=by simp[lX]
 have yo:=hB.len;have fo:=hB.b0;have fm:=hB.b1;dsimp only at fm fo;by_cases hi':i<m.cls.length
 ·have rT:xs.length=i:=by rw[dy,List.length_take];omega
  have cN:(lX m).take (i+1)=xs++[bH (m.cls.getD i default).length true]:=by
   rw[eG GC,<- dy];unfold lX;rw[iR _ _ _ hi']
  have s6:=hv.opt _ (ay (d:=default) hi');generalize aR:m.cls.getD i default=c at *;((repeat'(first|refine Va (X3 @fm @aR @bu.eq_1) ?_|(refine Xi ?_ ?_<;>try intro ht)|exact Xx|fail)))
  refine aM (λz:Nat×List Ob=>(⟨aw [(1,.ptr 0 0 0),(3,.ref oi 1 0 D.length),(4,aaC i),(5,.ref os.length 1 0 c.length),(6,aaC z.1)],z.2⟩:St))
   (λz=>z.1<=c.length/\eA [(os.length,.arr 1 (aX (bH z.1 true++bH (c.length-z.1) false))),(oi,.arr 1 (rowsOf nA D)),(0,.var (aq m))] D xs z.2) (λz=>c.length-z.1)
   (0,os++[.arr 1 (aX (bH 0 true++bH (c.length-0) false))]) ⟨aI _,(hB.app _).add (kf _ _ _) (hB.fresh (Nat.le_refl _))⟩ (by simp only[Nat.sub_zero,List.replicate_zero,List.nil_append];exact Xv X0) ?_
  rintro⟨k,tp⟩⟨hk,uj⟩cJ ba bd;dsimp only at hk uj ⊢;have cD:(bH k true++bH (c.length-k) false).length=c.length:=aar;have OH:=uj.b0;have JB:=uj.b1;have fm1:=uj.b2;dsimp only at OH JB fm1;by_cases aK:k<c.length
  ·have iy:(bH k true++bH (c.length-k) false).set k true=bH (k+1) true++bH (c.length-(k+1)) false:=by
    rw[List.set_append_right _ _ GF,qg,hJ,show c.length-k=(c.length-(k+1))+1 by omega,List.replicate_succ,List.set_cons_zero,List.replicate_succ',cM];rfl
   ((repeat'(first|refine Va (X3 @OH @cD @v5) ?_|(refine Xi ?_ ?_<;>try intro ht)|exact Xx|fail)))
   rw[iy];exact ba _ (k+1,tp.set os.length (.arr 1 (aX (bH (k+1) true++bH (c.length-(k+1)) false)))) ⟨PA,uj.put _⟩ PA (Xv X0)
  ·obtain rfl:k=c.length:=GC;((repeat'(first|refine Va @OH ?_|(refine Xi ?_ ?_<;>try intro ht)|exact Xx|fail)))
   refine bd _ _ rfl ?_;clear ba bd cJ;repeat(refine Xu ?_)
   rw[hJ,List.replicate_zero,List.append_nil]at *;have rj:=uj.snoc;rw[qg]at rj;obtain⟨p9,dZ⟩:=rj.drop;generalize os.length=p at *;refine Va (X5 @JB (bg JB) (fP JB) @aat (X4 @cy @cM.{0} @bQ.{0} @bF.{0})) ?_;refine an _ (i+1,xs++[bH c.length true],tp.set oi .gone++[.arr 1 [[.ref p 1 0 c.length]],.arr 1 (rowsOf nA (D++[(p,c.length)]))],tp.length+1,D++[(p,c.length)]) ⟨PA,cN.symm,?_⟩ PA ?_
   ·refine((p9.other dZ .gone).app _).add ?_ ((p9.other dZ .gone).fresh GF);have yw:(tp.set oi Ob.gone).length=tp.length:=bF ..;rw[<- yw,nX];rfl
   ·exact Xv X0
 ·rw[List.take_of_length_le GC]at dy;((repeat'(first|refine Va @fm ?_|(refine Xi ?_ ?_<;>try intro ht)|exact Xx|fail)))
  refine ar _ _ rfl ?_;clear an ar Ql;repeat(refine Xu ?_)
  refine Vb X0 ?_;have De:res=xs:=by rw[<- ak,OG,dy]
  subst De;have h3:=(hB.swap.drop).1;rw[yo];exact h3.Cu _
end T

