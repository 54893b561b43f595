import Derived.Test.YtfoopmojjjpapaaGreatX32
import Derived.Test.YtfoopmojjjpapaaGreatX28
set_option linter.all false
set_option maxHeartbeats 0
set_option maxRecDepth 20000
open List renaming replicate→aK,mem_singleton→cS,eq_of_mem_replicate→CN,mem_append→cG,mem_or_eq_of_mem_set→sW,length_append→bN,length_set→bJ,length_replicate→nx,getD_eq_getElem?_getD→ay,length_filter_le→QR,map_set→qF,mem_cons_of_mem→dZ
open Nat renaming le_trans→ud,zero_le→aP,le_refl→aZ,mul_le_mul→w8
open And renaming intro→cD
open Bool renaming and_eq_true→bc
open Go Go.Am Go.Proofs
namespace T
def Vk{P:Program}{N n0:Nat}{σ:St}{Q:Exit->St->Prop}{x:Code}{id:Nat}(h:∀ Q':Exit->St->Prop,(∀ s,Q .normal s->Q' .normal s)->W P N n0 x Q' σ):W P N n0 x (Bq id Q) σ:=h _ .n
def Vl{σ:St}{kp:Nat->Prop}:∀ {l:List AV},(∀ v∈l,(∃ x,v=AV.lit x)\/∃ s r,v=AV.tree s r)->jN (cX σ kp) l l
 |[],_=>trivial
 |v::l,h=>⟨by rcases h v G9 with⟨x,rfl⟩|⟨s,r,rfl⟩;exact .lit _;exact .tree _ _,Vl λx hx=>h x (by simp[hx])⟩
def BI{σ:St}{kp:Nat->Prop}:∀ {rows:List (List AV)},(∀ row∈rows,∀ v∈row,(∃ x,v=AV.lit x)\/∃ s r,v=AV.tree s r)->lV (cX σ kp) rows rows
 |[],_=>trivial
 |r::rows,h=>⟨Vl (h r G9),BI λx hx=>h x (by simp[hx])⟩
def Fg{R:AV->AV->Prop}:∀ {a c:List (List AV)} {b d:List (List AV)},lV R a c->lV R b d->lV R (a++b) (c++d)
 |[],[],_,_,_,k=>k
 |_::_,_::_,_,_,h,k=>⟨h.1,Fg h.2 k⟩
 |[],_::_,_,_,h,_=>h.elim
 |_::_,[],_,_,h,_=>h.elim
def ahE{R:AV->AV->Prop}:∀ {a c:List (List AV)} {x y:List AV},lV R a c->jN R x y->lV R (a.set 0 x) (c.set 0 y)
 |[],[],_,_,_,_=>trivial
 |_::_,_::_,_,_,h,k=>⟨k,h.2⟩
 |[],_::_,_,_,h,_=>h.elim
 |_::_,[],_,_,h,_=>h.elim
def Vm{R:AV->AV->Prop}{x y:List AV}(h:jN R x y):∀ n,lV R (aK n x) (aK n y)
 |0=>trivial
 |n+1=>⟨h,Vm h n⟩
def ahF{m:ah}(h:VM m){p:Pr}(hp:p∈m.ae):p.aB.length<=576:=by
 obtain⟨_,h1,h2,h3,h4⟩:=rZ (kC h.pr p hp);have a:=h.opt _ (aF (l:=m.cls) (i:=p.fst.toNat) (d:=default) Ey);have b:=h.opt _ (aF (l:=m.cls) (i:=p.snd.toNat) (d:=default) Ey);have:((m.cls.getD p.fst.toNat default).length:Int)*(m.cls.getD p.snd.toNat default).length<=24*24:=Int.mul_le_mul Ey Ey Ey Ey;omega
def r8{σ:St}{kp:Nat->Prop}{ρ:Nat->Nat}{snap:Bool}{a b c d a' b' c' d':AV}(h1:a7 σ kp ρ snap a a')(h2:a7 σ kp ρ snap b b')(h3:a7 σ kp ρ snap c c')(h4:a7 σ kp ρ snap d d'):a7 σ kp ρ snap (.agg [a,b,c,d]) (.agg [a',b',c',d']) :=
 .agg _ _ rfl (jN.spec (R:=a7 σ kp ρ snap) (cs:=[a,b,c,d]) (ds:=[a',b',c',d']) ⟨h1,h2,h3,h4,trivial⟩).2
structure kW(q:Nat)(m:ah):Prop where
 mb:MB m
 qT:m.cls.length<=q
 opt:∀ l∈m.cls,l.length<=25
abbrev OM(m:ah):Prop:=kW 25 m
def kW.mono{q r:Nat}{m:ah}(h:kW q m)(hr:q<=r):kW r m:=⟨h.mb,ud h.qT hr,h.opt⟩
def kW.rules{q:Nat}{m:ah}(h:kW q m)(r:Int):kW q ⟨m.cls,m.ae,m.aE,r⟩:=⟨⟨h.mb.cls,h.mb.opt,h.mb.ch,h.mb.ae,h.mb.aB,h.mb.aE,h.mb.mI⟩,h.qT,h.opt⟩
def kW.ae{q:Nat}{m:ah}(h:kW q m){l:List Pr}(h1:l.length<9223372036854775808)(h2:∀ p∈l,p.aB.length<9223372036854775808):kW q ⟨m.cls,l,m.aE,m.rules⟩:=⟨⟨h.mb.cls,h.mb.opt,h.mb.ch,h1,h2,h.mb.aE,h.mb.mI⟩,h.qT,h.opt⟩
def kW.aE{q:Nat}{m:ah}(h:kW q m){l:List Ct}(h1:l.length<9223372036854775808)(h2:∀ p∈l,p.bd.length<9223372036854775808):kW q ⟨m.cls,m.ae,l,m.rules⟩:=⟨⟨h.mb.cls,h.mb.opt,h.mb.ch,h.mb.ae,h.mb.aB,h1,h2⟩,h.qT,h.opt⟩
def kW.cls{q:Nat}{m:ah}(h:kW q m)(hq:q<=25){l:List (List cP)}(h1:l.length<=q)(h2:∀ x∈l,x.length<=25/\∀ o∈x,o.ch.length<9223372036854775808):kW q ⟨l,m.ae,m.aE,m.rules⟩ :=
 ⟨⟨Hi,λx hx=>by have:=(h2 x hx).1;omega,λx hx=>(h2 x hx).2,h.mb.ae,h.mb.aB,h.mb.aE,h.mb.mI⟩,h1,λx hx=>(h2 x hx).1⟩
def VM.om{m:ah}(h:VM m):OM m:=⟨h.mb,by have:=h.cls;omega,λl hl=>by have:=h.opt l hl;omega⟩
def VM.MP{m:ah}(h:VM m){q:Nat}(hl:m.cls.length<=q):kW q m:=⟨h.mb,hl,λl hl=>by have:=h.opt l hl;omega⟩
def r9(c:List (Int×Int)):∀ o∈[(⟨0,0,0,0,0,c⟩:cP)],o.wk<=3:=λo ho=>by
 rw[cS]at ho;subst ho;show(0:Int)<=3;decide
def sc(n:Nat):∀ o∈aK n (⟨0,0,0,0,0,[]⟩:cP),o.wk<=3:=λo ho=>by
 rw[CN ho];show(0:Int)<=3;decide
structure OMx(q:Nat)(m m':ah):Prop where
 om:kW (q+1) m'
 cl:m'.cls=m.cls\/∃ x,(∀ o∈x,o.wk<=3)/\m'.cls=m.cls++[x]
def kW.Vn{q:Nat}{m:ah}(h:kW q m)(hp:0<m.ae.length):(m.ae.getD 0 default).aB.length<9223372036854775808:=h.mb.aB _ (aF hp)
def ahC(q:Nat)(aqa:q<=24)(L:List Int)(k:Nat)(m:ah)(hm:VM m)(hq:m.cls.length<=q)(hk:k<=L.length)(hL:L.length<1000000):
    dv Tryz.prog 36 [.ptr 0 0 0,.agg (ao m)] [gY L k] (λr os=>∃ m' k',OMx q m m'/\k'<=L.length/\r=.agg (ao m')/\os=[gY L k']):=by
  have h1:=hm.cls;have h2:=hm.opt;have h3:=hm.ae;have h4:=hm.aE;have gx:kW (q+1) m:=hm.MP Ey;have h8:=iB L k 8 (by unfold cY;omega) hk hL;have h8r:=kh (L:=L) (k:=k) (n:=8) Ey;have bw:=fJ hk;have r4:List.range 4=[0,1,2,3]:=Hg;unfold gY at *;generalize ek L k 8=j at *;generalize cQ L k=k2 at *;refine dv.aM 126 1 [.cell 4 32] Tryz.func36 ?_;((refine Va X0 ?_)<;>try with_reducible intro K hK)
  (refine Xn [0] (h8) ?_;simp(disch:=omega)only[Ac,↓Pc,simprocAttr])
  ((try revert hK K);(repeat'(first|refine Va @r4 ?_|(refine Xi ?_ ?_<;>try intro ht)|fail))<;>try with_reducible intro K hK)
  ·
    have kB:=iB L k2 4 (by unfold cY;omega) bw hL;have Dq:=kh (L:=L) (k:=k2) (n:=4) Ey;have gK:=fJ bw;unfold gY at *;generalize ek L k2 4=i at *;generalize cQ L k2=k3 at *;(refine Xn [0] (kB) ?_;simp(disch:=omega)only[Ac,↓Pc,simprocAttr,r4])
    have hi:i=0\/i=1\/i=2\/i=3:=Ey;rcases hi with rfl|rfl|rfl|rfl
    · simp(disch:=omega)only[Ac,↓Pc,simprocAttr]
      ((try revert hK K);(refine Va X0 ?_))
      unfold fU;simp only[dV,dP];simp(disch:=omega)only[Ac,↓Pc,simprocAttr];refine⟨_,_,⟨⟨m.cls,m.ae,m.aE,-1⟩,k3,⟨gx.rules _,by first|exact .inl rfl|exact .inr ⟨_,r9 _,rfl⟩|exact .inr ⟨_,sc _,rfl⟩⟩,Ey,rfl,rfl⟩,?_⟩;refine iJ [0] true Hg ⟨⟨G9,.inr rfl⟩,trivial⟩ Hg Hg (r8 (a7.pure rfl) (?_) (?_) (.pure rfl));all_goals first|exact .pure rfl|exact .eq rfl|exact .fz rfl (by simp only[Bc,Rc])
    · simp(disch:=omega)only[Ac,↓Pc,simprocAttr]
      ((try revert hK K);(refine Va X0 ?_))
      unfold fU;simp only[dV,dP];simp(disch:=omega)only[Ac,↓Pc,simprocAttr];refine⟨_,_,⟨⟨m.cls,m.ae,m.aE,0⟩,k3,⟨gx.rules _,by first|exact .inl rfl|exact .inr ⟨_,r9 _,rfl⟩|exact .inr ⟨_,sc _,rfl⟩⟩,Ey,rfl,rfl⟩,?_⟩;refine iJ [0] true Hg ⟨⟨G9,.inr rfl⟩,trivial⟩ Hg Hg (r8 (a7.pure rfl) (?_) (?_) (.pure rfl));all_goals first|exact .pure rfl|exact .eq rfl|exact .fz rfl (by simp only[Bc,Rc])
    · simp(disch:=omega)only[Ac,↓Pc,simprocAttr]
      ((try revert hK K);(refine Va X0 ?_))
      unfold fU;simp only[dV,dP];simp(disch:=omega)only[Ac,↓Pc,simprocAttr];refine⟨_,_,⟨⟨m.cls,m.ae,m.aE,56⟩,k3,⟨gx.rules _,by first|exact .inl rfl|exact .inr ⟨_,r9 _,rfl⟩|exact .inr ⟨_,sc _,rfl⟩⟩,Ey,rfl,rfl⟩,?_⟩;refine iJ [0] true Hg ⟨⟨G9,.inr rfl⟩,trivial⟩ Hg Hg (r8 (a7.pure rfl) (?_) (?_) (.pure rfl));all_goals first|exact .pure rfl|exact .eq rfl|exact .fz rfl (by simp only[Bc,Rc])
    · simp(disch:=omega)only[Ac,↓Pc,simprocAttr]
      ((try revert hK K);(refine Va X0 ?_))
      unfold fU;simp only[dV,dP];simp(disch:=omega)only[Ac,↓Pc,simprocAttr];refine⟨_,_,⟨⟨m.cls,m.ae,m.aE,57⟩,k3,⟨gx.rules _,by first|exact .inl rfl|exact .inr ⟨_,r9 _,rfl⟩|exact .inr ⟨_,sc _,rfl⟩⟩,Ey,rfl,rfl⟩,?_⟩;refine iJ [0] true Hg ⟨⟨G9,.inr rfl⟩,trivial⟩ Hg Hg (r8 (a7.pure rfl) (?_) (?_) (.pure rfl));all_goals first|exact .pure rfl|exact .eq rfl|exact .fz rfl (by simp only[Bc,Rc])
  ·
    have e:=pS (enc:=aI) m.ae (m.ae.getD 0 default);simp only[aI]at e;rw[e];unfold fU;simp only[dV,dP];simp(disch:=omega)only[Ac,↓Pc,simprocAttr];refine⟨_,_,⟨⟨m.cls,m.ae++[m.ae.getD 0 default],m.aE,m.rules⟩,k2,⟨gx.ae Hj (λp hp=>(cG.1 hp).elim (gx.mb.aB p) λh=>by rw[cS.1 h];exact gx.Vn Ey),by first|exact .inl rfl|exact .inr ⟨_,r9 _,rfl⟩|exact .inr ⟨_,sc _,rfl⟩⟩,Ey,rfl,rfl⟩,?_⟩;refine iJ [0] true Hg ⟨⟨G9,.inr rfl⟩,trivial⟩ Hg Hg (r8 (a7.pure rfl) (?_) (?_) (.pure rfl));all_goals first|exact .pure rfl|exact .eq rfl|exact .fz rfl (by simp only[Bc,Rc])
  ·
    unfold fU;simp only[dV,dP];simp(disch:=omega)only[Ac,↓Pc,simprocAttr];refine⟨_,_,⟨m,k2,⟨gx,by first|exact .inl rfl|exact .inr ⟨_,r9 _,rfl⟩|exact .inr ⟨_,sc _,rfl⟩⟩,Ey,rfl,rfl⟩,?_⟩;refine iJ [0] true Hg ⟨⟨G9,.inr rfl⟩,trivial⟩ Hg Hg (r8 (a7.pure rfl) (?_) (?_) (.pure rfl));all_goals first|exact .pure rfl|exact .eq rfl|exact .fz rfl (by simp only[Bc,Rc])
  ·
    have kB:=iB L k2 2 (by unfold cY;omega) bw hL;have Dq:=kh (L:=L) (k:=k2) (n:=2) Ey;have gK:=fJ bw;have aqc:(m.ae.getD 0 default).aB.length<=576:=ahF hm (aF Ey);unfold gY at *;generalize ek L k2 2=x1 at *;generalize cQ L k2=k3 at *;refine Vk ?_;intro Qb dR;refine pH ⟨ar [(3,.ptr 1 0 0),(4,.ptr 2 0 0)],[.var [.tree 1 (ints L),QM k3],.var [.tree 1 (rowsOf aT m.cls),.ref 3 4 0 m.ae.length,.ref 4 4 0 m.aE.length,QM m.rules],
      .var [.lit (.slice none 0 0),.lit (.slice none 0 0),.lit (.slice none 0 0),QM 0],
      .arr 4 ((rowsOf aI m.ae).set 0 [QM (m.ae.getD 0 default).fst,QM (m.ae.getD 0 default).snd,QM (m.ae.getD 0 default).ej,.ref 6 1 0 (1+(m.ae.getD 0 default).aB.length)]),
      .arr 4 (rowsOf dz m.aE),.gone,.arr 1 ([QM (x1-1)]::ints (m.ae.getD 0 default).aB)]⟩ (λs h=>dR _ (hn _ h)) ?_ (λkey=>?_)
    rotate_left
    · refine MF 0 [] [3] (.take 2 (.take 6 (.take 7 (.take 8 (.take 9 (.take 10 (.both 0 (.both 1 (.take 3 (.take 4 (.take 5 (.take 11 (.take 12 (.take 13 (.take 14 .nil))))))) 3 (.take 4 (.both 1 (.take 5 (.take 11 (.take 12 (.take 13 (.take 14 .nil))))) 5 (.both 1 (.take 11 (.take 12 (.take 13 (.take 14 .nil)))) 11 (.take 1 (.take 12 (.take 13 (.take 14 .nil)))))))) 3 (.take 4 (.both 0 (.both 1 (.take 5 (.take 11 (.take 12 (.take 13 (.take 14 .nil))))) 5 (.both 1 (.take 11 (.take 12 (.take 13 (.take 14 .nil)))) 11 (.take 1 (.take 12 (.take 13 (.take 14 .nil)))))) 5 (.both 0 (.both 1 (.take 11 (.take 12 (.take 13 (.take 14 .nil)))) 11 (.take 1 (.take 12 (.take 13 (.take 14 .nil))))) 11 (.take 0 (.take 1 (.take 12 (.take 13 (.take 14 .nil))))))))))))))) rfl Hg (by decide +kernel) ?_
      simp(disch:=omega)only[Ac,↓Pc,simprocAttr,Hc,gM];repeat'(first|with_reducible refine cD ?_ ?_|omega|(refine BD (kB) rfl rfl rfl rfl (by(repeat'(first|exact trivial|refine cD ?_ ?_))<;>first|exact .inl ⟨rfl,rfl⟩|exact .inr ⟨rfl,rfl⟩) ?_;simp(disch:=omega)only[Ac,↓Pc,simprocAttr,Hc,gM]))
      all_goals refine key _ ?_
      all_goals exact Xv X0
    refine Va X0 ?_;unfold fU;simp only[dV,dP];simp(disch:=omega)only[Ac,↓Pc,simprocAttr];refine⟨_,_,⟨⟨m.cls,m.ae.set 0 ⟨(m.ae.getD 0 default).fst,(m.ae.getD 0 default).snd,(m.ae.getD 0 default).ej,[x1-1]++(m.ae.getD 0 default).aB⟩,m.aE,m.rules⟩,k3,⟨gx.ae Hj (λp hp=>(sW hp).elim (gx.mb.aB p) λh=>by rw[h];show([x1-1]++(m.ae.getD 0 default).aB).length<_;rw[bN,List.length_singleton];omega),by first|exact .inl rfl|exact .inr ⟨_,r9 _,rfl⟩|exact .inr ⟨_,sc _,rfl⟩⟩,Ey,rfl,rfl⟩,?_⟩;refine iJ [0] true Hg ⟨⟨G9,.inr rfl⟩,trivial⟩ Hg Hg (r8 (a7.pure rfl) (.snap _ _ rfl ?_) (?_) (.pure rfl))
    · refine cX.mk rfl (by simp only[Bc,Rc,bJ]) (j7 Hg) (iA _) ?_
      rw[<- Ts];exact ahE (BI (mF _)) ⟨.lit _,.lit _,.lit _,cX.mk rfl (by simp[ints];omega) (j7 Hg) (uw _) (BI (xn ([x1-1]++(m.ae.getD 0 default).aB))),trivial⟩
    · first|exact .pure rfl|exact .eq rfl|exact .fz rfl (by simp only[Bc,Rc])
  ·
    unfold fU;simp only[dV,dP];simp(disch:=omega)only[Ac,↓Pc,simprocAttr];refine⟨_,_,⟨m,k2,⟨gx,by first|exact .inl rfl|exact .inr ⟨_,r9 _,rfl⟩|exact .inr ⟨_,sc _,rfl⟩⟩,Ey,rfl,rfl⟩,?_⟩;refine iJ [0] true Hg ⟨⟨G9,.inr rfl⟩,trivial⟩ Hg Hg (r8 (a7.pure rfl) (?_) (?_) (.pure rfl));all_goals first|exact .pure rfl|exact .eq rfl|exact .fz rfl (by simp only[Bc,Rc])
  ·
    have e:=Ts (enc:=aI) m.ae 0 ⟨(m.ae.getD 0 default).fst,(m.ae.getD 0 default).fst,(m.ae.getD 0 default).ej,(m.ae.getD 0 default).aB⟩;simp only[aI]at e;rw[e];unfold fU;simp only[dV,dP];simp(disch:=omega)only[Ac,↓Pc,simprocAttr];refine⟨_,_,⟨⟨m.cls,m.ae.set 0 ⟨(m.ae.getD 0 default).fst,(m.ae.getD 0 default).fst,(m.ae.getD 0 default).ej,(m.ae.getD 0 default).aB⟩,m.aE,m.rules⟩,k2,⟨gx.ae Hj (λp hp=>(sW hp).elim (gx.mb.aB p) λh=>by rw[h];exact gx.Vn Ey),by first|exact .inl rfl|exact .inr ⟨_,r9 _,rfl⟩|exact .inr ⟨_,sc _,rfl⟩⟩,Ey,rfl,rfl⟩,?_⟩;refine iJ [0] true Hg ⟨⟨G9,.inr rfl⟩,trivial⟩ Hg Hg (r8 (a7.pure rfl) (?_) (?_) (.pure rfl));all_goals first|exact .pure rfl|exact .eq rfl|exact .fz rfl (by simp only[Bc,Rc])
  ·
    unfold fU;simp only[dV,dP];simp(disch:=omega)only[Ac,↓Pc,simprocAttr];refine⟨_,_,⟨m,k2,⟨gx,by first|exact .inl rfl|exact .inr ⟨_,r9 _,rfl⟩|exact .inr ⟨_,sc _,rfl⟩⟩,Ey,rfl,rfl⟩,?_⟩;refine iJ [0] true Hg ⟨⟨G9,.inr rfl⟩,trivial⟩ Hg Hg (r8 (a7.pure rfl) (?_) (?_) (.pure rfl));all_goals first|exact .pure rfl|exact .eq rfl|exact .fz rfl (by simp only[Bc,Rc])
  ·
    unfold fU;simp only[dV,dP];simp(disch:=omega)only[Ac,↓Pc,simprocAttr];refine⟨_,_,⟨⟨m.cls,m.ae,m.aE++[⟨0,[],-1,1⟩],m.rules⟩,k2,⟨gx.aE Hj (λp hp=>(cG.1 hp).elim (gx.mb.mI p) λh=>by rw[cS.1 h];decide),by first|exact .inl rfl|exact .inr ⟨_,r9 _,rfl⟩|exact .inr ⟨_,sc _,rfl⟩⟩,Ey,rfl,rfl⟩,?_⟩;refine iJ [0] true Hg ⟨⟨G9,.inr rfl⟩,trivial⟩ Hg Hg (r8 (a7.pure rfl) (?_) (.snap _ _ rfl ?_) (.pure rfl))
    · first|exact .pure rfl|exact .eq rfl|exact .fz rfl (by simp only[Bc,Rc])
    · refine cX.mk rfl (by simp only[Bc,Rc]) (j7 Hg) (iA _) ?_
      rw[<- pS];exact Fg (BI (mF _)) ⟨⟨.lit _,.nil 3,.lit _,.lit _,trivial⟩,trivial⟩
  ·
    have MQ:=iB L k2 3 (by unfold cY;omega) bw hL;have gK:=fJ bw;have kB:=iB L (cQ L k2) 4 (by unfold cY;omega) gK hL;have uN:=fJ gK;have Fh:=iB L (cQ L (cQ L k2)) 2 (by unfold cY;omega) uN hL;have Vo:=fJ uN;have MR:=iB L (cQ L (cQ L (cQ L k2))) 2 (by unfold cY;omega) Vo hL;have hk6:=fJ Vo;unfold gY at *;generalize ek L k2 3=x1 at *;generalize cQ L k2=k3 at *;generalize ek L k3 4=x2 at *;generalize cQ L k3=k4 at *;generalize ek L k4 2=x3 at *;generalize cQ L k4=k5 at *;generalize ek L k5 2=x4 at *;generalize cQ L k5=k6 at *;refine Vk ?_;intro Qb dR;refine pH ⟨ar [(3,.ptr 1 0 0),(4,.ptr 2 0 0)],[.var [.tree 1 (ints L),QM k6],.var [.tree 1 (rowsOf aT m.cls),.ref 3 4 0 m.ae.length,.ref 7 4 0 (m.aE.length+1),QM m.rules],
      .var [.lit (.slice none 0 0),.lit (.slice none 0 0),.lit (.slice none 0 0),QM 0],.arr 4 (rowsOf aI m.ae),.gone,.arr 3 [[QM x1,QM x2,QM x3]],
      .arr 4 [[QM 0,.ref 5 3 0 1,QM 0,QM x4]],.arr 4 (rowsOf dz m.aE++[[QM 0,.ref 5 3 0 1,QM 0,QM x4]])]⟩ (λs h=>dR _ (hn _ h)) ?_ (λkey=>?_)
    rotate_left
    · refine MF 0 [] [3,5,7,11] (.take 0 (.take 1 (.take 2 (.take 3 (.take 4 (.take 5 (.take 6 (.take 7 (.take 8 (.take 10 (.both 9 (.take 11 (.take 12 (.take 13 (.take 14 (.take 15 (.take 16 .nil)))))) 11 (.take 9 (.take 12 (.take 13 (.take 14 (.take 15 (.take 16 .nil))))))))))))))))) rfl Hg (by decide +kernel) ?_
      simp(disch:=omega)only[Ac,↓Pc,simprocAttr,Hc,gM];repeat'(first|with_reducible refine cD ?_ ?_|omega|(refine BD (MQ) rfl rfl rfl rfl (by(repeat'(first|exact trivial|refine cD ?_ ?_))<;>first|exact .inl ⟨rfl,rfl⟩|exact .inr ⟨rfl,rfl⟩) ?_;simp(disch:=omega)only[Ac,↓Pc,simprocAttr,Hc,gM])|(refine BD (kB) rfl rfl rfl rfl (by(repeat'(first|exact trivial|refine cD ?_ ?_))<;>first|exact .inl ⟨rfl,rfl⟩|exact .inr ⟨rfl,rfl⟩) ?_;simp(disch:=omega)only[Ac,↓Pc,simprocAttr,Hc,gM])|(refine BD (Fh) rfl rfl rfl rfl (by(repeat'(first|exact trivial|refine cD ?_ ?_))<;>first|exact .inl ⟨rfl,rfl⟩|exact .inr ⟨rfl,rfl⟩) ?_;simp(disch:=omega)only[Ac,↓Pc,simprocAttr,Hc,gM])|(refine BD (MR) rfl rfl rfl rfl (by(repeat'(first|exact trivial|refine cD ?_ ?_))<;>first|exact .inl ⟨rfl,rfl⟩|exact .inr ⟨rfl,rfl⟩) ?_;simp(disch:=omega)only[Ac,↓Pc,simprocAttr,Hc,gM]))
      all_goals refine key _ ?_
      all_goals exact Xv X0
    refine Va X0 ?_;unfold fU;simp only[dV,dP];simp(disch:=omega)only[Ac,↓Pc,simprocAttr];refine⟨_,_,⟨⟨m.cls,m.ae,m.aE++[⟨0,[⟨x1,x2,x3⟩],0,x4⟩],m.rules⟩,k6,⟨gx.aE Hj (λp hp=>(cG.1 hp).elim (gx.mb.mI p) λh=>by rw[cS.1 h];simp),by first|exact .inl rfl|exact .inr ⟨_,r9 _,rfl⟩|exact .inr ⟨_,sc _,rfl⟩⟩,Ey,rfl,rfl⟩,?_⟩;refine iJ [0] true Hg ⟨⟨G9,.inr rfl⟩,trivial⟩ Hg Hg (r8 (a7.pure rfl) (?_) (.snap _ _ rfl ?_) (.pure rfl))
    · first|exact .pure rfl|exact .eq rfl|exact .fz rfl (by simp only[Bc,Rc])
    · refine cX.mk rfl (by simp only[Bc,Rc]) (j7 Hg) (iA _) ?_
      rw[<- pS];exact Fg (BI (mF _)) ⟨⟨.lit _,cX.mk rfl rfl (j7 Hg) (iA _) ⟨⟨.lit _,.lit _,.lit _,trivial⟩,trivial⟩,.lit _,.lit _,trivial⟩,trivial⟩
  ·
    have kB:=iB L k2 5 (by unfold cY;omega) bw hL;have gK:=fJ bw;have Fh:=iB L (cQ L k2) 2 (by unfold cY;omega) gK hL;have uN:=fJ gK;unfold gY at *;generalize ek L k2 5=x1 at *;generalize cQ L k2=k3 at *;generalize ek L k3 2=x2 at *;generalize cQ L k3=k4 at *;(refine Xn [0] (kB) ?_;simp(disch:=omega)only[Ac,↓Pc,simprocAttr])
    (refine Xn [0] (Fh) ?_;simp(disch:=omega)only[Ac,↓Pc,simprocAttr])
    ((try revert hK K);(refine Va X0 ?_))
    unfold fU;simp only[dV,dP];simp(disch:=omega)only[Ac,↓Pc,simprocAttr];refine⟨_,_,⟨⟨m.cls++[[⟨0,0,0,0,0,[(x1,x2)]⟩]],m.ae,m.aE,m.rules⟩,k4,⟨gx.cls Ey Hj (λl hl=>(cG.1 hl).elim (λh=>⟨gx.opt l h,gx.mb.ch l h⟩) λh=>by rw[cS.1 h];exact⟨G9,λo ho=>by rw[cS.1 ho];simp⟩),by first|exact .inl rfl|exact .inr ⟨_,r9 _,rfl⟩|exact .inr ⟨_,sc _,rfl⟩⟩,Ey,rfl,rfl⟩,?_⟩;refine iJ [0] true Hg ⟨⟨G9,.inr rfl⟩,trivial⟩ Hg Hg (r8 (.snap _ _ rfl ?_) (?_) (?_) (.pure rfl))
    · refine cX.mk rfl (by simp only[Bc,Rc]) (j7 Hg) (iA _) ?_
      rw[<- pS];refine Fg (BI (mF _)) ⟨⟨?_,trivial⟩,trivial⟩;refine cX.mk rfl rfl (j7 Hg) (iA _) ⟨⟨.lit _,.lit _,.lit _,.lit _,.lit _,?_,trivial⟩,trivial⟩;exact cX.mk rfl rfl (j7 Hg) (iA _) ⟨⟨.lit _,.lit _,trivial⟩,trivial⟩
    · first|exact .pure rfl|exact .eq rfl|exact .fz rfl (by simp only[Bc,Rc])
    · first|exact .pure rfl|exact .eq rfl|exact .fz rfl (by simp only[Bc,Rc])
  ·
    have kB:=iB L k2 2 (by unfold cY;omega) bw hL;have Dq:=kh (L:=L) (k:=k2) (n:=2) Ey;have gK:=fJ bw;unfold gY at *;generalize ek L k2 2=x1 at *;generalize cQ L k2=k3 at *;(refine Xn [0] (kB) ?_;simp(disch:=omega)only[Ac,↓Pc,simprocAttr])
    ((try revert hK K);(refine Va X0 ?_))
    unfold fU;simp only[dV,dP];simp(disch:=omega)only[Ac,↓Pc,simprocAttr];refine⟨_,_,⟨⟨m.cls++[aK (24+x1).toNat ⟨0,0,0,0,0,[]⟩],m.ae,m.aE,m.rules⟩,k3,⟨gx.cls Ey Hj (λl hl=>(cG.1 hl).elim (λh=>⟨gx.opt l h,gx.mb.ch l h⟩) λh=>by rw[cS.1 h];exact⟨by rw[nx];omega,λo ho=>by rw[CN ho];decide⟩),by first|exact .inl rfl|exact .inr ⟨_,r9 _,rfl⟩|exact .inr ⟨_,sc _,rfl⟩⟩,Ey,rfl,rfl⟩,?_⟩;refine iJ [0] true Hg ⟨⟨G9,.inr rfl⟩,trivial⟩ Hg Hg (r8 (.snap _ _ rfl ?_) (?_) (?_) (.pure rfl))
    · refine cX.mk rfl (by simp only[Bc,Rc]) (j7 Hg) (iA _) ?_
      rw[<- pS];refine Fg (BI (mF _)) ⟨⟨?_,trivial⟩,trivial⟩;refine cX.mk rfl (by rw[nx]) (j7 Hg) (iA _) ?_;rw[show rowsOf cB (aK (24+x1).toNat ⟨0,0,0,0,0,[]⟩)=aK (24+x1).toNat (cB ⟨0,0,0,0,0,[]⟩) by rw[rowsOf,List.map_replicate]];refine Vm ?_ _;exact⟨.lit _,.lit _,.lit _,.lit _,.lit _,.nil 2,trivial⟩
    · first|exact .pure rfl|exact .eq rfl|exact .fz rfl (by simp only[Bc,Rc])
    · first|exact .pure rfl|exact .eq rfl|exact .fz rfl (by simp only[Bc,Rc])
def z6(c:Int)(p:Pr):Bool:=decide (p.fst≠c/\p.snd≠c)
def qV(m:ah)(c:Int):ah:=⟨m.cls.set c.toNat [],m.ae.filter (z6 c),[],m.rules⟩
def ahH{m:ah}(hm:VM m){c:Int}(hc:0<=c):VM (qV m c):=by
 have bR:∀ l∈(qV m c).cls,l=[]\/l∈m.cls:=λl hl=>(sW hl).symm;have key:∀ (l:List Pr) (q:Option Pr),(∀ p∈l,z6 c p=true)->gd m q l=true->gd (qV m c) q l=true:=by
  intro l
  induction l with
  |nil=>intro q _ _;cases q<;>rfl
  |cons p r ih =>
   intro q ho h;rw[gd.eq_def]at h ⊢;simp only[bc]at h ⊢;obtain⟨⟨a,b⟩,d⟩:=h;have hp:=ho p G9;unfold z6 at hp;rw[decide_eq_true_eq]at hp;refine⟨⟨?_,b⟩,ih _ (λx hx=>ho x (by simp[hx])) d⟩;have e:∀ x:Int,0<=x->x≠c->(qV m c).cls.getD x.toNat default=m.cls.getD x.toNat default:=λx h0 hx=>by
    unfold qV;dsimp only;rw[ay,List.getElem?_set_ne Ey,<- ay]
   have q:=(rZ a).2;unfold iC at *;rw[e _ q.1 hp.1,e _ Ey hp.2,show(qV m c).cls.length=m.cls.length by unfold qV;simp];exact a
 refine⟨by unfold qV;simpa using hm.cls,λl hl=>?_,ud (QR _ _) hm.ae,aP _,hm.wm,λl hl o ho=>?_,key _ _ (λp hp=>(List.mem_filter.1 hp).2) (MS _ hm.pr),λc hc=>by cases hc⟩
 ·rcases bR l hl with rfl|h
  ·exact aP _
  ·exact hm.opt l h
 ·rcases bR l hl with rfl|h
  ·cases ho
  ·exact hm.tA l h o ho
def Vp{R:AV->AV->Prop}:∀ {a c:List (List AV)} {x y:List AV} (j:Nat),lV R a c->jN R x y->lV R (a.set j x) (c.set j y)
 |[],[],_,_,_,_,_=>trivial
 |_::_,_::_,_,_,0,h,k=>⟨k,h.2⟩
 |_::_,_::_,_,_,j+1,h,k=>⟨h.1,Vp j h.2 k⟩
 |[],_::_,_,_,_,h,_=>h.elim
 |_::_,[],_,_,_,h,_=>h.elim
def ahI{α:Type}{enc:α->List AV}{w:Nat}[Row enc w]{σ:St}{kp:Nat->Prop}(xs:List α):lV (cX σ kp) (rowsOf enc xs) (rowsOf enc xs) :=
 lV.Fi (f:=λ_=>[]) (g:=λ_=>[]) rfl λj c d hc hd=>by rw[hc]at hd;cases hd;exact Vq (λv hv=>mF _ _ (List.mem_of_getElem? hc) v hv) rfl
def ahJ{σ:St}{kp:Nat->Prop}{id n c:Nat}{cls:List (List cP)}(ho:σ.aa[id]?=some (.arr 1 ((rowsOf aT cls).set c [.lit (.slice none 0 0)])))(hn:n=cls.length)(hk:¬ kp id):cX σ kp (.tree 1 (rowsOf aT (cls.set c []))) (.ref id 1 0 n):=by
 have e:rowsOf aT (cls.set c [])=(rowsOf aT cls).set c (aT []):=by unfold rowsOf;rw[qF]
 refine cX.mk ho (by rw[hn,bJ,cF]) hk (iA _) ?_;rw[e];exact Vp c (ahI cls) ⟨.nil 6,trivial⟩
def MT(m:ah):List AV:=[.tree 1 (rowsOf aT m.cls),.ref 0 4 0 m.ae.length,.tree 4 (rowsOf dz m.aE),QM m.rules]
def ahK(m:ah)(hm:VM m)(c:Int)(hc:0<=c/\c<m.cls.length):Holds Tryz.prog 59 [.agg (ao m),QM c] [] (.agg (MT (qV m c))) [.arr 4 (rowsOf aI (qV m c).ae)]:=by
 have np:=hm.cls;have p6:=hm.ae;have cV:(rowsOf aT m.cls).length=m.cls.length:=cF _;have ahL:∀ ρ,bO ρ (.arr 1 ((rowsOf aT m.cls).set c.toNat [.lit (.slice none 0 0)]))=.arr 1 ((rowsOf aT m.cls).set c.toNat [.lit (.slice none 0 0)]):=λρ=>by
  have h:bO ρ (.arr 1 (rowsOf aT m.cls))=.arr 1 (rowsOf aT m.cls):=by rw[oz]
  simp only[bO,Ob.arr.injEq,true_and]at h ⊢;rw[qF,h];simp[br]
 have pk:∀ (xs:List Pr) (p:Pr),rowsOf aI xs++[[AV.lit (.int .i64 p.fst),AV.lit (.int .i64 p.snd),AV.lit (.int .i64 p.ej),AV.tree 1 (ints p.aB)]]=rowsOf aI (xs++[p]):=λxs p=>pS xs p;refine Holds.aM 53 0 [.cell 4 32] Tryz.func59 ?_;repeat'(first|((fail_if_success (first|refine dW 1 ?_|refine dX 1 ?_));refine Xr X0 ?_;intro K hK)|(refine hK _ ?_;clear hK K)|refine XY ?_|fail)
 refine wo ?_;intro Q hn he;refine pH ⟨ar [(1,QM c),(2,.ptr 0 0 0),(4,.ptr 1 0 0),(5,.ptr 3 0 0)],[.var (ao m),.var [.lit (.slice none 0 0),.lit (.slice none 0 0),.lit (.slice none 0 0),QM 0],.arr 1 (rowsOf aT m.cls),.var [.ref 2 1 0 m.cls.length,.lit (.slice none 0 0),.lit (.slice none 0 0),QM m.rules]]⟩ hn ?_ (λkey=>?_);rotate_left
 ·refine nf [] (.take 0 (.take 1 (.three 2 (.take 3 (.take 4 (.take 5 (.take 6 (.take 7 .nil))))) 3 (.three 2 (.take 4 (.take 5 (.take 6 (.take 7 .nil)))) 4 (.both 2 (.take 5 (.take 6 (.take 7 .nil))) 6 (.take 2 (.take 5 (.take 7 .nil)))) 6 (.both 2 (.take 4 (.take 5 (.take 7 .nil))) 4 (.take 2 (.take 5 (.take 7 .nil))))) 6 (.both 2 (.take 3 (.take 4 (.take 5 (.take 7 .nil)))) 3 (.both 2 (.take 4 (.take 5 (.take 7 .nil))) 4 (.take 2 (.take 5 (.take 7 .nil)))))))) rfl Hg (by decide +kernel) ?_;simp(disch:=omega)only[Ac,↓Pc,simprocAttr,Pw];repeat'(first|with_reducible refine cD ?_ ?_|omega)
  all_goals
   refine key _ ?_;first|(exact Xv X0;done)|(exact Xs false [0,1,3,2] X0)
 (try clear hn;try clear he)
 refine Vb @cV ?_;refine bP (aD.pT 3 1 4 rfl rfl Hg) ?_;refine aQ (λz:Nat×List Pr=>(⟨ar [(1,QM c),(2,.ptr 0 0 0),(4,.ptr 1 0 0),(5,.ptr 3 0 0),(6,QM z.1)],[.var (ao m),.var [.lit (.slice none 0 0),.lit (.slice none 0 0),.lit (.slice none 0 0),QM 0],.arr 1 ((rowsOf aT m.cls).set c.toNat [.lit (.slice none 0 0)]),.var [.ref 2 1 0 m.cls.length,.ref 4 4 0 z.2.length,.lit (.slice none 0 0),QM m.rules],.arr 4 (rowsOf aI z.2)]⟩:St))
  (λz=>z.1<=m.ae.length/\z.2=(m.ae.take z.1).filter (z6 c)) (λz=>m.ae.length-z.1) (0,[]) ⟨aP _,rfl⟩ (Xv X0) ?_
 rintro⟨i,xs⟩⟨hi,cJ⟩Ql ak aq;dsimp only at hi cJ ⊢;by_cases au:i<m.ae.length
 ·have eu:=ep au;have uP:xs.length<=4000:=by
   rw[cJ];exact ud (QR _ _) (by rw[List.length_take];omega)
  generalize cu:m.ae.getD i default=p at *;have hf:(m.ae.take (i+1)).filter (z6 c)=xs++if z6 c p=true then [p] else []:=by
   rw[eu,List.filter_append,<- cJ];congr 1;rw[List.filter_cons,List.filter_nil]
  by_cases Vr:p.fst≠c/\p.snd≠c
  ·rw[if_pos (by unfold z6;exact decide_eq_true Vr)]at hf;((repeat'(first|refine Va (X2 @cu @aI.eq_1) ?_|(refine V2 (X2 @cu @aI.eq_1) ?_ ?_<;>try with_reducible intro hb)|(refine Xi ?_ ?_<;>try intro ht)|exact Xx|fail)))
   all_goals exact ak _ (i+1,xs++[p]) ⟨Hi,hf.symm⟩ Hi (Xs false [0,1,2,3,6] (X2 @ahL @pk))
  ·rw[if_neg (by unfold z6;simpa using Vr),List.append_nil]at hf;((repeat'(first|refine Va (X2 @cu @aI.eq_1) ?_|(refine V2 (X2 @cu @aI.eq_1) ?_ ?_<;>try with_reducible intro hb)|(refine Xi ?_ ?_<;>try intro ht)|exact Xx|fail)))
   all_goals exact ak _ (i+1,xs) ⟨Hi,hf.symm⟩ Hi (Xv X0)
 ·rw[List.take_of_length_le Ey]at cJ;((repeat'(first|refine Va X0 ?_|(refine V2 X0 ?_ ?_<;>try with_reducible intro hb)|(refine Xi ?_ ?_<;>try intro ht)|exact Xx|fail)))
  refine aq _ _ rfl ?_;clear ak aq Ql;repeat(refine Xu ?_)
  refine Vb X0 ?_;simp(disch:=omega)only[Ac,↓Pc,simprocAttr,rowOf];have Vs:(qV m c).ae=xs:=by rw[cJ];rfl
  rw[Vs];refine iJ [4] true Hg ⟨⟨G9,.inr (by rw[oz];rfl)⟩,trivial⟩ Hg Hg ?_;refine(a7.agg _ _ rfl (jN.spec (R:=a7 _ _ _ _) (cs:=MT (qV m c)) (ds:=[.ref 2 1 0 m.cls.length,.ref 4 4 0 xs.length,.lit (.slice none 0 0),QM m.rules]) ⟨.snap _ _ rfl (ahJ rfl rfl (j7 Hg)),.eq (by rw[Vs];rfl),.snap _ _ rfl (.nil 4),.pure rfl,trivial⟩).2)
def tz(par:List Int)(i:Nat):Nat->List (Int×Int)
 |0=>[]
 |c+1=>tz par i c++if par.getD (i+1+c) 0=i then [((i:Int),((i+1+c:Nat):Int))] else []
def wg(par:List Int)(n:Nat):Nat->List (Int×Int)
 |0=>[]
 |i+1=>wg par n i++tz par i (n-(i+1))
def Ve(ch:List (Int×Int)):Prop:=ch=[]\/∃ r c,ch=[(r,c)]/\(0<=r/\r<2)/\1<=c/\c<=40
def MI(l:List cP):Prop:=∀ o∈l,Ve o.ch
def MK(cls:List (List cP))(p:Pr):Prop:=p.ej=1/\(0<=p.fst/\p.fst<p.snd/\p.snd<cls.length)/\(p.aB.length:Int)=(cls.getD p.fst.toNat default).length*(cls.getD p.snd.toNat default).length/\∀ x∈p.aB,0<=x/\x<=38
structure Dm(m:ah)(par:List Int):Prop where
 n:1<=m.cls.length/\m.cls.length<=5
 pl:par.length=m.cls.length
 pr:∀ i,i<par.length->-1<=par.getD i 0/\par.getD i 0<i
 cl:∀ l∈m.cls,(1<=l.length/\l.length<=3)/\MI l
 fs:m.ae.map (λp=>(p.fst,p.snd))=wg par m.cls.length m.cls.length
 pt:∀ p∈m.ae,MK m.cls p
 ct:m.aE=[]
 ru:m.rules=2
def iY(L:List Int)(k:Nat)(cls:List (List cP))(ae:List Pr)(par:List Int)(n:Nat):List Ob :=
 [.var [.tree 1 (ints L),QM k],.var [.lit (.slice none 0 0),.lit (.slice none 0 0),.lit (.slice none 0 0),QM 0],
  .var [.ref 4 1 0 cls.length,.ref 5 4 0 ae.length,.lit (.slice none 0 0),QM 2],.arr 1 (ints (par++aK (n-par.length) 0)),.arr 1 (rowsOf aT cls),.arr 4 (rowsOf aI ae)]
def ahy(par:List Int)(n:Nat)(h:par.length<n)(v:Int):(par++aK (n-par.length) 0).set par.length v=(par++[v])++aK (n-(par++[v]).length) 0:=by
 rw[List.set_append_right _ _ (aZ _),Nat.sub_self,show n-par.length=(n-(par.length+1))+1 by omega,List.replicate_succ,List.set_cons_zero,bN,List.append_assoc];rfl
def Du(a b:Int×Int):Prop:=a.1<b.1\/(a.1=b.1/\a.2<b.2)
def Is(par:List Int)(i:Nat):∀ c,∀ q∈tz par i c,q.1=(i:Int)/\q.2<((i+1+c:Nat):Int)
 |0,q,h=>by cases h
 |c+1,q,h=>by
  rw[tz,cG]at h;rcases h with h|h
  ·have:=Is par i c q h;omega
  ·split at h
   ·rw[cS]at h;subst h;dsimp only;omega
   ·cases h
def Vt(par:List Int)(n:Nat):∀ i,∀ q∈wg par n i,q.1<(i:Int)
 |0,q,h=>by cases h
 |i+1,q,h=>by
  rw[wg,cG]at h;rcases h with h|h
  ·have:=Vt par n i q h;omega
  ·have:=(Is par i _ q h).1;omega
def Vu(par:List Int)(i:Nat):∀ c,(tz par i c).Pairwise Du
 |0=>.nil
 |c+1=>by
  rw[tz,List.pairwise_append];refine⟨Vu par i c,by split<;>simp,λa ha b hb=>?_⟩;have h1:=Is par i c a ha;split at hb
  ·rw[cS]at hb;subst hb;exact .inr ⟨h1.1,h1.2⟩
  ·cases hb
def Vv(par:List Int)(n:Nat):∀ i,(wg par n i).Pairwise Du
 |0=>.nil
 |i+1=>by
  rw[wg,List.pairwise_append];refine⟨Vv par n i,Vu par i _,λa ha b hb=>.inl ?_⟩;have h1:=Vt par n i a ha;have h2:=(Is par i _ b hb).1;omega
def Vw(par:List Int)(i:Nat):∀ c,(tz par i c).length<=c
 |0=>aZ _
 |c+1=>by
  rw[tz,bN];have:=Vw par i c;split<;>simp<;>omega
def Vx(par:List Int)(n:Nat):∀ i,(wg par n i).length<=i*n
 |0=>by rw[Nat.zero_mul];exact aZ _
 |i+1=>by
  rw[wg,bN,Nat.succ_mul];have:=Vx par n i;have:=Vw par i (n-(i+1));omega
def Vy{m:ah}:∀ (l:List Pr) (q:Option Pr),(∀ p∈l,iC m p=true/\p.ej=1)->l.Pairwise (λa b=>Du (a.fst,a.snd) (b.fst,b.snd))->(∀ p,q=some p->p.ej=1/\∀ x∈l.head?,Du (p.fst,p.snd) (x.fst,x.snd))->gd m q l=true
 |[],q,_,_,_=>by cases q<;>rfl
 |p::r,q,h,hp,hq=>by
  rw[List.pairwise_cons]at hp;have ih:=Vy r (some p) (λx hx=>h x (dZ _ hx)) hp.2 λy hy=>by
   cases hy;exact⟨(h p G9).2,λx hx=>hp.1 x (List.mem_of_mem_head? hx)⟩
  have h1:=h p G9;cases q with
  |none=>rw[gd,ih,h1.1];rfl
  |some q =>
   rw[gd,ih,h1.1,Bool.and_true,Bool.true_and,decide_eq_true_eq];obtain⟨h2,h3⟩:=hq q rfl;have h4:=h3 p rfl;unfold oE;rw[h2,h1.2];unfold Du at h4;dsimp only at h4;unfold kX;simp only[sq];repeat' split
   all_goals omega
def Dm.vm{m:ah}{par:List Int}(h:Dm m par):VM m:=by
 have jg:m.ae.length<=25:=by
  have h1:=congrArg List.length h.fs;rw[List.length_map]at h1;have h2:=Vx par m.cls.length m.cls.length;have h3:m.cls.length*m.cls.length<=5*5:=w8 h.n.2 h.n.2;omega
 have MU:m.ae.Pairwise (λa b=>Du (a.fst,a.snd) (b.fst,b.snd)):=by
  have h1:=Vv par m.cls.length m.cls.length;rw[<- h.fs,List.pairwise_map]at h1;exact h1
 refine⟨by have:=h.n;omega,λl hl=>by have:=(h.cl l hl).1;omega,Ey,by rw[h.ct];decide,by rw[h.ru];decide,λl hl o ho=>?_,Vy _ _ (λp hp=>?_) MU (λp hp=>by cases hp),λc hc=>by rw[h.ct]at hc;cases hc⟩
 ·rcases(h.cl l hl).2 o ho with h1|⟨r,c,h1,h2,h3⟩
  ·rw[h1];rfl
  ·rw[h1,h.ru];unfold eT ki jV eT;simp;omega
 ·obtain⟨h1,h2,h3,h4⟩:=h.pt p hp;refine⟨?_,h1⟩;unfold iC ki;rw[h1,h.ru];simp only[bc,Bool.not_eq_true',decide_eq_true_eq];refine⟨⟨Hg,Ey,h2.2.1,h2.2.2,h3⟩,?_⟩;rw[<- Bool.not_eq_true,List.any_eq_true];rintro⟨x,hx,hb⟩;have:=h4 x hx;unfold p7 jV at hb;simp at hb;omega
def Dm.MP{m:ah}{par:List Int}(h:Dm m par):kW 5 m:=⟨h.vm.mb,h.n.2,λl hl=>by have:=(h.cl l hl).1;omega⟩
def xJ:List (List cP)->Nat
 |[]=>1
 |l::r=>max 1 l.length*xJ r
def MO{b:Nat}(hb:1<=b):∀ cls:List (List cP),(∀ l∈cls,l.length<=b)->xJ cls<=b^cls.length
 |[],_=>aZ _
 |l::r,h=>by
  rw[xJ,List.length_cons,Nat.pow_succ,Nat.mul_comm];exact w8 (MO hb r λx hx=>h x (dZ _ hx)) (by have:=h l G9;omega)
def Vi(x:List cP):∀ cls:List (List cP),xJ (cls++[x])=xJ cls*max 1 x.length
 |[]=>by simp[xJ]
 |l::r=>by rw[List.cons_append,xJ,xJ,Vi x r,Nat.mul_assoc]
structure Ff(m:ah):Prop where
 om:kW 5 m
 cap:xJ m.cls<10000
def Ff.of{m:ah}(h:kW 5 m)(h4:∀ l∈m.cls,l.length<=4):Ff m :=
 ⟨h,Nat.lt_of_le_of_lt (MO Hg _ h4) (Nat.lt_of_le_of_lt (Nat.pow_le_pow_right Hg h.qT) Hg)⟩
end T

