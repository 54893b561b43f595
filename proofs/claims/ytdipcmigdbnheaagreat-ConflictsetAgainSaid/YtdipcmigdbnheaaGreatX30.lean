import Derived.Test.YtdipcmigdbnheaaGreatX08
import Derived.Test.YtdipcmigdbnheaaGreatX29
set_option linter.all false
set_option maxHeartbeats 0
set_option maxRecDepth 20000
open List renaming replicate→b6,mem_append→cj,mem_singleton→ew,mem_or_eq_of_mem_set→pA,length_set→bE,length_replicate→sZ,getD_eq_getElem?_getD→aA,length_filter_le→zh,map_set→sW,mem_of_mem_drop→rO,getElem?_eq_some_iff→aM
open Int renaming mul_le_mul→qy
open Nat renaming le_trans→iM,zero_le→aQ,le_refl→aG
open And renaming intro→gB
open Go Go.Am Go.Proofs
namespace T
def UC{P:Program}{N n0:Nat}{σ:St}{Q:Exit->St->Prop}{x:Code}{id:Nat}(h:∀ Q':Exit->St->Prop,(∀ s,Q .normal s->Q' .normal s)->W P N n0 x Q' σ):W P N n0 x (Bq id Q) σ:=h _ .n
def UD{σ:St}{kp:Nat->Prop}:∀ {l:List AV},(∀ v∈l,(∃ x,v=AV.lit x)\/∃ s r,v=AV.tree s r)->dS (b9 σ kp) l l
 |[],_=>trivial
 |v::l,h=>⟨by rcases h v Jd with⟨x,rfl⟩|⟨s,r,rfl⟩;exact .lit _;exact .tree _ _,UD λx hx=>h x (by simp[hx])⟩
def xd{σ:St}{kp:Nat->Prop}:∀ {rows:List (List AV)},(∀ row∈rows,∀ v∈row,(∃ x,v=AV.lit x)\/∃ s r,v=AV.tree s r)->jB (b9 σ kp) rows rows
 |[],_=>trivial
 |r::rows,h=>⟨UD (h r Jd),xd λx hx=>h x (by simp[hx])⟩
def Bd{R:AV->AV->Prop}:∀ {a c:List (List AV)} {b d:List (List AV)},jB R a c->jB R b d->jB R (a++b) (c++d)
 |[],[],_,_,_,k=>k
 |_::_,_::_,_,_,h,k=>⟨h.1,Bd h.2 k⟩
 |[],_::_,_,_,h,_=>h.elim
 |_::_,[],_,_,h,_=>h.elim
def adb{R:AV->AV->Prop}:∀ {a c:List (List AV)} {x y:List AV},jB R a c->dS R x y->jB R (a.set 0 x) (c.set 0 y)
 |[],[],_,_,_,_=>trivial
 |_::_,_::_,_,_,h,k=>⟨k,h.2⟩
 |[],_::_,_,_,h,_=>h.elim
 |_::_,[],_,_,h,_=>h.elim
def UE{R:AV->AV->Prop}{x y:List AV}(h:dS R x y):∀ n,jB R (b6 n x) (b6 n y)
 |0=>trivial
 |n+1=>⟨h,UE h n⟩
def UF{m:aj}(h:VM m){p:Pr}(hp:p∈m.ae):p.ay.length<=576:=by
 obtain⟨_,h1,h2,h3,h4⟩:=lr (jo h.pr p hp);have a:=h.opt _ (aC (l:=m.cls) (i:=p.fst.toNat) (d:=default) I6);have b:=h.opt _ (aC (l:=m.cls) (i:=p.snd.toNat) (d:=default) I6);have:((m.cls.getD p.fst.toNat default).length:Int)*(m.cls.getD p.snd.toNat default).length<=24*24:=qy I6 I6 I6 I6;omega
def oL{σ:St}{kp:Nat->Prop}{ρ:Nat->Nat}{snap:Bool}{a b c d a' b' c' d':AV}(h1:aE σ kp ρ snap a a')(h2:aE σ kp ρ snap b b')(h3:aE σ kp ρ snap c c')(h4:aE σ kp ρ snap d d'):aE σ kp ρ snap (.agg [a,b,c,d]) (.agg [a',b',c',d']) :=
 .agg _ _ rfl (dS.spec (R:=aE σ kp ρ snap) (cs:=[a,b,c,d]) (ds:=[a',b',c',d']) ⟨h1,h2,h3,h4,trivial⟩).2
structure kc(q:Nat)(m:aj):Prop where
 mb:MB m
 nG:m.cls.length<=q
 opt:∀ l∈m.cls,l.length<=25
abbrev OM(m:aj):Prop:=kc 25 m
def kc.mono{q r:Nat}{m:aj}(h:kc q m)(hr:q<=r):kc r m:=⟨h.mb,iM h.nG hr,h.opt⟩
def kc.rules{q:Nat}{m:aj}(h:kc q m)(r:Int):kc q ⟨m.cls,m.ae,m.ar,r⟩:=⟨⟨h.mb.cls,h.mb.opt,h.mb.ch,h.mb.ae,h.mb.ay,h.mb.ar,h.mb.ku⟩,h.nG,h.opt⟩
def kc.ae{q:Nat}{m:aj}(h:kc q m){l:List Pr}(h1:l.length<9223372036854775808)(h2:∀ p∈l,p.ay.length<9223372036854775808):kc q ⟨m.cls,l,m.ar,m.rules⟩:=⟨⟨h.mb.cls,h.mb.opt,h.mb.ch,h1,h2,h.mb.ar,h.mb.ku⟩,h.nG,h.opt⟩
def kc.ar{q:Nat}{m:aj}(h:kc q m){l:List Ct}(h1:l.length<9223372036854775808)(h2:∀ p∈l,p.aS.length<9223372036854775808):kc q ⟨m.cls,m.ae,l,m.rules⟩:=⟨⟨h.mb.cls,h.mb.opt,h.mb.ch,h.mb.ae,h.mb.ay,h1,h2⟩,h.nG,h.opt⟩
def kc.cls{q:Nat}{m:aj}(h:kc q m)(hq:q<=25){l:List (List br)}(h1:l.length<=q)(h2:∀ x∈l,x.length<=25/\∀ o∈x,o.ch.length<9223372036854775808):kc q ⟨l,m.ae,m.ar,m.rules⟩ :=
 ⟨⟨aaK,λx hx=>by have:=(h2 x hx).1;omega,λx hx=>(h2 x hx).2,h.mb.ae,h.mb.ay,h.mb.ar,h.mb.ku⟩,h1,λx hx=>(h2 x hx).1⟩
def VM.om{m:aj}(h:VM m):OM m:=⟨h.mb,by have:=h.cls;omega,λl hl=>by have:=h.opt l hl;omega⟩
def VM.omq{m:aj}(h:VM m){q:Nat}(hl:m.cls.length<=q):kc q m:=⟨h.mb,hl,λl hl=>by have:=h.opt l hl;omega⟩
structure Is(q:Nat)(m m':aj):Prop where
 om:kc (q+1) m'
 cl:m'.cls=m.cls\/∃ x,m'.cls=m.cls++[x]
def kc.UG{q:Nat}{m:aj}(h:kc q m)(hp:0<m.ae.length):(m.ae.getD 0 default).ay.length<9223372036854775808:=h.mb.ay _ (aC hp)
def adf(q:Nat)(afh:q<=24)(L:List Int)(k:Nat)(m:aj)(hm:VM m)(hq:m.cls.length<=q)(hk:k<=L.length)(hL:L.length<1000000):
    ez Tryz.prog 43 [.ptr 0 0 0,.agg (av m)] [jm L k] (λr os=>∃ m' k',Is q m m'/\k'<=L.length/\r=.agg (av m')/\os=[jm L k']):=by
  have h1:=hm.cls;have h2:=hm.opt;have h3:=hm.ae;have h4:=hm.ar;have dZ:kc (q+1) m:=hm.omq I6;have h8:=jq L k 8 (by unfold fx;omega) hk hL;have h8r:=lQ (L:=L) (k:=k) (n:=8) I6;have bK:=fY hk;have r4:List.range 4=[0,1,2,3]:=aab;unfold jm at *;generalize ek L k 8=j at *;generalize cO L k=k2 at *;refine ez.aF 126 1 [.cell 4 29] Tryz.func43 ?_;((refine Va X0 ?_)<;>try with_reducible intro K hK)
  (refine Xn [0] (h8) ?_;simp(disch:=omega)only[Ac,↓Pc,simprocAttr])
  ((try revert hK K);(repeat'(first|refine Va @r4 ?_|(refine Xi ?_ ?_<;>try intro ht)|fail))<;>try with_reducible intro K hK)
  ·
    have nX:=jq L k2 4 (by unfold fx;omega) bK hL;have Be:=lQ (L:=L) (k:=k2) (n:=4) I6;have kq:=fY bK;unfold jm at *;generalize ek L k2 4=i at *;generalize cO L k2=k3 at *;(refine Xn [0] (nX) ?_;simp(disch:=omega)only[Ac,↓Pc,simprocAttr,r4])
    have hi:i=0\/i=1\/i=2\/i=3:=I6;rcases hi with rfl|rfl|rfl|rfl
    · simp(disch:=omega)only[Ac,↓Pc,simprocAttr]
      ((try revert hK K);(refine Va X0 ?_))
      unfold fJ;simp only[dQ,dK];simp(disch:=omega)only[Ac,↓Pc,simprocAttr];refine⟨_,_,⟨⟨m.cls,m.ae,m.ar,-1⟩,k3,⟨dZ.rules _,by first|exact .inl rfl|exact .inr ⟨_,rfl⟩⟩,I6,rfl,rfl⟩,?_⟩;refine du [0] true aab ⟨⟨Jd,.inr rfl⟩,trivial⟩ aab aab (oL (aE.pure rfl) (?_) (?_) (.pure rfl));all_goals first|exact .pure rfl|exact .eq rfl|exact .fz rfl (by simp only[Bc,Rc])
    · simp(disch:=omega)only[Ac,↓Pc,simprocAttr]
      ((try revert hK K);(refine Va X0 ?_))
      unfold fJ;simp only[dQ,dK];simp(disch:=omega)only[Ac,↓Pc,simprocAttr];refine⟨_,_,⟨⟨m.cls,m.ae,m.ar,0⟩,k3,⟨dZ.rules _,by first|exact .inl rfl|exact .inr ⟨_,rfl⟩⟩,I6,rfl,rfl⟩,?_⟩;refine du [0] true aab ⟨⟨Jd,.inr rfl⟩,trivial⟩ aab aab (oL (aE.pure rfl) (?_) (?_) (.pure rfl));all_goals first|exact .pure rfl|exact .eq rfl|exact .fz rfl (by simp only[Bc,Rc])
    · simp(disch:=omega)only[Ac,↓Pc,simprocAttr]
      ((try revert hK K);(refine Va X0 ?_))
      unfold fJ;simp only[dQ,dK];simp(disch:=omega)only[Ac,↓Pc,simprocAttr];refine⟨_,_,⟨⟨m.cls,m.ae,m.ar,56⟩,k3,⟨dZ.rules _,by first|exact .inl rfl|exact .inr ⟨_,rfl⟩⟩,I6,rfl,rfl⟩,?_⟩;refine du [0] true aab ⟨⟨Jd,.inr rfl⟩,trivial⟩ aab aab (oL (aE.pure rfl) (?_) (?_) (.pure rfl));all_goals first|exact .pure rfl|exact .eq rfl|exact .fz rfl (by simp only[Bc,Rc])
    · simp(disch:=omega)only[Ac,↓Pc,simprocAttr]
      ((try revert hK K);(refine Va X0 ?_))
      unfold fJ;simp only[dQ,dK];simp(disch:=omega)only[Ac,↓Pc,simprocAttr];refine⟨_,_,⟨⟨m.cls,m.ae,m.ar,57⟩,k3,⟨dZ.rules _,by first|exact .inl rfl|exact .inr ⟨_,rfl⟩⟩,I6,rfl,rfl⟩,?_⟩;refine du [0] true aab ⟨⟨Jd,.inr rfl⟩,trivial⟩ aab aab (oL (aE.pure rfl) (?_) (?_) (.pure rfl));all_goals first|exact .pure rfl|exact .eq rfl|exact .fz rfl (by simp only[Bc,Rc])
  ·
    have e:=jM (enc:=bu) m.ae (m.ae.getD 0 default);simp only[bu]at e;rw[e];unfold fJ;simp only[dQ,dK];simp(disch:=omega)only[Ac,↓Pc,simprocAttr];refine⟨_,_,⟨⟨m.cls,m.ae++[m.ae.getD 0 default],m.ar,m.rules⟩,k2,⟨dZ.ae aaZ (λp hp=>(cj.1 hp).elim (dZ.mb.ay p) λh=>by rw[ew.1 h];exact dZ.UG I6),by first|exact .inl rfl|exact .inr ⟨_,rfl⟩⟩,I6,rfl,rfl⟩,?_⟩;refine du [0] true aab ⟨⟨Jd,.inr rfl⟩,trivial⟩ aab aab (oL (aE.pure rfl) (?_) (?_) (.pure rfl));all_goals first|exact .pure rfl|exact .eq rfl|exact .fz rfl (by simp only[Bc,Rc])
  ·
    unfold fJ;simp only[dQ,dK];simp(disch:=omega)only[Ac,↓Pc,simprocAttr];refine⟨_,_,⟨m,k2,⟨dZ,by first|exact .inl rfl|exact .inr ⟨_,rfl⟩⟩,I6,rfl,rfl⟩,?_⟩;refine du [0] true aab ⟨⟨Jd,.inr rfl⟩,trivial⟩ aab aab (oL (aE.pure rfl) (?_) (?_) (.pure rfl));all_goals first|exact .pure rfl|exact .eq rfl|exact .fz rfl (by simp only[Bc,Rc])
  ·
    have nX:=jq L k2 2 (by unfold fx;omega) bK hL;have Be:=lQ (L:=L) (k:=k2) (n:=2) I6;have kq:=fY bK;have afj:(m.ae.getD 0 default).ay.length<=576:=UF hm (aC I6);unfold jm at *;generalize ek L k2 2=x1 at *;generalize cO L k2=k3 at *;refine UC ?_;intro Qb xP;refine B2 ⟨ax [(3,.ptr 1 0 0),(4,.ptr 2 0 0)],[.var [.tree 1 (ints L),aa3 k3],.var [.tree 1 (rowsOf bD m.cls),.ref 3 4 0 m.ae.length,.ref 4 4 0 m.ar.length,aa3 m.rules],
      .var [.lit (.slice none 0 0),.lit (.slice none 0 0),.lit (.slice none 0 0),aa3 0],
      .arr 4 ((rowsOf bu m.ae).set 0 [aa3 (m.ae.getD 0 default).fst,aa3 (m.ae.getD 0 default).snd,aa3 (m.ae.getD 0 default).aV,.ref 6 1 0 (1+(m.ae.getD 0 default).ay.length)]),
      .arr 4 (rowsOf aK m.ar),.gone,.arr 1 ([aa3 (x1-1)]::ints (m.ae.getD 0 default).ay)]⟩ (λs h=>xP _ (hn _ h)) ?_ (λkey=>?_)
    rotate_left
    · refine Mm 0 [] [3] (.take 2 (.take 6 (.take 7 (.take 8 (.take 9 (.take 10 (.both 0 (.both 1 (.take 3 (.take 4 (.take 5 (.take 11 (.take 12 (.take 13 (.take 14 .nil))))))) 3 (.take 4 (.both 1 (.take 5 (.take 11 (.take 12 (.take 13 (.take 14 .nil))))) 5 (.both 1 (.take 11 (.take 12 (.take 13 (.take 14 .nil)))) 11 (.take 1 (.take 12 (.take 13 (.take 14 .nil)))))))) 3 (.take 4 (.both 0 (.both 1 (.take 5 (.take 11 (.take 12 (.take 13 (.take 14 .nil))))) 5 (.both 1 (.take 11 (.take 12 (.take 13 (.take 14 .nil)))) 11 (.take 1 (.take 12 (.take 13 (.take 14 .nil)))))) 5 (.both 0 (.both 1 (.take 11 (.take 12 (.take 13 (.take 14 .nil)))) 11 (.take 1 (.take 12 (.take 13 (.take 14 .nil))))) 11 (.take 0 (.take 1 (.take 12 (.take 13 (.take 14 .nil))))))))))))))) rfl aab (by decide +kernel) ?_
      simp(disch:=omega)only[Ac,↓Pc,simprocAttr,Hc,fK];repeat'(first|with_reducible refine gB ?_ ?_|omega|(refine z6 (nX) rfl rfl rfl rfl (by(repeat'(first|exact trivial|refine gB ?_ ?_))<;>first|exact .inl ⟨rfl,rfl⟩|exact .inr ⟨rfl,rfl⟩) ?_;simp(disch:=omega)only[Ac,↓Pc,simprocAttr,Hc,fK]))
      all_goals refine key _ ?_
      all_goals exact Xv X0
    refine Va X0 ?_;unfold fJ;simp only[dQ,dK];simp(disch:=omega)only[Ac,↓Pc,simprocAttr];refine⟨_,_,⟨⟨m.cls,m.ae.set 0 ⟨(m.ae.getD 0 default).fst,(m.ae.getD 0 default).snd,(m.ae.getD 0 default).aV,[x1-1]++(m.ae.getD 0 default).ay⟩,m.ar,m.rules⟩,k3,⟨dZ.ae aaZ (λp hp=>(pA hp).elim (dZ.mb.ay p) λh=>by rw[h];show([x1-1]++(m.ae.getD 0 default).ay).length<_;rw[List.length_append,List.length_singleton];omega),by first|exact .inl rfl|exact .inr ⟨_,rfl⟩⟩,I6,rfl,rfl⟩,?_⟩;refine du [0] true aab ⟨⟨Jd,.inr rfl⟩,trivial⟩ aab aab (oL (aE.pure rfl) (.snap _ _ rfl ?_) (?_) (.pure rfl))
    · refine b9.mk rfl (by simp only[Bc,Rc,bE]) (gG aab) (eF _) ?_
      rw[<- x8];exact adb (xd (jh _)) ⟨.lit _,.lit _,.lit _,b9.mk rfl (by simp[ints];omega) (gG aab) (pO _) (xd (qD ([x1-1]++(m.ae.getD 0 default).ay))),trivial⟩
    · first|exact .pure rfl|exact .eq rfl|exact .fz rfl (by simp only[Bc,Rc])
  ·
    unfold fJ;simp only[dQ,dK];simp(disch:=omega)only[Ac,↓Pc,simprocAttr];refine⟨_,_,⟨m,k2,⟨dZ,by first|exact .inl rfl|exact .inr ⟨_,rfl⟩⟩,I6,rfl,rfl⟩,?_⟩;refine du [0] true aab ⟨⟨Jd,.inr rfl⟩,trivial⟩ aab aab (oL (aE.pure rfl) (?_) (?_) (.pure rfl));all_goals first|exact .pure rfl|exact .eq rfl|exact .fz rfl (by simp only[Bc,Rc])
  ·
    have e:=x8 (enc:=bu) m.ae 0 ⟨(m.ae.getD 0 default).fst,(m.ae.getD 0 default).fst,(m.ae.getD 0 default).aV,(m.ae.getD 0 default).ay⟩;simp only[bu]at e;rw[e];unfold fJ;simp only[dQ,dK];simp(disch:=omega)only[Ac,↓Pc,simprocAttr];refine⟨_,_,⟨⟨m.cls,m.ae.set 0 ⟨(m.ae.getD 0 default).fst,(m.ae.getD 0 default).fst,(m.ae.getD 0 default).aV,(m.ae.getD 0 default).ay⟩,m.ar,m.rules⟩,k2,⟨dZ.ae aaZ (λp hp=>(pA hp).elim (dZ.mb.ay p) λh=>by rw[h];exact dZ.UG I6),by first|exact .inl rfl|exact .inr ⟨_,rfl⟩⟩,I6,rfl,rfl⟩,?_⟩;refine du [0] true aab ⟨⟨Jd,.inr rfl⟩,trivial⟩ aab aab (oL (aE.pure rfl) (?_) (?_) (.pure rfl));all_goals first|exact .pure rfl|exact .eq rfl|exact .fz rfl (by simp only[Bc,Rc])
  ·
    unfold fJ;simp only[dQ,dK];simp(disch:=omega)only[Ac,↓Pc,simprocAttr];refine⟨_,_,⟨m,k2,⟨dZ,by first|exact .inl rfl|exact .inr ⟨_,rfl⟩⟩,I6,rfl,rfl⟩,?_⟩;refine du [0] true aab ⟨⟨Jd,.inr rfl⟩,trivial⟩ aab aab (oL (aE.pure rfl) (?_) (?_) (.pure rfl));all_goals first|exact .pure rfl|exact .eq rfl|exact .fz rfl (by simp only[Bc,Rc])
  ·
    unfold fJ;simp only[dQ,dK];simp(disch:=omega)only[Ac,↓Pc,simprocAttr];refine⟨_,_,⟨⟨m.cls,m.ae,m.ar++[⟨0,[],-1,1⟩],m.rules⟩,k2,⟨dZ.ar aaZ (λp hp=>(cj.1 hp).elim (dZ.mb.ku p) λh=>by rw[ew.1 h];decide),by first|exact .inl rfl|exact .inr ⟨_,rfl⟩⟩,I6,rfl,rfl⟩,?_⟩;refine du [0] true aab ⟨⟨Jd,.inr rfl⟩,trivial⟩ aab aab (oL (aE.pure rfl) (?_) (.snap _ _ rfl ?_) (.pure rfl))
    · first|exact .pure rfl|exact .eq rfl|exact .fz rfl (by simp only[Bc,Rc])
    · refine b9.mk rfl (by simp only[Bc,Rc]) (gG aab) (eF _) ?_
      rw[<- jM];exact Bd (xd (jh _)) ⟨⟨.lit _,.nil 3,.lit _,.lit _,trivial⟩,trivial⟩
  ·
    have hnw:=jq L k2 3 (by unfold fx;omega) bK hL;have kq:=fY bK;have nX:=jq L (cO L k2) 4 (by unfold fx;omega) kq hL;have w9:=fY kq;have It:=jq L (cO L (cO L k2)) 2 (by unfold fx;omega) w9 hL;have UH:=fY w9;have hnz:=jq L (cO L (cO L (cO L k2))) 2 (by unfold fx;omega) UH hL;have hk6:=fY UH;unfold jm at *;generalize ek L k2 3=x1 at *;generalize cO L k2=k3 at *;generalize ek L k3 4=x2 at *;generalize cO L k3=k4 at *;generalize ek L k4 2=x3 at *;generalize cO L k4=k5 at *;generalize ek L k5 2=x4 at *;generalize cO L k5=k6 at *;refine UC ?_;intro Qb xP;refine B2 ⟨ax [(3,.ptr 1 0 0),(4,.ptr 2 0 0)],[.var [.tree 1 (ints L),aa3 k6],.var [.tree 1 (rowsOf bD m.cls),.ref 3 4 0 m.ae.length,.ref 7 4 0 (m.ar.length+1),aa3 m.rules],
      .var [.lit (.slice none 0 0),.lit (.slice none 0 0),.lit (.slice none 0 0),aa3 0],.arr 4 (rowsOf bu m.ae),.gone,.arr 3 [[aa3 x1,aa3 x2,aa3 x3]],
      .arr 4 [[aa3 0,.ref 5 3 0 1,aa3 0,aa3 x4]],.arr 4 (rowsOf aK m.ar++[[aa3 0,.ref 5 3 0 1,aa3 0,aa3 x4]])]⟩ (λs h=>xP _ (hn _ h)) ?_ (λkey=>?_)
    rotate_left
    · refine Mm 0 [] [3,5,7,11] (.take 0 (.take 1 (.take 2 (.take 3 (.take 4 (.take 5 (.take 6 (.take 7 (.take 8 (.take 10 (.both 9 (.take 11 (.take 12 (.take 13 (.take 14 (.take 15 (.take 16 .nil)))))) 11 (.take 9 (.take 12 (.take 13 (.take 14 (.take 15 (.take 16 .nil))))))))))))))))) rfl aab (by decide +kernel) ?_
      simp(disch:=omega)only[Ac,↓Pc,simprocAttr,Hc,fK];repeat'(first|with_reducible refine gB ?_ ?_|omega|(refine z6 (hnw) rfl rfl rfl rfl (by(repeat'(first|exact trivial|refine gB ?_ ?_))<;>first|exact .inl ⟨rfl,rfl⟩|exact .inr ⟨rfl,rfl⟩) ?_;simp(disch:=omega)only[Ac,↓Pc,simprocAttr,Hc,fK])|(refine z6 (nX) rfl rfl rfl rfl (by(repeat'(first|exact trivial|refine gB ?_ ?_))<;>first|exact .inl ⟨rfl,rfl⟩|exact .inr ⟨rfl,rfl⟩) ?_;simp(disch:=omega)only[Ac,↓Pc,simprocAttr,Hc,fK])|(refine z6 (It) rfl rfl rfl rfl (by(repeat'(first|exact trivial|refine gB ?_ ?_))<;>first|exact .inl ⟨rfl,rfl⟩|exact .inr ⟨rfl,rfl⟩) ?_;simp(disch:=omega)only[Ac,↓Pc,simprocAttr,Hc,fK])|(refine z6 (hnz) rfl rfl rfl rfl (by(repeat'(first|exact trivial|refine gB ?_ ?_))<;>first|exact .inl ⟨rfl,rfl⟩|exact .inr ⟨rfl,rfl⟩) ?_;simp(disch:=omega)only[Ac,↓Pc,simprocAttr,Hc,fK]))
      all_goals refine key _ ?_
      all_goals exact Xv X0
    refine Va X0 ?_;unfold fJ;simp only[dQ,dK];simp(disch:=omega)only[Ac,↓Pc,simprocAttr];refine⟨_,_,⟨⟨m.cls,m.ae,m.ar++[⟨0,[⟨x1,x2,x3⟩],0,x4⟩],m.rules⟩,k6,⟨dZ.ar aaZ (λp hp=>(cj.1 hp).elim (dZ.mb.ku p) λh=>by rw[ew.1 h];simp),by first|exact .inl rfl|exact .inr ⟨_,rfl⟩⟩,I6,rfl,rfl⟩,?_⟩;refine du [0] true aab ⟨⟨Jd,.inr rfl⟩,trivial⟩ aab aab (oL (aE.pure rfl) (?_) (.snap _ _ rfl ?_) (.pure rfl))
    · first|exact .pure rfl|exact .eq rfl|exact .fz rfl (by simp only[Bc,Rc])
    · refine b9.mk rfl (by simp only[Bc,Rc]) (gG aab) (eF _) ?_
      rw[<- jM];exact Bd (xd (jh _)) ⟨⟨.lit _,b9.mk rfl rfl (gG aab) (eF _) ⟨⟨.lit _,.lit _,.lit _,trivial⟩,trivial⟩,.lit _,.lit _,trivial⟩,trivial⟩
  ·
    have nX:=jq L k2 5 (by unfold fx;omega) bK hL;have kq:=fY bK;have It:=jq L (cO L k2) 2 (by unfold fx;omega) kq hL;have w9:=fY kq;unfold jm at *;generalize ek L k2 5=x1 at *;generalize cO L k2=k3 at *;generalize ek L k3 2=x2 at *;generalize cO L k3=k4 at *;(refine Xn [0] (nX) ?_;simp(disch:=omega)only[Ac,↓Pc,simprocAttr])
    (refine Xn [0] (It) ?_;simp(disch:=omega)only[Ac,↓Pc,simprocAttr])
    ((try revert hK K);(refine Va X0 ?_))
    unfold fJ;simp only[dQ,dK];simp(disch:=omega)only[Ac,↓Pc,simprocAttr];refine⟨_,_,⟨⟨m.cls++[[⟨0,0,0,0,0,[(x1,x2)]⟩]],m.ae,m.ar,m.rules⟩,k4,⟨dZ.cls I6 aaZ (λl hl=>(cj.1 hl).elim (λh=>⟨dZ.opt l h,dZ.mb.ch l h⟩) λh=>by rw[ew.1 h];exact⟨Jd,λo ho=>by rw[ew.1 ho];simp⟩),by first|exact .inl rfl|exact .inr ⟨_,rfl⟩⟩,I6,rfl,rfl⟩,?_⟩;refine du [0] true aab ⟨⟨Jd,.inr rfl⟩,trivial⟩ aab aab (oL (.snap _ _ rfl ?_) (?_) (?_) (.pure rfl))
    · refine b9.mk rfl (by simp only[Bc,Rc]) (gG aab) (eF _) ?_
      rw[<- jM];refine Bd (xd (jh _)) ⟨⟨?_,trivial⟩,trivial⟩;refine b9.mk rfl rfl (gG aab) (eF _) ⟨⟨.lit _,.lit _,.lit _,.lit _,.lit _,?_,trivial⟩,trivial⟩;exact b9.mk rfl rfl (gG aab) (eF _) ⟨⟨.lit _,.lit _,trivial⟩,trivial⟩
    · first|exact .pure rfl|exact .eq rfl|exact .fz rfl (by simp only[Bc,Rc])
    · first|exact .pure rfl|exact .eq rfl|exact .fz rfl (by simp only[Bc,Rc])
  ·
    have nX:=jq L k2 2 (by unfold fx;omega) bK hL;have Be:=lQ (L:=L) (k:=k2) (n:=2) I6;have kq:=fY bK;unfold jm at *;generalize ek L k2 2=x1 at *;generalize cO L k2=k3 at *;(refine Xn [0] (nX) ?_;simp(disch:=omega)only[Ac,↓Pc,simprocAttr])
    ((try revert hK K);(refine Va X0 ?_))
    unfold fJ;simp only[dQ,dK];simp(disch:=omega)only[Ac,↓Pc,simprocAttr];refine⟨_,_,⟨⟨m.cls++[b6 (24+x1).toNat ⟨0,0,0,0,0,[]⟩],m.ae,m.ar,m.rules⟩,k3,⟨dZ.cls I6 aaZ (λl hl=>(cj.1 hl).elim (λh=>⟨dZ.opt l h,dZ.mb.ch l h⟩) λh=>by rw[ew.1 h];exact⟨by rw[sZ];omega,λo ho=>by rw[List.eq_of_mem_replicate ho];decide⟩),by first|exact .inl rfl|exact .inr ⟨_,rfl⟩⟩,I6,rfl,rfl⟩,?_⟩;refine du [0] true aab ⟨⟨Jd,.inr rfl⟩,trivial⟩ aab aab (oL (.snap _ _ rfl ?_) (?_) (?_) (.pure rfl))
    · refine b9.mk rfl (by simp only[Bc,Rc]) (gG aab) (eF _) ?_
      rw[<- jM];refine Bd (xd (jh _)) ⟨⟨?_,trivial⟩,trivial⟩;refine b9.mk rfl (by rw[sZ]) (gG aab) (eF _) ?_;rw[show rowsOf cw (b6 (24+x1).toNat ⟨0,0,0,0,0,[]⟩)=b6 (24+x1).toNat (cw ⟨0,0,0,0,0,[]⟩) by rw[rowsOf,List.map_replicate]];refine UE ?_ _;exact⟨.lit _,.lit _,.lit _,.lit _,.lit _,.nil 2,trivial⟩
    · first|exact .pure rfl|exact .eq rfl|exact .fz rfl (by simp only[Bc,Rc])
    · first|exact .pure rfl|exact .eq rfl|exact .fz rfl (by simp only[Bc,Rc])
def vx(c:Int)(p:Pr):Bool:=decide (p.fst≠c/\p.snd≠c)
def nY(m:aj)(c:Int):aj:=⟨m.cls.set c.toNat [],m.ae.filter (vx c),[],m.rules⟩
def adi{m:aj}(hm:VM m){c:Int}(hc:0<=c):VM (nY m c):=by
 have cR:∀ l∈(nY m c).cls,l=[]\/l∈m.cls:=λl hl=>(pA hl).symm;have key:∀ (l:List Pr) (q:Option Pr),(∀ p∈l,vx c p=true)->dW m q l=true->dW (nY m c) q l=true:=by
  intro l
  induction l with
  |nil=>intro q _ _;cases q<;>rfl
  |cons p r ih =>
   intro q ho h;rw[dW.eq_def]at h ⊢;simp only[Bool.and_eq_true]at h ⊢;obtain⟨⟨a,b⟩,d⟩:=h;have hp:=ho p Jd;unfold vx at hp;rw[decide_eq_true_eq]at hp;refine⟨⟨?_,b⟩,ih _ (λx hx=>ho x (by simp[hx])) d⟩;have e:∀ x:Int,0<=x->x≠c->(nY m c).cls.getD x.toNat default=m.cls.getD x.toNat default:=λx h0 hx=>by
    unfold nY;dsimp only;rw[aA,List.getElem?_set_ne I6,<- aA]
   have q:=(lr a).2;unfold eS at *;rw[e _ q.1 hp.1,e _ I6 hp.2,show(nY m c).cls.length=m.cls.length by unfold nY;simp];exact a
 refine⟨by unfold nY;simpa using hm.cls,λl hl=>?_,iM (zh _ _) hm.ae,aQ _,hm.iS,λl hl o ho=>?_,key _ _ (λp hp=>(List.mem_filter.1 hp).2) (Ds _ hm.pr),λc hc=>by cases hc⟩
 ·rcases cR l hl with rfl|h
  ·exact aQ _
  ·exact hm.opt l h
 ·rcases cR l hl with rfl|h
  ·cases ho
  ·exact hm.kQ l h o ho
def UJ{R:AV->AV->Prop}:∀ {a c:List (List AV)} {x y:List AV} (j:Nat),jB R a c->dS R x y->jB R (a.set j x) (c.set j y)
 |[],[],_,_,_,_,_=>trivial
 |_::_,_::_,_,_,0,h,k=>⟨k,h.2⟩
 |_::_,_::_,_,_,j+1,h,k=>⟨h.1,UJ j h.2 k⟩
 |[],_::_,_,_,_,h,_=>h.elim
 |_::_,[],_,_,_,h,_=>h.elim
def adj{α:Type}{enc:α->List AV}{w:Nat}[Row enc w]{σ:St}{kp:Nat->Prop}(xs:List α):jB (b9 σ kp) (rowsOf enc xs) (rowsOf enc xs) :=
 jB.yn (f:=λ_=>[]) (g:=λ_=>[]) rfl λj c d hc hd=>by rw[hc]at hd;cases hd;exact C8 (λv hv=>jh _ _ (List.mem_of_getElem? hc) v hv) rfl
def adk{σ:St}{kp:Nat->Prop}{id n c:Nat}{cls:List (List br)}(ho:σ.aa[id]?=some (.arr 1 ((rowsOf bD cls).set c [.lit (.slice none 0 0)])))(hn:n=cls.length)(hk:¬ kp id):b9 σ kp (.tree 1 (rowsOf bD (cls.set c []))) (.ref id 1 0 n):=by
 have e:rowsOf bD (cls.set c [])=(rowsOf bD cls).set c (bD []):=by unfold rowsOf;rw[sW]
 refine b9.mk ho (by rw[hn,bE,bW]) hk (eF _) ?_;rw[e];exact UJ c (adj cls) ⟨.nil 6,trivial⟩
def Iu(m:aj):List AV:=[.tree 1 (rowsOf bD m.cls),.ref 0 4 0 m.ae.length,.tree 4 (rowsOf aK m.ar),aa3 m.rules]
def adl(m:aj)(hm:VM m)(c:Int)(hc:0<=c/\c<m.cls.length):an Tryz.prog 79 [.agg (av m),aa3 c] [] (.agg (Iu (nY m c))) [.arr 4 (rowsOf bu (nY m c).ae)]:=by
 have tE:=hm.cls;have ym:=hm.ae;have cD:(rowsOf bD m.cls).length=m.cls.length:=bW _;have adm:∀ ρ,bH ρ (.arr 1 ((rowsOf bD m.cls).set c.toNat [.lit (.slice none 0 0)]))=.arr 1 ((rowsOf bD m.cls).set c.toNat [.lit (.slice none 0 0)]):=λρ=>by
  have h:bH ρ (.arr 1 (rowsOf bD m.cls))=.arr 1 (rowsOf bD m.cls):=by rw[pU]
  simp only[bH,Ob.arr.injEq,true_and]at h ⊢;rw[sW,h];simp[aX]
 have ha1:∀ (xs:List Pr) (p:Pr),rowsOf bu xs++[[AV.lit (.int .i64 p.fst),AV.lit (.int .i64 p.snd),AV.lit (.int .i64 p.aV),AV.tree 1 (ints p.ay)]]=rowsOf bu (xs++[p]):=λxs p=>jM xs p;refine an.aF 53 0 [.cell 4 29] Tryz.func79 ?_;repeat'(first|((fail_if_success (first|refine eG 1 ?_|refine eH 1 ?_));refine Xr X0 ?_;intro K hK)|(refine hK _ ?_;clear hK K)|refine XY ?_|fail)
 refine ZS ?_;intro Q hn he;refine B2 ⟨ax [(1,aa3 c),(2,.ptr 0 0 0),(4,.ptr 1 0 0),(5,.ptr 3 0 0)],[.var (av m),.var [.lit (.slice none 0 0),.lit (.slice none 0 0),.lit (.slice none 0 0),aa3 0],.arr 1 (rowsOf bD m.cls),.var [.ref 2 1 0 m.cls.length,.lit (.slice none 0 0),.lit (.slice none 0 0),aa3 m.rules]]⟩ hn ?_ (λkey=>?_);rotate_left
 ·refine lg [] (.take 0 (.take 1 (.three 2 (.take 3 (.take 4 (.take 5 (.take 6 (.take 7 .nil))))) 3 (.three 2 (.take 4 (.take 5 (.take 6 (.take 7 .nil)))) 4 (.both 2 (.take 5 (.take 6 (.take 7 .nil))) 6 (.take 2 (.take 5 (.take 7 .nil)))) 6 (.both 2 (.take 4 (.take 5 (.take 7 .nil))) 4 (.take 2 (.take 5 (.take 7 .nil))))) 6 (.both 2 (.take 3 (.take 4 (.take 5 (.take 7 .nil)))) 3 (.both 2 (.take 4 (.take 5 (.take 7 .nil))) 4 (.take 2 (.take 5 (.take 7 .nil)))))))) rfl aab (by decide +kernel) ?_;simp(disch:=omega)only[Ac,↓Pc,simprocAttr,Pw];repeat'(first|with_reducible refine gB ?_ ?_|omega)
  all_goals
   refine key _ ?_;first|(exact Xv X0;done)|(exact Xs false [0,1,3,2] X0)
 (try clear hn;try clear he)
 refine Vb @cD ?_;refine bP (aB.kN 3 1 4 rfl rfl aab) ?_;refine aW (λz:Nat×List Pr=>(⟨ax [(1,aa3 c),(2,.ptr 0 0 0),(4,.ptr 1 0 0),(5,.ptr 3 0 0),(6,aa3 z.1)],[.var (av m),.var [.lit (.slice none 0 0),.lit (.slice none 0 0),.lit (.slice none 0 0),aa3 0],.arr 1 ((rowsOf bD m.cls).set c.toNat [.lit (.slice none 0 0)]),.var [.ref 2 1 0 m.cls.length,.ref 4 4 0 z.2.length,.lit (.slice none 0 0),aa3 m.rules],.arr 4 (rowsOf bu z.2)]⟩:St))
  (λz=>z.1<=m.ae.length/\z.2=(m.ae.take z.1).filter (vx c)) (λz=>m.ae.length-z.1) (0,[]) ⟨aQ _,rfl⟩ (Xv X0) ?_
 rintro⟨i,xs⟩⟨hi,ec⟩Ql aq au;dsimp only at hi ec ⊢;by_cases hi':i<m.ae.length
 ·have ey:=iB hi';have pj:xs.length<=4000:=by
   rw[ec];exact iM (zh _ _) (by rw[List.length_take];omega)
  generalize cG:m.ae.getD i default=p at *;have hf:(m.ae.take (i+1)).filter (vx c)=xs++if vx c p=true then [p] else []:=by
   rw[ey,List.filter_append,<- ec];congr 1;rw[List.filter_cons,List.filter_nil]
  by_cases UK:p.fst≠c/\p.snd≠c
  ·rw[if_pos (by unfold vx;exact decide_eq_true UK)]at hf;((repeat'(first|refine Va (X2 @cG @bu.eq_1) ?_|(refine V2 (X2 @cG @bu.eq_1) ?_ ?_<;>try with_reducible intro hb)|(refine Xi ?_ ?_<;>try intro ht)|exact Xx|fail)))
   all_goals exact aq _ (i+1,xs++[p]) ⟨aaK,hf.symm⟩ aaK (Xs false [0,1,2,3,6] (X2 @adm @ha1))
  ·rw[if_neg (by unfold vx;simpa using UK),List.append_nil]at hf;((repeat'(first|refine Va (X2 @cG @bu.eq_1) ?_|(refine V2 (X2 @cG @bu.eq_1) ?_ ?_<;>try with_reducible intro hb)|(refine Xi ?_ ?_<;>try intro ht)|exact Xx|fail)))
   all_goals exact aq _ (i+1,xs) ⟨aaK,hf.symm⟩ aaK (Xv X0)
 ·rw[List.take_of_length_le I6]at ec;((repeat'(first|refine Va X0 ?_|(refine V2 X0 ?_ ?_<;>try with_reducible intro hb)|(refine Xi ?_ ?_<;>try intro ht)|exact Xx|fail)))
  refine au _ _ rfl ?_;clear aq au Ql;repeat(refine Xu ?_)
  refine Vb X0 ?_;simp(disch:=omega)only[Ac,↓Pc,simprocAttr,rowOf];have kC:(nY m c).ae=xs:=by rw[ec];rfl
  rw[kC];refine du [4] true aab ⟨⟨Jd,.inr (by rw[pU];rfl)⟩,trivial⟩ aab aab ?_;refine(aE.agg _ _ rfl (dS.spec (R:=aE _ _ _ _) (cs:=Iu (nY m c)) (ds:=[.ref 2 1 0 m.cls.length,.ref 4 4 0 xs.length,.lit (.slice none 0 0),aa3 m.rules]) ⟨.snap _ _ rfl (adk rfl rfl (gG aab)),.eq (by rw[kC];rfl),.snap _ _ rfl (.nil 4),.pure rfl,trivial⟩).2)
def mX:List (List br)->Int
 |[]=>1
 |l::r=>l.length*mX r
def Bf:∀ (cls:List (List br)),(∀ l∈cls,1<=l.length)->1<=mX cls
 |[],_=>Int.le_refl _
 |l::r,h=>by
  have h1:=h l Jd;have h2:=Bf r λx hx=>h x (by simp[hx]);rw[mX];have:(1:Int)*1<=l.length*mX r:=qy I6 h2 I6 I6;omega
def ado(m:aj)(hm:VM m)(mV:∀ l∈m.cls,1<=l.length)(hb:mX m.cls<=9999):an Tryz.prog 78 [.agg (av m)] [] (aa3 (mX m.cls)) []:=by
 have tE:=hm.cls;have afl:=Bf m.cls mV;generalize ao:mX m.cls=res at *;refine an.aF 26 0 [.tmp 2] Tryz.func78 ?_;refine Vb X0 ?_;refine aW (λz:Nat×Int=>(⟨ax [(1,.ptr 0 0 0),(3,aa3 z.2),(4,aa3 z.1)],[.var (av m)]⟩:St)) (λz=>z.1<=m.cls.length/\1<=z.2/\z.2*mX (m.cls.drop z.1)=res) (λz=>m.cls.length-z.1) (0,1) ⟨aQ _,aab,by rw[List.drop_zero,ao];exact Int.one_mul _⟩ (Xv X0) ?_;rintro⟨i,n⟩⟨hi,fV,hr⟩Ql aq au;dsimp only at hi fV hr ⊢;have G0:=Bf (m.cls.drop i) λx hx=>mV x (rO hx);have afm:n<=res:=by
  rw[<- hr];have:n*1<=n*mX (m.cls.drop i):=Int.mul_le_mul_of_nonneg_left G0 I6;omega
 by_cases hi':i<m.cls.length
 ·have vf:=hm.opt _ (aC (l:=m.cls) (i:=i) (d:=default) hi');have yD:=mV _ (aC (l:=m.cls) (i:=i) (d:=default) hi');rw[cS m.cls i default hi',mX,<- Int.mul_assoc]at hr;have Re:=Bf (m.cls.drop (i+1)) λx hx=>mV x (rO hx);generalize bb:m.cls.getD i default=c at *;have vc:n*1<=n*(c.length:Int):=Int.mul_le_mul_of_nonneg_left I6 I6;have vd:n*(c.length:Int)<=10000*24:=qy I6 I6 I6 I6;generalize Dp:n*(c.length:Int)=nc at *;((repeat'(first|refine Va (X3 @bb @bD.eq_1 @Dp) ?_|(refine V2 (X3 @bb @bD.eq_1 @Dp) ?_ ?_<;>try with_reducible intro hb)|(refine Xi ?_ ?_<;>try intro ht)|exact Xx|fail)))
  exact aq _ (i+1,nc) ⟨aaK,aaK,hr⟩ aaK (Xv X0)
 ·rw[List.drop_eq_nil_of_le I6,mX,Int.mul_one]at hr;((repeat'(first|refine Va X0 ?_|(refine V2 X0 ?_ ?_<;>try with_reducible intro hb)|(refine Xi ?_ ?_<;>try intro ht)|exact Xx|fail)))
  all_goals
   refine au _ _ rfl ?_;clear aq au Ql;repeat(refine Xu ?_)
   refine Vb X0 ?_;exact aO rfl (by rw[<- hr,Int.min_eq_left I6])
def UL{w:Nat}:∀ (cls:List (List br)) (k:Nat),1<=w->cls.length<=k->(∀ l∈cls,1<=l.length/\l.length<=w)->mX cls<=(w:Int)^k
 |[],k,hw,_,_=>by
  rw[mX];have:(0:Int)<(w:Int)^k:=Int.pow_pos I6;omega
 |l::r,0,_,hk,_=>by simp at hk
 |l::r,k+1,hw,hk,h=>by
  have h1:=h l Jd;have h2:=UL r k hw (by simpa using hk) λx hx=>h x (by simp[hx]);have h3:=Bf r λx hx=>(h x (by simp[hx])).1;rw[mX,Int.pow_succ,Int.mul_comm ((w:Int)^k)];exact qy I6 h2 I6 I6
structure FW(m:aj):Prop where
 vm:VM m
 nG:m.cls.length<=4
 opt:∀ l∈m.cls,l.length<=4
def FW.cap{m:aj}(h:FW m):jH m m.cls.length<=8000 :=
 iM (TR h.opt _ (aG _)) (iM (Nat.pow_le_pow_right aab h.nG) aab)
def MM.fw{m:aj}{a b:Nat}(h:MM m a b)(ha:a<=4)(hb:b<=4):FW m:=⟨h.vm,iM h.nG ha,λl hl=>iM (h.some l hl).2 hb⟩
def FW.adp{m:aj}(h:FW m){c:Int}(hc:0<=c):FW (nY m c):=⟨adi h.vm hc,by unfold nY;simpa using h.nG,λl hl=>by
 rcases pA hl with h1|h1
 ·exact h.opt l h1
 ·rw[h1];exact aQ _⟩
def adq(L:List Int)(k:Nat)(hk:k<=L.length)(hL:L.length<1000000):
  ez Tryz.prog 44 [.ptr 0 0 0] [jm L k] (λr os=>∃ m k',FW m/\k'<=L.length/\r=.agg (tX m)/\os=[jm L k',.arr 4 (rowsOf bu m.ae)]):=by
 have uK:=SY L k 4 4 hk hL aab aab aab;unfold jm at *;refine ez.aF 117 1 [.cell 2 29] Tryz.func44 ?_;repeat'(first|((fail_if_success (first|refine eG 1 ?_|refine eH 1 ?_));refine Xr X0 ?_;intro K hK)|(refine hK _ ?_;clear hK K)|refine Xy ?_|fail)
 refine qW 1 aab _ rfl ?_;intro K hK;simp(disch:=omega)only[Ac,↓Pc,simprocAttr,List.take,List.drop];refine⟨rfl,(show ma Tryz.prog 26 [.ptr 0 0 0,aa3 (4:Nat),aa3 (4:Nat)] (some 11) _ _ from ?_)⟩;refine zY [0] uK aab ⟨rfl,trivial⟩ ⟨.eq rfl,.pure rfl,.pure rfl,trivial⟩ ?_;rintro r os⟨m,k1,hm,fZ,rfl,rfl⟩;clear uK hk;have Iv:=hm.fw (aG 4) (aG 4);have mL:mX m.cls<=256:=Int.le_trans (UL (w:=4) m.cls 4 aab hm.nG hm.some) aab;have jX:=ado m hm.vm (λl hl=>(hm.some l hl).1) I6;generalize mX m.cls=pn at *;unfold tX;simp(disch:=omega)only[Ac,↓Pc,simprocAttr,pU];refine hK _ ?_;clear hK K;repeat(refine Xu ?_)
 have jD:=yq L k1 12 (by unfold fx;omega) I6 fZ hL;have bK:=fY fZ;refine Va X0 ?_;refine aW (λ_:Unit=>(⟨ax [(0,.ptr 0 0 0),(2,.ptr 1 0 0),(3,.ptr 3 0 0)],[.var [.tree 1 (ints L),aa3 k1],.var [.lit (.slice none 0 0),.lit (.slice none 0 0),.lit (.slice none 0 0),aa3 0],.arr 4 (rowsOf bu m.ae),.var [.tree 1 (rowsOf bD m.cls),.ref 2 4 0 m.ae.length,.tree 4 (rowsOf aK m.ar),aa3 m.rules]]⟩:St)) (λ_=>True) (λ_=>0) () trivial (Xv X0) ?_;rintro _ _ Ql aq au;((refine Va X0 ?_)<;>try with_reducible intro K hK)
 refine n6 [] jX aab trivial ⟨(aE.agg _ _ rfl (dS.spec (R:=aE _ _ _ _) (cs:=av m) (ds:=[.tree 1 (rowsOf bD m.cls),.ref 2 4 0 m.ae.length,.tree 4 (rowsOf aK m.ar),aa3 m.rules]) ⟨.pure rfl,aE.bS rfl (eF _) (by rw[bW]) Jd (jh _),.pure rfl,.pure rfl,trivial⟩).2),trivial⟩ rfl Jd ?_;simp(disch:=omega)only[Ac,↓Pc,simprocAttr];((try revert hK K);(repeat'(first|refine Va X0 ?_|(refine Xi ?_ ?_<;>try intro ht)|exact Xx|fail)))
 refine au _ _ rfl ?_;clear aq au Ql;repeat(refine Xu ?_)
 clear jX mL;have yY:∀ (env:Nat->AV) (m:aj) (k':Nat) (q:Nat) (os:List Ob),FW m->k'<=L.length->env 2=.ptr 1 0 0->os[0]?=some (.var [.tree 1 (ints L),aa3 k'])->os[1]?=some (.var [.tree 1 (rowsOf bD m.cls),.ref q 4 0 m.ae.length,.tree 4 (rowsOf aK m.ar),aa3 m.rules])->os[q]?=some (.arr 4 (rowsOf bu m.ae))->q≠0 ->
   fJ Tryz.prog 1 [.cell 2 29] (λr os=>∃ m k',FW m/\k'<=L.length/\r=.agg (tX m)/\os=[.var [.tree 1 (ints L),aa3 k'],.arr 4 (rowsOf bu m.ae)]) .ret ⟨env,os⟩:=by
  intro env m k' q os dZ aJ sg h0 h1 hq Iw;have hl0:=(aM.1 h0).1;have hlq:=(aM.1 hq).1;unfold fJ;simp only[dQ,dK,sg];simp(disch:=omega)only[Ac,↓Pc,simprocAttr,sg,h1];refine⟨_,_,⟨m,k',dZ,aJ,rfl,rfl⟩,?_⟩;refine du [0,q] true (by simp[Ne.symm Iw]) ⟨⟨hl0,.inr (by rw[h0];rfl)⟩,⟨hlq,.inr (by rw[hq,pU])⟩,trivial⟩ Jd (λi hi=>by
   obtain rfl:i=0:=I6;rfl) ?_
  refine(aE.agg _ _ rfl (dS.spec (R:=aE _ _ _ _) (cs:=tX m) (ds:=[.tree 1 (rowsOf bD m.cls),.ref q 4 0 m.ae.length,.tree 4 (rowsOf aK m.ar),aa3 m.rules]) ⟨.pure rfl,.eq rfl,.pure rfl,.pure rfl,trivial⟩).2)
 ((repeat'(first|refine Va X0 ?_|(refine V2 X0 ?_ ?_<;>try with_reducible intro hb)|(refine Xi ?_ ?_<;>try intro ht)|exact Xx|fail))<;>try with_reducible intro K hK)
 rotate_left
 ·exact yY _ m k1 2 _ Iv fZ (by simp only[Kc,simprocAttr]) rfl rfl rfl aab
 have nB:0<m.cls.length:=I6;have nX:=jq L (cO L k1) (m.cls.length:Int) (by unfold fx;have:=hm.vm.cls;omega) bK hL;have Be:=lQ (L:=L) (k:=cO L k1) (n:=(m.cls.length:Int)) I6;have UM:=adl m hm.vm (ek L (cO L k1) (m.cls.length:Int)) Be;have hwf:=Iv.adp Be.1;have kq:=fY bK;unfold jm at *;generalize wO L k1 12=bo at *;generalize ek L (cO L k1) (m.cls.length:Int)=v at *;generalize cO L (cO L k1)=k3 at *;generalize cO L k1=k2 at *;generalize nY m v=mw at *;(refine Xn [0] (jD) ?_;simp(disch:=omega)only[Ac,↓Pc,simprocAttr])
 ((try revert hK K);(repeat'(first|refine Va X0 ?_|(refine Xi ?_ ?_<;>try intro ht)|fail))<;>try with_reducible intro K hK)
 ·(refine Xn [0] (nX) ?_;simp(disch:=omega)only[Ac,↓Pc,simprocAttr])
  repeat'(first|(refine hK _ ?_;clear hK K)|refine Xy ?_|fail)
  refine bP (aB.sk 2 3 1 4 aa2 aa2 (by rw[bW];rfl) (eF _) (jh _)) ?_;unfold Iu at UM;((refine Va X0 ?_)<;>try with_reducible intro K hK)
  (refine Xn [] (UM) ?_;simp(disch:=omega)only[Ac,↓Pc,simprocAttr,pU])
  ((try revert hK K);(refine Va X0 ?_))
  exact yY _ mw k3 4 _ hwf kq (by simp only[Kc,simprocAttr]) rfl rfl rfl aab
 ·exact yY _ m k2 2 _ Iv bK (by simp only[Kc,simprocAttr]) rfl rfl rfl aab
end T

