import Derived.Test.YtfoopmojjjpapaaGreatX37
import Derived.Test.YtfoopmojjjpapaaGreatX32
set_option linter.all false
set_option maxHeartbeats 0
set_option maxRecDepth 20000
open List renaming replicate→aK,mem_singleton→cV,eq_of_mem_replicate→Cb,mem_append→cG,mem_or_eq_of_mem_set→su,length_append→bO,length_singleton→Ca,length_set→bJ,length_replicate→lE,getD_eq_getElem?_getD→az,length_filter_le→Qj,map_set→sr,append_nil→nL,append_assoc→bE,cons_append→dx,nil_append→eC,replicate_zero→D3,length_cons→dq,mem_cons_of_mem→dR
open Int renaming mul_le_mul→p8,toNat_natCast→c7
open Nat renaming le_trans→tL,zero_le→aS,le_refl→aY,sub_self→jz,mul_le_mul→wC
open And renaming intro→c6
open Bool renaming and_eq_true→bb
open Go Go.Am Go.Proofs
namespace T
def unB{P:Program}{N n0:Nat}{σ:St}{Q:Exit->St->Prop}{x:Code}{id:Nat}(h:∀ Q':Exit->St->Prop,(∀ s,Q .normal s->Q' .normal s)->W P N n0 x Q' σ):W P N n0 x (Bq id Q) σ:=h _ .n
def ac8{σ:St}{kp:Nat->Prop}:∀ {l:List AV},(∀ v∈l,(∃ x,v=AV.lit x)\/∃ s r,v=AV.tree s r)->jE (cQ σ kp) l l
 |[],_=>trivial
 |v::l,h=>⟨by rcases h v GM with⟨x,rfl⟩|⟨s,r,rfl⟩;exact .lit _;exact .tree _ _,ac8 λx hx=>h x (by simp[hx])⟩
def BZ{σ:St}{kp:Nat->Prop}:∀ {rows:List (List AV)},(∀ row∈rows,∀ v∈row,(∃ x,v=AV.lit x)\/∃ s r,v=AV.tree s r)->lH (cQ σ kp) rows rows
 |[],_=>trivial
 |r::rows,h=>⟨ac8 (h r GM),BZ λx hx=>h x (by simp[hx])⟩
def Gk{R:AV->AV->Prop}:∀ {a c:List (List AV)} {b d:List (List AV)},lH R a c->lH R b d->lH R (a++b) (c++d)
 |[],[],_,_,_,k=>k
 |_::_,_::_,_,_,h,k=>⟨h.1,Gk h.2 k⟩
 |[],_::_,_,_,h,_=>h.elim
 |_::_,[],_,_,h,_=>h.elim
def amJ{R:AV->AV->Prop}:∀ {a c:List (List AV)} {x y:List AV},lH R a c->jE R x y->lH R (a.set 0 x) (c.set 0 y)
 |[],[],_,_,_,_=>trivial
 |_::_,_::_,_,_,h,k=>⟨k,h.2⟩
 |[],_::_,_,_,h,_=>h.elim
 |_::_,[],_,_,h,_=>h.elim
def ac9{R:AV->AV->Prop}{x y:List AV}(h:jE R x y):∀ n,lH R (aK n x) (aK n y)
 |0=>trivial
 |n+1=>⟨h,ac9 h n⟩
def amK{m:ah}(h:VM m){p:Pr}(hp:p∈m.ae):p.ay.length<=576:=by
 obtain⟨_,h1,h2,h3,h4⟩:=qA (j6 h.pr p hp);have a:=h.opt _ (aF (l:=m.cls) (i:=p.fst.toNat) (d:=default) GK);have b:=h.opt _ (aF (l:=m.cls) (i:=p.snd.toNat) (d:=default) GK);have:((m.cls.getD p.fst.toNat default).length:Int)*(m.cls.getD p.snd.toNat default).length<=24*24:=p8 GK GK GK GK;omega
def rY{σ:St}{kp:Nat->Prop}{ρ:Nat->Nat}{snap:Bool}{a b c d a' b' c' d':AV}(h1:aZ σ kp ρ snap a a')(h2:aZ σ kp ρ snap b b')(h3:aZ σ kp ρ snap c c')(h4:aZ σ kp ρ snap d d'):aZ σ kp ρ snap (.agg [a,b,c,d]) (.agg [a',b',c',d']) :=
 .agg _ _ rfl (jE.spec (R:=aZ σ kp ρ snap) (cs:=[a,b,c,d]) (ds:=[a',b',c',d']) ⟨h1,h2,h3,h4,trivial⟩).2
structure kW(q:Nat)(m:ah):Prop where
 mb:MB m
 rF:m.cls.length<=q
 opt:∀ l∈m.cls,l.length<=25
abbrev OM(m:ah):Prop:=kW 25 m
def kW.mono{q r:Nat}{m:ah}(h:kW q m)(hr:q<=r):kW r m:=⟨h.mb,tL h.rF hr,h.opt⟩
def kW.rules{q:Nat}{m:ah}(h:kW q m)(r:Int):kW q ⟨m.cls,m.ae,m.aD,r⟩:=⟨⟨h.mb.cls,h.mb.opt,h.mb.ch,h.mb.ae,h.mb.ay,h.mb.aD,h.mb.mo⟩,h.rF,h.opt⟩
def kW.ae{q:Nat}{m:ah}(h:kW q m){l:List Pr}(h1:l.length<9223372036854775808)(h2:∀ p∈l,p.ay.length<9223372036854775808):kW q ⟨m.cls,l,m.aD,m.rules⟩:=⟨⟨h.mb.cls,h.mb.opt,h.mb.ch,h1,h2,h.mb.aD,h.mb.mo⟩,h.rF,h.opt⟩
def kW.aD{q:Nat}{m:ah}(h:kW q m){l:List Ct}(h1:l.length<9223372036854775808)(h2:∀ p∈l,p.bh.length<9223372036854775808):kW q ⟨m.cls,m.ae,l,m.rules⟩:=⟨⟨h.mb.cls,h.mb.opt,h.mb.ch,h.mb.ae,h.mb.ay,h1,h2⟩,h.rF,h.opt⟩
def kW.cls{q:Nat}{m:ah}(h:kW q m)(hq:q<=25){l:List (List cz)}(h1:l.length<=q)(h2:∀ x∈l,x.length<=25/\∀ o∈x,o.ch.length<9223372036854775808):kW q ⟨l,m.ae,m.aD,m.rules⟩ :=
 ⟨⟨PW,λx hx=>by have:=(h2 x hx).1;omega,λx hx=>(h2 x hx).2,h.mb.ae,h.mb.ay,h.mb.aD,h.mb.mo⟩,h1,λx hx=>(h2 x hx).1⟩
def VM.om{m:ah}(h:VM m):OM m:=⟨h.mb,by have:=h.cls;omega,λl hl=>by have:=h.opt l hl;omega⟩
def VM.Md{m:ah}(h:VM m){q:Nat}(hl:m.cls.length<=q):kW q m:=⟨h.mb,hl,λl hl=>by have:=h.opt l hl;omega⟩
def rZ(c:List (Int×Int)):∀ o∈[(⟨0,0,0,0,0,c⟩:cz)],o.wk<=3:=λo ho=>by
 rw[cV]at ho;subst ho;show(0:Int)<=3;decide
def r8(n:Nat):∀ o∈aK n (⟨0,0,0,0,0,[]⟩:cz),o.wk<=3:=λo ho=>by
 rw[Cb ho];show(0:Int)<=3;decide
structure OMx(q:Nat)(m m':ah):Prop where
 om:kW (q+1) m'
 cl:m'.cls=m.cls\/∃ x,(∀ o∈x,o.wk<=3)/\m'.cls=m.cls++[x]
def kW.pin{q:Nat}{m:ah}(h:kW q m)(hp:0<m.ae.length):(m.ae.getD 0 default).ay.length<9223372036854775808:=h.mb.ay _ (aF hp)
def agM(q:Nat)(apH:q<=24)(L:List Int)(k:Nat)(m:ah)(hm:VM m)(hq:m.cls.length<=q)(hk:k<=L.length)(hL:L.length<1000000):
    cX Tryz.prog 36 [.ptr 0 0 0,.agg (an m)] [iU L k] (λr os=>∃ m' k',OMx q m m'/\k'<=L.length/\r=.agg (an m')/\os=[iU L k']):=by
  have h1:=hm.cls;have h2:=hm.opt;have h3:=hm.ae;have h4:=hm.aD;have gf:kW (q+1) m:=hm.Md GK;have h8:=gY L k 8 (by unfold cR;omega) hk hL;have h8r:=j4 (L:=L) (k:=k) (n:=8) GK;have bz:=fH hk;have r4:List.range 4=[0,1,2,3]:=GS;unfold iU at *;generalize ef L k 8=j at *;generalize cK L k=k2 at *;refine cX.aM 126 1 [.cell 4 32] Tryz.func36 ?_;((refine Va X0 ?_)<;>try with_reducible intro K hK)
  (refine Xn [0] (h8) ?_;simp(disch:=omega)only[Ac,↓Pc,simprocAttr])
  ((try revert hK K);(repeat'(first|refine Va @r4 ?_|(refine Xi ?_ ?_<;>try intro ht)|fail))<;>try with_reducible intro K hK)
  ·
    have nx:=gY L k2 4 (by unfold cR;omega) bz hL;have CS:=j4 (L:=L) (k:=k2) (n:=4) GK;have gx:=fH bz;unfold iU at *;generalize ef L k2 4=i at *;generalize cK L k2=k3 at *;(refine Xn [0] (nx) ?_;simp(disch:=omega)only[Ac,↓Pc,simprocAttr,r4])
    have hi:i=0\/i=1\/i=2\/i=3:=GK;rcases hi with rfl|rfl|rfl|rfl
    · simp(disch:=omega)only[Ac,↓Pc,simprocAttr]
      ((try revert hK K);(refine Va X0 ?_))
      unfold eU;simp only[dI,dE];simp(disch:=omega)only[Ac,↓Pc,simprocAttr];refine⟨_,_,⟨⟨m.cls,m.ae,m.aD,-1⟩,k3,⟨gf.rules _,by first|exact .inl rfl|exact .inr ⟨_,rZ _,rfl⟩|exact .inr ⟨_,r8 _,rfl⟩⟩,GK,rfl,rfl⟩,?_⟩;refine iD [0] true GS ⟨⟨GM,.inr rfl⟩,trivial⟩ GS GS (rY (aZ.pure rfl) (?_) (?_) (.pure rfl));all_goals first|exact .pure rfl|exact .eq rfl|exact .fz rfl (by simp only[Bc,Rc])
    · simp(disch:=omega)only[Ac,↓Pc,simprocAttr]
      ((try revert hK K);(refine Va X0 ?_))
      unfold eU;simp only[dI,dE];simp(disch:=omega)only[Ac,↓Pc,simprocAttr];refine⟨_,_,⟨⟨m.cls,m.ae,m.aD,0⟩,k3,⟨gf.rules _,by first|exact .inl rfl|exact .inr ⟨_,rZ _,rfl⟩|exact .inr ⟨_,r8 _,rfl⟩⟩,GK,rfl,rfl⟩,?_⟩;refine iD [0] true GS ⟨⟨GM,.inr rfl⟩,trivial⟩ GS GS (rY (aZ.pure rfl) (?_) (?_) (.pure rfl));all_goals first|exact .pure rfl|exact .eq rfl|exact .fz rfl (by simp only[Bc,Rc])
    · simp(disch:=omega)only[Ac,↓Pc,simprocAttr]
      ((try revert hK K);(refine Va X0 ?_))
      unfold eU;simp only[dI,dE];simp(disch:=omega)only[Ac,↓Pc,simprocAttr];refine⟨_,_,⟨⟨m.cls,m.ae,m.aD,56⟩,k3,⟨gf.rules _,by first|exact .inl rfl|exact .inr ⟨_,rZ _,rfl⟩|exact .inr ⟨_,r8 _,rfl⟩⟩,GK,rfl,rfl⟩,?_⟩;refine iD [0] true GS ⟨⟨GM,.inr rfl⟩,trivial⟩ GS GS (rY (aZ.pure rfl) (?_) (?_) (.pure rfl));all_goals first|exact .pure rfl|exact .eq rfl|exact .fz rfl (by simp only[Bc,Rc])
    · simp(disch:=omega)only[Ac,↓Pc,simprocAttr]
      ((try revert hK K);(refine Va X0 ?_))
      unfold eU;simp only[dI,dE];simp(disch:=omega)only[Ac,↓Pc,simprocAttr];refine⟨_,_,⟨⟨m.cls,m.ae,m.aD,57⟩,k3,⟨gf.rules _,by first|exact .inl rfl|exact .inr ⟨_,rZ _,rfl⟩|exact .inr ⟨_,r8 _,rfl⟩⟩,GK,rfl,rfl⟩,?_⟩;refine iD [0] true GS ⟨⟨GM,.inr rfl⟩,trivial⟩ GS GS (rY (aZ.pure rfl) (?_) (?_) (.pure rfl));all_goals first|exact .pure rfl|exact .eq rfl|exact .fz rfl (by simp only[Bc,Rc])
  ·
    have e:=pE (enc:=aI) m.ae (m.ae.getD 0 default);simp only[aI]at e;rw[e];unfold eU;simp only[dI,dE];simp(disch:=omega)only[Ac,↓Pc,simprocAttr];refine⟨_,_,⟨⟨m.cls,m.ae++[m.ae.getD 0 default],m.aD,m.rules⟩,k2,⟨gf.ae P2 (λp hp=>(cG.1 hp).elim (gf.mb.ay p) λh=>by rw[cV.1 h];exact gf.pin GK),by first|exact .inl rfl|exact .inr ⟨_,rZ _,rfl⟩|exact .inr ⟨_,r8 _,rfl⟩⟩,GK,rfl,rfl⟩,?_⟩;refine iD [0] true GS ⟨⟨GM,.inr rfl⟩,trivial⟩ GS GS (rY (aZ.pure rfl) (?_) (?_) (.pure rfl));all_goals first|exact .pure rfl|exact .eq rfl|exact .fz rfl (by simp only[Bc,Rc])
  ·
    unfold eU;simp only[dI,dE];simp(disch:=omega)only[Ac,↓Pc,simprocAttr];refine⟨_,_,⟨m,k2,⟨gf,by first|exact .inl rfl|exact .inr ⟨_,rZ _,rfl⟩|exact .inr ⟨_,r8 _,rfl⟩⟩,GK,rfl,rfl⟩,?_⟩;refine iD [0] true GS ⟨⟨GM,.inr rfl⟩,trivial⟩ GS GS (rY (aZ.pure rfl) (?_) (?_) (.pure rfl));all_goals first|exact .pure rfl|exact .eq rfl|exact .fz rfl (by simp only[Bc,Rc])
  ·
    have nx:=gY L k2 2 (by unfold cR;omega) bz hL;have CS:=j4 (L:=L) (k:=k2) (n:=2) GK;have gx:=fH bz;have apJ:(m.ae.getD 0 default).ay.length<=576:=amK hm (aF GK);unfold iU at *;generalize ef L k2 2=x1 at *;generalize cK L k2=k3 at *;refine unB ?_;intro Qb dN;refine ph ⟨ao [(3,.ptr 1 0 0),(4,.ptr 2 0 0)],[.var [.tree 1 (ints L),Qf k3],.var [.tree 1 (rowsOf aW m.cls),.ref 3 4 0 m.ae.length,.ref 4 4 0 m.aD.length,Qf m.rules],
      .var [.lit (.slice none 0 0),.lit (.slice none 0 0),.lit (.slice none 0 0),Qf 0],
      .arr 4 ((rowsOf aI m.ae).set 0 [Qf (m.ae.getD 0 default).fst,Qf (m.ae.getD 0 default).snd,Qf (m.ae.getD 0 default).ee,.ref 6 1 0 (1+(m.ae.getD 0 default).ay.length)]),
      .arr 4 (rowsOf dv m.aD),.gone,.arr 1 ([Qf (x1-1)]::ints (m.ae.getD 0 default).ay)]⟩ (λs h=>dN _ (hn _ h)) ?_ (λkey=>?_)
    rotate_left
    · refine M8 0 [] [3] (.take 2 (.take 6 (.take 7 (.take 8 (.take 9 (.take 10 (.both 0 (.both 1 (.take 3 (.take 4 (.take 5 (.take 11 (.take 12 (.take 13 (.take 14 .nil))))))) 3 (.take 4 (.both 1 (.take 5 (.take 11 (.take 12 (.take 13 (.take 14 .nil))))) 5 (.both 1 (.take 11 (.take 12 (.take 13 (.take 14 .nil)))) 11 (.take 1 (.take 12 (.take 13 (.take 14 .nil)))))))) 3 (.take 4 (.both 0 (.both 1 (.take 5 (.take 11 (.take 12 (.take 13 (.take 14 .nil))))) 5 (.both 1 (.take 11 (.take 12 (.take 13 (.take 14 .nil)))) 11 (.take 1 (.take 12 (.take 13 (.take 14 .nil)))))) 5 (.both 0 (.both 1 (.take 11 (.take 12 (.take 13 (.take 14 .nil)))) 11 (.take 1 (.take 12 (.take 13 (.take 14 .nil))))) 11 (.take 0 (.take 1 (.take 12 (.take 13 (.take 14 .nil))))))))))))))) rfl GS (by decide +kernel) ?_
      simp(disch:=omega)only[Ac,↓Pc,simprocAttr,Hc,gz];repeat'(first|with_reducible refine c6 ?_ ?_|omega|(refine Bz (nx) rfl rfl rfl rfl (by(repeat'(first|exact trivial|refine c6 ?_ ?_))<;>first|exact .inl ⟨rfl,rfl⟩|exact .inr ⟨rfl,rfl⟩) ?_;simp(disch:=omega)only[Ac,↓Pc,simprocAttr,Hc,gz]))
      all_goals refine key _ ?_
      all_goals exact Xv X0
    refine Va X0 ?_;unfold eU;simp only[dI,dE];simp(disch:=omega)only[Ac,↓Pc,simprocAttr];refine⟨_,_,⟨⟨m.cls,m.ae.set 0 ⟨(m.ae.getD 0 default).fst,(m.ae.getD 0 default).snd,(m.ae.getD 0 default).ee,[x1-1]++(m.ae.getD 0 default).ay⟩,m.aD,m.rules⟩,k3,⟨gf.ae P2 (λp hp=>(su hp).elim (gf.mb.ay p) λh=>by rw[h];show([x1-1]++(m.ae.getD 0 default).ay).length<_;rw[bO,Ca];omega),by first|exact .inl rfl|exact .inr ⟨_,rZ _,rfl⟩|exact .inr ⟨_,r8 _,rfl⟩⟩,GK,rfl,rfl⟩,?_⟩;refine iD [0] true GS ⟨⟨GM,.inr rfl⟩,trivial⟩ GS GS (rY (aZ.pure rfl) (.snap _ _ rfl ?_) (?_) (.pure rfl))
    · refine cQ.mk rfl (by simp only[Bc,Rc,bJ]) (jD GS) (jd _) ?_
      rw[<- SE];exact amJ (BZ (oS _)) ⟨.lit _,.lit _,.lit _,cQ.mk rfl (by simp[ints];omega) (jD GS) (vh _) (BZ (x8 ([x1-1]++(m.ae.getD 0 default).ay))),trivial⟩
    · first|exact .pure rfl|exact .eq rfl|exact .fz rfl (by simp only[Bc,Rc])
  ·
    unfold eU;simp only[dI,dE];simp(disch:=omega)only[Ac,↓Pc,simprocAttr];refine⟨_,_,⟨m,k2,⟨gf,by first|exact .inl rfl|exact .inr ⟨_,rZ _,rfl⟩|exact .inr ⟨_,r8 _,rfl⟩⟩,GK,rfl,rfl⟩,?_⟩;refine iD [0] true GS ⟨⟨GM,.inr rfl⟩,trivial⟩ GS GS (rY (aZ.pure rfl) (?_) (?_) (.pure rfl));all_goals first|exact .pure rfl|exact .eq rfl|exact .fz rfl (by simp only[Bc,Rc])
  ·
    have e:=SE (enc:=aI) m.ae 0 ⟨(m.ae.getD 0 default).fst,(m.ae.getD 0 default).fst,(m.ae.getD 0 default).ee,(m.ae.getD 0 default).ay⟩;simp only[aI]at e;rw[e];unfold eU;simp only[dI,dE];simp(disch:=omega)only[Ac,↓Pc,simprocAttr];refine⟨_,_,⟨⟨m.cls,m.ae.set 0 ⟨(m.ae.getD 0 default).fst,(m.ae.getD 0 default).fst,(m.ae.getD 0 default).ee,(m.ae.getD 0 default).ay⟩,m.aD,m.rules⟩,k2,⟨gf.ae P2 (λp hp=>(su hp).elim (gf.mb.ay p) λh=>by rw[h];exact gf.pin GK),by first|exact .inl rfl|exact .inr ⟨_,rZ _,rfl⟩|exact .inr ⟨_,r8 _,rfl⟩⟩,GK,rfl,rfl⟩,?_⟩;refine iD [0] true GS ⟨⟨GM,.inr rfl⟩,trivial⟩ GS GS (rY (aZ.pure rfl) (?_) (?_) (.pure rfl));all_goals first|exact .pure rfl|exact .eq rfl|exact .fz rfl (by simp only[Bc,Rc])
  ·
    unfold eU;simp only[dI,dE];simp(disch:=omega)only[Ac,↓Pc,simprocAttr];refine⟨_,_,⟨m,k2,⟨gf,by first|exact .inl rfl|exact .inr ⟨_,rZ _,rfl⟩|exact .inr ⟨_,r8 _,rfl⟩⟩,GK,rfl,rfl⟩,?_⟩;refine iD [0] true GS ⟨⟨GM,.inr rfl⟩,trivial⟩ GS GS (rY (aZ.pure rfl) (?_) (?_) (.pure rfl));all_goals first|exact .pure rfl|exact .eq rfl|exact .fz rfl (by simp only[Bc,Rc])
  ·
    unfold eU;simp only[dI,dE];simp(disch:=omega)only[Ac,↓Pc,simprocAttr];refine⟨_,_,⟨⟨m.cls,m.ae,m.aD++[⟨0,[],-1,1⟩],m.rules⟩,k2,⟨gf.aD P2 (λp hp=>(cG.1 hp).elim (gf.mb.mo p) λh=>by rw[cV.1 h];decide),by first|exact .inl rfl|exact .inr ⟨_,rZ _,rfl⟩|exact .inr ⟨_,r8 _,rfl⟩⟩,GK,rfl,rfl⟩,?_⟩;refine iD [0] true GS ⟨⟨GM,.inr rfl⟩,trivial⟩ GS GS (rY (aZ.pure rfl) (?_) (.snap _ _ rfl ?_) (.pure rfl))
    · first|exact .pure rfl|exact .eq rfl|exact .fz rfl (by simp only[Bc,Rc])
    · refine cQ.mk rfl (by simp only[Bc,Rc]) (jD GS) (jd _) ?_
      rw[<- pE];exact Gk (BZ (oS _)) ⟨⟨.lit _,.nil 3,.lit _,.lit _,trivial⟩,trivial⟩
  ·
    have O4:=gY L k2 3 (by unfold cR;omega) bz hL;have gx:=fH bz;have nx:=gY L (cK L k2) 4 (by unfold cR;omega) gx hL;have uN:=fH gx;have Gl:=gY L (cK L (cK L k2)) 2 (by unfold cR;omega) uN hL;have hk5:=fH uN;have O5:=gY L (cK L (cK L (cK L k2))) 2 (by unfold cR;omega) hk5 hL;have hk6:=fH hk5;unfold iU at *;generalize ef L k2 3=x1 at *;generalize cK L k2=k3 at *;generalize ef L k3 4=x2 at *;generalize cK L k3=k4 at *;generalize ef L k4 2=x3 at *;generalize cK L k4=k5 at *;generalize ef L k5 2=x4 at *;generalize cK L k5=k6 at *;refine unB ?_;intro Qb dN;refine ph ⟨ao [(3,.ptr 1 0 0),(4,.ptr 2 0 0)],[.var [.tree 1 (ints L),Qf k6],.var [.tree 1 (rowsOf aW m.cls),.ref 3 4 0 m.ae.length,.ref 7 4 0 (m.aD.length+1),Qf m.rules],
      .var [.lit (.slice none 0 0),.lit (.slice none 0 0),.lit (.slice none 0 0),Qf 0],.arr 4 (rowsOf aI m.ae),.gone,.arr 3 [[Qf x1,Qf x2,Qf x3]],
      .arr 4 [[Qf 0,.ref 5 3 0 1,Qf 0,Qf x4]],.arr 4 (rowsOf dv m.aD++[[Qf 0,.ref 5 3 0 1,Qf 0,Qf x4]])]⟩ (λs h=>dN _ (hn _ h)) ?_ (λkey=>?_)
    rotate_left
    · refine M8 0 [] [3,5,7,11] (.take 0 (.take 1 (.take 2 (.take 3 (.take 4 (.take 5 (.take 6 (.take 7 (.take 8 (.take 10 (.both 9 (.take 11 (.take 12 (.take 13 (.take 14 (.take 15 (.take 16 .nil)))))) 11 (.take 9 (.take 12 (.take 13 (.take 14 (.take 15 (.take 16 .nil))))))))))))))))) rfl GS (by decide +kernel) ?_
      simp(disch:=omega)only[Ac,↓Pc,simprocAttr,Hc,gz];repeat'(first|with_reducible refine c6 ?_ ?_|omega|(refine Bz (O4) rfl rfl rfl rfl (by(repeat'(first|exact trivial|refine c6 ?_ ?_))<;>first|exact .inl ⟨rfl,rfl⟩|exact .inr ⟨rfl,rfl⟩) ?_;simp(disch:=omega)only[Ac,↓Pc,simprocAttr,Hc,gz])|(refine Bz (nx) rfl rfl rfl rfl (by(repeat'(first|exact trivial|refine c6 ?_ ?_))<;>first|exact .inl ⟨rfl,rfl⟩|exact .inr ⟨rfl,rfl⟩) ?_;simp(disch:=omega)only[Ac,↓Pc,simprocAttr,Hc,gz])|(refine Bz (Gl) rfl rfl rfl rfl (by(repeat'(first|exact trivial|refine c6 ?_ ?_))<;>first|exact .inl ⟨rfl,rfl⟩|exact .inr ⟨rfl,rfl⟩) ?_;simp(disch:=omega)only[Ac,↓Pc,simprocAttr,Hc,gz])|(refine Bz (O5) rfl rfl rfl rfl (by(repeat'(first|exact trivial|refine c6 ?_ ?_))<;>first|exact .inl ⟨rfl,rfl⟩|exact .inr ⟨rfl,rfl⟩) ?_;simp(disch:=omega)only[Ac,↓Pc,simprocAttr,Hc,gz]))
      all_goals refine key _ ?_
      all_goals exact Xv X0
    refine Va X0 ?_;unfold eU;simp only[dI,dE];simp(disch:=omega)only[Ac,↓Pc,simprocAttr];refine⟨_,_,⟨⟨m.cls,m.ae,m.aD++[⟨0,[⟨x1,x2,x3⟩],0,x4⟩],m.rules⟩,k6,⟨gf.aD P2 (λp hp=>(cG.1 hp).elim (gf.mb.mo p) λh=>by rw[cV.1 h];simp),by first|exact .inl rfl|exact .inr ⟨_,rZ _,rfl⟩|exact .inr ⟨_,r8 _,rfl⟩⟩,GK,rfl,rfl⟩,?_⟩;refine iD [0] true GS ⟨⟨GM,.inr rfl⟩,trivial⟩ GS GS (rY (aZ.pure rfl) (?_) (.snap _ _ rfl ?_) (.pure rfl))
    · first|exact .pure rfl|exact .eq rfl|exact .fz rfl (by simp only[Bc,Rc])
    · refine cQ.mk rfl (by simp only[Bc,Rc]) (jD GS) (jd _) ?_
      rw[<- pE];exact Gk (BZ (oS _)) ⟨⟨.lit _,cQ.mk rfl rfl (jD GS) (jd _) ⟨⟨.lit _,.lit _,.lit _,trivial⟩,trivial⟩,.lit _,.lit _,trivial⟩,trivial⟩
  ·
    have nx:=gY L k2 5 (by unfold cR;omega) bz hL;have gx:=fH bz;have Gl:=gY L (cK L k2) 2 (by unfold cR;omega) gx hL;have uN:=fH gx;unfold iU at *;generalize ef L k2 5=x1 at *;generalize cK L k2=k3 at *;generalize ef L k3 2=x2 at *;generalize cK L k3=k4 at *;(refine Xn [0] (nx) ?_;simp(disch:=omega)only[Ac,↓Pc,simprocAttr])
    (refine Xn [0] (Gl) ?_;simp(disch:=omega)only[Ac,↓Pc,simprocAttr])
    ((try revert hK K);(refine Va X0 ?_))
    unfold eU;simp only[dI,dE];simp(disch:=omega)only[Ac,↓Pc,simprocAttr];refine⟨_,_,⟨⟨m.cls++[[⟨0,0,0,0,0,[(x1,x2)]⟩]],m.ae,m.aD,m.rules⟩,k4,⟨gf.cls GK P2 (λl hl=>(cG.1 hl).elim (λh=>⟨gf.opt l h,gf.mb.ch l h⟩) λh=>by rw[cV.1 h];exact⟨GM,λo ho=>by rw[cV.1 ho];simp⟩),by first|exact .inl rfl|exact .inr ⟨_,rZ _,rfl⟩|exact .inr ⟨_,r8 _,rfl⟩⟩,GK,rfl,rfl⟩,?_⟩;refine iD [0] true GS ⟨⟨GM,.inr rfl⟩,trivial⟩ GS GS (rY (.snap _ _ rfl ?_) (?_) (?_) (.pure rfl))
    · refine cQ.mk rfl (by simp only[Bc,Rc]) (jD GS) (jd _) ?_
      rw[<- pE];refine Gk (BZ (oS _)) ⟨⟨?_,trivial⟩,trivial⟩;refine cQ.mk rfl rfl (jD GS) (jd _) ⟨⟨.lit _,.lit _,.lit _,.lit _,.lit _,?_,trivial⟩,trivial⟩;exact cQ.mk rfl rfl (jD GS) (jd _) ⟨⟨.lit _,.lit _,trivial⟩,trivial⟩
    · first|exact .pure rfl|exact .eq rfl|exact .fz rfl (by simp only[Bc,Rc])
    · first|exact .pure rfl|exact .eq rfl|exact .fz rfl (by simp only[Bc,Rc])
  ·
    have nx:=gY L k2 2 (by unfold cR;omega) bz hL;have CS:=j4 (L:=L) (k:=k2) (n:=2) GK;have gx:=fH bz;unfold iU at *;generalize ef L k2 2=x1 at *;generalize cK L k2=k3 at *;(refine Xn [0] (nx) ?_;simp(disch:=omega)only[Ac,↓Pc,simprocAttr])
    ((try revert hK K);(refine Va X0 ?_))
    unfold eU;simp only[dI,dE];simp(disch:=omega)only[Ac,↓Pc,simprocAttr];refine⟨_,_,⟨⟨m.cls++[aK (24+x1).toNat ⟨0,0,0,0,0,[]⟩],m.ae,m.aD,m.rules⟩,k3,⟨gf.cls GK P2 (λl hl=>(cG.1 hl).elim (λh=>⟨gf.opt l h,gf.mb.ch l h⟩) λh=>by rw[cV.1 h];exact⟨by rw[lE];omega,λo ho=>by rw[Cb ho];decide⟩),by first|exact .inl rfl|exact .inr ⟨_,rZ _,rfl⟩|exact .inr ⟨_,r8 _,rfl⟩⟩,GK,rfl,rfl⟩,?_⟩;refine iD [0] true GS ⟨⟨GM,.inr rfl⟩,trivial⟩ GS GS (rY (.snap _ _ rfl ?_) (?_) (?_) (.pure rfl))
    · refine cQ.mk rfl (by simp only[Bc,Rc]) (jD GS) (jd _) ?_
      rw[<- pE];refine Gk (BZ (oS _)) ⟨⟨?_,trivial⟩,trivial⟩;refine cQ.mk rfl (by rw[lE]) (jD GS) (jd _) ?_;rw[show rowsOf cp (aK (24+x1).toNat ⟨0,0,0,0,0,[]⟩)=aK (24+x1).toNat (cp ⟨0,0,0,0,0,[]⟩) by rw[rowsOf,List.map_replicate]];refine ac9 ?_ _;exact⟨.lit _,.lit _,.lit _,.lit _,.lit _,.nil 2,trivial⟩
    · first|exact .pure rfl|exact .eq rfl|exact .fz rfl (by simp only[Bc,Rc])
    · first|exact .pure rfl|exact .eq rfl|exact .fz rfl (by simp only[Bc,Rc])
def Aj(c:Int)(p:Pr):Bool:=decide (p.fst≠c/\p.snd≠c)
def qx(m:ah)(c:Int):ah:=⟨m.cls.set c.toNat [],m.ae.filter (Aj c),[],m.rules⟩
def agD{m:ah}(hm:VM m){c:Int}(hc:0<=c):VM (qx m c):=by
 have bR:∀ l∈(qx m c).cls,l=[]\/l∈m.cls:=λl hl=>(su hl).symm;have key:∀ (l:List Pr) (q:Option Pr),(∀ p∈l,Aj c p=true)->fS m q l=true->fS (qx m c) q l=true:=by
  intro l
  induction l with
  |nil=>intro q _ _;cases q<;>rfl
  |cons p r ih =>
   intro q ho h;rw[fS.eq_def]at h ⊢;simp only[bb]at h ⊢;obtain⟨⟨a,b⟩,d⟩:=h;have hp:=ho p GM;unfold Aj at hp;rw[decide_eq_true_eq]at hp;refine⟨⟨?_,b⟩,ih _ (λx hx=>ho x (by simp[hx])) d⟩;have e:∀ x:Int,0<=x->x≠c->(qx m c).cls.getD x.toNat default=m.cls.getD x.toNat default:=λx h0 hx=>by
    unfold qx;dsimp only;rw[az,List.getElem?_set_ne GK,<- az]
   have q:=(qA a).2;unfold hJ at *;rw[e _ q.1 hp.1,e _ GK hp.2,show(qx m c).cls.length=m.cls.length by unfold qx;simp];exact a
 refine⟨by unfold qx;simpa using hm.cls,λl hl=>?_,tL (Qj _ _) hm.ae,aS _,hm.vL,λl hl o ho=>?_,key _ _ (λp hp=>(List.mem_filter.1 hp).2) (Om _ hm.pr),λc hc=>by cases hc⟩
 ·rcases bR l hl with rfl|h
  ·exact aS _
  ·exact hm.opt l h
 ·rcases bR l hl with rfl|h
  ·cases ho
  ·exact hm.sW l h o ho
def adb{R:AV->AV->Prop}:∀ {a c:List (List AV)} {x y:List AV} (j:Nat),lH R a c->jE R x y->lH R (a.set j x) (c.set j y)
 |[],[],_,_,_,_,_=>trivial
 |_::_,_::_,_,_,0,h,k=>⟨k,h.2⟩
 |_::_,_::_,_,_,j+1,h,k=>⟨h.1,adb j h.2 k⟩
 |[],_::_,_,_,_,h,_=>h.elim
 |_::_,[],_,_,_,h,_=>h.elim
def amM{α:Type}{enc:α->List AV}{w:Nat}[Row enc w]{σ:St}{kp:Nat->Prop}(xs:List α):lH (cQ σ kp) (rowsOf enc xs) (rowsOf enc xs) :=
 lH.FY (f:=λ_=>[]) (g:=λ_=>[]) rfl λj c d hc hd=>by rw[hc]at hd;cases hd;exact abr (λv hv=>oS _ _ (List.mem_of_getElem? hc) v hv) rfl
def amN{σ:St}{kp:Nat->Prop}{id n c:Nat}{cls:List (List cz)}(ho:σ.aa[id]?=some (.arr 1 ((rowsOf aW cls).set c [.lit (.slice none 0 0)])))(hn:n=cls.length)(hk:¬ kp id):cQ σ kp (.tree 1 (rowsOf aW (cls.set c []))) (.ref id 1 0 n):=by
 have e:rowsOf aW (cls.set c [])=(rowsOf aW cls).set c (aW []):=by unfold rowsOf;rw[sr]
 refine cQ.mk ho (by rw[hn,bJ,cH]) hk (jd _) ?_;rw[e];exact adb c (amM cls) ⟨.nil 6,trivial⟩
def Ma(m:ah):List AV:=[.tree 1 (rowsOf aW m.cls),.ref 0 4 0 m.ae.length,.tree 4 (rowsOf dv m.aD),Qf m.rules]
def agH(m:ah)(hm:VM m)(c:Int)(hc:0<=c/\c<m.cls.length):Holds Tryz.prog 59 [.agg (an m),Qf c] [] (.agg (Ma (qx m c))) [.arr 4 (rowsOf aI (qx m c).ae)]:=by
 have oT:=hm.cls;have pT:=hm.ae;have cD:(rowsOf aW m.cls).length=m.cls.length:=cH _;have amO:∀ ρ,bM ρ (.arr 1 ((rowsOf aW m.cls).set c.toNat [.lit (.slice none 0 0)]))=.arr 1 ((rowsOf aW m.cls).set c.toNat [.lit (.slice none 0 0)]):=λρ=>by
  have h:bM ρ (.arr 1 (rowsOf aW m.cls))=.arr 1 (rowsOf aW m.cls):=by rw[wR]
  simp only[bM,Ob.arr.injEq,true_and]at h ⊢;rw[sr,h];simp[bk]
 have tw:∀ (xs:List Pr) (p:Pr),rowsOf aI xs++[[AV.lit (.int .i64 p.fst),AV.lit (.int .i64 p.snd),AV.lit (.int .i64 p.ee),AV.tree 1 (ints p.ay)]]=rowsOf aI (xs++[p]):=λxs p=>pE xs p;refine Holds.aM 53 0 [.cell 4 32] Tryz.func59 ?_;repeat'(first|((fail_if_success (first|refine eM 1 ?_|refine eN 1 ?_));refine Xr X0 ?_;intro K hK)|(refine hK _ ?_;clear hK K)|refine XY ?_|fail)
 refine vW ?_;intro Q hn he;refine ph ⟨ao [(1,Qf c),(2,.ptr 0 0 0),(4,.ptr 1 0 0),(5,.ptr 3 0 0)],[.var (an m),.var [.lit (.slice none 0 0),.lit (.slice none 0 0),.lit (.slice none 0 0),Qf 0],.arr 1 (rowsOf aW m.cls),.var [.ref 2 1 0 m.cls.length,.lit (.slice none 0 0),.lit (.slice none 0 0),Qf m.rules]]⟩ hn ?_ (λkey=>?_);rotate_left
 ·refine pw [] (.take 0 (.take 1 (.three 2 (.take 3 (.take 4 (.take 5 (.take 6 (.take 7 .nil))))) 3 (.three 2 (.take 4 (.take 5 (.take 6 (.take 7 .nil)))) 4 (.both 2 (.take 5 (.take 6 (.take 7 .nil))) 6 (.take 2 (.take 5 (.take 7 .nil)))) 6 (.both 2 (.take 4 (.take 5 (.take 7 .nil))) 4 (.take 2 (.take 5 (.take 7 .nil))))) 6 (.both 2 (.take 3 (.take 4 (.take 5 (.take 7 .nil)))) 3 (.both 2 (.take 4 (.take 5 (.take 7 .nil))) 4 (.take 2 (.take 5 (.take 7 .nil)))))))) rfl GS (by decide +kernel) ?_;simp(disch:=omega)only[Ac,↓Pc,simprocAttr,Pw];repeat'(first|with_reducible refine c6 ?_ ?_|omega)
  all_goals
   refine key _ ?_;first|(exact Xv X0;done)|(exact Xs false [0,1,3,2] X0)
 (try clear hn;try clear he)
 refine Vb @cD ?_;refine cL (aH.rA 3 1 4 rfl rfl GS) ?_;refine aR (λz:Nat×List Pr=>(⟨ao [(1,Qf c),(2,.ptr 0 0 0),(4,.ptr 1 0 0),(5,.ptr 3 0 0),(6,Qf z.1)],[.var (an m),.var [.lit (.slice none 0 0),.lit (.slice none 0 0),.lit (.slice none 0 0),Qf 0],.arr 1 ((rowsOf aW m.cls).set c.toNat [.lit (.slice none 0 0)]),.var [.ref 2 1 0 m.cls.length,.ref 4 4 0 z.2.length,.lit (.slice none 0 0),Qf m.rules],.arr 4 (rowsOf aI z.2)]⟩:St))
  (λz=>z.1<=m.ae.length/\z.2=(m.ae.take z.1).filter (Aj c)) (λz=>m.ae.length-z.1) (0,[]) ⟨aS _,rfl⟩ (Xv X0) ?_
 rintro⟨i,xs⟩⟨hi,dz⟩Ql ak aq;dsimp only at hi dz ⊢;by_cases ar:i<m.ae.length
 ·have ez:=eu ar;have vC:xs.length<=4000:=by
   rw[dz];exact tL (Qj _ _) (by rw[List.length_take];omega)
  generalize cg:m.ae.getD i default=p at *;have hf:(m.ae.take (i+1)).filter (Aj c)=xs++if Aj c p=true then [p] else []:=by
   rw[ez,List.filter_append,<- dz];congr 1;rw[List.filter_cons,List.filter_nil]
  by_cases ade:p.fst≠c/\p.snd≠c
  ·rw[if_pos (by unfold Aj;exact decide_eq_true ade)]at hf;((repeat'(first|refine Va (X2 @cg @aI.eq_1) ?_|(refine V2 (X2 @cg @aI.eq_1) ?_ ?_<;>try with_reducible intro hb)|(refine Xi ?_ ?_<;>try intro ht)|exact Xx|fail)))
   all_goals exact ak _ (i+1,xs++[p]) ⟨PW,hf.symm⟩ PW (Xs false [0,1,2,3,6] (X2 @amO @tw))
  ·rw[if_neg (by unfold Aj;simpa using ade),nL]at hf;((repeat'(first|refine Va (X2 @cg @aI.eq_1) ?_|(refine V2 (X2 @cg @aI.eq_1) ?_ ?_<;>try with_reducible intro hb)|(refine Xi ?_ ?_<;>try intro ht)|exact Xx|fail)))
   all_goals exact ak _ (i+1,xs) ⟨PW,hf.symm⟩ PW (Xv X0)
 ·rw[List.take_of_length_le GK]at dz;((repeat'(first|refine Va X0 ?_|(refine V2 X0 ?_ ?_<;>try with_reducible intro hb)|(refine Xi ?_ ?_<;>try intro ht)|exact Xx|fail)))
  refine aq _ _ rfl ?_;clear ak aq Ql;repeat(refine Xu ?_)
  refine Vb X0 ?_;simp(disch:=omega)only[Ac,↓Pc,simprocAttr,rowOf];have hpx:(qx m c).ae=xs:=by rw[dz];rfl
  rw[hpx];refine iD [4] true GS ⟨⟨GM,.inr (by rw[wR];rfl)⟩,trivial⟩ GS GS ?_;refine(aZ.agg _ _ rfl (jE.spec (R:=aZ _ _ _ _) (cs:=Ma (qx m c)) (ds:=[.ref 2 1 0 m.cls.length,.ref 4 4 0 xs.length,.lit (.slice none 0 0),Qf m.rules]) ⟨.snap _ _ rfl (amN rfl rfl (jD GS)),.eq (by rw[hpx];rfl),.snap _ _ rfl (.nil 4),.pure rfl,trivial⟩).2)
def tE(par:List Int)(i:Nat):Nat->List (Int×Int)
 |0=>[]
 |c+1=>tE par i c++if par.getD (i+1+c) 0=i then [((i:Int),((i+1+c:Nat):Int))] else []
def wc(par:List Int)(n:Nat):Nat->List (Int×Int)
 |0=>[]
 |i+1=>wc par n i++tE par i (n-(i+1))
def ctU(ch:List (Int×Int)):Prop:=ch=[]\/∃ r c,ch=[(r,c)]/\(0<=r/\r<2)/\1<=c/\c<=40
def O6(l:List cz):Prop:=∀ o∈l,ctU o.ch
def O7(cls:List (List cz))(p:Pr):Prop:=p.ee=1/\(0<=p.fst/\p.fst<p.snd/\p.snd<cls.length)/\(p.ay.length:Int)=(cls.getD p.fst.toNat default).length*(cls.getD p.snd.toNat default).length/\∀ x∈p.ay,0<=x/\x<=38
structure DE(m:ah)(par:List Int):Prop where
 n:1<=m.cls.length/\m.cls.length<=5
 pl:par.length=m.cls.length
 pr:∀ i,i<par.length->-1<=par.getD i 0/\par.getD i 0<i
 cl:∀ l∈m.cls,(1<=l.length/\l.length<=3)/\O6 l
 fs:m.ae.map (λp=>(p.fst,p.snd))=wc par m.cls.length m.cls.length
 pt:∀ p∈m.ae,O7 m.cls p
 ct:m.aD=[]
 ru:m.rules=2
def iL(L:List Int)(k:Nat)(cls:List (List cz))(ae:List Pr)(par:List Int)(n:Nat):List Ob :=
 [.var [.tree 1 (ints L),Qf k],.var [.lit (.slice none 0 0),.lit (.slice none 0 0),.lit (.slice none 0 0),Qf 0],
  .var [.ref 4 1 0 cls.length,.ref 5 4 0 ae.length,.lit (.slice none 0 0),Qf 2],.arr 1 (ints (par++aK (n-par.length) 0)),.arr 1 (rowsOf aW cls),.arr 4 (rowsOf aI ae)]
def amP(par:List Int)(n:Nat)(h:par.length<n)(v:Int):(par++aK (n-par.length) 0).set par.length v=(par++[v])++aK (n-(par++[v]).length) 0:=by
 rw[List.set_append_right _ _ (aY _),jz,show n-par.length=(n-(par.length+1))+1 by omega,List.replicate_succ,List.set_cons_zero,bO,bE];rfl
def agN(L:List Int)(k:Nat)(hk:k<=L.length)(hL:L.length<1000000):
  cX Tryz.prog 21 [.ptr 0 0 0] [iU L k] (λr os=>∃ m par k',DE m par/\k'<=L.length/\r=.agg (an m)/\os=[iU L k']):=by
 unfold iU;refine cX.aM 119 1 [.cell 2 32] Tryz.func21 ?_;((try revert hK K);(repeat'(first|refine Va X0 ?_|(refine V2 X0 ?_ ?_<;>try with_reducible intro hb)|(refine Xi ?_ ?_<;>try intro ht)|refine VD ?_ ?_|exact Xx|fail))<;>try with_reducible intro K hK)
 refine jF [0] (gY L k 5 (by unfold cR;omega) hk hL) GS ⟨rfl,trivial⟩ ⟨.eq rfl,.pure rfl,trivial⟩ ?_;have hv:=j4 (L:=L) (k:=k) (n:=5) GK;have bz:=fH hk;generalize ef L k 5=v at *;generalize cK L k=k2 at *;clear hk;obtain⟨n,gv⟩:∃n:Nat,1+v=n:=⟨(1+v).toNat,GK⟩;((try revert hK K);(repeat'(first|refine Va @gv ?_|(refine V2 @gv ?_ ?_<;>try with_reducible intro hb)|(refine Xi ?_ ?_<;>try intro ht)|refine VD ?_ ?_|exact Xx|fail))<;>try with_reducible intro K hK)
 refine cL (σ':=⟨ao [(0,.ptr 0 0 0),(2,.ptr 1 0 0),(3,.ptr 2 0 0),(4,Qf n),(5,.ref 3 1 0 n),(6,Qf 0)],iL L k2 [] [] [] n⟩) ?_ ?_
 ·refine aH.trans (aH.rA 2 0 1 rfl rfl GS) ?_;refine aH.trans (aH.rA 2 1 4 rfl rfl GS) ?_;unfold iL;exact Xv X0
 have hn5:1<=n/\n<=5:=GK;(try clear gv;clear hv v)
 refine aR (λz:Nat×Nat×List (List cz)×List Int=>(⟨ao [(0,.ptr 0 0 0),(2,.ptr 1 0 0),(3,.ptr 2 0 0),(4,Qf n),(5,.ref 3 1 0 n),(6,Qf z.1)],iL L z.2.1 z.2.2.1 [] z.2.2.2 n⟩:St))
  (λz=>z.1<=n/\z.2.1<=L.length/\(z.2.2.1.length=z.1/\∀ l∈z.2.2.1,(1<=l.length/\l.length<=3)/\O6 l)/\z.2.2.2.length=z.1/\∀ i,i<z.2.2.2.length->-1<=z.2.2.2.getD i 0/\z.2.2.2.getD i 0<i) (λz=>n-z.1) (0,k2,[],[]) ⟨aS _,bz,⟨rfl,GM⟩,rfl,GM⟩ (Xv X0) ?_
 clear bz k2 k;rintro⟨i,k,cls,par⟩⟨hi,hk,⟨bK,pS⟩,dg,tF⟩Ql ak aq;dsimp only at hi hk bK pS dg tF ⊢;unfold iL;by_cases ar:i<n
 ·((try revert hK K);(repeat'(first|refine Va X0 ?_|(refine V2 X0 ?_ ?_<;>try with_reducible intro hb)|(refine Xi ?_ ?_<;>try intro ht)|refine VD ?_ ?_|exact Xx|fail))<;>try with_reducible intro K hK)
  refine jF [0] (gY L k 3 (by unfold cR;omega) hk hL) GS ⟨rfl,trivial⟩ ⟨.eq rfl,.pure rfl,trivial⟩ ?_;have hv:=j4 (L:=L) (k:=k) (n:=3) GK;have bz:=fH hk;generalize ef L k 3=v at *;generalize cK L k=k2 at *;clear hk;obtain⟨e0,ns⟩:∃e0:Nat,1+v=e0:=⟨(1+v).toNat,GK⟩;((try revert hK K);(repeat'(first|refine Va @ns ?_|(refine V2 @ns ?_ ?_<;>try with_reducible intro hb)|(refine Xi ?_ ?_<;>try intro ht)|refine VD ?_ ?_|exact Xx|fail))<;>try with_reducible intro K hK)
  refine aR (λz:Nat×Nat×List cz=>(⟨ao [(0,.ptr 0 0 0),(2,.ptr 1 0 0),(3,.ptr 2 0 0),(4,Qf n),(5,.ref 3 1 0 n),(6,Qf i),(7,.ref 6 6 0 z.2.2.length),(8,Qf z.1)],iL L z.2.1 cls [] par n++[.arr 6 (rowsOf cp z.2.2)]⟩:St))
   (λz=>z.1+z.2.2.length=e0/\z.2.1<=L.length/\O6 z.2.2) (λz=>z.1) (e0,k2,[]) ⟨GM,bz,by intro o ho;simp at ho⟩ ?_ ?_
  ·refine aH.trans (aH.nil 7 6 (by simp only[Kc,simprocAttr]) GS) ?_;unfold iL;exact Xv X0
  clear bz;rintro⟨e,k,l⟩⟨vM,hk,hl⟩cJ bj br;dsimp only at vM hk hl ⊢;unfold iL;simp only[dx,eC];by_cases vz:0<e
  ·obtain⟨e',rfl⟩ :∃e',e=e'+1:=⟨e-1,GK⟩;have jY:((e'+1:Nat):Int)-1=e':=GK;have n9:=ED L k 2 (by unfold cR;omega) GS hk hL;have bz:=fH hk;generalize CT L k 2=b at *;generalize cK L k=k2 at *;repeat'(first|((fail_if_success (first|refine eM 12 ?_|refine eN 12 ?_));refine Xr X0 ?_;intro K hK)|refine Xo X0 ?_|(refine hK _ ?_;clear hK K)|(refine Xg X0 ?_ ?_<;>try intro hb)|(refine Xi ?_ ?_<;>try intro ht)|refine Xy ?_|refine Xd ?_ ?_|exact Xx|fail)
   refine cL (σ':=⟨ao [(0,.ptr 0 0 0),(2,.ptr 1 0 0),(3,.ptr 2 0 0),(4,Qf n),(5,.ref 3 1 0 n),(6,Qf i),(7,.ref 6 6 0 l.length),(8,Qf (e'+1:Nat)),(9,.ptr 7 0 0)],iL L k cls [] par n++[.arr 6 (rowsOf cp l),.var [Qf 1,Qf (e'+1:Nat),Qf 0,Qf 1,Qf (-1),.ref 8 2 0 0],.arr 2 []]⟩) ?_ ?_
   ·refine aH.trans (aH.rA 7 5 2 rfl rfl GS) ?_;unfold iL;exact Xv X0
   unfold iL;simp only[dx,eC];((try revert hK K);(repeat'(first|refine Va X0 ?_|(refine V2 X0 ?_ ?_<;>try with_reducible intro hb)|(refine Xi ?_ ?_<;>try intro ht)|refine VD ?_ ?_|exact Xx|fail))<;>try with_reducible intro K hK)
   (refine Xn [0] (n9) ?_;simp(disch:=omega)only[Ac,↓Pc,simprocAttr])
   have adh:∀ (k':Nat) (ch:List (Int×Int)) (s:St),k'<=L.length->ctU ch->aH 1 s ⟨ao [(0,.ptr 0 0 0),(2,.ptr 1 0 0),(3,.ptr 2 0 0),(4,Qf n),(5,.ref 3 1 0 n),(6,Qf i),(7,.ref 6 6 0 (l.length+1)),(8,Qf e')],iL L k' cls [] par n++[.arr 6 (rowsOf cp (l++[⟨1,(e'+1:Nat),0,1,-1,ch⟩]))]⟩->cJ .normal s:=λk' ch s h1 h2 h3 =>
    bj _ (e',k',l++[⟨1,(e'+1:Nat),0,1,-1,ch⟩]) ⟨P2,h1,λo ho=>by
     rcases cG.1 ho with ho|ho
     ·exact hl o ho
     ·simp only[cV]at ho;subst ho;exact h2⟩ PW (by rw[bO];exact h3)
   clear bj br;cases b with
   |true =>
    have C2:=gY L k2 2 (by unfold cR;omega) bz hL;have hxr:=j4 (L:=L) (k:=k2) (n:=2) GK;have gx:=fH bz;generalize ef L k2 2=r1 at *;generalize cK L k2=k3 at *;have O8:=gY L k3 40 (by unfold cR;omega) gx hL;have C0:=j4 (L:=L) (k:=k3) (n:=40) GK;have uN:=fH gx;generalize ef L k3 40=r2 at *;generalize cK L k3=k4 at *;((try revert hK K);(repeat'(first|refine Va X0 ?_|(refine V2 X0 ?_ ?_<;>try with_reducible intro hb)|(refine Xi ?_ ?_<;>try intro ht)|refine VD ?_ ?_|exact Xx|fail))<;>try with_reducible intro K hK)
    (refine Xn [0] (C2) ?_;simp(disch:=omega)only[Ac,↓Pc,simprocAttr])
    (refine Xn [0] (O8) ?_;simp(disch:=omega)only[Ac,↓Pc,simprocAttr])
    repeat'(first|((fail_if_success (first|refine eM 14 ?_|refine eN 14 ?_));refine Xr X0 ?_;intro K hK)|refine Xo X0 ?_|(refine hK _ ?_;clear hK K)|(refine Xg X0 ?_ ?_<;>try intro hb)|(refine Xi ?_ ?_<;>try intro ht)|refine Xy ?_|refine Xd ?_ ?_|exact Xx|fail)
    refine cL (aH.yg 9 7 5 2 (rows:=rowsOf bd [(r1,1+r2)]) rfl rfl rfl (jd _) (oS _)) ?_;refine cL (σ':=⟨ao [(0,.ptr 0 0 0),(2,.ptr 1 0 0),(3,.ptr 2 0 0),(4,Qf n),(5,.ref 3 1 0 n),(6,Qf i),(7,.ref 6 6 0 l.length),(8,Qf (e'+1:Nat)),(9,.ptr 7 0 0)],iL L k4 cls [] par n++[.arr 6 (rowsOf cp l),.var (cp ⟨1,(e'+1:Nat),0,1,-1,[(r1,1+r2)]⟩),.arr 2 [],.gone]⟩) (by unfold iL;exact Xv @cp.eq_1) ?_;unfold iL;simp only[dx,eC];((try revert hK K);(repeat'(first|refine Va (X2 @cp.eq_1 @jY) ?_|(refine V2 (X2 @cp.eq_1 @jY) ?_ ?_<;>try with_reducible intro hb)|(refine Xi ?_ ?_<;>try intro ht)|refine VD ?_ ?_|exact Xx|fail))<;>try with_reducible intro K hK)
    refine adh k4 [(r1,1+r2)] _ uN (.inr ⟨r1,1+r2,rfl,hxr,GK,GK⟩) ?_;unfold iL;simp only[dx,eC];rw[show rowsOf cp l++[[AV.lit (.int .i64 1),AV.lit (.int .i64 (e'+1:Nat)),AV.lit (.int .i64 0),AV.lit (.int .i64 1),AV.lit (.int .i64 (-1)),AV.tree 2 (rowsOf bd [(r1,1+r2)])]]=rowsOf cp (l++[⟨1,(e'+1:Nat),0,1,-1,[(r1,1+r2)]⟩]) from pE (enc:=cp) l ⟨1,(e'+1:Nat),0,1,-1,[(r1,1+r2)]⟩];exact Xs false [0,1,2,3,4,5,11] X0
   |false =>
    repeat'(first|((fail_if_success (first|refine eM 14 ?_|refine eN 14 ?_));refine Xr X0 ?_;intro K hK)|refine Xo X0 ?_|(refine hK _ ?_;clear hK K)|(refine Xg X0 ?_ ?_<;>try intro hb)|(refine Xi ?_ ?_<;>try intro ht)|refine Xy ?_|refine Xd ?_ ?_|exact Xx|fail)
    refine cL (aH.yg 8 7 5 2 (rows:=rowsOf bd []) rfl rfl rfl (jd _) (oS _)) ?_;refine cL (σ':=⟨ao [(0,.ptr 0 0 0),(2,.ptr 1 0 0),(3,.ptr 2 0 0),(4,Qf n),(5,.ref 3 1 0 n),(6,Qf i),(7,.ref 6 6 0 l.length),(8,Qf (e'+1:Nat)),(9,.ptr 7 0 0)],iL L k2 cls [] par n++[.arr 6 (rowsOf cp l),.var (cp ⟨1,(e'+1:Nat),0,1,-1,[]⟩),.gone]⟩) (by unfold iL;exact Xv @cp.eq_1) ?_;unfold iL;simp only[dx,eC];((try revert hK K);(repeat'(first|refine Va (X2 @cp.eq_1 @jY) ?_|(refine V2 (X2 @cp.eq_1 @jY) ?_ ?_<;>try with_reducible intro hb)|(refine Xi ?_ ?_<;>try intro ht)|refine VD ?_ ?_|exact Xx|fail))<;>try with_reducible intro K hK)
    refine adh k2 [] _ bz (.inl rfl) ?_;unfold iL;simp only[dx,eC];rw[show rowsOf cp l++[[AV.lit (.int .i64 1),AV.lit (.int .i64 (e'+1:Nat)),AV.lit (.int .i64 0),AV.lit (.int .i64 1),AV.lit (.int .i64 (-1)),AV.tree 2 (rowsOf bd [])]]=rowsOf cp (l++[⟨1,(e'+1:Nat),0,1,-1,[]⟩]) from pE (enc:=cp) l ⟨1,(e'+1:Nat),0,1,-1,[]⟩];exact Xs false [0,1,2,3,4,5,10] X0
  ·obtain rfl:e=0:=GK;((try revert hK K);(repeat'(first|refine Va X0 ?_|(refine V2 X0 ?_ ?_<;>try with_reducible intro hb)|(refine Xi ?_ ?_<;>try intro ht)|refine VD ?_ ?_|exact Xx|fail))<;>try with_reducible intro K hK)
   refine br _ _ rfl ?_;clear bj br cJ;repeat(first|refine Xu ?_)
   refine cL (σ':=⟨ao [(0,.ptr 0 0 0),(2,.ptr 1 0 0),(3,.ptr 2 0 0),(4,Qf n),(5,.ref 3 1 0 n),(6,Qf i),(7,.tree 6 (rowsOf cp l))],iL L k cls [] par n⟩) ?_ ?_
   ·unfold iL;exact Xs true [0,1,2,3,4,5] X0
   unfold iL;have nx:=gY L k (i+1) (by unfold cR;omega) hk hL;have CS:=j4 (L:=L) (k:=k) (n:=i+1) GK;have bz:=fH hk;generalize ef L k (i+1)=w at *;generalize cK L k=k2 at *;have JS:(par++aK (n-par.length) 0).length=n:=P2;have jZ:=amP par n GK (w-1);rw[dg]at jZ JS;rw[dg];have Hz:((i+1:Nat):Int)=(i:Int)+1:=GK;((try revert hK K);(repeat'(first|refine Va X0 ?_|(refine V2 X0 ?_ ?_<;>try with_reducible intro hb)|(refine Xi ?_ ?_<;>try intro ht)|refine VD ?_ ?_|exact Xx|fail))<;>try with_reducible intro K hK)
   (refine Xn [0] (nx) ?_;simp(disch:=omega)only[Ac,↓Pc,simprocAttr,JS,jZ])
   repeat'(first|with_reducible refine c6 ?_ ?_|omega|with_reducible rfl)
   ((try revert hK K);(repeat'(first|refine Va (X2 @JS @jZ) ?_|(refine V2 (X2 @JS @jZ) ?_ ?_<;>try with_reducible intro hb)|(refine Xi ?_ ?_<;>try intro ht)|refine VD ?_ ?_|exact Xx|fail))<;>try with_reducible intro K hK)
   all_goals try(exfalso;omega)
   refine ak _ (i+1,k2,cls++[l],par++[w-1]) ⟨PW,bz,⟨P2,λx hx=>?_⟩,P2,λa ha=>?_⟩ PW ?_
   ·rcases cG.1 hx with hx|hx
    ·exact pS x hx
    ·simp only[cV]at hx;subst hx;exact⟨⟨GK,GK⟩,hl⟩
   ·dsimp only at ha ⊢;rw[bO,Ca]at ha;by_cases ha2:a<par.length
    ·rw[az,List.getElem?_append_left ha2,<- az];exact tF a ha2
    ·obtain rfl:a=par.length:=GK;rw[az,List.getElem?_append_right (aY _),jz];show -1<=w-1/\w-1<_;omega
   ·unfold iL;rw[show rowsOf aW cls++[[AV.tree 6 (rowsOf cp l)]]=rowsOf aW (cls++[l]) from pE (enc:=aW) cls l];exact Xs false [0,1,2,3,7,5] X0
 ·obtain rfl:i=n:=GK;((try revert hK K);(repeat'(first|refine Va X0 ?_|(refine V2 X0 ?_ ?_<;>try with_reducible intro hb)|(refine Xi ?_ ?_<;>try intro ht)|refine VD ?_ ?_|exact Xx|fail))<;>try with_reducible intro K hK)
  refine aq _ _ rfl ?_;clear ak aq Ql;repeat(first|refine Xu ?_)
  rw[dg,jz,D3,nL];have mL:=hn5;have oZ:∀ k ae,iL L k cls ae par i=[.var [.tree 1 (ints L),Qf k],.var [.lit (.slice none 0 0),.lit (.slice none 0 0),.lit (.slice none 0 0),Qf 0],.var [.ref 4 1 0 cls.length,.ref 5 4 0 ae.length,.lit (.slice none 0 0),Qf 2],.arr 1 (ints par),.arr 1 (rowsOf aW cls),.arr 4 (rowsOf aI ae)]:=λk ae=>by
   unfold iL;rw[dg,jz,D3,nL]
  have rR:∀ a,(cls.getD a default).length<=3:=λa=>by
   rcases Nat.lt_or_ge a cls.length with h|h
   ·exact((pS _ (aF (d:=default) h)).1).2
   ·rw[az,List.getElem?_eq_none h];decide
  ((try revert hK K);(repeat'(first|refine Va X0 ?_|(refine V2 X0 ?_ ?_<;>try with_reducible intro hb)|(refine Xi ?_ ?_<;>try intro ht)|refine VD ?_ ?_|exact Xx|fail))<;>try with_reducible intro K hK)
  refine aR (λz:Nat×Nat×List Pr=>(⟨ao [(0,.ptr 0 0 0),(2,.ptr 1 0 0),(3,.ptr 2 0 0),(4,Qf i),(5,.ref 3 1 0 i),(10,Qf z.1)],iL L z.2.1 cls z.2.2 par i⟩:St))
   (λz=>z.1<=i/\z.2.1<=L.length/\(z.2.2.map (λp=>(p.fst,p.snd))=wc par i z.1/\z.2.2.length<=5*z.1)/\∀ p∈z.2.2,O7 cls p) (λz=>i-z.1) (0,k,[]) ⟨aS _,hk,⟨rfl,GM⟩,GM⟩ (by rw[oZ];exact Xv X0) ?_
  clear hk k;rintro⟨a,k,ae⟩⟨ha,hk,⟨iQ,DF⟩,pY⟩Ql ak aq;dsimp only at ha hk iQ DF pY ⊢;by_cases nC:a<i
  ·rw[oZ];((try revert hK K);(repeat'(first|refine Va X0 ?_|(refine V2 X0 ?_ ?_<;>try with_reducible intro hb)|(refine Xi ?_ ?_<;>try intro ht)|refine VD ?_ ?_|exact Xx|fail))<;>try with_reducible intro K hK)
   refine aR (λz:Nat×Nat×List Pr=>(⟨ao [(0,.ptr 0 0 0),(2,.ptr 1 0 0),(3,.ptr 2 0 0),(4,Qf i),(5,.ref 3 1 0 i),(10,Qf a),(11,Qf z.1)],iL L z.2.1 cls z.2.2 par i⟩:St))
    (λz=>(a+1<=z.1/\z.1<=i)/\z.2.1<=L.length/\(z.2.2.map (λp=>(p.fst,p.snd))=wc par i a++tE par a (z.1-(a+1))/\z.2.2.length<=5*a+(z.1-(a+1)))/\∀ p∈z.2.2,O7 cls p) (λz=>i-z.1) (a+1,k,ae) ⟨⟨aY _,PW⟩,hk,⟨by dsimp only;rw[jz];simp[tE,iQ],PW⟩,pY⟩ (by rw[oZ];exact Xv X0) ?_
   clear hk iQ DF pY;rintro⟨q,k,ae⟩⟨⟨tx,I'⟩,hk,⟨iQ,DF⟩,pY⟩cJ bj br;dsimp only at tx I' hk iQ DF pY ⊢;rw[oZ];by_cases xn:q<i
   ·have JT:tE par a (q+1-(a+1))=tE par a (q-(a+1))++if par.getD q 0=a then [((a:Int),(q:Int))] else []:=by
     rw[show q+1-(a+1)=(q-(a+1))+1 by omega,tE,show a+1+(q-(a+1))=q by omega]
    generalize yI:par.getD q 0=pq at *;by_cases OY:pq=a
    ·rw[if_pos OY]at JT;have s1:=rR a;have s2:=rR q;generalize Ak:cls.getD a default=ca at *;generalize F6:cls.getD q default=cq at *;repeat'(first|((fail_if_success (first|refine eM 25 ?_|refine eN 25 ?_));refine Xr (X2 @yI @dg) ?_;intro K hK)|refine Xo (X2 @yI @dg) ?_|(refine hK _ ?_;clear hK K)|(refine Xg (X2 @yI @dg) ?_ ?_<;>try intro hb)|(refine Xi ?_ ?_<;>try intro ht)|refine Xy ?_|refine Xd ?_ ?_|exact Xx|fail)
     all_goals try(exfalso;omega)
     refine cL (σ':=⟨ao [(0,.ptr 0 0 0),(2,.ptr 1 0 0),(3,.ptr 2 0 0),(4,Qf i),(5,.ref 3 1 0 i),(10,Qf a),(11,Qf q),(12,.ptr 6 0 0)],iL L k cls ae par i++[.var [Qf a,Qf q,Qf 1,.ref 7 1 0 0],.arr 1 []]⟩) ?_ ?_
     ·refine aH.trans (aH.rA 6 3 1 rfl rfl GS) ?_;rw[oZ];exact Xv X0
     rw[oZ];simp only[dx,eC];have hP9:ca.length*cq.length<=9:=wC s1 s2;have O9:(ca.length:Int)*(cq.length:Int)=((ca.length*cq.length:Nat):Int):=by push_cast;rfl
     generalize hPP:ca.length*cq.length=P0 at *;((try revert hK K);(repeat'(first|refine Va (X4 @Ak @F6 @aW.eq_1 @O9) ?_|(refine V2 (X4 @Ak @F6 @aW.eq_1 @O9) ?_ ?_<;>try with_reducible intro hb)|(refine Xi ?_ ?_<;>try intro ht)|refine VD ?_ ?_|exact Xx|fail))<;>try with_reducible intro K hK)
     refine aR (λz:Nat×Nat×List Int=>(⟨ao [(0,.ptr 0 0 0),(2,.ptr 1 0 0),(3,.ptr 2 0 0),(4,Qf i),(5,.ref 3 1 0 i),(10,Qf a),(11,Qf q),(12,.ptr 6 0 0),(13,Qf z.1)],iL L z.2.1 cls ae par i++[.var [Qf a,Qf q,Qf 1,.ref 7 1 0 z.2.2.length],.arr 1 (ints z.2.2)]⟩:St))
      (λz=>z.1+z.2.2.length=P0/\z.2.1<=L.length/\∀ x∈z.2.2,0<=x/\x<=38) (λz=>z.1) (P0,k,[]) ⟨GM,hk,GM⟩ (by rw[oZ];exact Xv X0) ?_
     clear hk;rintro⟨j,k,ay⟩⟨hj,hk,v7⟩mq gm fk;dsimp only at hj hk v7 ⊢;rw[oZ];simp only[dx,eC];by_cases hj0:0<j
     ·obtain⟨j',rfl⟩ :∃j',j=j'+1:=⟨j-1,GK⟩;have zu:((j'+1:Nat):Int)-1=j':=GK;have C2:=gY L k 3 (by unfold cR;omega) hk hL;have hxr:=j4 (L:=L) (k:=k) (n:=3) GK;have gx:=fH hk;generalize ef L k 3=r1 at *;generalize cK L k=k3 at *;have O8:=gY L k3 20 (by unfold cR;omega) gx hL;have C0:=j4 (L:=L) (k:=k3) (n:=20) GK;have uN:=fH gx;generalize ef L k3 20=r2 at *;generalize cK L k3=k4 at *;have hmul:0<=r1*r2/\r1*r2<=38:=⟨Int.mul_nonneg GK GK,by
       have:=p8 (show r1<=2 by omega) (show r2<=19 by omega) C0.1 GK;omega⟩
      generalize gX:r1*r2=rr at *;repeat'(first|((fail_if_success (first|refine eM 28 ?_|refine eN 28 ?_));refine Xr X0 ?_;intro K hK)|refine Xo X0 ?_|(refine hK _ ?_;clear hK K)|(refine Xg X0 ?_ ?_<;>try intro hb)|(refine Xi ?_ ?_<;>try intro ht)|refine Xy ?_|refine Xd ?_ ?_|exact Xx|fail)
      all_goals try(exfalso;omega)
      refine Js (λs=>aH 1 s ⟨ao [(0,.ptr 0 0 0),(2,.ptr 1 0 0),(3,.ptr 2 0 0),(4,Qf i),(5,.ref 3 1 0 i),(10,Qf a),(11,Qf q),(12,.ptr 6 0 0),(13,Qf (j'+1:Nat))],iL L k4 cls ae par i++[.var [Qf a,Qf q,Qf 1,.ref 9 1 0 (ay.length+1)],.gone,.arr 1 [[Qf rr]],.arr 1 (ints (ay++[rr]))]⟩) ?_ ?_
      ·rintro s hs;repeat(first|refine Xu ?_)
       refine cL hs ?_;rw[oZ];simp only[dx,eC];((try revert hK K);(repeat'(first|refine Va @zu ?_|(refine V2 @zu ?_ ?_<;>try with_reducible intro hb)|(refine Xi ?_ ?_<;>try intro ht)|refine VD ?_ ?_|exact Xx|fail))<;>try with_reducible intro K hK)
       refine gm _ (j',k4,ay++[rr]) ⟨P2,uN,λx hx=>?_⟩ PW ?_
       ·rcases cG.1 hx with hx|hx
        ·exact v7 x hx
        ·simp only[cV]at hx;subst hx;exact hmul
       ·rw[oZ];simp only[dx,eC];exact Xs false [0,1,2,3,4,5,6,9] X0
      intro QQ key;clear gm fk;refine M8 0 [] [3,5] (.take 0 (.take 1 (.take 2 (.take 3 (.take 4 (.take 5 (.take 6 (.take 7 (.take 8 (.take 9 (.take 10 .nil))))))))))) rfl GS (by decide +kernel) ?_;simp(disch:=omega)only[Ac,↓Pc,simprocAttr,Hc,gz];repeat'(first|with_reducible refine c6 ?_ ?_|omega|with_reducible rfl|(refine Bz (C2) rfl rfl rfl rfl (by(repeat'(first|exact trivial|refine c6 ?_ ?_))<;>first|exact .inl ⟨rfl,rfl⟩|exact .inr ⟨rfl,rfl⟩) ?_;simp(disch:=omega)only[Ac,↓Pc,simprocAttr,Hc,gz,gX])|(refine Bz (O8) rfl rfl rfl rfl (by(repeat'(first|exact trivial|refine c6 ?_ ?_))<;>first|exact .inl ⟨rfl,rfl⟩|exact .inr ⟨rfl,rfl⟩) ?_;simp(disch:=omega)only[Ac,↓Pc,simprocAttr,Hc,gz,gX]))
      all_goals refine key _ ?_
      all_goals rw[oZ]
      all_goals simp only[dx,eC]
      all_goals exact Xv X0
     ·obtain rfl:j=0:=GK;((try revert hK K);(repeat'(first|refine Va X0 ?_|(refine V2 X0 ?_ ?_<;>try with_reducible intro hb)|(refine Xi ?_ ?_<;>try intro ht)|refine VD ?_ ?_|exact Xx|fail))<;>try with_reducible intro K hK)
      refine fk _ _ rfl ?_;clear gm fk mq;repeat(first|refine Xu ?_)
      refine cL (aH.yg 7 6 3 1 (rows:=ints ay) rfl rfl (by rw[x7];rfl) (vh _) (x8 _)) ?_;refine cL (σ':=⟨ao [(0,.ptr 0 0 0),(2,.ptr 1 0 0),(3,.ptr 2 0 0),(4,Qf i),(5,.ref 3 1 0 i),(10,Qf a),(11,Qf q),(12,.ptr 6 0 0)],iL L k cls ae par i++[.var (aI ⟨a,q,1,ay⟩),.gone]⟩) (by rw[oZ];exact Xv @aI.eq_1) ?_;rw[oZ];simp only[dx,eC];have apO:ae.length<100:=GK;((try revert hK K);(repeat'(first|refine Va @aI.eq_1 ?_|(refine V2 @aI.eq_1 ?_ ?_<;>try with_reducible intro hb)|(refine Xi ?_ ?_<;>try intro ht)|refine VD ?_ ?_|exact Xx|fail))<;>try with_reducible intro K hK)
      refine bj _ (q+1,k,ae++[⟨a,q,1,ay⟩]) ⟨⟨PW,PW⟩,hk,⟨by dsimp only;rw[List.map_append,iQ,JT,bE];rfl,by dsimp only;rw[bO];simp only[dq,List.length_nil];omega⟩,λx hx=>?_⟩ PW ?_
      ·rcases cG.1 hx with hx|hx
       ·exact pY x hx
       ·simp only[cV]at hx;subst hx;refine⟨rfl,⟨PW,PW,PW⟩,?_,v7⟩;dsimp only;rw[c7,c7,Ak,F6,O9];omega
      ·rw[oZ];rw[show rowsOf aI ae++[[AV.lit (.int .i64 a),AV.lit (.int .i64 q),AV.lit (.int .i64 1),AV.tree 1 (ints ay)]]=rowsOf aI (ae++[⟨a,q,1,ay⟩]) from pE (enc:=aI) ae ⟨a,q,1,ay⟩];exact Xs false [0,1,2,3,4,9] X0
    ·rw[if_neg OY,nL]at JT;((try revert hK K);(repeat'(first|refine Va (X2 @yI @dg) ?_|(refine V2 (X2 @yI @dg) ?_ ?_<;>try with_reducible intro hb)|(refine Xi ?_ ?_<;>try intro ht)|refine VD ?_ ?_|exact Xx|fail))<;>try with_reducible intro K hK)
     all_goals try(exfalso;omega)
     exact bj _ (q+1,k,ae) ⟨⟨PW,PW⟩,hk,⟨by dsimp only;rw[JT];exact iQ,PW⟩,pY⟩ PW (by rw[oZ];exact Xv X0)
   ·obtain rfl:q=i:=GK;((try revert hK K);(repeat'(first|refine Va X0 ?_|(refine V2 X0 ?_ ?_<;>try with_reducible intro hb)|(refine Xi ?_ ?_<;>try intro ht)|refine VD ?_ ?_|exact Xx|fail))<;>try with_reducible intro K hK)
    refine br _ _ rfl ?_;clear bj br cJ;repeat(first|refine Xu ?_)
    ((try revert hK K);(repeat'(first|refine Va X0 ?_|(refine V2 X0 ?_ ?_<;>try with_reducible intro hb)|(refine Xi ?_ ?_<;>try intro ht)|refine VD ?_ ?_|exact Xx|fail))<;>try with_reducible intro K hK)
    exact ak _ (a+1,k,ae) ⟨PW,hk,⟨by dsimp only;rw[wc];exact iQ,PW⟩,pY⟩ PW (by rw[oZ];exact Xv X0)
  ·obtain rfl:a=i:=GK;rw[oZ];((try revert hK K);(repeat'(first|refine Va X0 ?_|(refine V2 X0 ?_ ?_<;>try with_reducible intro hb)|(refine Xi ?_ ?_<;>try intro ht)|refine VD ?_ ?_|exact Xx|fail))<;>try with_reducible intro K hK)
   refine aq _ _ rfl ?_;clear ak aq Ql;repeat(first|refine Xu ?_)
   ((try revert hK K);(repeat'(first|refine Vb X0 ?_|(refine V2 X0 ?_ ?_<;>try with_reducible intro hb)|(refine Xi ?_ ?_<;>try intro ht)|refine VD ?_ ?_|exact Xx|fail))<;>try with_reducible intro K hK)
   have hTr:DE ⟨cls,ae,[],2⟩ par:=⟨PW,PW,tF,pS,by dsimp only;rw[bK];exact iQ,pY,rfl,rfl⟩;unfold eU;simp only[dI,dE];simp(disch:=omega)only[Ac,↓Pc,simprocAttr];refine⟨_,_,⟨⟨cls,ae,[],2⟩,par,k,hTr,hk,rfl,rfl⟩,?_⟩;refine iD [0] true GS ⟨⟨GM,.inr rfl⟩,trivial⟩ GS GS (aZ.agg _ _ rfl (jE.spec (R:=aZ _ _ _ _) (cs:=an ⟨cls,ae,[],2⟩) (ds:=[.ref 4 1 0 cls.length,.ref 5 4 0 ae.length,.lit (.slice none 0 0),Qf 2]) ⟨?_,?_,.snap _ _ rfl (cQ.nil 4),.pure rfl,trivial⟩).2)
   ·first|exact .pure rfl|exact .eq rfl|exact .fz rfl (by simp only[Bc,Rc])
   ·first|exact .pure rfl|exact .eq rfl|exact .fz rfl (by simp only[Bc,Rc])
def DG(a b:Int×Int):Prop:=a.1<b.1\/(a.1=b.1/\a.2<b.2)
def JU(par:List Int)(i:Nat):∀ c,∀ q∈tE par i c,q.1=(i:Int)/\q.2<((i+1+c:Nat):Int)
 |0,q,h=>by cases h
 |c+1,q,h=>by
  rw[tE,cG]at h;rcases h with h|h
  ·have:=JU par i c q h;omega
  ·split at h
   ·rw[cV]at h;subst h;dsimp only;omega
   ·cases h
def adk(par:List Int)(n:Nat):∀ i,∀ q∈wc par n i,q.1<(i:Int)
 |0,q,h=>by cases h
 |i+1,q,h=>by
  rw[wc,cG]at h;rcases h with h|h
  ·have:=adk par n i q h;omega
  ·have:=(JU par i _ q h).1;omega
def adl(par:List Int)(i:Nat):∀ c,(tE par i c).Pairwise DG
 |0=>.nil
 |c+1=>by
  rw[tE,List.pairwise_append];refine⟨adl par i c,by split<;>simp,λa ha b hb=>?_⟩;have h1:=JU par i c a ha;split at hb
  ·rw[cV]at hb;subst hb;exact .inr ⟨h1.1,h1.2⟩
  ·cases hb
def adm(par:List Int)(n:Nat):∀ i,(wc par n i).Pairwise DG
 |0=>.nil
 |i+1=>by
  rw[wc,List.pairwise_append];refine⟨adm par n i,adl par i _,λa ha b hb=>.inl ?_⟩;have h1:=adk par n i a ha;have h2:=(JU par i _ b hb).1;omega
def adn(par:List Int)(i:Nat):∀ c,(tE par i c).length<=c
 |0=>aY _
 |c+1=>by
  rw[tE,bO];have:=adn par i c;split<;>simp<;>omega
def ado(par:List Int)(n:Nat):∀ i,(wc par n i).length<=i*n
 |0=>by rw[Nat.zero_mul];exact aY _
 |i+1=>by
  rw[wc,bO,Nat.succ_mul];have:=ado par n i;have:=adn par i (n-(i+1));omega
def adp{m:ah}:∀ (l:List Pr) (q:Option Pr),(∀ p∈l,hJ m p=true/\p.ee=1)->l.Pairwise (λa b=>DG (a.fst,a.snd) (b.fst,b.snd))->(∀ p,q=some p->p.ee=1/\∀ x∈l.head?,DG (p.fst,p.snd) (x.fst,x.snd))->fS m q l=true
 |[],q,_,_,_=>by cases q<;>rfl
 |p::r,q,h,hp,hq=>by
  rw[List.pairwise_cons]at hp;have ih:=adp r (some p) (λx hx=>h x (dR _ hx)) hp.2 λy hy=>by
   cases hy;exact⟨(h p GM).2,λx hx=>hp.1 x (List.mem_of_mem_head? hx)⟩
  have h1:=h p GM;cases q with
  |none=>rw[fS,ih,h1.1];rfl
  |some q =>
   rw[fS,ih,h1.1,Bool.and_true,Bool.true_and,decide_eq_true_eq];obtain⟨h2,h3⟩:=hq q rfl;have h4:=h3 p rfl;unfold oh;rw[h2,h1.2];unfold DG at h4;dsimp only at h4;unfold kQ;simp only[rN];repeat' split
   all_goals omega
def DE.vm{m:ah}{par:List Int}(h:DE m par):VM m:=by
 have iP:m.ae.length<=25:=by
  have h1:=congrArg List.length h.fs;rw[List.length_map]at h1;have h2:=ado par m.cls.length m.cls.length;have h3:m.cls.length*m.cls.length<=5*5:=wC h.n.2 h.n.2;omega
 have Ov:m.ae.Pairwise (λa b=>DG (a.fst,a.snd) (b.fst,b.snd)):=by
  have h1:=adm par m.cls.length m.cls.length;rw[<- h.fs,List.pairwise_map]at h1;exact h1
 refine⟨by have:=h.n;omega,λl hl=>by have:=(h.cl l hl).1;omega,GK,by rw[h.ct];decide,by rw[h.ru];decide,λl hl o ho=>?_,adp _ _ (λp hp=>?_) Ov (λp hp=>by cases hp),λc hc=>by rw[h.ct]at hc;cases hc⟩
 ·rcases(h.cl l hl).2 o ho with h1|⟨r,c,h1,h2,h3⟩
  ·rw[h1];rfl
  ·rw[h1,h.ru];unfold eK j8 jO eK;simp;omega
 ·obtain⟨h1,h2,h3,h4⟩:=h.pt p hp;refine⟨?_,h1⟩;unfold hJ j8;rw[h1,h.ru];simp only[bb,Bool.not_eq_true',decide_eq_true_eq];refine⟨⟨GS,GK,h2.2.1,h2.2.2,h3⟩,?_⟩;rw[<- Bool.not_eq_true,List.any_eq_true];rintro⟨x,hx,hb⟩;have:=h4 x hx;unfold pK jO at hb;simp at hb;omega
def DE.Md{m:ah}{par:List Int}(h:DE m par):kW 5 m:=⟨h.vm.mb,h.n.2,λl hl=>by have:=(h.cl l hl).1;omega⟩
def qu:List (List cz)->Nat
 |[]=>1
 |l::r=>max 1 l.length*qu r
def SX:∀ cls:List (List cz),1<=qu cls
 |[]=>aY _
 |l::r=>by
  have:=SX r;rw[qu];exact Nat.mul_pos GK this
def Mb{b:Nat}(hb:1<=b):∀ cls:List (List cz),(∀ l∈cls,l.length<=b)->qu cls<=b^cls.length
 |[],_=>aY _
 |l::r,h=>by
  rw[qu,dq,Nat.pow_succ,Nat.mul_comm];exact wC (Mb hb r λx hx=>h x (dR _ hx)) (by have:=h l GM;omega)
def To(x:List cz):∀ cls:List (List cz),qu (cls++[x])=qu cls*max 1 x.length
 |[]=>by simp[qu]
 |l::r=>by rw[dx,qu,qu,To x r,Nat.mul_assoc]
structure EE(m:ah):Prop where
 om:kW 5 m
 cap:qu m.cls<10000
def EE.of{m:ah}(h:kW 5 m)(h4:∀ l∈m.cls,l.length<=4):EE m :=
 ⟨h,Nat.lt_of_le_of_lt (Mb GS _ h4) (Nat.lt_of_le_of_lt (Nat.pow_le_pow_right GS h.rF) GS)⟩
end T

