import Derived.Test.YtfoopmojjjpapaaGreatX17
import Derived.Test.YtfoopmojjjpapaaGreatX24
import Derived.Test.YtfoopmojjjpapaaGreatX20
set_option linter.all false
set_option maxHeartbeats 0
set_option maxRecDepth 20000
open List renaming length→jB,getElem?_map→bY,getElem?_set→bU,getD_eq_getElem?_getD→az
open Option renaming some→cy
open Bool renaming and_eq_true→a7
open Nat renaming reduceBEq→qZ,zero_le→aS
open Go Go.Am Go.Proofs
namespace T
def yP(w o:Nat):List Bool:=(List.replicate w false).set o true
def mB(left:List (List Bool))(c o:Nat):List (List Bool):=left.set c (yP (left.getD c default).length o)
def abf(w o:Nat):(yP w o).length=w:=by simp[yP]
def abL(left:List (List Bool))(c o:Nat):(mB left c o).map jB=left.map jB:=by
 unfold mB;apply List.ext_getElem?;intro j;rw[bY,bY,bU];split
 ·rename_i e;subst e;split
  ·rename_i h2;rw[List.getElem?_eq_getElem h2];simp[abf,h2]
  ·rename_i h2;rw[List.getElem?_eq_none CZ]
 ·rfl
def ak9{σ:St}{kp:Nat->Prop}{c d:List AV}(h:∀ v∈c,(∃ x,v=AV.lit x)\/∃ s r,v=AV.tree s r)(e:d=c):nS (dU σ kp) c d:=by
 subst e
 induction d with
 |nil=>trivial
 |cons v l ih =>
  refine⟨?_,ih λx hx=>h x (by simp[hx])⟩;rcases h v Fl with⟨x,rfl⟩|⟨s,r,rfl⟩
  ·exact .lit _
  ·exact .tree _ _
def aj'{σ:St}{kp:Nat->Prop}{oi k c:Nat}{left:List (List Bool)}{r:List Bool}(hc:c<left.length)(ho:σ.aa[oi]?=some (.arr 1 ((rowsOf aE left).set c [.ref k 1 0 r.length])))(hk:¬ kp oi)(hr:σ.aa[k]?=some (.arr 1 (br r)))(zg:¬ kp k):
  dU σ kp (.tree 1 (rowsOf aE (left.set c r))) (.ref oi 1 0 left.length) :=
 dU.mk ho (by simp[rowsOf]) hk (pw _) (tX.H0 (f:=λ_=>[]) (g:=λ_=>[]) (by simp[rowsOf]) λj x d hx hd=>by
  unfold rowsOf at hx hd;rw[bY,bU]at hx;rw[bU]at hd;by_cases e:c=j
  ·subst e;rw[if_pos rfl,if_pos hc]at hx;rw[if_pos rfl,if_pos (by simpa using hc)]at hd;cases hx;cases hd;exact⟨X' hr zg,trivial⟩
  ·rw[if_neg e]at hx hd;rw[bY]at hd;rw[hx]at hd;simp only[cy.injEq]at hd;cases hl:left[j]? with
   |none=>rw[hl]at hx;cases hx
   |some y =>
    rw[hl]at hx;simp only[Option.map_some,cy.injEq]at hx;subst hx;exact ak9 (λv hv=>by simp only[aE,List.mem_singleton]at hv;exact .inr ⟨_,_,hv⟩) hd.symm)
def DX(dS:List Bool)(r:Int):Bool:=dS.getD r.toNat false
def Cut(dS:List Bool)(a b:List Int):Prop:=b.length=a.length/\∀ i:Nat,b.getD i 0=if DX dS i=true then a.getD i 0 else 0
def Cut.add{dS:List Bool}{a b:List Int}(h:Cut dS a b){r c:Int}(hr:0<=r):Cut dS (iF a r c) (if DX dS r=true then iF b r c else b):=by
 have gU:((r.toNat:Nat):Int)=r:=Int.toNat_of_nonneg hr;refine⟨by split<;>simp only[iF,List.length_set]<;>exact h.1,λi=>?_⟩;have hi:=h.2 i;have vb:=h.2 r.toNat;rw[gU]at vb;by_cases hk:DX dS r=true
 ·rw[if_pos hk];rw[if_pos hk]at vb;rw[iF,iF,yJ,yJ,vb,h.1];by_cases mW:r.toNat=i/\i<a.length
  ·rw[if_pos mW,if_pos mW,if_pos];rw[<- mW.1,gU];exact hk
  ·rw[if_neg mW,if_neg mW];exact hi
 ·rw[if_neg hk,iF,yJ];by_cases mW:r.toNat=i/\i<a.length
  ·rw[if_pos mW];rw[<- mW.1,gU,if_neg hk]at hi;rw[<- mW.1,gU,if_neg hk];exact hi
  ·rw[if_neg mW];exact hi
def ak'{a b c:Pr}(h:nm a b<0)(k:nm b c<0):nm a c<0:=by
 rw[Mw]at *;omega
def ala{m:aj}{q q':Option Pr}(h:∀ y,q'=some y->∃ x,q=some x/\(∀ c,nm x c<0->nm y c<0)):∀ {l:List Pr},gp m q l=true->gp m q' l=true
 |[],_=>by cases q'<;>rfl
 |c::r,hl=>by
  rw[gp.eq_def]at hl ⊢;simp only[a7]at hl ⊢;refine⟨⟨hl.1.1,?_⟩,hl.2⟩;cases q' with
  |none=>rfl
  |some y =>
   obtain⟨x,rfl,hx⟩:=h y rfl;have:=hl.1.2;simp only[decide_eq_true_eq]at this ⊢;exact hx c this
def Ny{m:aj}(p:Pr->Bool):∀ {l:List Pr} {q:Option Pr},gp m q l=true->gp m q (l.filter p)=true
 |[],q,h=>h
 |c::r,q,h=>by
  rw[gp.eq_def]at h;simp only[a7]at h;rw[List.filter_cons];split
  ·rw[gp.eq_def];simp only[a7];exact⟨h.1,Ny p h.2⟩
  ·refine ala (q:=some c) (λy hy=>⟨c,rfl,λd hd=>?_⟩) (Ny p h.2);subst hy;have:=h.1.2;simp only[decide_eq_true_eq]at this;exact ak' this hd
def ahA(xs:List Int)(hl:xs.length<549755813888):Holds Tryz.prog 69 [.tree 1 (ints xs)] [] (.tree 1 (ints xs)) []:=by
 rcases Nat.eq_zero_or_pos xs.length with h|h
 ·obtain rfl:=List.eq_nil_of_length_eq_zero h;refine Holds.empty (pre:=[]) (post:=[]) (λa cap=>?_);rw[List.nil_append];cases a with
  |none =>
   refine Holds.aQ 8 0 [.tmp 2] Tryz.func69 ?_;((repeat'(first|refine Vb @Option.isNone_none.{0} ?_|(refine Xi ?_ ?_<;>try intro ht)|exact Xx|fail)))
   all_goals first|(refine xS [] true Fs trivial Fs Fs ?_;exact cC.nil)|(exfalso;simp at *;done)
  |some ad =>
   refine Holds.aQ 8 0 [.tmp 2] Tryz.func69 ?_;refine Kd Fs ?_;intro K hK;simp(disch:=omega)only[Ac,↓Pc,simprocAttr];refine hK _ ?_;clear hK K;refine Wk ?_;intro Q hn he;((refine Kd Fs ?_);intro K hK;simp(disch:=omega)only[Ac,↓Pc,simprocAttr,Option.isNone_some];skip);(refine hK _ ?_;clear hK K)
   refine Rg (t:=false) (by simp only[r8,Lc,↓reduceIte,Nat.reduceEqDiff,qZ]) (λht=>by simp at ht) (λht=>?_);refine Rf ?_;refine hn _ ?_;(try clear hn;try clear he;try clear Q;clear ht)
   refine df (aH.afo 0 1 (by(simp only[r8,uJ,Rc,↓reduceIte,Nat.reduceEqDiff,qZ,ev,eh,St.put];exact rfl))) ?_;refine Vb (X3 @List.length_nil.{0} @List.append_nil.{0} @List.all_nil.{0}) ?_;refine xS [] true Fs trivial Fs Fs ?_;exact cC.cJ (rows:=[]) rfl Fl rfl (rY Fs) Fl
 ·refine Holds.aQ 8 0 [.tmp 2] Tryz.func69 ?_;((repeat'(first|refine Vb @FJ ?_|(refine Xi ?_ ?_<;>try intro ht)|exact Xx|fail)))
  exact Xw true [] X0
def Nz(c:Int)(p:Pr):Bool:=decide (p.fst≠c/\p.snd≠c)
def wv(m:aj)(c:Int):aj:=⟨m.cls.set c.toNat [],m.ae.filter (Nz c),[],m.rules⟩
def alb{m:aj}(hm:VM m){c:Int}(hc:0<=c):VM (wv m c):=by
 have cD:∀ l∈(wv m c).cls,l=[]\/l∈m.cls:=λl hl=>(List.mem_or_eq_of_mem_set hl).symm;have key:∀ (l:List Pr) (q:Option Pr),(∀ p∈l,Nz c p=true)->gp m q l=true->gp (wv m c) q l=true:=by
  intro l
  induction l with
  |nil=>intro q _ _;cases q<;>rfl
  |cons p r ih =>
   intro q ho h;rw[gp.eq_def]at h ⊢;simp only[a7]at h ⊢;obtain⟨⟨a,b⟩,d⟩:=h;have hp:=ho p Fl;unfold Nz at hp;rw[decide_eq_true_eq]at hp;refine⟨⟨?_,b⟩,ih _ (λx hx=>ho x (by simp[hx])) d⟩;have e:∀ x:Int,0<=x->x≠c->(wv m c).cls.getD x.toNat default=m.cls.getD x.toNat default:=λx h0 hx=>by
    unfold wv;dsimp only;rw[az,List.getElem?_set_ne CZ,<- az]
   have q:=(qI a).2;unfold iD at *;rw[e _ q.1 hp.1,e _ CZ hp.2,show(wv m c).cls.length=m.cls.length by unfold wv;simp];exact a
 refine⟨by unfold wv;simpa using hm.cls,λl hl=>?_,Nat.le_trans (List.length_filter_le _ _) hm.ae,aS _,hm.uC,λl hl o ho=>?_,key _ _ (λp hp=>(List.mem_filter.1 hp).2) (Ny _ hm.pr),λc hc=>by cases hc⟩
 ·rcases cD l hl with rfl|h
  ·exact aS _
  ·exact hm.opt l h
 ·rcases cD l hl with rfl|h
  ·cases ho
  ·exact hm.rp l h o ho
end T

