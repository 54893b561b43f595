import Derived.Test.YtodilglobhifaaaGreatDoorX36
import Derived.Test.YtodilglobhifaaaGreatDoorX28
set_option linter.all false
set_option maxHeartbeats 0
set_option maxRecDepth 20000
open List renaming mem_append→bE,mem_singleton→bK
open Nat renaming zero_le→aS
open Go Go.Am Go.Proofs
namespace T
def unB{P:Program}{N n0:Nat}{σ:St}{Q:Exit->St->Prop}{x:Code}{id:Nat}(h:∀ Q':Exit->St->Prop,(∀ s,Q .normal s->Q' .normal s)->W P N n0 x Q' σ):W P N n0 x (Bq id Q) σ:=h _ .n
def TC{σ:St}{kp:Nat->Prop}:∀ {l:List AV},(∀ v∈l,(∃ x,v=AV.lit x)\/∃ s r,v=AV.tree s r)->kJ (df σ kp) l l
 |[],_=>trivial
 |v::l,h=>⟨by rcases h v Jy with⟨x,rfl⟩|⟨s,r,rfl⟩;exact .lit _;exact .tree _ _,TC λx hx=>h x (by simp[hx])⟩
def TD{σ:St}{kp:Nat->Prop}:∀ {rows:List (List AV)},(∀ row∈rows,∀ v∈row,(∃ x,v=AV.lit x)\/∃ s r,v=AV.tree s r)->nI (df σ kp) rows rows
 |[],_=>trivial
 |r::rows,h=>⟨TC (h r Jy),TD λx hx=>h x (by simp[hx])⟩
def TE{R:AV->AV->Prop}:∀ {a c:List (List AV)} {b d:List (List AV)},nI R a c->nI R b d->nI R (a++b) (c++d)
 |[],[],_,_,_,k=>k
 |_::_,_::_,_,_,h,k=>⟨h.1,TE h.2 k⟩
 |[],_::_,_,_,h,_=>h.elim
 |_::_,[],_,_,h,_=>h.elim
structure lM(q:Nat)(m:ah):Prop where
 mb:MB m
 oG:m.cls.length<=q
 opt:∀ l∈m.cls,l.length<=25
abbrev OM(m:ah):Prop:=lM 25 m
def lM.mono{q r:Nat}{m:ah}(h:lM q m)(hr:q<=r):lM r m:=⟨h.mb,Nat.le_trans h.oG hr,h.opt⟩
def lM.rules{q:Nat}{m:ah}(h:lM q m)(r:Int):lM q ⟨m.cls,m.aj,m.aI,r⟩:=⟨⟨h.mb.cls,h.mb.opt,h.mb.ch,h.mb.aj,h.mb.bj,h.mb.aI,h.mb.e9⟩,h.oG,h.opt⟩
def lM.aj{q:Nat}{m:ah}(h:lM q m){l:List Pr}(h1:l.length<9223372036854775808)(h2:∀ p∈l,p.bj.length<9223372036854775808):lM q ⟨m.cls,l,m.aI,m.rules⟩:=⟨⟨h.mb.cls,h.mb.opt,h.mb.ch,h1,h2,h.mb.aI,h.mb.e9⟩,h.oG,h.opt⟩
def lM.aI{q:Nat}{m:ah}(h:lM q m){l:List Ct}(h1:l.length<9223372036854775808)(h2:∀ p∈l,p.bQ.length<9223372036854775808):lM q ⟨m.cls,m.aj,l,m.rules⟩:=⟨⟨h.mb.cls,h.mb.opt,h.mb.ch,h.mb.aj,h.mb.bj,h1,h2⟩,h.oG,h.opt⟩
def lM.cls{q:Nat}{m:ah}(h:lM q m)(hq:q<=25){l:List (List bF)}(h1:l.length<=q)(h2:∀ x∈l,x.length<=25/\∀ o∈x,o.ch.length<9223372036854775808):lM q ⟨l,m.aj,m.aI,m.rules⟩ :=
 ⟨⟨aad,λx hx=>by have:=(h2 x hx).1;omega,λx hx=>(h2 x hx).2,h.mb.aj,h.mb.bj,h.mb.aI,h.mb.e9⟩,h1,λx hx=>(h2 x hx).1⟩
def VM.om{m:ah}(h:VM m):OM m:=⟨h.mb,by have:=h.cls;omega,λl hl=>by have:=h.opt l hl;omega⟩
structure OMx(q:Nat)(m m':ah):Prop where
 om:lM (q+1) m'
 cl:m'.cls=m.cls\/∃ x,(∀ o∈x,o.wk<=3)/\m'.cls=m.cls++[x]
structure EM(m:ah)(iu bN:Nat):Prop where
 vm:VM m
 oG:m.cls.length<=iu
 some:∀ l∈m.cls,1<=l.length/\l.length<=2*bN+1
 rP:m.rules=2
 aI:m.aI.length<=2*bN
 wk:∀ l∈m.cls,∀ o∈l,o.wk<=3
def yp(bN:Nat)(l:List bF):Prop:=∀ o∈l,du 2 none o.ch=true/\0<=o.day/\o.day<=1/\o.wk<=3
def yp.app{bN:Nat}{l:List bF}(h:yp bN l){o:bF}(ho:du 2 none o.ch=true/\0<=o.day/\o.day<=1/\o.wk<=3):yp bN (l++[o]):=λx hx=>by
 rcases bE.1 hx with h'|h'
 ·exact h x h'
 ·rw[bK.1 h'];exact ho
def gn:Ob:=.var [.lit (.slice none 0 0),.lit (.slice none 0 0),.lit (.slice none 0 0),aam 0]
def abS(L:List Int)(k:Nat)(iu bN:Nat)(hk:k<=L.length)(hL:L.length<1000000)(hc:iu<=24)(hr:1<=bN/\bN<=11):
  di Tryz.prog 21 [.ptr 0 0 0,aam iu,aam bN] [fV L k] (λr os=>∃ m k',EM m iu bN/\k'<=L.length/\r=.agg (aB m)/\os=[fV L k']):=by
 unfold fV;refine di.aL 105 1 [.cell 6 32] Tryz.func21 ?_;((try revert hK K);(repeat'(first|refine Vb X0 ?_|(refine V2 X0 ?_ ?_<;>try with_reducible intro hb)|(refine Xi ?_ ?_<;>try intro ht)|refine VD ?_ ?_|exact Xx|fail))<;>try with_reducible intro K hK)
 refine fw [0] (j' L k (iu+1) (by unfold eN;omega) hk hL) aac ⟨rfl,trivial⟩ ⟨.eq rfl,.pure rfl,trivial⟩ ?_;have AZ:=ke (L:=L) (k:=k) (n:=iu+1) Bv;have bd:=fQ hk;generalize dX L k (iu+1)=n at *;generalize db L k=k2 at *;clear hk;obtain⟨c0,rfl⟩:∃c0:Nat,n=c0:=⟨n.toNat,Bv⟩;((try revert hK K);(repeat'(first|refine Vb X0 ?_|(refine V2 X0 ?_ ?_<;>try with_reducible intro hb)|(refine Xi ?_ ?_<;>try intro ht)|refine VD ?_ ?_|exact Xx|fail))<;>try with_reducible intro K hK)
 refine aW (λz:Nat×Nat×List (List bF)=>(⟨ao [(0,.ptr 0 0 0),(2,aam bN),(6,.ptr 1 0 0),(7,.ptr 2 0 0),(8,aam z.1)],
   [.var [.tree 1 (ints L),aam z.2.1],gn,.var [.ref 3 1 0 z.2.2.length,.lit (.slice none 0 0),.lit (.slice none 0 0),aam 2],.arr 1 (rowsOf bw z.2.2)]⟩:St))
  (λz=>z.1+z.2.2.length<=iu/\z.2.1<=L.length/\∀ l∈z.2.2,(1<=l.length/\l.length<=2*bN+1)/\yp bN l) (λz=>z.1) (c0,k2,[]) ⟨aak,bd,Jy⟩ ?_ ?_
 ·refine aC.trans (aC.nH 2 0 1 rfl rfl aac) ?_;unfold gn;exact Xv X0
 clear AZ bd;rintro⟨c,k,cls⟩⟨bC,hk,kD⟩Ql an aw;dsimp only at bC hk kD ⊢;by_cases jO:0<c
 ·obtain⟨c',rfl⟩ :∃c',c=c'+1:=⟨c-1,Bv⟩;have iK:((c'+1:Nat):Int)-1=c':=Bv;((try revert hK K);(repeat'(first|refine Va X0 ?_|(refine V2 X0 ?_ ?_<;>try with_reducible intro hb)|(refine Xi ?_ ?_<;>try intro ht)|refine VD ?_ ?_|exact Xx|fail))<;>try with_reducible intro K hK)
  refine aW (λz:Nat×Nat×List bF=>(⟨ao [(0,.ptr 0 0 0),(2,aam bN),(6,.ptr 1 0 0),(7,.ptr 2 0 0),(8,aam (c'+1:Nat)),(9,.ref 4 6 0 z.2.2.length),(10,aam z.1)],
    [.var [.tree 1 (ints L),aam z.2.1],gn,.var [.ref 3 1 0 cls.length,.lit (.slice none 0 0),.lit (.slice none 0 0),aam 2],.arr 1 (rowsOf bw cls),.arr 6 (rowsOf bG z.2.2)]⟩:St))
   (λz=>z.1<=2/\z.2.1<=L.length/\(0<z.1->1<=z.2.2.length)/\z.2.2.length<=z.1*bN/\yp bN z.2.2) (λz=>2-z.1) (0,k,[]) ⟨aS _,hk,λh=>by simp at h,Jy,λo ho=>by simp at ho⟩ ?_ ?_
  ·refine aC.trans (aC.nil 9 6 (by simp only[Kc,simprocAttr]) aac) ?_;exact Xv X0
  clear hk;rintro⟨t,k,l⟩⟨fJ,hk,pN,kR,lN⟩dh bc bz;dsimp only at fJ hk pN kR lN ⊢;by_cases ht2:t<2
  ·have D0:t*bN<=bN:=by
    have:t*bN<=1*bN:=Nat.mul_le_mul_right _ Bv;omega
   have abU:(t+1)*bN=t*bN+bN:=by rw[Nat.add_mul,Nat.one_mul]
   generalize t*bN=tr at *;have m7:=vz L k 3 (by unfold eN;omega) aac hk hL;have zE:=fQ hk;generalize uq L k 3=b1 at *;generalize db L k=ka at *;have ya:(if t=1 then ka else k)<=L.length:=by split<;>omega
   repeat'(first|((fail_if_success (first|refine gx 9 ?_|refine gy 9 ?_));refine Xr X0 ?_;intro K hK)|refine Xo X0 ?_|(refine hK _ ?_;clear hK K)|(refine Xg X0 ?_ ?_<;>try intro hb)|(refine Xi ?_ ?_<;>try intro ht)|refine Xy ?_|refine Xd ?_ ?_|exact Xx|fail)
   (first|refine V0 ?_|refine MF ?_);intro Q0 kK lA
   refine uB ⟨ao [(0,.ptr 0 0 0),(2,aam bN),(6,.ptr 1 0 0),(7,.ptr 2 0 0),(8,aam (c'+1:Nat)),(9,.ref 4 6 0 l.length),(10,aam t)],
    [.var [.tree 1 (ints L),aam (if t=1 then ka else k:Nat)],gn,.var [.ref 3 1 0 cls.length,.lit (.slice none 0 0),.lit (.slice none 0 0),aam 2],.arr 1 (rowsOf bw cls),.arr 6 (rowsOf bG l)]⟩ kK ?_ (λkey=>?_)
   rotate_left
   ·(try clear kK)
    have htt:t=0\/t=1:=Bv;rcases htt with rfl|rfl
    ·((try revert hK K);(repeat'(first|refine Va X0 ?_|(refine V2 X0 ?_ ?_<;>try with_reducible intro hb)|(refine Xi ?_ ?_<;>try intro ht)|refine VD ?_ ?_|exact Xx|fail))<;>try with_reducible intro K hK)
     all_goals try(exfalso;omega)
     refine key _ ?_;rw[if_neg Bv];exact Xv X0
    ·((try revert hK K);(repeat'(first|refine Va X0 ?_|(refine V2 X0 ?_ ?_<;>try with_reducible intro hb)|(refine Xi ?_ ?_<;>try intro ht)|refine VD ?_ ?_|exact Xx|fail))<;>try with_reducible intro K hK)
     all_goals try(exfalso;omega)
     (refine Xn [0] (m7) ?_;simp(disch:=omega)only[Ac,↓Pc,simprocAttr])
     ((try revert hK K);(repeat'(first|refine Va X0 ?_|(refine V2 X0 ?_ ?_<;>try with_reducible intro hb)|(refine Xi ?_ ?_<;>try intro ht)|refine VD ?_ ?_|exact Xx|fail))<;>try with_reducible intro K hK)
     ·refine lA _ _ rfl ?_;repeat(first|refine Xu ?_)
      ((try revert hK K);(repeat'(first|refine Va X0 ?_|(refine V2 X0 ?_ ?_<;>try with_reducible intro hb)|(refine Xi ?_ ?_<;>try intro ht)|refine VD ?_ ?_|exact Xx|fail))<;>try with_reducible intro K hK)
      exact bc _ (2,ka,l) ⟨aad,zE,λ_=>pN Bv,aad,lN⟩ aad (Xv X0)
     ·refine key _ ?_;rw[if_pos rfl];exact Xv X0
   (try clear hn;try clear he;try clear Q;try clear kK;try clear lA;try clear Q0)
   generalize (if t=1 then ka else k)=kx at *;clear m7 zE hk;((try revert hK K);(repeat'(first|refine Va X0 ?_|(refine V2 X0 ?_ ?_<;>try with_reducible intro hb)|(refine Xi ?_ ?_<;>try intro ht)|refine VD ?_ ?_|exact Xx|fail))<;>try with_reducible intro K hK)
   refine fw [0] (yq L kx ya hL) aac ⟨rfl,trivial⟩ ⟨.eq rfl,trivial⟩ ?_;obtain⟨qf,uv,tR⟩:=yr L kx;have hk:=tS ya;generalize jM L kx=cv at *;generalize dm L kx=k at *;clear ya;unfold fV;((try revert hK K);(repeat'(first|refine Va X0 ?_|(refine V2 X0 ?_ ?_<;>try with_reducible intro hb)|(refine Xi ?_ ?_<;>try intro ht)|refine VD ?_ ?_|exact Xx|fail))<;>try with_reducible intro K hK)
   refine aW (λz:Nat×List bF=>(⟨ao [(0,.ptr 0 0 0),(2,aam bN),(6,.ptr 1 0 0),(7,.ptr 2 0 0),(8,aam (c'+1:Nat)),(9,.ref 4 6 0 z.2.length),(10,aam t),(11,aam cv),(12,aam z.1)],
     [.var [.tree 1 (ints L),aam k],gn,.var [.ref 3 1 0 cls.length,.lit (.slice none 0 0),.lit (.slice none 0 0),aam 2],.arr 1 (rowsOf bw cls),.arr 6 (rowsOf bG z.2)]⟩:St))
    (λz=>z.1<=bN/\z.1<=z.2.length/\z.2.length<=tr+z.1/\yp bN z.2) (λz=>bN-z.1) (0,l) ⟨aS _,aS _,aad,lN⟩ (Xv X0) ?_
   clear pN kR lN;rintro⟨r,l⟩⟨re,pN,kR,lN⟩nB g7 gz;dsimp only at re pN kR lN ⊢;by_cases nJ:r<bN
   ·repeat'(first|((fail_if_success (first|refine gx 17 ?_|refine gy 17 ?_));refine Xr X0 ?_;intro K hK)|refine Xo X0 ?_|(refine hK _ ?_;clear hK K)|(refine Xg X0 ?_ ?_<;>try intro hb)|(refine Xi ?_ ?_<;>try intro ht)|refine Xy ?_|refine Xd ?_ ?_|exact Xx|fail)
    ·refine cU (aC.rq 6 5 5 2 (rows:=[[aam 0,aam cv]]) rfl rfl rfl Jy Jy) ?_;refine cU (σ':=⟨ao [(0,.ptr 0 0 0),(2,aam bN),(6,.ptr 1 0 0),(7,.ptr 2 0 0),(8,aam (c'+1:Nat)),(9,.ref 4 6 0 l.length),(10,aam t),(11,aam cv),(12,aam r),(13,.ptr 5 0 0)],
      [.var [.tree 1 (ints L),aam k],gn,.var [.ref 3 1 0 cls.length,.lit (.slice none 0 0),.lit (.slice none 0 0),aam 2],.arr 1 (rowsOf bw cls),.arr 6 (rowsOf bG l),.var (bG ⟨1,t,0,1,r,[(0,cv)]⟩),.gone]⟩) (Xv X0) ?_
     ((try revert hK K);(repeat'(first|refine Va X0 ?_|(refine V2 X0 ?_ ?_<;>try with_reducible intro hb)|(refine Xi ?_ ?_<;>try intro ht)|refine VD ?_ ?_|exact Xx|fail))<;>try with_reducible intro K hK)
     rw[show rowsOf bG l++[[AV.lit (.int .i64 1),AV.lit (.int .i64 t),AV.lit (.int .i64 0),AV.lit (.int .i64 1),AV.lit (.int .i64 r),AV.tree 2 (rowsOf av [(0,cv)])]]=rowsOf bG (l++[⟨1,t,0,1,r,[(0,cv)]⟩]) from nF (enc:=bG) l ⟨1,t,0,1,r,[(0,cv)]⟩];refine g7 _ (r+1,l++[⟨1,t,0,1,r,[(0,cv)]⟩]) ⟨aad,aak,aak,lN.app ⟨?_,aad,aad,by dsimp only;decide⟩⟩ aad (by unfold gn;exact Xs false [0,1,2,3,8] X0);simp only[du,Bool.and_true,Bool.and_eq_true,g6,decide_eq_true_eq];exact⟨Bv,tR Bv⟩
    ·refine cU (aC.nH 5 5 2 rfl rfl aac) ?_;refine cU (aC.rq 6 5 5 2 (rows:=[]) rfl rfl rfl Jy Jy) ?_;refine cU (σ':=⟨ao [(0,.ptr 0 0 0),(2,aam bN),(6,.ptr 1 0 0),(7,.ptr 2 0 0),(8,aam (c'+1:Nat)),(9,.ref 4 6 0 l.length),(10,aam t),(11,aam cv),(12,aam r),(13,.ptr 5 0 0)],
      [.var [.tree 1 (ints L),aam k],gn,.var [.ref 3 1 0 cls.length,.lit (.slice none 0 0),.lit (.slice none 0 0),aam 2],.arr 1 (rowsOf bw cls),.arr 6 (rowsOf bG l),.var (bG ⟨1,t,0,1,r,[]⟩),.gone]⟩) (Xv X0) ?_
     ((try revert hK K);(repeat'(first|refine Va X0 ?_|(refine V2 X0 ?_ ?_<;>try with_reducible intro hb)|(refine Xi ?_ ?_<;>try intro ht)|refine VD ?_ ?_|exact Xx|fail))<;>try with_reducible intro K hK)
     rw[show rowsOf bG l++[[AV.lit (.int .i64 1),AV.lit (.int .i64 t),AV.lit (.int .i64 0),AV.lit (.int .i64 1),AV.lit (.int .i64 r),AV.tree 2 (rowsOf av [])]]=rowsOf bG (l++[⟨1,t,0,1,r,[]⟩]) from nF (enc:=bG) l ⟨1,t,0,1,r,[]⟩];exact g7 _ (r+1,l++[⟨1,t,0,1,r,[]⟩]) ⟨aad,aak,aak,lN.app ⟨rfl,aad,aad,by dsimp only;decide⟩⟩ aad (by unfold gn;exact Xs false [0,1,2,3,8] X0)
   ·((try revert hK K);(repeat'(first|refine Va X0 ?_|(refine V2 X0 ?_ ?_<;>try with_reducible intro hb)|(refine Xi ?_ ?_<;>try intro ht)|refine VD ?_ ?_|exact Xx|fail))<;>try with_reducible intro K hK)
    refine gz _ _ rfl ?_;clear g7 gz nB;repeat(first|refine Xu ?_)
    ((try revert hK K);(repeat'(first|refine Va X0 ?_|(refine V2 X0 ?_ ?_<;>try with_reducible intro hb)|(refine Xi ?_ ?_<;>try intro ht)|refine VD ?_ ?_|exact Xx|fail))<;>try with_reducible intro K hK)
    exact bc _ (t+1,k,l) ⟨aad,hk,λ_=>aad,aad,lN⟩ aad (Xv X0)
  ·obtain rfl:t=2:=Bv;((try revert hK K);(repeat'(first|refine Va X0 ?_|(refine V2 X0 ?_ ?_<;>try with_reducible intro hb)|(refine Xi ?_ ?_<;>try intro ht)|refine VD ?_ ?_|exact Xx|fail))<;>try with_reducible intro K hK)
   refine bz _ _ rfl ?_;clear bc bz dh;repeat(first|refine Xu ?_)
   ((try revert hK K);(repeat'(first|refine Va X0 ?_|(refine V2 X0 ?_ ?_<;>try with_reducible intro hb)|(refine Xi ?_ ?_<;>try intro ht)|refine VD ?_ ?_|exact Xx|fail))<;>try with_reducible intro K hK)
   refine fw [0] (vz L k 3 (by unfold eN;omega) aac hk hL) aac ⟨rfl,trivial⟩ ⟨.eq rfl,.pure rfl,trivial⟩ ?_;have bd:=fQ hk;generalize uq L k 3=b at *;generalize db L k=k2 at *;clear hk;repeat'(first|((fail_if_success (first|refine gx 20 ?_|refine gy 20 ?_));refine Xr X0 ?_;intro K hK)|refine Xo X0 ?_|(refine hK _ ?_;clear hK K)|(refine Xg X0 ?_ ?_<;>try intro hb)|(refine Xi ?_ ?_<;>try intro ht)|refine Xy ?_|refine Xd ?_ ?_|exact Xx|fail)
   ·have e:=nF (enc:=bG) l ⟨2,0,0,1,-1,[]⟩;refine cU (σ':=⟨ao [(0,.ptr 0 0 0),(2,aam bN),(6,.ptr 1 0 0),(7,.ptr 2 0 0),(8,aam (c'+1:Nat)),(9,.tree 6 (rowsOf bG (l++[⟨2,0,0,1,-1,[]⟩])))],
     [.var [.tree 1 (ints L),aam k2],gn,.var [.ref 3 1 0 cls.length,.lit (.slice none 0 0),.lit (.slice none 0 0),aam 2],.arr 1 (rowsOf bw cls)]⟩) ?_ ?_
    ·unfold gn;(refine aC.se [0,1,2,3] true (by simp only[Oc,simprocAttr]) ?_;simp only[Hr,↓reduceIte,Nat.reduceEqDiff,Nat.reduceBEq,Nat.reduceAdd];try(and_intros<;>first|exact .pure rfl|exact .eq rfl|exact .fz rfl (by simp only[Bc,Rc])))
     and_intros
     all_goals first|first|exact .pure rfl|exact .eq rfl|exact .fz rfl (by simp only[Bc,Rc])|skip
     rw[<- e];exact .snap _ _ rfl (df.mk rfl (by simp only[Bc,Rc]) (nE aac) (by rw[e];exact nD _) (TE (TD (sV _)) ⟨⟨.lit _,.lit _,.lit _,.lit _,.lit _,.nil 2,trivial⟩,trivial⟩))
    ((try revert hK K);(repeat'(first|refine Va @iK ?_|(refine V2 @iK ?_ ?_<;>try with_reducible intro hb)|(refine Xi ?_ ?_<;>try intro ht)|refine VD ?_ ?_|exact Xx|fail))<;>try with_reducible intro K hK)
    have e2:=nF (enc:=bw) cls (l++[(⟨2,0,0,1,-1,[]⟩:bF)]);simp only[bw]at e2;rw[e2];refine an _ (c',k2,cls++[l++[⟨2,0,0,1,-1,[]⟩]]) ⟨aak,bd,λx hx=>?_⟩ aad (by unfold gn;exact Xs false [0,1,2,5] X0);rcases bE.1 hx with h|h
    ·exact kD x h
    ·rw[bK.1 h];exact⟨aak,lN.app ⟨rfl,aac,aac,aac⟩⟩
   ·refine cU (σ':=⟨ao [(0,.ptr 0 0 0),(2,aam bN),(6,.ptr 1 0 0),(7,.ptr 2 0 0),(8,aam (c'+1:Nat)),(9,.tree 6 (rowsOf bG l))],
     [.var [.tree 1 (ints L),aam k2],gn,.var [.ref 3 1 0 cls.length,.lit (.slice none 0 0),.lit (.slice none 0 0),aam 2],.arr 1 (rowsOf bw cls)]⟩) (by unfold gn;exact Xs true [0,1,2,3] X0) ?_
    ((try revert hK K);(repeat'(first|refine Va @iK ?_|(refine V2 @iK ?_ ?_<;>try with_reducible intro hb)|(refine Xi ?_ ?_<;>try intro ht)|refine VD ?_ ?_|exact Xx|fail))<;>try with_reducible intro K hK)
    rw[show rowsOf bw cls++[[AV.tree 6 (rowsOf bG l)]]=rowsOf bw (cls++[l]) from nF (enc:=bw) cls l];refine an _ (c',k2,cls++[l]) ⟨aak,bd,λx hx=>?_⟩ aad (by unfold gn;exact Xs false [0,1,2,5] X0);rcases bE.1 hx with h|h
    ·exact kD x h
    ·rw[bK.1 h];exact⟨Bv,lN⟩
 obtain rfl:c=0:=Bv;((try revert hK K);(repeat'(first|refine Va X0 ?_|(refine V2 X0 ?_ ?_<;>try with_reducible intro hb)|(refine Xi ?_ ?_<;>try intro ht)|refine VD ?_ ?_|exact Xx|fail))<;>try with_reducible intro K hK)
 refine aw _ _ rfl ?_;clear an aw Ql;repeat(first|refine Xu ?_)
 refine cU (aC.rq 3 2 0 1 rfl rfl (by rw[cK];rfl) (nD _) (sV _)) ?_;refine cU (aC.nH 2 1 4 rfl rfl aac) ?_;refine cU (σ':=⟨ao [(0,.ptr 0 0 0),(2,aam bN),(6,.ptr 1 0 0),(7,.ptr 2 0 0)],
   [.var [.tree 1 (ints L),aam k],gn,.var [.tree 1 (rowsOf bw cls),.ref 4 4 0 0,.lit (.slice none 0 0),aam 2],.gone,.arr 4 (rowsOf aO [])]⟩) (by unfold gn;exact Xv X0) ?_
 refine cU (σ':=⟨ao [(0,.ptr 0 0 0),(2,aam bN),(6,.ptr 1 0 0),(7,.ptr 2 0 0)],
   [.var [.tree 1 (ints L),aam k],gn,.var [.tree 1 (rowsOf bw cls),.ref 3 4 0 0,.lit (.slice none 0 0),aam 2],.arr 4 (rowsOf aO [])]⟩) (by unfold gn;exact Xs false [0,1,2,4] X0) ?_
 have Ix:∀ l∈cls,l.length<=24/\∀ o∈l,0<=o.day/\o.day<=1:=λl hl=>by
  have h1:=kD l hl;exact⟨Bv,λo ho=>⟨(h1.2 o ho).2.1,(h1.2 o ho).2.2.1⟩⟩
 ((try revert hK K);(repeat'(first|refine Va X0 ?_|(refine V2 X0 ?_ ?_<;>try with_reducible intro hb)|(refine Xi ?_ ?_<;>try intro ht)|refine VD ?_ ?_|exact Xx|fail))<;>try with_reducible intro K hK)
 refine aW (λz:Nat×Nat×List Pr=>(⟨ao [(0,.ptr 0 0 0),(2,aam bN),(6,.ptr 1 0 0),(7,.ptr 2 0 0),(14,aam z.1)],
   [.var [.tree 1 (ints L),aam z.2.1],gn,.var [.tree 1 (rowsOf bw cls),.ref 3 4 0 z.2.2.length,.lit (.slice none 0 0),aam 2],.arr 4 (rowsOf aO z.2.2)]⟩:St))
  (λz=>z.1<=cls.length/\z.2.1<=L.length/\qD cls 2 z.2.2 1 z.1 0) (λz=>cls.length-z.1) (0,k,[]) ⟨aS _,hk,rfl,Jy,Jy⟩ (Xv X0) ?_
 clear hk;rintro⟨i,k,aj⟩⟨hi,hk,hP⟩Ql an aw;dsimp only at hi hk hP ⊢;by_cases hi':i<cls.length
 ·((try revert hK K);(repeat'(first|refine Va X0 ?_|(refine V2 X0 ?_ ?_<;>try with_reducible intro hb)|(refine Xi ?_ ?_<;>try intro ht)|refine VD ?_ ?_|exact Xx|fail))<;>try with_reducible intro K hK)
  refine aW (λz:Nat×Nat×List Pr=>(⟨ao [(0,.ptr 0 0 0),(2,aam bN),(6,.ptr 1 0 0),(7,.ptr 2 0 0),(14,aam i),(15,aam z.1)],
    [.var [.tree 1 (ints L),aam z.2.1],gn,.var [.tree 1 (rowsOf bw cls),.ref 3 4 0 z.2.2.length,.lit (.slice none 0 0),aam 2],.arr 4 (rowsOf aO z.2.2)]⟩:St))
   (λz=>i<z.1/\z.1<=cls.length/\z.2.1<=L.length/\qD cls 2 z.2.2 1 i z.1) (λz=>cls.length-z.1) (i+1,k,aj) ⟨aad,aad,hk,hP.mono Bv Bv⟩ (Xv X0) ?_
  clear hk hP;rintro⟨j,k,aj⟩⟨oJ,hj,hk,hP⟩dh bc bz;dsimp only at oJ hj hk hP ⊢;by_cases eF:j<cls.length
  ·have eL:=hP.len;have TF:=abW L k cls aj 2 i j hk hL hi' eF Bv Ix;obtain⟨xi,mz⟩:=TG L k (cls.getD i default) (cls.getD j default);have bd:=abX hk;generalize wH L k (cls.getD i default) (cls.getD j default)=bj at *;generalize D1 L k=k2 at *;unfold fV at TF;repeat'(first|((fail_if_success (first|refine gx 27 ?_|refine gy 27 ?_));refine Xr X0 ?_;intro K hK)|refine Xo X0 ?_|(refine hK _ ?_;clear hK K)|(refine Xg X0 ?_ ?_<;>try intro hb)|(refine Xi ?_ ?_<;>try intro ht)|refine Xy ?_|refine Xd ?_ ?_|exact Xx|fail)
   have e:=nF (enc:=aO) aj ⟨i,j,1,bj⟩;simp only[aO]at e;refine unB ?_;intro Qb iU;refine uB ⟨ao [(0,.ptr 0 0 0),(2,aam bN),(6,.ptr 1 0 0),(7,.ptr 2 0 0),(14,aam i),(15,aam j)],
    [.var [.tree 1 (ints L),aam k2],gn,.var [.tree 1 (rowsOf bw cls),.ref 3 4 0 (aj.length+1),.lit (.slice none 0 0),aam 2],.arr 4 (rowsOf aO (aj++[⟨i,j,1,bj⟩]))]⟩ (λs h=>iU _ (hn _ h)) ?_ (λkey=>?_)
   rotate_left
   ·refine ln [] (.take 2 (.take 3 (.take 4 (.take 5 (.both 0 (.both 1 (.take 6 (.take 7 (.take 8 (.take 9 (.take 10 .nil))))) 6 (.take 1 (.take 7 (.take 8 (.take 9 (.take 10 .nil)))))) 6 (.take 0 (.take 1 (.take 7 (.take 8 (.take 9 (.take 10 .nil))))))))))) rfl aac (by decide +kernel) ?_;simp(disch:=omega)only[Ac,↓Pc,simprocAttr,Pw];repeat'(first|with_reducible refine And.intro ?_ ?_|omega|with_reducible rfl)
    all_goals
     (refine Xn [0,3] (TF) ?_;simp(disch:=omega)only[Ac,↓Pc,simprocAttr,Pw])
     repeat'(first|with_reducible refine And.intro ?_ ?_|omega|with_reducible rfl)
    all_goals
     rw[e];refine key _ ?_;unfold gn;exact Xs false [0,1,2,5] X0
   ((try revert hK K);(repeat'(first|refine Va X0 ?_|(refine V2 X0 ?_ ?_<;>try with_reducible intro hb)|(refine Xi ?_ ?_<;>try intro ht)|refine VD ?_ ?_|exact Xx|fail))<;>try with_reducible intro K hK)
   refine bc _ (j+1,k2,aj++[⟨i,j,1,bj⟩]) ⟨aad,aad,bd,hP.app (RB aac oJ eF mz xi)⟩ aad (by unfold gn;exact Xs false [0,1,2,3] X0)
  ·((try revert hK K);(repeat'(first|refine Va X0 ?_|(refine V2 X0 ?_ ?_<;>try with_reducible intro hb)|(refine Xi ?_ ?_<;>try intro ht)|refine VD ?_ ?_|exact Xx|fail))<;>try with_reducible intro K hK)
   refine bz _ _ rfl ?_;clear bc bz dh;repeat(first|refine Xu ?_)
   ((try revert hK K);(repeat'(first|refine Va X0 ?_|(refine V2 X0 ?_ ?_<;>try with_reducible intro hb)|(refine Xi ?_ ?_<;>try intro ht)|refine VD ?_ ?_|exact Xx|fail))<;>try with_reducible intro K hK)
   exact an _ (i+1,k,aj) ⟨aad,hk,hP.mono Bv Bv⟩ aad (Xv X0)
 have Iy:=hP.ok;have Iz:aj.length<=4000:=by have:=hP.len;omega
 ((try revert hK K);(repeat'(first|refine Va X0 ?_|(refine V2 X0 ?_ ?_<;>try with_reducible intro hb)|(refine Xi ?_ ?_<;>try intro ht)|refine VD ?_ ?_|exact Xx|fail))<;>try with_reducible intro K hK)
 refine aw _ _ rfl ?_;clear an aw Ql;repeat(first|refine Xu ?_)
 refine cU (aC.rq 3 2 1 4 rfl rfl (by rw[cK];rfl) (nD _) (sV _)) ?_;refine cU (aC.nH 2 2 4 rfl rfl aac) ?_;refine cU (aC.rq 4 2 2 4 (rows:=[]) rfl rfl rfl Jy Jy) ?_;refine cU (σ':=⟨ao [(0,.ptr 0 0 0),(2,aam bN),(6,.ptr 1 0 0),(7,.ptr 2 0 0)],
   [.var [.tree 1 (ints L),aam k],gn,.var (aB ⟨cls,aj,[],2⟩),.gone,.gone]⟩) (by unfold gn;exact Xv X0) ?_
 refine cU (σ':=⟨ao [(0,.ptr 0 0 0),(2,aam bN),(6,.ptr 1 0 0),(7,.ptr 2 0 0)],
   [.var [.tree 1 (ints L),aam k],gn,.var (aB ⟨cls,aj,[],2⟩)]⟩) (by unfold gn;exact Xs false [0,1,2] X0) ?_
 ((try revert hK K);(repeat'(first|refine Va X0 ?_|(refine V2 X0 ?_ ?_<;>try with_reducible intro hb)|(refine Xi ?_ ?_<;>try intro ht)|refine VD ?_ ?_|exact Xx|fail))<;>try with_reducible intro K hK)
 have m7:=vz L k 2 (by unfold eN;omega) aac hk hL;have bd:=fQ hk;generalize uq L k 2=b at *;generalize db L k=k2 at *;clear hk;have abY:∀ l∈cls,l.length<=24:=λl hl=>(Ix l hl).1;have kA:∀ aI:List Ct,aI.length<=2*bN->(∀ c∈aI,fP ⟨cls,[],[],2⟩ c=true)->EM ⟨cls,aj,aI,2⟩ iu bN:=λaI h1 h2 =>
  ⟨⟨aad,λl hl=>(Ix l hl).1,Iz,aad,aad,λl hl o ho=>((kD l hl).2 o ho).1,(Hf _ _).trans Iy,λc hc=>(Rz _).trans (h2 c hc)⟩,aad,λl hl=>(kD l hl).1,rfl,h1,λl hl o ho=>((kD l hl).2 o ho).2.2.2⟩
 unfold gn;(refine Xn [0] (m7) ?_;simp(disch:=omega)only[Ac,↓Pc,simprocAttr])
 repeat'(first|((fail_if_success (first|refine gx 29 ?_|refine gy 29 ?_));refine Xr X0 ?_;intro K hK)|refine Xo X0 ?_|(refine hK _ ?_;clear hK K)|(refine Xg X0 ?_ ?_<;>try intro hb)|(refine Xi ?_ ?_<;>try intro ht)|refine Xy ?_|refine Xd ?_ ?_|exact Xx|fail)
 ·have TH:=abZ L k2 ⟨cls,aj,[],2⟩ bN bd hL aad Bv (by show(1:Int)<2;decide) abY;refine pe 3 aac _ rfl ?_;intro K hK;simp(disch:=omega)only[Ac,↓Pc,simprocAttr,List.take,List.drop];refine⟨rfl,(show jS Tryz.prog 48 [.ptr 0 0 0,.agg (aB ⟨cls,aj,[],2⟩),aam bN] (some 102) _ _ from ?_)⟩;unfold fV at TH;refine Cm [0] TH aac ⟨rfl,trivial⟩ ⟨.eq rfl,.pure rfl,.pure rfl,trivial⟩ ?_;rintro r os⟨aI,k3,iW,cz,nW,rfl,rfl⟩;simp(disch:=omega)only[Ac,↓Pc,simprocAttr];refine hK _ ?_;clear hK K;repeat(first|refine Xu ?_)
  ((try revert hK K);(repeat'(first|refine Va X0 ?_|(refine V2 X0 ?_ ?_<;>try with_reducible intro hb)|(refine Xi ?_ ?_<;>try intro ht)|refine VD ?_ ?_|exact Xx|fail))<;>try with_reducible intro K hK)
  unfold jm;simp only[fc,eM];simp(disch:=omega)only[Ac,↓Pc,simprocAttr];refine⟨_,_,⟨⟨cls,aj,aI,2⟩,k3,kA aI cz nW,iW,rfl,rfl⟩,?_⟩;exact Xw true [0] X0
 ·unfold jm;simp only[fc,eM];simp(disch:=omega)only[Ac,↓Pc,simprocAttr];refine⟨_,_,⟨⟨cls,aj,[],2⟩,k2,kA [] Jy Jy,bd,rfl,rfl⟩,?_⟩;exact Xw true [0] X0
end T

