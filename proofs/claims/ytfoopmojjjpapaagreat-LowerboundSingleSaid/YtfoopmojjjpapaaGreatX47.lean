import Derived.Test.YtfoopmojjjpapaaGreatX45
import Derived.Test.YtfoopmojjjpapaaGreatX46
set_option linter.all false
set_option maxHeartbeats 0
set_option maxRecDepth 20000
open Nat renaming strongRecOn→As,le_refl→aY
open Int renaming toNat_natCast→c7,min_eq_left→Kr
open List renaming any_eq_false→Az,getD_eq_getElem?_getD→az,map_cons→ei,nodup_cons→mX,mem_map→bW,range→bu,mem_range→oF,count_eq_zero→Qg,length→jB,ext_getElem?→kY,getElem?_map→bI,getElem?_set→bU,getElem?_eq_getElem→bF,getElem?_eq_none→dK
open Go Go.Am
namespace T
def wo(m:ah)(P:List Nd)(up:dH)(k:Nat):List (List Bool):=p7 P (lA up k) (cI m)
def ael{P:List Nd}{i o:Nat}{up:dH}(h:UI P i o up):∀ k,k<P.length->∀ a∈lA up k,∃ p q:Nat,a=((p:Int),(q:Int))/\p<k/\q<(nd P p).kids.length:=by
 intro k
 induction k using As with
 |_ k ih =>
  intro hk a ha;rw[DK h hk]at ha;rcases h.low k hk with h1|⟨p,q,h1,h2,h3,_⟩
  ·rw[h1,if_neg GS]at ha;cases ha
  ·rw[h1,if_pos PW]at ha;rcases List.mem_cons.1 ha with rfl|ha
   ·exact⟨p,q,rfl,h2,h3⟩
   ·dsimp only at ha;rw[c7]at ha;obtain⟨p',q',e1,e2,e3⟩:=ih p h2 GK a ha;exact⟨p',q',e1,GK,e3⟩
def J5{m:ah}{P:List Nd}(h:jh m P=true){p:Nat}(hp:p<P.length){q:Nat}(hq:q<(nd P p).kids.length):0<=(nd P p).cls/\(nd P p).cls<m.cls.length:=by
 have xq:=Fq h hp;unfold kL at xq;rw[Bool.and_eq_true]at xq;have h1:=xq.1;by_cases hc:(nd P p).cls = -1
 ·have:=Pz h1 hc;omega
 ·unfold mg at h1;rw[if_neg hc,decide_eq_true_eq]at h1;exact⟨h1.1,h1.2.1⟩
def aem{m:ah}{P:List Nd}{up:dH}(h:nJ m P=some up):∀ v∈vs P (root m),v.2.2.contains (nd P v.1).cls=false:=by
 intro v hv;have hs:=DI h;have hl:=xy hs;have hd:=wY hs;have vX:=IW hd _ (root m) (show 0<P.length by omega) v hv;obtain⟨u,w,hu,hw⟩:=aeh (Gv h).2 v.1 vX;have jn:=Ao _ _ GK hu;have kF:=J8 hd jn GK v hv GK;rw[<- PD kF];by_cases hc:(nd P v.1).cls = -1
 ·unfold qR;rw[Az];intro a ha;obtain⟨p,q,e1,e2,e3⟩:=ael jn v.1 vX a ha;subst e1;have:=J5 hs (show p<P.length by omega) e3;dsimp only;rw[c7,hc,beq_iff_eq];omega
 ·exact(PA hw).2.2.1 hc
def aoj(x:List (List Bool)){a b:Nat}(h:a≠b)(o q:Nat):gZ (gZ x a o) b q=gZ (gZ x b q) a o:=by
 have g:∀ {a b:Nat} (r:List Bool),a≠b->(x.set a r).getD b default=x.getD b default:=λr h=>by
  rw[az,List.getElem?_set_ne h,<- az]
 unfold gZ;rw[g _ h,g _ (Ne.symm h)];exact List.set_comm _ _ h
def yY(P:List Nd)(l:dH):List Nat:=l.map λa=>(nd P a.1.toNat).cls.toNat
def aok{P:List Nd}(a:Int×Int):∀ (l:dH) (x:List (List Bool)),(nd P a.1.toNat).cls.toNat ∉ yY P l->p7 P (l++[a]) x=p7 P (a::l) x:=by
 intro l
 induction l with
 |nil=>intro x _;rfl
 |cons b l ih =>
  intro x hx;have h1:(nd P b.1.toNat).cls.toNat≠(nd P a.1.toNat).cls.toNat:=λe=>hx (by unfold yY;rw[ei,e];simp);have h2:(nd P a.1.toNat).cls.toNat ∉ yY P l:=λe=>hx (by unfold yY at e ⊢;rw[ei];exact List.mem_cons_of_mem _ e);show p7 P (l++[a]) (gZ x _ _)=p7 P l (gZ (gZ x _ _) _ _);rw[ih _ h2];show p7 P l (gZ (gZ x _ _) _ _)=_;rw[aoj x h1]
def aol{P:List Nd}:∀ (l:dH) (x:List (List Bool)),(yY P l).Nodup->p7 P l.reverse x=p7 P l x:=by
 intro l
 induction l with
 |nil=>intro x _;rfl
 |cons b l ih =>
  intro x hx;unfold yY at hx;rw[ei,mX]at hx;rw[List.reverse_cons,aok b _ x (λhm=>hx.1 (by unfold yY at hm;rw[List.map_reverse,List.mem_reverse]at hm;exact hm))];show p7 P l.reverse (gZ x _ _)=p7 P l (gZ x _ _);exact ih _ hx.2
def aom{m:ah}{P:List Nd}{up:dH}(h:nJ m P=some up):∀ k,k<P.length->(yY P (lA up k)).Nodup:=by
 have hs:=DI h;have hl:=xy hs;have hd:=wY hs;have jn:=Ao _ _ (aY _) (Gv h).2;intro k
 induction k using As with
 |_ k ih =>
  intro hk;rw[DK jn hk];rcases jn.low k hk with h1|⟨p,q,h1,h2,h3,_⟩
  ·rw[h1,if_neg GS];exact List.nodup_nil
  ·rw[h1,if_pos PW];unfold yY;dsimp only;rw[ei,mX,c7];refine⟨λhm=>?_,ih p h2 GK⟩;obtain⟨a,ha,e⟩:=bW.1 hm;obtain⟨v,hv,PE⟩:=aej hs (show p<P.length by omega);have kE:=aem h v hv;rw[<- PD (J8 hd jn GK v hv GK),PE]at kE;unfold qR at kE;rw[Az]at kE;have:=kE a ha;obtain⟨p',q',e1,e2,e3⟩:=ael jn p GK a ha;subst e1;have c1:=J5 hs (show p'<P.length by omega) e3;have c2:=J5 hs (show p<P.length by omega) h3;dsimp only at e this;rw[c7]at e this;rw[beq_iff_eq]at this;omega
def aon{m:ah}{P:List Nd}{up:dH}(h:nJ m P=some up):∀ v∈vs P (root m),wo m P up v.1=v.2.1:=by
 intro v hv;have hs:=DI h;have hl:=xy hs;have hd:=wY hs;have jn:=Ao _ _ (aY _) (Gv h).2;have vX:=IW hd _ (root m) (show 0<P.length by omega) v hv;rw[(J8 hd jn GK v hv GK).2,aol _ _ (aom h _ vX)];rfl
def xR(m:ah)(x:Nd)(left:List (List Bool)):Option Int :=
 if x.cls≠-1 then some 1099511627776
 else if 0<x.a7.length then(if mh m x left=true then some 1099511627776 else none)
 else if(gH m left x.c9).2=0 then some (gH m left x.c9).1 else none
def uW:List (Option Int)->Int->Option Int
 |[],b=>some b
 |none::_,_=>none
 |some v::l,b=>uW l (min b v)
def aoo{l l':List (Option Int)}(h:l.Perm l'):∀ b,uW l b=uW l' b:=by
 induction h with
 |nil=>exact λ_=>rfl
 |cons x _ ih=>intro b;cases x<;>simp only[uW,ih]
 |swap x y l =>
  intro b;cases x<;>cases y<;>simp only[uW];congr 1;omega
 |trans _ _ h1 h2=>exact λb=>(h1 b).trans (h2 b)
def aop{m:ah}{P:List Nd}:∀ (L:List dF) (b:Int),b<=1099511627776->(∀ s∈L,s.2.2.contains (nd P s.1).cls=false) ->
  uW (L.map λs=>xR m (nd P s.1) s.2.1) b=if(jP P (gy m P) L b).2=true then some (jP P (gy m P) L b).1 else none:=by
 intro L
 induction L with
 |nil=>intro b _ _;rfl
 |cons s L ih =>
  intro b hb h;have hc:=h s GM;have hL:=λb hb=>ih b hb λt ht=>h t (by simp[ht]);rw[ei,jP,if_neg (show ¬(s.2.2.contains (nd P s.1).cls=true) by rw[hc];simp)];generalize Cs:(L.map λs=>xR m (nd P s.1) s.2.1)=ml at *;clear Cs ih;generalize gD:gy m P b s=cs at *;unfold gy at gD;subst gD;unfold xR;by_cases h1:(nd P s.1).cls≠-1
  ·rw[if_pos h1,if_pos h1,if_pos rfl];show uW _ (min b _)=_;rw[Kr hb];exact hL b hb
  ·rw[if_neg h1,if_neg h1];by_cases h2:0<(nd P s.1).a7.length
   ·rw[if_pos h2,if_pos h2];by_cases h3:mh m (nd P s.1) s.2.1=true
    ·rw[if_pos h3,h3,if_pos rfl];show uW _ (min b _)=_;rw[Kr hb];exact hL b hb
    ·rw[if_neg h3,if_neg h3];rfl
   ·rw[if_neg h2,if_neg h2];by_cases h3:(gH m s.2.1 (nd P s.1).c9).2=0
    ·rw[if_pos h3,h3,if_pos (show(((0:Int)==0)=true) from rfl)];exact hL _ GK
    ·have h4:((gH m s.2.1 (nd P s.1).c9).2==0)=false:=beq_false_of_ne h3;rw[if_neg h3,h4];rfl
def wm(m:ah)(P:List Nd)(up:dH)(i:Nat):Option Int:=uW ((bu i).map λk=>xR m (nd P k) (wo m P up k)) 1099511627776
def aoq(x:Option Int):∀ (l:List (Option Int)) (b:Int),uW (l++[x]) b=(uW l b).bind λc=>x.map (min c):=by
 intro l
 induction l with
 |nil=>intro b;cases x<;>rfl
 |cons y l ih=>intro b;cases y with
  |none=>rfl
  |some v=>exact ih _
def ad6(m:ah)(P:List Nd)(up:dH)(i:Nat):wm m P up (i+1)=(wm m P up i).bind λc=>(xR m (nd P i) (wo m P up i)).map (min c):=by
 unfold wm;rw[List.range_succ,List.map_append];exact aoq _ _ _
def aor{m:ah}{P:List Nd}(h:jh m P=true):((vs P (root m)).map (·.1)).Perm (bu P.length):=by
 have hl:=xy h;rw[List.perm_iff_count];intro a;by_cases ha:a<P.length
 ·rw[aaO h rfl a ha,List.nodup_range.count,if_pos (oF.2 ha)]
 ·rw[Qg.2,Qg.2 (by rw[oF];exact ha)];intro hm;obtain⟨v,hv,e⟩:=bW.1 hm;have:=IW (wY h) _ (root m) (show 0<P.length by omega) v hv;omega
def iZ(m:ah)(P:List Nd):Int×Bool :=
 match nJ m P with
 |none=>(0,false)
 |some up=>match wm m P up P.length with
  |none=>(0,false)
  |some b=>(b,true)
def anO{m:ah}(hm:VM m)(P:List Nd):nA m P=iZ m P:=by
 unfold iZ;cases hf:nJ m P with
 |none =>
  dsimp only;by_cases hs:jh m P=true
  ·obtain⟨v,hv,hh⟩:=aod hs hf;generalize hc:nA m P=c;obtain⟨n,ok⟩:=c;cases ok
   ·unfold nA at hc;split at hc
    ·cases hc
    ·exact hc.symm
   ·obtain⟨_,_,h3⟩:=Tu hc;have:=((Tv h3).2 v hv).1;rw[this]at hh;cases hh
  ·have hw:pI m P (gy m P) 1099511627776=(1099511627776,false):=if_neg λh=>hs h.2;unfold nA;rw[hw,if_neg GM]
 |some up =>
  dsimp only;have hs:=DI hf;have hw:pI m P (gy m P) 1099511627776=jP P (gy m P) (vs P (root m)) 1099511627776:=if_pos ⟨nu.2 hm,hs⟩;have hr:=aop (m:=m) (P:=P) (vs P (root m)) 1099511627776 (Int.le_refl _) (aem hf);have he:wm m P up P.length=uW ((vs P (root m)).map λs=>xR m (nd P s.1) s.2.1) 1099511627776:=by
   unfold wm;rw[<- aoo ((aor hs).map _),List.map_map];congr 1;refine List.map_congr_left λv hv=>?_;show xR m (nd P v.1) (wo m P up v.1)=_;rw[aon hf v hv]
  rw[he,hr];unfold nA;rw[hw];by_cases h2:(jP P (gy m P) (vs P (root m)) 1099511627776).2=true
  ·rw[if_pos h2,if_pos h2]
  ·rw[if_neg h2,if_neg h2]
def nP(x y:Ob)(A:List (List AV))(Y:List (List Bool)):List Ob:=x::y::.arr 1 A::oA Y
def J3(x y:Ob)(A:List (List AV))(Y:List (List Bool)):(nP x y A Y)[0]?=some x:=rfl
def J4(x y:Ob)(A:List (List AV))(Y:List (List Bool)):(nP x y A Y)[1]?=some y:=rfl
def Gw(x y:Ob)(A:List (List AV))(Y:List (List Bool)):(nP x y A Y)[2]?=some (.arr 1 A):=rfl
def nPk(x y:Ob)(A:List (List AV)){Y:List (List Bool)}{i:Nat}(h:i<Y.length):(nP x y A Y)[3+i]?=some (.arr 1 (a8 (Y.getD i default))):=by
 have:=L3 y A h;have e:3+i=(2+i)+1:=GK;rw[e];exact this
def nPs(x y:Ob)(A:List (List AV))(Y:List (List Bool))(i:Nat)(r:List Bool):(nP x y A Y).set (3+i) (.arr 1 (a8 r))=nP x y A (Y.set i r):=by
 have:=S3 y A Y i r;have e:3+i=(2+i)+1:=GK;rw[e];show x::(nO y A Y).set (2+i) _=_;rw[this];rfl
def anY{x:List (List Bool)}{i:Nat}{r:List Bool}(hr:r.length=(x.getD i default).length):(x.set i r).map jB=x.map jB:=by
 apply kY;intro j;rw[bI,bI,bU];split
 ·rename_i e;subst e;split
  ·rename_i h2;rw[bF h2] ;rw[az,bF h2]at hr;simpa using hr
  ·rename_i h2;rw[dK GK]
 ·rfl
def anV{w o k:Nat}{r:List Bool}(hw:r.length=w)(h:∀ b,b<k->r.getD b false=(b==o))(hk:k<w):∀ b,b<k+1->(r.set k (k==o)).getD b false=(b==o):=by
 intro b hb;rw[az,bU];by_cases e:k=b
 ·subst e;rw[if_pos rfl,if_pos GK];rfl
 ·rw[if_neg e,<- az];exact h b GK
def anX{w o:Nat}{r:List Bool}(hw:r.length=w)(h:∀ b,b<w->r.getD b false=(b==o)):r=wZ w o:=by
 apply kY;intro b;unfold wZ;rw[bU,List.length_replicate];by_cases hb:b<w
 ·have:=h b hb;rw[az,bF GK,Option.getD_some]at this;rw[bF GK,this];by_cases e:o=b
  ·subst e;rw[if_pos rfl,if_pos hb];simp
  ·rw[if_neg e,List.getElem?_replicate_of_lt hb];congr 1;exact beq_false_of_ne (Ne.symm e)
 ·rw[dK GK];by_cases e:o=b
  ·subst e;rw[if_pos rfl,if_neg hb]
  ·rw[if_neg e,dK P2]
end T

