import Derived.Test.YtodilglobhifaaaDoorX32
import Derived.Test.YtodilglobhifaaaDoorX36
import Derived.Test.YtodilglobhifaaaDoorX22
set_option linter.all false
set_option maxHeartbeats 0
set_option maxRecDepth 20000
open List renaming flatMap_cons→uA,length_append→aJ,length_map→cU,getD_eq_getElem?_getD→an,getElem?_map→bR,getElem?_eq_getElem→aN,any_eq_true→ko,all_eq_true→gx,mem_range→jM,mem_filter→fI,mem_flatMap→xh,mem_map→bS,pairwise_iff_getElem→pI,mem_append→bn,mem_singleton→bB,length_take→iC,take→kT,take_of_length_le→jK,take_length→qY
open Nat renaming succ_mul→Eg,zero_le→bk
open Int renaming toNat_natCast→bY,toNat_of_nonneg→iS
open Bool renaming true_and→fH
open Go Go.Am Go.Proofs
namespace T
def jf(v:Int):cD:=⟨1,0,v,1,0,[]⟩
def kj(x y:Int):Int:=if x=y then 1099511627776 else 0
def gG(a b:List Int):List Int:=a.flatMap λx=>b.map (kj x)
def pw(l:List (List Int))(i k:Nat):Pr:=⟨i,k,0,gG (l.getD i []) (l.getD k [])⟩
def K4(a b:List Int):(gG a b).length=a.length*b.length:=by
 induction a with
 |nil=>simp[gG]
 |cons x r ih =>
  unfold gG at ih ⊢;rw[uA,aJ,ih,cU,List.length_cons,Eg];omega
def K5(b:List Int):∀ (a:List Int) (x y:Nat),x<a.length->y<b.length->(gG a b).getD (x*b.length+y) 0=kj (a.getD x 0) (b.getD y 0)
 |[],x,y,h,_=>absurd h (Nat.not_lt_zero _)
 |v::r,0,y,_,hy=>by
  unfold gG;rw[uA,Nat.zero_mul,Nat.zero_add,an,List.getElem?_append_left (by rw[cU];exact hy),bR,aN hy,an (l:=b),aN hy];rfl
 |v::r,x+1,y,hx,hy=>by
  have ih:=K5 b r x y (by simpa using hx) hy;unfold gG at ih ⊢;rw[uA,an,List.getElem?_append_right (by rw[cU,Eg];omega),cU,show(x+1)*b.length+y-b.length=x*b.length+y by rw[Eg];omega,<- an,ih];rfl
def Rt(x y:Int):jG (kj x y)=false:=by
 unfold jG kj;split<;>decide
structure UM(l:List (List Int))(m:ae):Prop where
 cls:m.cls=l.map (·.map jf)
 vm:VM m
 len:l.length<=6
 row:∀ r∈l,r.length<=3/\∀ x∈r,0<=x/\x<5
 all:∀ a b:Nat,a<b->b<l.length->pw l a b∈m.aj
 only:∀ p∈m.aj,∃ a b:Nat,a<b/\b<l.length/\p=pw l a b
def wh{l:List (List Int)}{m:ae}(h:UM l m)(c:Nat):m.cls.getD c default=(l.getD c []).map jf:=by
 rw[h.cls,an,bR,an];cases l[c]?<;>rfl
def K6{l:List (List Int)}{m:ae}(h:UM l m){x:Int×Int}(hx:x.2.toNat<(l.getD x.1.toNat []).length):eR m x=jf ((l.getD x.1.toNat []).getD x.2.toNat 0):=by
 unfold eR;rw[wh h,an,bR,aN hx,an (l:=l.getD x.1.toNat []),aN hx];rfl
def QZ{l:List (List Int)}{m:ae}(h:UM l m):WK m:=λx=>by
 by_cases hx:x.2.toNat<(l.getD x.1.toNat []).length
 ·rw[K6 h hx];show(1:Int)<=3;decide
 ·unfold eR;rw[wh h,an,List.getElem?_eq_none (by rw[cU];omega)];show(default:cD).wk<=3;decide
def dP(l:List (List Int))(x:Int×Int):Int:=(l.getD x.1.toNat []).getD x.2.toNat 0
def K7{l:List (List Int)}{m:ae}(h:UM l m){a b:Nat}(mh:a<b)(hb:b<l.length){x y:Int}(hx:0<=x/\x.toNat<(l.getD a []).length)(hy:0<=y/\y.toNat<(l.getD b []).length)(he:(l.getD a []).getD x.toNat 0=(l.getD b []).getD y.toNat 0):m.aj.any (qt m a x b y)=true:=by
 rw[ko];refine⟨_,h.all a b mh hb,?_⟩;unfold qt;rw[decide_eq_true_eq];refine⟨rfl,rfl,?_⟩;unfold l4;rw[show(pw l a b).snd.toNat=b from bY b,wh h,cU];have e:(x*((l.getD b []).length:Int)+y).toNat=x.toNat*(l.getD b []).length+y.toNat:=by
  obtain⟨x',rfl⟩:∃x':Nat,x=x':=⟨x.toNat,z8⟩;obtain⟨y',rfl⟩:∃y':Nat,y=y':=⟨y.toNat,z8⟩;rw[bY,bY,<- Int.natCast_mul,<- Int.natCast_add,bY]
 rw[e];show(gG (l.getD a []) (l.getD b [])).getD _ 0=_;rw[K5 _ _ _ _ hx.2 hy.2,kj,if_pos he]
def wi{l:List (List Int)}{m:ae}(h:UM l m){x:Int×Int}(hx:jI m x):(0<=x.1/\x.1.toNat<l.length)/\0<=x.2/\x.2.toNat<(l.getD x.1.toNat []).length:=by
 obtain⟨⟨a1,a2⟩,a3,a4⟩:=hx;rw[wh h,cU]at a4;have:m.cls.length=l.length:=by rw[h.cls,cU]
 omega
def Ru{l:List (List Int)}{m:ae}(h:UM l m){x y:Int×Int}(hx:jI m x)(hy:jI m y)(he:dP l x=dP l y):tM m x y=true:=by
 obtain⟨⟨a1,a2⟩,a3,a4⟩:=wi h hx;obtain⟨⟨b1,b2⟩,b3,b4⟩:=wi h hy;unfold tM;by_cases hc:x.1=y.1
 ·rw[decide_eq_true hc];rfl
 rw[decide_eq_false hc,Bool.false_or];unfold rV;unfold dP at he;by_cases aZ:y.1<x.1
 ·rw[if_pos aZ];have:=K7 h (a:=y.1.toNat) (b:=x.1.toNat) z8 a2 ⟨b3,b4⟩ ⟨a3,a4⟩ he.symm;rwa [iS a1,iS b1]at this
 ·rw[if_neg aZ];have:=K7 h (a:=x.1.toNat) (b:=y.1.toNat) z8 b2 ⟨a3,a4⟩ ⟨b3,b4⟩ he;rwa [iS a1,iS b1]at this
def K8{l:List (List Int)}{m:ae}(h:UM l m){x:Int×Int}(hx:jI m x):ef m x=true/\cp m x=[0,0,dP l x,0]:=by
 obtain⟨⟨a1,a2⟩,a3,a4⟩:=wi h hx;unfold ef cp;rw[K6 h a4];exact⟨decide_eq_true ⟨Int.le_refl 0,by show(0:Int)<1;decide⟩,rfl⟩
def K9{l:List (List Int)}{m:ae}(h:UM l m){X:List (Int×Int)}(hX:∀ x∈X,jI m x){x:Int×Int}(hx:x∈X):eS m X x=X.filter λy=>decide (dP l y=dP l x):=by
 obtain⟨k1,k2⟩:=K8 h (hX x hx);have hg:cY m X (cp m x)=X.filter λy=>decide (dP l y=dP l x):=by
  unfold cY;refine List.filter_congr λy hy=>?_;obtain⟨j1,j2⟩:=K8 h (hX y hy);rw[j1,j2,k2,fH,decide_eq_decide];simp
 unfold eS;rw[k1,fH,if_pos,hg];rw[mW,gx];intro i hi;have hi':=jM.1 hi;rw[yV,gx];intro y hy;rw[hg]at hi' hy ⊢;have h1:=fI.1 (aO (d:=default) hi');have h2:=fI.1 (List.mem_of_mem_take hy);rw[decide_eq_true_eq]at h1 h2;exact Ru h (hX _ h1.1) (hX _ h2.1) (by rw[h1.2,h2.2])
def Q3{left:List (List Int)}{R:Nat}(hL:dD R left):(dL left R).1=[]↔¬ size left R (-1)<left.length:=by
 obtain⟨h1,h2,h3⟩:=counts hL;obtain⟨⟨D,h⟩,hs⟩:=rU hL (-1);rw[yP]at h hs;have hn:=h.ok.hN;have e:(dV left R).2.countP (λx=>decide (x<0))=cn left.length (λi=>!on (dV left R).2 i):=by
  rw[Cf _ 0,hn];refine mV λi hi=>?_;rw[on];by_cases h:(dV left R).2.getD i 0<0
  ·rw[decide_eq_true h,decide_eq_false z8];rfl
  ·rw[decide_eq_false h,decide_eq_true z8];rfl
 have hc:=Ca left.length (on (dV left R).2);constructor
 ·intro hG;rw[hG]at h2;simp only[List.length_nil]at h2;omega
 ·intro aZ;rcases h3 with h3|h3
  ·omega
  ·exact h3
def Q2{l:List (List Int)}{m:ae}(h:UM l m){X:List (Int×Int)}{A:List (List (Int×Int))}{R:List (List Int)}(Rv:X=eJ m (mf m))(hX:∀ x∈X,jI m x)(mg:pf X (eS m X) A)(fE:kI m.cls.length A R)(pq:dD A.length R):
  size l 5 (-1)=size R A.length (-1):=by
 have dj:m.cls.length=l.length:=by rw[h.cls,cU]
 have iK:=tP m X;have K':dD 5 l:=⟨by have:=h.len;omega,λr hr=>⟨by have:=(h.row r hr).1;omega,λx hx=>by have:=(h.row r hr).2 x hx;omega⟩⟩;have cO:∀ c i:Nat,c<l.length->i<(l.getD c []).length->((c:Int),(i:Int))∈X:=λc i hc hi=>by
  rw[Rv];have aM:=wh h c;unfold eJ;refine xh.2 ⟨c,jM.2 z8,?_⟩;unfold rW;refine bS.2 ⟨i,fI.2 ⟨jM.2 (by rw[aM,cU];exact hi),?_⟩,rfl⟩;unfold mf;rw[an (l:=m.cls.map _),bR,aN (by omega:c<m.cls.length)];have:m.cls[c]=m.cls.getD c default:=by rw[an,aN z8];rfl
  show(List.replicate (m.cls[c]).length true).getD i false=true;rw[this,aM,cU,an,List.getElem?_replicate,if_pos hi];rfl
 have aD:∀ c i:Nat,c<l.length->i<(l.getD c []).length->(X.filter λy=>decide (dP l y=(l.getD c []).getD i 0))∈A:=λc i hc hi=>by
  refine(mg.mem _).2 ⟨_,cO c i hc hi,?_⟩;rw[K9 h hX (cO c i hc hi)];unfold dP;rw[bY,bY]
 have C1:∀ k,k<A.length->∃ x∈X,A.getD k []=X.filter λy=>decide (dP l y=dP l x):=λk hk=>by
  obtain⟨x,hx,e⟩:=(mg.mem _).1 (aO (l:=A) (d:=[]) hk);exact⟨x,hx,by rw[e,K9 h hX hx]⟩
 have px:∀ C∈A,A.idxOf C<A.length/\A.getD (A.idxOf C) []=C:=λC hC=>by
  have aZ:=List.idxOf_lt_length_of_mem hC;refine⟨aZ,?_⟩;rw[an,aN aZ];exact List.getElem_idxOf aZ
 have cR:∀ i,i<l.length->∀ x:Int,x∈l.getD i []->∃ j,j<(l.getD i []).length/\(l.getD i []).getD j 0=x:=λi hi x hx=>by
  obtain⟨j,hj,rfl⟩:=List.getElem_of_mem hx;exact⟨j,hj,by rw[an,aN hj];rfl⟩
 refine Nat.le_antisymm ?_ ?_
 ·refine JM (f:=λv=>A.idxOf (X.filter λy=>decide (dP l y=(v:Int)))) K' pq ⟨by rw[fE.len,dj],λi hi x hx=>?_,λi j hi hj x y hx hy e=>?_⟩ (-1)
  ·obtain⟨q,hq,e⟩:=cR i hi _ hx;have hC:=aD i q hi hq;rw[e]at hC;obtain⟨a1,a2⟩:=px _ hC;refine⟨a1,(fE.mem i z8 _).2 ⟨a1,((i:Int),(q:Int)),?_,rfl⟩⟩;rw[a2];refine fI.2 ⟨cO i q hi hq,?_⟩;rw[decide_eq_true_eq];unfold dP;rw[bY,bY,e]
  ·obtain⟨q,hq,e1⟩:=cR i hi _ hx;obtain⟨r,hr,e2⟩:=cR j hj _ hy;have hC:=aD i q hi hq;have hD:=aD j r hj hr;rw[e1]at hC;rw[e2]at hD;have e3:=(px _ hC).2;rw[e,(px _ hD).2]at e3;have:((i:Int),(q:Int))∈X.filter λy=>decide (dP l y=(x:Int)):=fI.2 ⟨cO i q hi hq,by rw[decide_eq_true_eq];unfold dP;rw[bY,bY,e1]⟩;rw[<- e3]at this;have h5:=(fI.1 this).2;rw[decide_eq_true_eq]at h5;unfold dP at h5;rw[bY,bY,e1]at h5;omega
 ·refine JM (f:=λk=>(dP l (bI (A.getD k []))).toNat) pq K' ⟨by rw[fE.len,dj],λi hi k hk=>?_,λi j hi hj k k' hk aQ e=>?_⟩ (-1)
  ·rw[fE.len]at hi;obtain⟨a1,y,a2,a3⟩:=(fE.mem i hi k).1 hk;obtain⟨x,hx,e⟩:=C1 k a1;have bx:A.getD k []≠[]:=λe2=>by rw[e2]at a2;cases a2
   have hh:=rX bx;rw[e]at a2;have a4:=fI.1 a2;have a5:bI (A.getD k [])∈X.filter λy=>decide (dP l y=dP l x):=by rw[<- e];exact hh
   have a6:=fI.1 a5;rw[decide_eq_true_eq]at a4 a6;obtain⟨⟨b1,b2⟩,b3,b4⟩:=wi h (hX y a4.1);have hv:dP l (bI (A.getD k []))=dP l y:=by rw[a6.2,a4.2]
   have si:dP l y∈l.getD i []:=by
    unfold dP;rw[show y.1.toNat=i by omega];rw[show y.1.toNat=i by omega]at b4;exact aO b4
   have hr:=(h.row _ (aO (l:=l) (i:=i) (d:=[]) z8)).2 _ si;rw[hv];refine⟨z8,?_⟩;rw[iS hr.1];exact si
  ·rw[fE.len]at hi hj;obtain⟨a1,y,a2,a3⟩:=(fE.mem i hi k).1 hk;obtain⟨b1,z,b2,b3⟩:=(fE.mem j hj k').1 aQ;obtain⟨x,hx,e1⟩:=C1 k a1;obtain⟨x',bF,e2⟩:=C1 k' b1;have hval:∀ k,k<A.length->∀ x∈X,(A.getD k []=X.filter λy=>decide (dP l y=dP l x))->dP l (bI (A.getD k []))=dP l x/\0<=dP l x:=λk hk x hx e=>by
    have mi:x∈A.getD k []:=by rw[e];exact fI.2 ⟨hx,decide_eq_true rfl⟩
    have bx:A.getD k []≠[]:=λe2=>by rw[e2]at mi;cases mi
    have hh:bI (A.getD k [])∈X.filter λy=>decide (dP l y=dP l x):=by rw[<- e];exact rX bx
    have a6:=(fI.1 hh).2;rw[decide_eq_true_eq]at a6;obtain⟨⟨b1,b2⟩,b3,b4⟩:=wi h (hX x hx);exact⟨a6,((h.row _ (aO (l:=l) (d:=[]) b2)).2 _ (aO b4)).1⟩
   obtain⟨v1,v2⟩:=hval k a1 x hx e1;obtain⟨w1,w2⟩:=hval k' b1 x' bF e2;have zi:dP l x=dP l x':=by rw[v1,w1]at e;omega
   have e3:A.getD k []=A.getD k' []:=by rw[e1,e2,zi]
   have hp:=List.nodup_iff_pairwise_ne.1 mg.nd;rw[an,aN a1,an,aN b1]at e3;rcases Nat.lt_trichotomy k k' with h'|h'|h'
   ·exact absurd e3 (pI.1 hp k k' a1 b1 h')
   ·exact h'
   ·exact absurd e3.symm (pI.1 hp k' k b1 a1 h')
def m6(v:Int):List AV:=[UX 1,UX 0,UX v,UX 1,UX 0,.lit (.slice none 0 0)]
instance:Row m6 6:=⟨λ_=>rfl,λ_=>pN rfl⟩
def La{α:Type}{R:AV->AV->Prop}{f g:α->List AV}(h:∀ x,kA R (f x) (g x)):∀ l:List α,rj R (l.map f) (l.map g)
 |[]=>trivial
 |x::r=>⟨h x,La h r⟩
def Rw{σ:St}{kp:Nat->Prop}(r:List Int):rj (cW σ kp) (rowsOf cf (r.map jf)) (rowsOf m6 r):=by
 unfold rowsOf;rw[List.map_map];exact La (f:=cf ∘ jf) (g:=m6) (λv=>⟨.lit _,.lit _,.lit _,.lit _,.lit _,.nil 2,trivial⟩) r
def s9{l:List (List Int)}{i:Nat}(h:i<l.length):(aU l)[i]?=some [.tree 1 (ints (l.getD i []))]:=by
 unfold aU;rw[bR,aN h,an,aN h];rfl
def C2{α β:Type}[Inhabited α](f:α->β)(l:List α){i:Nat}(h:i<l.length):(l.take (i+1)).map f=(l.take i).map f++[f (l.getD i default)]:=by
 rw[ql h,List.map_append];rfl
def ly:Ob:=.var [.lit (.slice none 0 0),.lit (.slice none 0 0),.lit (.slice none 0 0),UX 0]
structure UI(l:List (List Int))(cls:List (List cD))(aj:List Pr)(i k:Nat):Prop where
 pi:sc cls 1 aj 0 i k
 all:∀ a b:Nat,a<b->b<l.length->(a<i\/(a=i/\b<k))->pw l a b∈aj
 only:∀ p∈aj,∃ a b:Nat,a<b/\b<l.length/\p=pw l a b
def Rx{l:List (List Int)}{cls:List (List cD)}(hc:cls=l.map (·.map jf)){i k:Nat}(qw:i<k)(hk:k<l.length):eP ⟨cls,[],[],1⟩ (pw l i k)=true:=by
 have aM:∀ c,cls.getD c default=(l.getD c []).map jf:=λc=>by
  rw[hc,an,bR,an];cases l[c]?<;>rfl
 unfold eP gX pw;simp only[Bool.and_eq_true,decide_eq_true_eq];refine⟨⟨z8,z8,z8,by rw[hc,cU];omega,?_⟩,?_⟩
 ·rw[bY,bY,aM,aM,cU,cU,K4];exact Int.natCast_mul _ _
 ·rw[Bool.not_eq_true',<- Bool.not_eq_true,ko];rintro⟨x,hx,hb⟩;unfold gG at hx;obtain⟨a,_,hx⟩:=xh.1 hx;obtain⟨b,_,rfl⟩:=bS.1 hx;rw[Rt]at hb;cases hb
def UI.push{l:List (List Int)}{cls:List (List cD)}(hc:cls=l.map (·.map jf)){aj:List Pr}{i k:Nat}(h:UI l cls aj i k)(qw:i<k)(hk:k<l.length):UI l cls (aj++[pw l i k]) i (k+1):=by
 refine⟨h.pi.app (Rx hc qw hk),λa b mh hb aZ=>?_,λp hp=>?_⟩
 ·rw[bn,bB];by_cases e:a=i/\b=k
  ·exact .inr (by rw[e.1,e.2])
  ·exact .inl (h.all a b mh hb z8)
 ·rcases bn.1 hp with hp|hp
  ·exact h.only p hp
  ·rw[bB]at hp;exact⟨i,k,qw,hk,hp⟩
def UI.next{l:List (List Int)}{cls:List (List cD)}{aj:List Pr}{i:Nat}(h:UI l cls aj i l.length)(hl:l.length<=6):UI l cls aj (i+1) (i+2) :=
 ⟨h.pi.mono z8 z8,λa b mh hb aZ=>h.all a b mh hb z8,h.only⟩
def Q5(L:List Int)(k0:Nat)(we:k0<=L.length)(hL:L.length<1000000):
  fX Tryd.prog 6 [.ptr 0 0 0] [n5 L k0] (λr os=>∃ l m k',UM l m/\k'<=L.length/\r=.bA [.agg (aP m),.tree 1 (aU l)]/\os=[n5 L k']):=by
 obtain⟨l,k1,⟨CS,wj⟩,eV,Ry⟩:=Rg L k0 5 (by unfold rL;omega) z8 we hL;unfold n5 at *;have cQ:(aU l).length=l.length:=by simp[aU]
 refine fX.aX 116 1 [.cell 2 29,.tmp 3] Tryd.func6 ?_;((try revert hK K);(repeat'(first|refine Va X0 ?_|(refine V2 X0 ?_ ?_<;>try with_reducible intro hb)|(refine Xi ?_ ?_<;>try intro ht)|refine VD ?_ ?_|exact Xx|fail))<;>try with_reducible intro K hK)
 (refine Xn [0] (Ry) ?_;simp(disch:=omega)only[Ac,↓Pc,simprocAttr])
 ((try revert hK K);(repeat'(first|refine Va X0 ?_|(refine V2 X0 ?_ ?_<;>try with_reducible intro hb)|(refine Xi ?_ ?_<;>try intro ht)|refine VD ?_ ?_|exact Xx|fail))<;>try with_reducible intro K hK)
 refine bu (λi:Nat=>(⟨ax [(0,.ptr 0 0 0),(2,.ptr 1 0 0),(4,.tree 1 (aU l)),(5,.ptr 2 0 0),(6,UX i)],[.var [.tree 1 (ints L),UX k1],ly,.var [.ref 3 1 0 i,.lit (.slice none 0 0),.lit (.slice none 0 0),UX 1],.arr 1 (rowsOf cu ((l.take i).map (·.map jf)))]⟩:St))
  (λi=>i<=l.length) (λi=>l.length-i) 0 (bk _) ?_ ?_
 ·refine aR.trans (aR.AK 2 0 1 rfl rfl US) ?_;exact Xv X0
 rintro i hi Ql aq aC;by_cases hi':i<l.length
 ·have fS:=s9 hi';have gR:=wj _ (aO (l:=l) (i:=i) (d:=[]) hi');have mc:=C2 (λr:List Int=>r.map jf) l hi';rw[show l.getD i default=l.getD i [] from rfl]at mc;have dj:((l.take i).map (λr:List Int=>r.map jf)).length=i:=by rw[cU,iC];omega
  generalize kk:l.getD i []=ra at *;have cF:(ints ra).length=ra.length:=k7 ra;((try revert hK K);(repeat'(first|refine Va (X3 @cQ @fS @kk) ?_|(refine V2 (X3 @cQ @fS @kk) ?_ ?_<;>try with_reducible intro hb)|(refine Xi ?_ ?_<;>try intro ht)|refine VD ?_ ?_|exact Xx|fail))<;>try with_reducible intro K hK)
  refine bu (λk:Nat=>(⟨ax [(0,.ptr 0 0 0),(2,.ptr 1 0 0),(4,.tree 1 (aU l)),(5,.ptr 2 0 0),(6,UX i),(7,.ref 4 6 0 k),(8,UX k)],[.var [.tree 1 (ints L),UX k1],ly,.var [.ref 3 1 0 i,.lit (.slice none 0 0),.lit (.slice none 0 0),UX 1],.arr 1 (rowsOf cu ((l.take i).map (·.map jf))),.arr 6 (rowsOf m6 (ra.take k))]⟩:St))
   (λk=>k<=ra.length) (λk=>ra.length-k) 0 (bk _) ?_ ?_
  ·refine aR.trans (aR.nil 7 6 (by simp only[Kc,simprocAttr]) US) ?_;exact Xv X0
  generalize bN:(l.take i).map (λr:List Int=>r.map jf)=cls at *;rintro k hk gu cr cy;by_cases aQ:k<ra.length
  ·have Lb:=C2 m6 ra aQ;rw[show ra.getD k default=ra.getD k 0 from rfl]at Lb;generalize zi:ra.getD k 0=v at *;have nZ:(rowsOf m6 (ra.take k)).length=k:=by rw[cL,iC];omega
   have wm:kT k (rowsOf m6 (ra.take k))=rowsOf m6 (ra.take k):=jK z8;have bU:rowsOf m6 (ra.take k)++[[UX 1,UX 0,UX v,UX 1,UX 0,.lit (.slice none 0 0)]]=rowsOf m6 (ra.take (k+1)):=Lb.symm;((try revert hK K);(repeat'(first|refine Va (X5 @cQ @fS @kk @cF (X4 @zi @nZ @wm @bU)) ?_|(refine V2 (X5 @cQ @fS @kk @cF (X4 @zi @nZ @wm @bU)) ?_ ?_<;>try with_reducible intro hb)|(refine Xi ?_ ?_<;>try intro ht)|refine VD ?_ ?_|exact Xx|fail))<;>try with_reducible intro K hK)
   refine cr _ (k+1) z8 z8 ?_;exact Xs false [0,1,2,3,6] @ly.eq_1
  ·have ik:k=ra.length:=z8;((try revert hK K);(repeat'(first|refine Va (X4 @cQ @fS @kk @cF) ?_|(refine V2 (X4 @cQ @fS @kk @cF) ?_ ?_<;>try with_reducible intro hb)|(refine Xi ?_ ?_<;>try intro ht)|refine VD ?_ ?_|exact Xx|fail))<;>try with_reducible intro K hK)
   refine cy _ _ rfl ?_;clear cr cy gu;repeat(first|refine Xu ?_)
   rw[ik,qY];refine kB (aR.K3 7 4 (v:=.tree 6 (rowsOf cf (ra.map jf))) (rows:=rowsOf m6 ra) rfl ?_) ?_
   ·exact cW.mk rfl (by rw[cL]) Eb (pL _) (Rw ra)
   have bU:rowsOf cu cls++[[.tree 6 (rowsOf cf (ra.map jf))]]=rowsOf cu ((l.take (i+1)).map (·.map jf)):=by rw[mc];simp[rowsOf,cu]
   have nZ:(rowsOf cu cls).length=i:=by rw[cL,dj]
   have wm:kT i (rowsOf cu cls)=rowsOf cu cls:=jK z8;((try revert hK K);(repeat'(first|refine Va (X3 @nZ @wm @bU) ?_|(refine V2 (X3 @nZ @wm @bU) ?_ ?_<;>try with_reducible intro hb)|(refine Xi ?_ ?_<;>try intro ht)|refine VD ?_ ?_|exact Xx|fail))<;>try with_reducible intro K hK)
   refine aq _ (i+1) z8 z8 ?_;exact Xs false [0,1,2,6] @ly.eq_1
 ·have Rz:i=l.length:=z8;rw[Rz,qY];((try revert hK K);(repeat'(first|refine Va @cQ ?_|(refine V2 @cQ ?_ ?_<;>try with_reducible intro hb)|(refine Xi ?_ ?_<;>try intro ht)|refine VD ?_ ?_|exact Xx|fail))<;>try with_reducible intro K hK)
  refine aC _ _ rfl ?_;clear aq aC Ql;repeat(first|refine Xu ?_)
  obtain⟨cls,uc⟩:∃cls,cls=l.map (·.map jf):=⟨_,rfl⟩;have RA:cls.length=l.length:=by rw[uc,cU]
  rw[<- uc];refine kB (aR.AL 3 2 0 1 rfl rfl (by rw[cL,RA];rfl) (pL _) (xC _)) ?_;((try revert hK K);(repeat'(first|refine Va X0 ?_|(refine V2 X0 ?_ ?_<;>try with_reducible intro hb)|(refine Xi ?_ ?_<;>try intro ht)|refine VD ?_ ?_|exact Xx|fail))<;>try with_reducible intro K hK)
  refine bu (λz:Nat×List Pr=>(⟨ax [(0,.ptr 0 0 0),(2,.ptr 1 0 0),(4,.tree 1 (aU l)),(5,.ptr 2 0 0),(9,UX z.1)],[.var [.tree 1 (ints L),UX k1],ly,.var [.tree 1 (rowsOf cu cls),.ref 3 4 0 z.2.length,.lit (.slice none 0 0),UX 1],.arr 4 (rowsOf bV z.2)]⟩:St))
   (λz=>z.1<=l.length/\UI l cls z.2 z.1 (z.1+1)) (λz=>l.length-z.1) (0,[]) ⟨bk _,⟨rfl,Eb,Eb⟩,λa b h1 h2 h3=>z8,Eb⟩ ?_ ?_
  ·refine aR.trans (aR.AK 2 1 4 rfl rfl US) ?_;have mN:rowsOf bV []=[]:=rfl;have kx:∀ ρ,bf ρ (Ob.arr 4 [])=Ob.arr 4 []:=λρ=>sW (enc:=bV) ρ 4 [];exact Xs false [0,1,2,4] (X3 @ly.eq_1 @mN @kx)
  rintro⟨i,aj⟩⟨hi,hU⟩Ql aq aC;dsimp only at hi hU ⊢;by_cases hi':i<l.length
  ·((try revert hK K);(repeat'(first|refine Va @cQ ?_|(refine V2 @cQ ?_ ?_<;>try with_reducible intro hb)|(refine Xi ?_ ?_<;>try intro ht)|refine VD ?_ ?_|exact Xx|fail))<;>try with_reducible intro K hK)
   refine bu (λz:Nat×List Pr=>(⟨ax [(0,.ptr 0 0 0),(2,.ptr 1 0 0),(4,.tree 1 (aU l)),(5,.ptr 2 0 0),(9,UX i),(10,UX z.1)],[.var [.tree 1 (ints L),UX k1],ly,.var [.tree 1 (rowsOf cu cls),.ref 3 4 0 z.2.length,.lit (.slice none 0 0),UX 1],.arr 4 (rowsOf bV z.2)]⟩:St))
    (λz=>i<z.1/\z.1<=l.length/\UI l cls z.2 i z.1) (λz=>l.length-z.1) (i+1,aj) ⟨Nat.lt_succ_self _,hi',hU⟩ ?_ ?_
   ·exact Xv X0
   clear hU;rintro⟨k,aj⟩⟨qw,hk,hU⟩gu cr cy;dsimp only at qw hk hU ⊢;by_cases aQ:k<l.length
   ·have fS:=s9 hi';have lz:=s9 aQ;have Um:=wj _ (aO (l:=l) (i:=i) (d:=[]) hi');have RB:=wj _ (aO (l:=l) (i:=k) (d:=[]) aQ);have lW:=hU.pi.len;have zg:=hU.push uc qw aQ;have yb:pw l i k=⟨i,k,0,gG (l.getD i []) (l.getD k [])⟩:=rfl;generalize kk:l.getD i []=ra at *;generalize pk:l.getD k []=rb at *;rw[yb]at zg;have n9:(ints ra).length=ra.length:=k7 ra;have sd:(ints rb).length=rb.length:=k7 rb;((try revert hK K);(repeat'(first|refine Va (X5 @cQ @fS @lz @kk @pk) ?_|(refine V2 (X5 @cQ @fS @lz @kk @pk) ?_ ?_<;>try with_reducible intro hb)|(refine Xi ?_ ?_<;>try intro ht)|refine VD ?_ ?_|exact Xx|fail))<;>try with_reducible intro K hK)
    refine bu (λx:Nat=>(⟨ax [(0,.ptr 0 0 0),(2,.ptr 1 0 0),(4,.tree 1 (aU l)),(5,.ptr 2 0 0),(9,UX i),(10,UX k),(11,.ptr 4 0 0),(12,UX x)],
      [.var [.tree 1 (ints L),UX k1],ly,.var [.tree 1 (rowsOf cu cls),.ref 3 4 0 aj.length,.lit (.slice none 0 0),UX 1],.arr 4 (rowsOf bV aj),.var [UX i,UX k,UX 0,.ref 5 1 0 (gG (ra.take x) rb).length],.arr 1 (ints (gG (ra.take x) rb))]⟩:St))
     (λx=>x<=ra.length) (λx=>ra.length-x) 0 (bk _) ?_ ?_
    ·refine aR.trans (aR.AK 4 3 1 rfl rfl US) ?_;exact Xv X0
    rintro x hx za tZ lg;by_cases bF:x<ra.length
    ·have mc:=ql bF;have RC:∀ v,gG (ra.take x++[v]) rb=gG (ra.take x) rb++rb.map (kj v):=λv=>by unfold gG;rw[List.flatMap_append];simp
     have Le:=K4 (ra.take x) rb;rw[iC,Nat.min_eq_left hx]at Le;have jD:x*rb.length<=3*3:=Nat.mul_le_mul z8 RB.1;rw[show ra.getD x default=ra.getD x 0 from rfl]at mc;generalize Lf:ra.getD x 0=xv at *;generalize gG (ra.take x) rb=T0 at *;((try revert hK K);(repeat'(first|refine Va (X5 @cQ @fS @lz @kk (X2 @pk @n9)) ?_|(refine V2 (X5 @cQ @fS @lz @kk (X2 @pk @n9)) ?_ ?_<;>try with_reducible intro hb)|(refine Xi ?_ ?_<;>try intro ht)|refine VD ?_ ?_|exact Xx|fail))<;>try with_reducible intro K hK)
     refine bu (λy:Nat=>(⟨ax [(0,.ptr 0 0 0),(2,.ptr 1 0 0),(4,.tree 1 (aU l)),(5,.ptr 2 0 0),(9,UX i),(10,UX k),(11,.ptr 4 0 0),(12,UX x),(13,UX y)],
       [.var [.tree 1 (ints L),UX k1],ly,.var [.tree 1 (rowsOf cu cls),.ref 3 4 0 aj.length,.lit (.slice none 0 0),UX 1],.arr 4 (rowsOf bV aj),.var [UX i,UX k,UX 0,.ref 5 1 0 (T0++(rb.take y).map (kj xv)).length],.arr 1 (ints (T0++(rb.take y).map (kj xv)))]⟩:St))
      (λy=>y<=rb.length) (λy=>rb.length-y) 0 (bk _) ?_ ?_
     ·rw[List.take_zero,List.map_nil,List.append_nil];exact Xv X0
     rintro y hy Lh C3 nK;have Un:(T0++(rb.take y).map (kj xv)).length=x*rb.length+y:=by rw[aJ,Le,cU,iC];omega
     by_cases C4:y<rb.length
     ·have Li:=C2 (kj xv) rb C4;rw[show rb.getD y default=rb.getD y 0 from rfl]at Li;have RD:∀ v,(xv=v->kj xv v=1099511627776)/\(xv≠v->kj xv v=0):=λv=>⟨λh=>by unfold kj;rw[if_pos h],λh=>by unfold kj;rw[if_neg h]⟩;generalize Lj:rb.getD y 0=yv at *;obtain⟨BA,BB⟩:=RD yv;generalize hT:T0++(rb.take y).map (kj xv)=T at *;have Lk:(ints T).length=T.length:=k7 T;have Ll:kT T.length (ints T)=ints T:=jK z8;have nr:∀ n:Int,ints T++[[UX n]]=ints (T++[n]):=λn=>by simp[ints]
      ((try revert hK K);(repeat'(first|refine Va (X5 @cQ @fS @lz @kk (X5 @pk @n9 @sd @Lf (X4 @Lj @Lk @Ll @nr))) ?_|(refine V2 (X5 @cQ @fS @lz @kk (X5 @pk @n9 @sd @Lf (X4 @Lj @Lk @Ll @nr))) ?_ ?_<;>try with_reducible intro hb)|(refine Xi ?_ ?_<;>try intro ht)|refine VD ?_ ?_|exact Xx|fail))<;>try with_reducible intro K hK)
      all_goals
       refine C3 _ (y+1) z8 z8 ?_;rw[Li,<- List.append_assoc,hT];first|rw[BA ht]|rw[BB ht]
       exact Xs false [0,1,2,3,4,7] @ly.eq_1
     ·have RE:y=rb.length:=z8;rw[RE,qY,<- RC];((try revert hK K);(repeat'(first|refine Va (X4 @cQ @lz @pk @sd) ?_|(refine V2 (X4 @cQ @lz @pk @sd) ?_ ?_<;>try with_reducible intro hb)|(refine Xi ?_ ?_<;>try intro ht)|refine VD ?_ ?_|exact Xx|fail))<;>try with_reducible intro K hK)
      refine nK _ _ rfl ?_;clear C3 nK Lh;repeat(first|refine Xu ?_)
      ((try revert hK K);(repeat'(first|refine Va X0 ?_|(refine V2 X0 ?_ ?_<;>try with_reducible intro hb)|(refine Xi ?_ ?_<;>try intro ht)|refine VD ?_ ?_|exact Xx|fail))<;>try with_reducible intro K hK)
      have e3:gG (ra.take (x+1)) rb=gG (ra.take x++[xv]) rb:=by rw[mc]
      exact tZ _ (x+1) z8 z8 (by rw[e3];exact Xv X0)
    ·have yI:x=ra.length:=z8;rw[yI,qY];((try revert hK K);(repeat'(first|refine Va (X4 @cQ @fS @kk @n9) ?_|(refine V2 (X4 @cQ @fS @kk @n9) ?_ ?_<;>try with_reducible intro hb)|(refine Xi ?_ ?_<;>try intro ht)|refine VD ?_ ?_|exact Xx|fail))<;>try with_reducible intro K hK)
     refine lg _ _ rfl ?_;clear tZ lg za;repeat(first|refine Xu ?_)
     refine kB (aR.AL 5 4 3 1 rfl rfl (by rw[k7];rfl) (jv _) (mu _)) ?_;have ik:rowsOf bV aj++[[UX i,UX k,UX 0,.tree 1 (ints (gG ra rb))]]=rowsOf bV (aj++[⟨i,k,0,gG ra rb⟩]):=by simp[rowsOf,bV]
     have Lm:(rowsOf bV aj).length=aj.length:=cL _;have rQ:kT aj.length (rowsOf bV aj)=rowsOf bV aj:=jK z8;((try revert hK K);(repeat'(first|refine Va (X3 @ik @Lm @rQ) ?_|(refine V2 (X3 @ik @Lm @rQ) ?_ ?_<;>try with_reducible intro hb)|(refine Xi ?_ ?_<;>try intro ht)|refine VD ?_ ?_|exact Xx|fail))<;>try with_reducible intro K hK)
     refine cr _ (k+1,aj++[⟨i,k,0,gG ra rb⟩]) ⟨UT,UT,zg⟩ UT ?_;exact Xs false [0,1,2,7] @ly.eq_1
   ·((try revert hK K);(repeat'(first|refine Va @cQ ?_|(refine V2 @cQ ?_ ?_<;>try with_reducible intro hb)|(refine Xi ?_ ?_<;>try intro ht)|refine VD ?_ ?_|exact Xx|fail))<;>try with_reducible intro K hK)
    refine cy _ _ rfl ?_;clear cr cy gu;repeat(first|refine Xu ?_)
    ((try revert hK K);(repeat'(first|refine Va X0 ?_|(refine V2 X0 ?_ ?_<;>try with_reducible intro hb)|(refine Xi ?_ ?_<;>try intro ht)|refine VD ?_ ?_|exact Xx|fail))<;>try with_reducible intro K hK)
    have im:k=l.length:=z8;rw[im]at hU;exact aq _ (i+1,aj) ⟨UT,hU.next CS⟩ UT (Xv X0)
  ·have RF:i=l.length:=z8;rw[RF]at hU;refine kB (aR.AL 3 2 1 4 rfl rfl (by rw[cL];rfl) (pL _) (xC _)) ?_;((try revert hK K);(repeat'(first|refine Va @cQ ?_|(refine V2 @cQ ?_ ?_<;>try with_reducible intro hb)|(refine Xi ?_ ?_<;>try intro ht)|refine VD ?_ ?_|exact Xx|fail))<;>try with_reducible intro K hK)
   refine aC _ _ rfl ?_;clear aq aC Ql;repeat(first|refine Xu ?_)
   ((try revert hK K);(repeat'(first|refine Va @ly.eq_1 ?_|(refine V2 @ly.eq_1 ?_ ?_<;>try with_reducible intro hb)|(refine Xi ?_ ?_<;>try intro ht)|refine VD ?_ ?_|exact Xx|fail))<;>try with_reducible intro K hK)
   have lW:=hU.pi.len;have si:VM ⟨cls,aj,[],1⟩:=by
    refine⟨UT,λr hr=>?_,UT,Eb,⟨by show(0:Int)<=1;decide,by show(1:Int)<=56;decide⟩,λr hr o ho=>?_,(Kl _ _).trans hU.pi.ok,Eb⟩
    ·dsimp only at hr;rw[uc]at hr;obtain⟨s,hs,rfl⟩:=bS.1 hr;rw[cU];have:=(wj s hs).1;omega
    ·dsimp only at hr;rw[uc]at hr;obtain⟨s,hs,rfl⟩:=bS.1 hr;obtain⟨v,_,rfl⟩:=bS.1 ho;rfl
   have sj:UM l ⟨cls,aj,[],1⟩:=⟨uc,si,CS,wj,λa b mh hb=>hU.all a b mh hb z8,hU.only⟩;unfold pO;simp only[gL,ic];simp(disch:=omega)only[Ac,↓Pc,simprocAttr];refine⟨_,_,⟨l,⟨cls,aj,[],1⟩,k1,sj,eV,rfl,rfl⟩,?_⟩;refine pM [0] true US ⟨⟨Eb,.inr rfl⟩,trivial⟩ US US (.bA _ _ rfl (kA.spec (R:=bd _ _ _ _) (cs:=[.agg (aP ⟨cls,aj,[],1⟩),.tree 1 (aU l)]) (ds:=[.agg [.tree 1 (rowsOf cu cls),.tree 4 (rowsOf bV aj),.lit (.slice none 0 0),UX 1],.tree 1 (aU l)]) ⟨?_,.pure rfl,trivial⟩).2);exact .agg _ _ rfl (kA.spec (R:=bd _ _ _ _) (cs:=aP ⟨cls,aj,[],1⟩) (ds:=[.tree 1 (rowsOf cu cls),.tree 4 (rowsOf bV aj),.lit (.slice none 0 0),UX 1]) ⟨.pure rfl,.pure rfl,.snap _ _ rfl (.nil 4),.pure rfl,trivial⟩).2
end T

