import Derived.Test.YtodilglobhifaaaDoorX23
set_option linter.all false
set_option maxHeartbeats 0
set_option maxRecDepth 20000
open List renaming range→bj,range_succ→qU,filter_append→xk,map_append→kS,filter_cons→Ai,filter_nil→Eh,flatMap_append→sO,flatMap_cons→uA,flatMap_nil→D6,append_nil→eY,mem_map→bS,mem_range→jM,mem_filter→fI,mem_append→bn,mem_flatMap→xh,length_map→cU,length_filter_le→Al,length_append→aJ,contains_iff_mem→oh,length_cons→b8,mem_singleton→bB
open Go Go.Am
namespace T
def pz(left:List (List Bool))(c i:Nat):List (Int×Int):=((bj i).filter λj=>(left.getD c default).getD j false).map λj:Nat=>((c:Int),(j:Int))
def XP(m:ae)(left:List (List Bool))(c i:Nat):List (Int×Int):=(bj c).flatMap (rW m left)++pz left c i
def RV(m:ae)(left:List (List Bool))(c i:Nat):XP m left c (i+1)=XP m left c i++if(left.getD c default).getD i false=true then [((c:Int),(i:Int))] else []:=by
 unfold XP pz;rw[qU,xk,kS,List.append_assoc];congr 2;rw[Ai,Eh];split<;>rfl
def Lu(m:ae)(left:List (List Bool))(c:Nat):XP m left (c+1) 0=XP m left c (m.cls.getD c default).length:=by
 unfold XP;rw[qU,sO];show _++([c].flatMap (rW m left))++pz left (c+1) 0=_;rw[uA,D6,eY];show _++rW m left c++[]=_;rw[eY];rfl
def ua(m:ae)(left:List (List Bool)):XP m left m.cls.length 0=eJ m left:=by
 unfold XP eJ;exact eY _
def RW{left:List (List Bool)}{c i:Nat}{x:Int×Int}(h:x∈pz left c i):∃j:Nat,j<i/\x=((c:Int),(j:Int)):=by
 obtain⟨j,h1,h2⟩:=bS.1 h;exact⟨j,jM.1 (fI.1 h1).1,h2.symm⟩
def CU{m:ae}{left:List (List Bool)}{c i:Nat}(hc:c<m.cls.length\/i=0/\c<=m.cls.length)(hi:i<=(m.cls.getD c default).length):∀ x∈XP m left c i,jI m x:=by
 have key:∀ (c i:Nat),c<m.cls.length->i<=(m.cls.getD c default).length->∀ x∈pz left c i,jI m x:=λc i hc hi x hx=>by
  obtain⟨j,h1,rfl⟩:=RW hx;refine⟨⟨UT,UT⟩,UT,?_⟩;show(j:Int)<(m.cls.getD (Int.toNat (c:Int)) default).length;rw[Int.toNat_natCast];omega
 intro x hx;rcases bn.1 hx with hx|hx
 ·obtain⟨d,h1,h2⟩:=xh.1 hx;have hd:=jM.1 h1;exact key d _ z8 (Nat.le_refl _) x h2
 ·rcases hc with hc|⟨rfl,hc⟩
  ·exact key c i hc hi x hx
  ·exact absurd hx (by simp[pz])
def zb{m:ae}{left:List (List Bool)}(wx:∀ l∈m.cls,l.length<=24):∀ (c i:Nat),c<=m.cls.length->i<=24->(XP m left c i).length<=24*c+i:=by
 intro c
 induction c with
 |zero =>
  intro i _ _;unfold XP pz;simp only[List.range_zero,D6,List.nil_append,cU];have:=Al (λj=>(left.getD 0 default).getD j false) (bj i);rw[List.length_range]at this;omega
 |succ c ih =>
  intro i hc hi;have h1:=ih (m.cls.getD c default).length z8 (wx _ (aO (d:=default) z8));have h2:=wx _ (aO (l:=m.cls) (i:=c) (d:=default) z8);rw[<- Lu]at h1;unfold XP at h1 ⊢;rw[aJ]at h1 ⊢;have h3:(pz left (c+1) i).length<=i:=by
   unfold pz;rw[cU];have:=Al (λj=>(left.getD (c+1) default).getD j false) (bj i);rw[List.length_range]at this;omega
  omega
def zp(m:ae)(x:Int×Int):∀ (X:List (Int×Int)) (ks:List (List Int)),gp m (X++[x]) ks=if ef m x&&!(gp m X ks).contains (cp m x) then gp m X ks++[cp m x] else gp m X ks
 |[],ks=>rfl
 |y::r,ks=>zp m x r _
def Da(m:ae)(X:List (Int×Int))(x:Int×Int)(k:List Int):cY m (X++[x]) k=cY m X k++if ef m x=true/\cp m x=k then [x] else []:=by
 unfold cY;rw[xk,Ai,Eh];congr 1;by_cases h1:ef m x=true<;>by_cases h2:cp m x=k<;>simp[h1,h2]
def Db(m:ae)(X:List (Int×Int))(x:Int×Int):nV m (X++[x])=nV m X++if ef m x=true then [] else [[x]]:=by
 unfold nV;rw[xk,kS,Ai,Eh];congr 1;by_cases h1:ef m x=true<;>simp[h1]
structure iO(m:ae)(X:List (Int×Int))(S:List (List (Int×Int)))(G:List (Ml (Int×Int)))(ks:List (List Int)):Prop where
 lone:S=nV m X
 keys:ks=gp m X []
 lq:∀ k,match df G k with|some g=>g.l=cY m X k/\cY m X k≠[]|none=>cY m X k=[]
def iO.nil(m:ae):iO m [] [] [] []:=⟨rfl,rfl,λk=>rfl⟩
def iO.none{m:ae}{X:List (Int×Int)}{S:List (List (Int×Int))}{G:List (Ml (Int×Int))}{ks:List (List Int)}(h:iO m X S G ks){x:Int×Int}(hx:ef m x=false):iO m (X++[x]) (S++[[x]]) G ks:=by
 refine⟨?_,?_,λk=>?_⟩
 ·rw[Db,hx,h.lone];rfl
 ·rw[zp,hx,h.keys];rfl
 ·have:=h.lq k;rw[Da,hx];simpa using this
def iO.first{m:ae}{X:List (Int×Int)}{S:List (List (Int×Int))}{G:List (Ml (Int×Int))}{ks:List (List Int)}(h:iO m X S G ks){x:Int×Int}(hx:ef m x=true)(hk:df G (cp m x)=Option.none)(a:Nat):iO m (X++[x]) S (eW (cp m x) a [x] G) (ks++[cp m x]):=by
 have h0:=h.lq (cp m x);rw[hk]at h0;dsimp only at h0;have wy:(gp m X []).contains (cp m x)=false:=by
  rw[<- Bool.not_eq_true,oh,tQ];rintro(hh |⟨y,h1,h2,h3⟩)
  ·cases hh
  ·have:y∈cY m X (cp m x):=kf.2 ⟨h1,h2,h3⟩;rw[h0]at this;cases this
 refine⟨?_,?_,λk=>?_⟩
 ·rw[Db,hx,h.lone];simp
 ·rw[zp,hx,wy,h.keys];rfl
 ·rw[ss,Da];by_cases e:cp m x=k
  ·rw[if_pos e,if_pos ⟨hx,e⟩,<- e,h0];exact⟨rfl,Eb⟩
  ·rw[if_neg e,if_neg (λhh=>e hh.2),eY];exact h.lq k
def iO.more{m:ae}{X:List (Int×Int)}{S:List (List (Int×Int))}{G:List (Ml (Int×Int))}{ks:List (List Int)}(h:iO m X S G ks){x:Int×Int}(hx:ef m x=true){g:Ml (Int×Int)}(hk:df G (cp m x)=some g)(a:Nat):iO m (X++[x]) S (eW (cp m x) a (g.l++[x]) G) ks:=by
 have h0:=h.lq (cp m x);rw[hk]at h0;dsimp only at h0;have wy:(gp m X []).contains (cp m x)=true:=by
  rw[oh,tQ];cases hg:cY m X (cp m x) with
  |nil=>exact absurd hg h0.2
  |cons y r =>
   obtain⟨h1,h2,h3⟩:=kf.1 (show y∈cY m X (cp m x) by rw[hg];simp);exact .inr ⟨y,h1,h2,h3⟩
 refine⟨?_,?_,λk=>?_⟩
 ·rw[Db,hx,h.lone];simp
 ·rw[zp,hx,wy,h.keys];rfl
 ·rw[ss,Da];by_cases e:cp m x=k
  ·rw[if_pos e,if_pos ⟨hx,e⟩,<- e,<- h0.1];exact⟨rfl,Eb⟩
  ·rw[if_neg e,if_neg (λhh=>e hh.2),eY];exact h.lq k
def Dc(m:ae)(X:List (Int×Int)):(nV m X).length<=X.length:=by
 unfold nV;rw[cU];exact Al _ _
def zq(m:ae):∀ (X:List (Int×Int)) (ks:List (List Int)),(gp m X ks).length<=ks.length+X.length
 |[],ks=>by simp[gp]
 |x::r,ks=>by
  rw[gp];have:=zq m r (if ef m x&&!ks.contains (cp m x) then ks++[cp m x] else ks);have h2:(if ef m x&&!ks.contains (cp m x) then ks++[cp m x] else ks).length<=ks.length+1:=by split<;>simp
  rw[b8];omega
def zr(m:ae)(X:List (Int×Int))(k:List Int):(cY m X k).length<=X.length:=Al _ _
structure CQ(base:List Ob)(gq tk:Nat)(G:List (Ml (Int×Int)))(ks:List (List Int))(to:Nat)(D:List (Nat×Nat))(S:List (List (Int×Int)))(ob:List Ob):Prop where
 kp:dM base ob
 mp:ob[gq]?=some (.mp 4 (cH 2 G))
 out:ob[to]?=some (.arr 1 (rowsOf eT D))
 kl:ob[tk]?=some (.arr 4 (rowsOf py ks))
 ri:RI au ob D S
 gr:∀ k g,df G k=some g->ob[g.at_]?=some (.arr 2 (rowsOf au g.l))
 fr:base.length<=to
variable {base ob l:List Ob} {gq to tk:Nat} {D:List (Nat×Nat)} {S:List (List (Int×Int))} {G:List (Ml (Int×Int))} {ks:List (List Int)}
def CB.cq(h:CB base gq to tk D S G ks ob):CQ base gq tk G ks to D S ob:=⟨h.kp,h.mp,h.out,h.kl,h.ri,h.gr,h.fr.1.2.1⟩
def CQ.cg(h:CQ base gq tk G ks to D S ob){ob':List Ob}(hk:dM ob ob'):CQ base gq tk G ks to D S ob' :=
 ⟨λk o e=>hk k o (h.kp k o e),hk _ _ h.mp,hk _ _ h.out,hk _ _ h.kl,⟨h.ri.len,λj hj=>⟨hk _ _ (h.ri.row j hj).1,(h.ri.row j hj).2⟩⟩,λk g hg=>hk _ _ (h.gr k g hg),h.fr⟩
def CQ.app(h:CQ base gq tk G ks to D S ob)(l:List Ob):CQ base gq tk G ks to D S (ob++l):=h.cg ((dM.refl ob).app l)
def CQ.add(h:CQ base gq tk G ks to D S ob){a b:Nat}{C:List (Int×Int)}(h1:(ob.set to .gone++l)[a]?=some (.arr 2 (rowsOf au C)))(h2:l[b]?=some (.arr 1 (rowsOf eT (D++[(a,C.length)])))):
  CQ base gq tk G ks (ob.length+b) (D++[(a,C.length)]) (S++[C]) (ob.set to .gone++l):=by
 have hr:RI au (ob.set to .gone++l) D S:=(h.ri.kill h.out (by intro l e;cases e)).app l;refine⟨(h.kp.set h.fr).app l,aA (cj h.mp h.out (by intro e;cases e)) l,?_,aA (cj h.kl h.out (by intro e;cases e)) l,RI.snoc (r:=C) hr h1,λk g hg=>aA (cj (h.gr k g hg) h.out (by intro e;cases e)) l,?_⟩
 ·rw[lv];exact h2
 ·have:=h.kp.len;have:=h.fr;omega
def CQ.lone(h:CQ base gq tk G ks to D S ob){x:Int×Int}{a b:Nat}(h1:l[a]?=some (.arr 2 (rowsOf au [x])))(h2:l[b]?=some (.arr 1 (rowsOf eT (D++[(ob.length+a,1)])))):
  CQ base gq tk G ks (ob.length+b) (D++[(ob.length+a,1)]) (S++[[x]]) (ob.set to .gone++l) :=
 h.add (C:=[x]) (by rw[lv];exact h1) h2
def CQ.lq(h:CQ base gq tk G ks to D S ob){k:List Int}{g:Ml (Int×Int)}(hg:df G k=some g){b:Nat}(h2:l[b]?=some (.arr 1 (rowsOf eT (D++[(g.at_,g.l.length)])))):
  CQ base gq tk G ks (ob.length+b) (D++[(g.at_,g.l.length)]) (S++[g.l]) (ob.set to .gone++l) :=
 h.add (aA (cj (h.gr k g hg) h.out (by intro e;cases e)) l) h2
def iO.key{m:ae}{X:List (Int×Int)}(h:iO m X S G ks){n:Nat}(hn:n<ks.length):∃g,df G (ks.getD n default)=some g/\g.l=cY m X (ks.getD n default):=by
 have hk:ks.getD n default∈gp m X []:=by rw[<- h.keys];exact aO hn
 have bx:cY m X (ks.getD n default)≠[]:=by
  rcases(tQ X [] _).1 hk with hh|⟨y,h1,h2,h3⟩
  ·cases hh
  ·have:y∈cY m X (ks.getD n default):=kf.2 ⟨h1,h2,h3⟩;intro e;rw[e]at this;cases this
 have h0:=h.lq (ks.getD n default);cases hm:df G (ks.getD n default) with
 |none=>rw[hm]at h0;exact absurd h0 bx
 |some g=>rw[hm]at h0;exact⟨g,rfl,h0.1⟩
def RX{m:ae}{X:List (Int×Int)}(h:iO m X S G ks){n:Nat}(hn:n<ks.length):∃a b c d,ks.getD n default=[a,b,c,d]:=by
 have hk:ks.getD n default∈gp m X []:=by rw[<- h.keys];exact aO hn
 rcases(tQ X [] _).1 hk with hh|⟨y,h1,h2,h3⟩
 ·cases hh
 ·exact⟨_,_,_,_,h3.symm⟩
def RY{m:ae}{X:List (Int×Int)}{n:Nat}(hn:n<ks.length):(ks.take (n+1)).flatMap (iM m X)=(ks.take n).flatMap (iM m X)++iM m X (ks.getD n default):=by
 rw[ql hn,sO];simp
def RZ{g:List (Int×Int)}{j:Nat}(hj:j<g.length):(g.take (j+1)).map (λc=>[c])=(g.take j).map (λc=>[c])++[[g.getD j default]]:=by
 rw[ql hj,kS];simp
def R0{m:ae}{X:List (Int×Int)}{k:List Int}(h:mW m (cY m X k)=true):iM m X k=[cY m X k]:=by unfold iM;rw[if_pos h]
def R2{m:ae}{X:List (Int×Int)}{k:List Int}(h:mW m (cY m X k)=false):iM m X k=(cY m X k).map λc=>[c]:=by unfold iM;rw[if_neg (by rw[h];simp)]
def R3{m:ae}{X:List (Int×Int)}(h:iO m X S G ks):S++(ks.take ks.length).flatMap (iM m X)=jc m X:=by
 rw[List.take_length,h.keys,h.lone];rfl
def R4{m:ae}{X:List (Int×Int)}{k:List Int}{C:List (Int×Int)}(h:C∈iM m X k):C.length<=X.length+1/\∀ x∈C,x∈X:=by
 unfold iM at h;have hs:∀ x∈cY m X k,x∈X:=λx hx=>(kf.1 hx).1;have hl:=zr m X k;split at h
 ·rw[bB]at h;subst h;exact⟨z8,hs⟩
 ·obtain⟨c,h1,rfl⟩:=bS.1 h;exact⟨Eb,λx hx=>by rw[bB]at hx;subst hx;exact hs _ h1⟩
def Lv{m:ae}{X:List (Int×Int)}{C:List (Int×Int)}(h:C∈jc m X):C.length<=X.length+1/\∀ x∈C,x∈X:=by
 unfold jc at h;rcases bn.1 h with h|h
 ·unfold nV at h;obtain⟨c,h1,rfl⟩:=bS.1 h;exact⟨Eb,λx hx=>by rw[bB]at hx;subst hx;exact(fI.1 h1).1⟩
 ·obtain⟨k,h1,h2⟩:=xh.1 h;exact R4 h2
def Lw{m:ae}{X:List (Int×Int)}:∀ ks:List (List Int),(ks.flatMap (iM m X)).length<=ks.length*(X.length+1)
 |[]=>Eb
 |k::r=>by
  rw[uA,aJ,b8,Nat.succ_mul];have h1:=Lw (m:=m) (X:=X) r;have h2:(iM m X k).length<=X.length+1:=by
   unfold iM;have hl:=zr m X k;split
   ·simp
   ·rw[cU];omega
  omega
def R5{m:ae}{X:List (Int×Int)}:(jc m X).length<=X.length+X.length*(X.length+1):=by
 unfold jc;rw[aJ];have h1:=Dc m X;have h2:=Lw (m:=m) (X:=X) (gp m X []);have h3:=zq m X [];simp only[List.length_nil,Nat.zero_add]at h3;have h4:=Nat.mul_le_mul_right (X.length+1) h3;omega
end T

