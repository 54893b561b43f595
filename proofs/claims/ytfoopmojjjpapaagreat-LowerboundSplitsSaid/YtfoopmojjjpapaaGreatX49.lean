import Derived.Test.YtfoopmojjjpapaaGreatX33
set_option linter.all false
set_option maxHeartbeats 0
set_option maxRecDepth 20000
open List renaming getD_eq_getElem?_getD→ay,length_append→bN,mem_singleton→cS,mem_cons→bu,mem_flatMap→AX,mem_reverse→vH,getD_cons_zero→jc,getD_cons_succ→gB
open Nat renaming le_refl→aZ,zero_le→aP,zero_add→gR
open Int renaming toNat_natCast→dg
open Go Go.Am
namespace T
def JE(left:List (List Bool)):Nat->Nat->Nat
 |0,c=>c
 |f+1,c=>if c<left.length/\(left.getD c default).length=1 then JE left f (c+1) else c
def D2(left:List (List Bool))(c:Nat):Nat:=JE left (left.length-c) c
def alm{left:List (List Bool)}{c:Nat}(h:c<left.length/\(left.getD c default).length=1):D2 left c=D2 left (c+1):=by
 unfold D2;rw[show left.length-c=(left.length-(c+1))+1 by omega,JE,if_pos h]
def aln{left:List (List Bool)}{c:Nat}(h:¬(c<left.length/\(left.getD c default).length=1)):D2 left c=c:=by
 unfold D2;cases left.length-c with
 |zero=>rfl
 |succ f=>rw[JE,if_neg h]
structure DS where
 nodes:List Nd
 room:Int
 spl:Int
 whole:Bool
 plan:List Int
 lK:Int
 zf:Int
def OO(m:ah)(p:List Int):Int:=yS (BN m p) 0
def acm(f:List Int->List Int×Int->List Int×Int)(p:List Int):Nat->Nat->List Int×Int->List Int×Int
 |0,_,a=>a
 |w+1,k,a=>acm f p w (k+1) (f (p++[(k:Int)]) a)
def D3(m:ah):Nat->List Int->List Int×Int->List Int×Int
 |0,p,a=>if OO m p<a.2 then(p,OO m p) else a
 |d+1,p,a=>acm (D3 m d) p (m.cls.getD p.length default).length 0 a
structure BP(m:ah)(p:List Int):Prop where
 len:p.length<=m.cls.length
 get:∀ j,j<p.length->0<=p.getD j 0/\p.getD j 0<(m.cls.getD j default).length
def OP{p q:List Int}{j:Nat}(h:j<p.length):(p++q).getD j 0=p.getD j 0:=by
 rw[ay,List.getElem?_append_left h,<- ay]
def OQ{p:List Int}{x:Int}:(p++[x]).getD p.length 0=x:=by
 rw[ay,List.getElem?_append_right (aZ _),Nat.sub_self];rfl
def BP.snoc{m:ah}{p:List Int}(h:BP m p){k:Nat}(h1:p.length<m.cls.length)(hk:k<(m.cls.getD p.length default).length):BP m (p++[(k:Int)]):=⟨by rw[bN];exact h1,λj hj=>by
 rw[bN]at hj;by_cases e:j<p.length
 ·rw[OP e];exact h.get j e
 ·obtain rfl:j=p.length:=by simp at hj;omega
  rw[OQ];omega⟩
def BP.fp{m:ah}{p:List Int}(h:BP m p)(hl:p.length=m.cls.length):FP m p:=⟨hl,λj hj=>k0.2 (by
 have:=h.get j hj;rw[dg];omega)⟩
def Cf(m:ah)(left:List (List Bool)):Int:=mL m left (S0 m,T0 m)
mutual
inductive Tr(m:ah)(P:List Nd):Nat->Nat->List (List Bool)->List Int->List Int->Prop
 |leaf (lo:Nat) (left:List (List Bool)) (ab:List Int) (h:nd P lo=eP []) (ha:(-1:Int) ∉ ab):Tr m P lo (lo+1) left ab [Cf m left]
 |node (lo hi:Nat) (left:List (List Bool)) (ab:List Int) (c:Nat) (ks vs:List Int) (h:nd P lo=⟨c,ks,[],[],[]⟩) (hc:c<m.cls.length) (ha:(c:Int) ∉ ab) (hk:ks.length=(m.cls.getD c default).length) (hs:rh m P (lo+1) hi left c (ab++[(c:Int)]) 0 ks vs):Tr m P lo hi left ab vs
inductive rh(m:ah)(P:List Nd):Nat->Nat->List (List Bool)->Nat->List Int->Nat->List Int->List Int->Prop
 |nil (lo:Nat) (left:List (List Bool)) (c:Nat) (ab:List Int) (o:Nat):rh m P lo lo left c ab o [] []
 |cons (lo mid hi:Nat) (left:List (List Bool)) (c:Nat) (ab:List Int) (o:Nat) (ks v vs:List Int) (h:Tr m P lo mid (cM left c o) ab v) (hs:rh m P mid hi left c ab (o+1) ks vs):rh m P lo hi left c ab o ((lo:Int)::ks) (v++vs)
end
variable {m:ah} {P P':List Nd} {lo mid hi c o:Nat} {left:List (List Bool)} {ab ks v w:List Int}
def rh.snoc(h2:Tr m P mid hi (cM left c (o+ks.length)) ab w)(h:rh m P lo mid left c ab o ks v):rh m P lo hi left c ab o (ks++[(mid:Int)]) (v++w):=by
 induction ks generalizing lo o v with
 |nil =>
  cases h;have:=rh.cons _ _ _ left c ab o [] w [] h2 (.nil _ _ _ _ _);simpa using this
 |cons k ks ih =>
  cases h with
  |cons _ alo _ _ _ _ _ _ v1 vs h1 hs =>
   rw[List.append_assoc];exact .cons _ _ _ _ _ _ _ _ _ _ h1 (ih (by rw[List.length_cons]at h2;rwa [show o+1+ks.length=o+(ks.length+1) by omega]) hs)
mutual
def Tr.zg{lo hi:Nat}{left:List (List Bool)}{ab v:List Int}:Tr m P lo hi left ab v->gz m P (λ_=>True) lo hi ab
 |.leaf _ _ _ h ha=>.leaf _ _ [] h (aP _) (λ_ h=>by cases h) ha trivial
 |.node _ _ _ _ c ks _ h hc ha hk hs=>.node _ _ _ c ks h hc ha hk hs.D4
def rh.D4{lo hi c o:Nat}{left:List (List Bool)}{ab ks v:List Int}:rh m P lo hi left c ab o ks v->jI m P (λ_=>True) lo hi ab ks
 |.nil _ _ _ _ _=>.nil _ _
 |.cons _ mid _ _ _ _ _ _ _ _ h hs=>.cons _ mid _ _ _ h.zg hs.D4
end
mutual
def Tr.frame{lo hi:Nat}{left:List (List Bool)}{ab v:List Int}:Tr m P lo hi left ab v->(∀ i,lo<=i->i<hi->nd P' i=nd P i)->Tr m P' lo hi left ab v
 |.leaf _ _ _ h ha,hf=>.leaf _ _ _ ((hf _ (aZ _) (Nat.lt_succ_self _)).trans h) ha
 |.node _ _ _ _ c ks _ h hc ha hk hs,hf=>.node _ _ _ _ c ks _ ((hf _ (aZ _) (by have:=hs.D4.le;omega)).trans h) hc ha hk (hs.frame λi h1 h2=>hf i Ey h2)
def rh.frame{lo hi c o:Nat}{left:List (List Bool)}{ab ks v:List Int}:rh m P lo hi left c ab o ks v->(∀ i,lo<=i->i<hi->nd P' i=nd P i)->rh m P' lo hi left c ab o ks v
 |.nil _ _ _ _ _,_=>.nil _ _ _ _ _
 |.cons _ mid _ _ _ _ _ _ _ _ h hs,hf=>.cons _ mid _ _ _ _ _ _ _ _ (h.frame λi h1 h2=>hf i h1 (by have:=hs.D4.le;omega)) (hs.frame λi h1 h2=>hf i (by have:=h.zg.lt;omega) h2)
end
def Gn(m:ah)(P:List Nd)(t:dJ)(x:Int):Prop:=(nd P t.1).cls = -1/\(nd P t.1).df=[]/\(nd P t.1).a8=[]/\Cf m t.2.1=x
mutual
def Tr.leaves{lo hi:Nat}{left:List (List Bool)}{ab v:List Int}(hd:Down P):Tr m P lo hi left ab v->hi<=P.length->(∀ t∈vs P (lo,left,ab),(nd P t.1).cls = -1->∃ x∈v,Gn m P t x)/\∀ x∈v,∃ t∈vs P (lo,left,ab),Gn m P t x
 |.leaf lo left ab h ha,hh=>by
  rw[OR hd (by show lo<_;omega) (by show(nd P lo).kids=[];rw[h];rfl)];have hl:Gn m P (lo,left,ab) (Cf m left):=⟨by show(nd P lo).cls = -1;rw[h];rfl,by show(nd P lo).df=[];rw[h];rfl,by show(nd P lo).a8=[];rw[h];rfl,rfl⟩;constructor
  ·intro t ht _;rw[cS]at ht;subst ht;exact⟨_,G9,hl⟩
  ·intro x hx;rw[cS]at hx;subst hx;exact⟨_,G9,hl⟩
 |.node lo hi left ab c ks vl h hc ha hk hs,hh=>by
  have hle:=hs.D4.le;obtain⟨i1,i2⟩:=hs.leaves hd hh;have xG:∀ o,mP P (lo,left,ab) o=((ks.getD o 0).toNat,cM left c o,ab++[(c:Int)]):=λo=>by
   unfold mP;dsimp only;rw[h];rfl
  have eF:(nd P lo).kids=ks:=by rw[h]
  rw[Cg hd (by show lo<_;omega)];constructor
  ·intro t ht bI;rw[bu]at ht;rcases ht with rfl|ht
   ·dsimp only at bI;rw[h]at bI;exact absurd (show(c:Int) = -1 from bI) Ey
   ·obtain⟨u,hu,ht⟩:=AX.1 ht;obtain⟨o,ho,rfl⟩:=wL (vH.1 hu);dsimp only at ho;rw[eF]at ho;rw[xG]at ht;rw[<- gR o]at ht;exact i1 o ho t (by simpa using ht) bI
  ·intro x hx;obtain⟨o,ho,t,ht,hl⟩:=i2 x hx;rw[gR]at ht;refine⟨t,List.mem_cons_of_mem _ (AX.2 ⟨mP P (lo,left,ab) o,vH.2 ?_,by rw[xG];exact ht⟩),hl⟩;unfold pz jq;exact List.mem_map.2 ⟨o,List.mem_range.2 (by show o<(nd P lo).kids.length;rw[eF];exact ho),rfl⟩
def rh.leaves{lo hi c o:Nat}{left:List (List Bool)}{ab ks v:List Int}(hd:Down P):rh m P lo hi left c ab o ks v->hi<=P.length->(∀ i,i<ks.length->∀ t∈vs P ((ks.getD i 0).toNat,cM left c (o+i),ab),(nd P t.1).cls = -1->∃ x∈v,Gn m P t x)/\∀ x∈v,∃ i,i<ks.length/\∃ t∈vs P ((ks.getD i 0).toNat,cM left c (o+i),ab),Gn m P t x
 |.nil _ _ _ _ _,_=>⟨λi hi=>(by cases hi),λx hx=>(by cases hx)⟩
 |.cons lo mid hi left c ab o ks v w h hs,hh=>by
  have hle:=hs.D4.le;obtain⟨a1,a2⟩:=h.leaves hd Ey;obtain⟨b1,b2⟩:=hs.leaves hd hh;constructor
  ·intro i hi t ht bI;cases i with
   |zero =>
    rw[jc,dg]at ht;obtain⟨x,hx,hl⟩:=a1 t ht bI;exact⟨x,List.mem_append_left _ hx,hl⟩
   |succ i =>
    rw[gB,show o+(i+1)=o+1+i by omega]at ht;obtain⟨x,hx,hl⟩:=b1 i (by simpa using hi) t ht bI;exact⟨x,List.mem_append_right _ hx,hl⟩
  ·intro x hx;rcases List.mem_append.1 hx with hx|hx
   ·obtain⟨t,ht,hl⟩:=a2 x hx;exact⟨0,G9,t,by rw[jc,dg];exact ht,hl⟩
   ·obtain⟨i,hi,t,ht,hl⟩:=b2 x hx;exact⟨i+1,by simpa using hi,t,by rw[gB,show o+(i+1)=o+1+i by omega];exact ht,hl⟩
end
def vh(l:List Int)(b:Int):Int:=l.foldl min b
def acn:∀ (l:List Int) (b:Int),vh l b<=b/\(∀ x∈l,vh l b<=x)/\(vh l b=b\/vh l b∈l)
 |[],b=>⟨Int.le_refl _,λ_ h=>(by cases h),.inl rfl⟩
 |x::l,b=>by
  obtain⟨h1,h2,h3⟩:=acn l (min b x);have e:vh (x::l) b=vh l (min b x):=rfl;rw[e];refine⟨Ey,λy hy=>?_,?_⟩
  ·rcases bu.1 hy with rfl|hy
   ·omega
   ·exact h2 y hy
  ·rcases h3 with h3|h3
   ·rcases Int.le_total b x with hb|hb
    ·left;rw[h3];omega
    ·right;rw[h3,Int.min_eq_right hb];simp
   ·right;simp[h3]
def Tr.fk(hm:VM m){v:List Int}(h:Tr m P 0 P.length (b9 m) [] v)(hn:P.length<=20000):mh m P=(vh v 1099511627776,true):=by
 have oD:=h.zg.shaped hn;have hd:=vj oD;obtain⟨n,h1,h2⟩:=h.zg.fk hm hn;obtain⟨l1,l2⟩:=h.leaves hd (aZ _);obtain⟨_,_,hr⟩:=aco h1;obtain⟨q1,q2⟩:=acp hr;obtain⟨m1,m2,m3⟩:=acn v 1099511627776;have e1:vh v 1099511627776<=n:=h2 _ m1 λs hs bI=>by
  obtain⟨x,hx,_,qj,_,hv⟩:=l1 s hs bI;rw[qj,acq];have:=m2 x hx;unfold Cf at hv;dsimp only;omega
 have e2:n<=vh v 1099511627776:=by
  rcases m3 with e|e
  ·omega
  ·obtain⟨t,ht,bI,qj,ze,hv⟩:=l2 _ e;have:=(q2 t ht).2 bI;rw[ze,if_neg G9,qj,acq]at this;unfold Cf at hv;dsimp only at this;omega
 rw[h1,show n=vh v 1099511627776 by omega]
structure Dn(m:ah)(left:List (List Bool))(p:List Int):Prop where
 fit:cK m left
 bp:BP m p
 one:∀ j,j<p.length->left.getD j default=re (m.cls.getD j default).length (p.getD j 0).toNat
 all:∀ j,p.length<=j->j<m.cls.length->left.getD j default=List.replicate (m.cls.getD j default).length true
variable {m:ah} {left:List (List Bool)} {p:List Int}
def Dn.root(hm:VM m):Dn m (b9 m) []:=by
 refine⟨D5 hm,⟨aP _,λj hj=>(by cases hj)⟩,λj hj=>(by cases hj),λj _ hj=>?_⟩;unfold b9 fZ;rw[if_pos (kf.2 hm),kD _ _ _ hj]
def acr{left:List (List Bool)}{c j:Nat}(x:List Bool)(h:c≠j):(left.set c x).getD j default=left.getD j default:=by
 rw[ay,List.getElem?_set_ne h,<- ay]
def Dn.next(h:Dn m left p)(hc:p.length<m.cls.length){k:Nat}(hk:k<(m.cls.getD p.length default).length):Dn m (cM left p.length k) (p++[(k:Int)]):=by
 refine⟨Ch h.fit (D1 _ _ _),h.bp.snoc hc hk,λj hj=>?_,λj h1 h2=>?_⟩
 ·unfold cM;rw[bN]at hj;by_cases e:j<p.length
  ·rw[acr _ Ey,OP e];exact h.one j e
  ·obtain rfl:j=p.length:=by simp at hj;omega
   rw[wE _ _ _ (by rw[h.fit.1];exact hc),OQ,h.fit.2 _ (by rw[h.fit.1];exact hc)];rfl
 ·unfold cM;rw[bN]at h1;rw[acr _ (by simp at h1;omega)];exact h.all j Ey h2
def Dn.single(h:Dn m left p)(hc:p.length<left.length)(h1:(left.getD p.length default).length=1):Dn m left (p++[0]):=by
 have gq:p.length<m.cls.length:=by rw[<- h.fit.1];exact hc
 have hl:=h.fit.2 _ hc;refine⟨h.fit,h.bp.snoc (k:=0) gq Ey,λj hj=>?_,λj h2 h3=>h.all j (by rw[bN]at h2;omega) h3⟩;rw[bN]at hj;by_cases e:j<p.length
 ·rw[OP e];exact h.one j e
 ·obtain rfl:j=p.length:=by simp at hj;omega
  rw[OQ,h.all _ (aZ _) gq,<- hl,h1];rfl
def Dn.skip:∀ (k:Nat) (p:List Int),left.length-p.length=k->Dn m left p->∃ r:List Int,Dn m left (p++r)/\(p++r).length=D2 left p.length/\∀ a,D3 m (m.cls.length-p.length) p a=D3 m (m.cls.length-(p++r).length) (p++r) a
  |k,p,hk,h=>by
    by_cases hc:p.length<left.length/\(left.getD p.length default).length=1
    · have h1:=h.single hc.1 hc.2
      obtain⟨r,a1,a2,a3⟩:=Dn.skip (k-1) (p++[0]) (by rw[bN];simp;omega) h1;have e:p++[0]++r=p++(0::r):=G9;rw[e]at a1 a2 a3;refine⟨0::r,a1,?_,λa=>?_⟩
      · rw[alm hc,a2];simp
      · rw[<- a3 a]
        have hl:=h.fit.2 _ hc.1;have aX:p.length<m.cls.length:=by rw[<- h.fit.1];exact hc.1
        rw[show m.cls.length-p.length=(m.cls.length-(p++[0]).length)+1 by simp;omega,D3,<- hl,hc.2];rfl
    · exact⟨[],by simpa using h,by rw[aln hc];simp,λa=>G9⟩
 termination_by k p _ _=>left.length-p.length
decreasing_by simp;omega
def Dn.alp(h:Dn m left p)(hl:p.length=m.cls.length):JF m left p:=λi hi j=>by
 have:=h.bp.get i Ey;rw[h.one i Ey,alq Ey]
def Dn.exact(hm:VM m)(h:Dn m left p)(hl:p.length=m.cls.length):D6 m left=OO m p:=by
 rw[acs hm h.fit];exact alr hm (h.bp.fp hl) left h.fit (h.alp hl) [] (λ_ h=>by cases h)
structure DL(m:ah)(left:List (List Bool))(p:List Int)(s r:DS):Prop where
 lK:r.lK<=s.lK
 bl:r.zf<=s.zf
 bt:r.lK<s.lK->r.zf<=r.lK
 wh:r.whole=true->s.whole=true/\(r.plan,r.lK)=D3 m (m.cls.length-p.length) p (s.plan,s.lK)/\min s.zf r.lK<=r.zf
 room:(r.nodes.length:Int)+r.room=s.nodes.length+s.room+1
 rm0:0<=s.room->0<=r.room
 lt:s.nodes.length<r.nodes.length
 pre:∀ i,i<s.nodes.length->nd r.nodes i=nd s.nodes i
 tr:∀ ab:List Int,(∀ x∈ab,0<=x/\x<p.length)->∃ v,Tr m r.nodes s.nodes.length r.nodes.length left ab v/\r.zf=vh v s.zf
def DL.leaf(hm:VM m)(h:cK m left){s r:DS}(hn:r.nodes=s.nodes++[eP []])(hr:r.room=s.room)(hb:r.zf=min s.zf (D6 m left))(ht:r.lK<=s.lK)(hbt:r.lK<s.lK->r.lK=D6 m left)(hw:r.whole=true->s.whole=true/\(r.plan,r.lK)=D3 m (m.cls.length-p.length) p (s.plan,s.lK)/\r.lK<=D6 m left):DL m left p s r:=by
 refine⟨ht,Ey,λh=>by have:=hbt h;omega,λh=>?_,by rw[hn,hr];simp;omega,λh=>Ey,by rw[hn];simp,λi hi=>by rw[hn];exact Gp hi,λab gN=>⟨[Cf m left],?_,?_⟩⟩
 ·obtain⟨a,b,c⟩:=hw h;exact⟨a,b,Ey⟩
 ·rw[hn,bN];exact .leaf _ _ _ JG (λh=>by have:=gN _ h;omega)
 ·rw[hb];unfold vh Cf;rw[acs hm h];rfl
def JD(m:ah):Nat->Nat
 |0=>1
 |d+1=>(m.cls.getD (m.cls.length-(d+1)) default).length*JD m d
variable {m:ah} {left:List (List Bool)} {p:List Int}
end T

