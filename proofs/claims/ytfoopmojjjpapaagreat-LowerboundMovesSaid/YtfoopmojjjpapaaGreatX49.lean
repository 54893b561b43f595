import Derived.Test.YtfoopmojjjpapaaGreatX44
import Derived.Test.YtfoopmojjjpapaaGreatX47
set_option linter.all false
set_option maxHeartbeats 0
set_option maxRecDepth 20000
open List renaming getD_eq_getElem?_getD→aB,getElem?_append_left→eB,getElem?_append_right→gX,length_append→bF,mem_singleton→cU,mem_cons→bj,mem_flatMap→N6,mem_reverse→AP,getD_cons_zero→im,getD_cons_succ→fM
open Nat renaming le_refl→bb,zero_add→gm
open Int renaming toNat_natCast→ep
open Go Go.Am
namespace T
def K6(w:Nat):Nat->Nat
 |0=>1
 |s+1=>1+w*K6 w s
structure ama(m:ah)(L:List Int)(w:Nat)(s:Nat)(ab:List Int)(nodes:List Nd)(r:List Nd×Nat):Prop where
 k:r.2<=L.length
 lt:nodes.length<r.1.length
 le:r.1.length<=nodes.length+K6 w s
 pre:∀ i,i<nodes.length->nd r.1 i=nd nodes i
 DK:ku m r.1 (λ_=>True) nodes.length r.1.length ab
def agr{P:List Nd}{x:Nd}{i:Nat}(h:i<P.length):nd (P++[x]) i=nd P i:=by
 unfold nd;rw[aB,eB h,aB]
def ags{P:List Nd}{x:Nd}:nd (P++[x]) P.length=x:=by
 unfold nd;rw[aB,gX (bb _)];simp
def upto(n:Nat):List Int:=(List.range n).map λ(j:Nat)=>(j:Int)
structure amb(m:ah)(w d:Nat)(nodes r:List Nd):Prop where
 lt:nodes.length<r.length
 le:r.length<=nodes.length+K6 w d
 pre:∀ i,i<nodes.length->nd r i=nd nodes i
 DK:ku m r (λab=>ab=upto m.cls.length) nodes.length r.length (upto (m.cls.length-d))
def agp{w o:Nat}(h:o<w)(j:Nat):(yE w o).getD j false=decide (j=o):=by
 unfold yE;rw[aB,List.getElem?_set,List.length_replicate];by_cases e:o=j
 ·subst e;rw[if_pos rfl,if_pos h,decide_eq_true rfl];rfl
 ·rw[if_neg e,List.getElem?_replicate,decide_eq_false (Ne.symm e)];split<;>rfl
def GV(left:List (List Bool)):Nat->Nat->Nat
 |0,c=>c
 |f+1,c=>if c<left.length/\(left.getD c default).length=1 then GV left f (c+1) else c
def BM(left:List (List Bool))(c:Nat):Nat:=GV left (left.length-c) c
def agm{left:List (List Bool)}{c:Nat}(h:c<left.length/\(left.getD c default).length=1):BM left c=BM left (c+1):=by
 unfold BM;rw[show left.length-c=(left.length-(c+1))+1 by omega,GV,if_pos h]
def agn{left:List (List Bool)}{c:Nat}(h:¬(c<left.length/\(left.getD c default).length=1)):BM left c=c:=by
 unfold BM;cases left.length-c with
 |zero=>rfl
 |succ f=>rw[GV,if_neg h]
structure DS where
 nodes:List Nd
 room:Int
 spl:Int
 whole:Bool
 plan:List Int
 j9:Int
 xi:Int
def K3(m:ah)(p:List Int):Int:=vG (yo m p) 0
def XV(f:List Int->List Int×Int->List Int×Int)(p:List Int):Nat->Nat->List Int×Int->List Int×Int
 |0,_,a=>a
 |w+1,k,a=>XV f p w (k+1) (f (p++[(k:Int)]) a)
def BN(m:ah):Nat->List Int->List Int×Int->List Int×Int
 |0,p,a=>if K3 m p<a.2 then(p,K3 m p) else a
 |d+1,p,a=>XV (BN m d) p (m.cls.getD p.length default).length 0 a
structure BP(m:ah)(p:List Int):Prop where
 len:p.length<=m.cls.length
 get:∀ j,j<p.length->0<=p.getD j 0/\p.getD j 0<(m.cls.getD j default).length
def KY{p q:List Int}{j:Nat}(h:j<p.length):(p++q).getD j 0=p.getD j 0:=by
 rw[aB,eB h,<- aB]
def KZ{p:List Int}{x:Int}:(p++[x]).getD p.length 0=x:=by
 rw[aB,gX (bb _),Nat.sub_self];rfl
def BP.snoc{m:ah}{p:List Int}(h:BP m p){k:Nat}(h1:p.length<m.cls.length)(hk:k<(m.cls.getD p.length default).length):BP m (p++[(k:Int)]):=⟨by rw[bF];exact h1,λj hj=>by
 rw[bF]at hj;by_cases e:j<p.length
 ·rw[KY e];exact h.get j e
 ·obtain rfl:j=p.length:=by simp at hj;omega
  rw[KZ];omega⟩
def BP.fp{m:ah}{p:List Int}(h:BP m p)(hl:p.length=m.cls.length):FP m p:=⟨hl,λj hj=>kR.2 (by
 have:=h.get j hj;rw[ep];omega)⟩
def z6(m:ah)(left:List (List Bool)):Int:=lq m left (S0 m,T0 m)
mutual
inductive Tr(m:ah)(P:List Nd):Nat->Nat->List (List Bool)->List Int->List Int->Prop
 |leaf (lo:Nat) (left:List (List Bool)) (ab:List Int) (h:nd P lo=K4 []) (ha:(-1:Int) ∉ ab):Tr m P lo (lo+1) left ab [z6 m left]
 |node (lo hi:Nat) (left:List (List Bool)) (ab:List Int) (c:Nat) (ks vs:List Int) (h:nd P lo=⟨c,ks,[],[],[]⟩) (hc:c<m.cls.length) (ha:(c:Int) ∉ ab) (hk:ks.length=(m.cls.getD c default).length) (hs:te m P (lo+1) hi left c (ab++[(c:Int)]) 0 ks vs):Tr m P lo hi left ab vs
inductive te(m:ah)(P:List Nd):Nat->Nat->List (List Bool)->Nat->List Int->Nat->List Int->List Int->Prop
 |nil (lo:Nat) (left:List (List Bool)) (c:Nat) (ab:List Int) (o:Nat):te m P lo lo left c ab o [] []
 |cons (lo mid hi:Nat) (left:List (List Bool)) (c:Nat) (ab:List Int) (o:Nat) (ks v vs:List Int) (h:Tr m P lo mid (nL left c o) ab v) (hs:te m P mid hi left c ab (o+1) ks vs):te m P lo hi left c ab o ((lo:Int)::ks) (v++vs)
end
variable {m:ah} {P P':List Nd} {lo mid hi c o:Nat} {left:List (List Bool)} {ab ks v w:List Int}
def te.snoc(h2:Tr m P mid hi (nL left c (o+ks.length)) ab w)(h:te m P lo mid left c ab o ks v):te m P lo hi left c ab o (ks++[(mid:Int)]) (v++w):=by
 induction ks generalizing lo o v with
 |nil =>
  cases h;have:=te.cons _ _ _ left c ab o [] w [] h2 (.nil _ _ _ _ _);simpa using this
 |cons k ks ih =>
  cases h with
  |cons _ agA _ _ _ _ _ _ v1 vs h1 hs =>
   rw[List.append_assoc];exact .cons _ _ _ _ _ _ _ _ _ _ h1 (ih (by rw[List.length_cons]at h2;rwa [show o+1+ks.length=o+(ks.length+1) by omega]) hs)
mutual
def Tr.DK{lo hi:Nat}{left:List (List Bool)}{ab v:List Int}:Tr m P lo hi left ab v->ku m P (λ_=>True) lo hi ab
 |.leaf _ _ _ h ha=>.leaf _ _ [] h (Nat.zero_le _) (λ_ h=>by cases h) ha trivial
 |.node _ _ _ _ c ks _ h hc ha hk hs=>.node _ _ _ c ks h hc ha hk hs.GW
def te.GW{lo hi c o:Nat}{left:List (List Bool)}{ab ks v:List Int}:te m P lo hi left c ab o ks v->kv m P (λ_=>True) lo hi ab ks
 |.nil _ _ _ _ _=>.nil _ _
 |.cons _ mid _ _ _ _ _ _ _ _ h hs=>.cons _ mid _ _ _ h.DK hs.GW
end
def DM(m:ah)(P:List Nd)(t:eA)(x:Int):Prop:=(nd P t.1).cls = -1/\(nd P t.1).ew=[]/\(nd P t.1).bh=[]/\z6 m t.2.1=x
mutual
def Tr.leaves{lo hi:Nat}{left:List (List Bool)}{ab v:List Int}(hd:Down P):Tr m P lo hi left ab v->hi<=P.length->(∀ t∈vs P (lo,left,ab),(nd P t.1).cls = -1->∃ x∈v,DM m P t x)/\∀ x∈v,∃ t∈vs P (lo,left,ab),DM m P t x
 |.leaf lo left ab h ha,hh=>by
  rw[K7 hd (by show lo<_;omega) (by show(nd P lo).kids=[];rw[h];rfl)];have hl:DM m P (lo,left,ab) (z6 m left):=⟨by show(nd P lo).cls = -1;rw[h];rfl,by show(nd P lo).ew=[];rw[h];rfl,by show(nd P lo).bh=[];rw[h];rfl,rfl⟩;constructor
  ·intro t ht _;rw[cU]at ht;subst ht;exact⟨_,Iy,hl⟩
  ·intro x hx;rw[cU]at hx;subst hx;exact⟨_,Iy,hl⟩
 |.node lo hi left ab c ks vl h hc ha hk hs,hh=>by
  have hle:=hs.GW.le;obtain⟨i1,i2⟩:=hs.leaves hd hh;have yD:∀ o,oJ P (lo,left,ab) o=((ks.getD o 0).toNat,nL left c o,ab++[(c:Int)]):=λo=>by
   unfold oJ;dsimp only;rw[h];rfl
  have eW:(nd P lo).kids=ks:=by rw[h]
  rw[DN hd (by show lo<_;omega)];constructor
  ·intro t ht bG;rw[bj]at ht;rcases ht with rfl|ht
   ·dsimp only at bG;rw[h]at bG;exact absurd (show(c:Int) = -1 from bG) Ix
   ·obtain⟨u,hu,ht⟩:=N6.1 ht;obtain⟨o,ho,rfl⟩:=z7 (AP.1 hu);dsimp only at ho;rw[eW]at ho;rw[yD]at ht;rw[<- gm o]at ht;exact i1 o ho t (by simpa using ht) bG
  ·intro x hx;obtain⟨o,ho,t,ht,hl⟩:=i2 x hx;rw[gm]at ht;refine⟨t,List.mem_cons_of_mem _ (N6.2 ⟨oJ P (lo,left,ab) o,AP.2 ?_,by rw[yD];exact ht⟩),hl⟩;unfold tg iZ;exact List.mem_map.2 ⟨o,List.mem_range.2 (by show o<(nd P lo).kids.length;rw[eW];exact ho),rfl⟩
def te.leaves{lo hi c o:Nat}{left:List (List Bool)}{ab ks v:List Int}(hd:Down P):te m P lo hi left c ab o ks v->hi<=P.length->(∀ i,i<ks.length->∀ t∈vs P ((ks.getD i 0).toNat,nL left c (o+i),ab),(nd P t.1).cls = -1->∃ x∈v,DM m P t x)/\∀ x∈v,∃ i,i<ks.length/\∃ t∈vs P ((ks.getD i 0).toNat,nL left c (o+i),ab),DM m P t x
 |.nil _ _ _ _ _,_=>⟨λi hi=>(by cases hi),λx hx=>(by cases hx)⟩
 |.cons lo mid hi left c ab o ks v w h hs,hh=>by
  have hle:=hs.GW.le;obtain⟨a1,a2⟩:=h.leaves hd Ix;obtain⟨b1,b2⟩:=hs.leaves hd hh;constructor
  ·intro i hi t ht bG;cases i with
   |zero =>
    rw[im,ep]at ht;obtain⟨x,hx,hl⟩:=a1 t ht bG;exact⟨x,List.mem_append_left _ hx,hl⟩
   |succ i =>
    rw[fM,show o+(i+1)=o+1+i by omega]at ht;obtain⟨x,hx,hl⟩:=b1 i (by simpa using hi) t ht bG;exact⟨x,List.mem_append_right _ hx,hl⟩
  ·intro x hx;rcases List.mem_append.1 hx with hx|hx
   ·obtain⟨t,ht,hl⟩:=a2 x hx;exact⟨0,Iy,t,by rw[im,ep];exact ht,hl⟩
   ·obtain⟨i,hi,t,ht,hl⟩:=b2 x hx;exact⟨i+1,by simpa using hi,t,by rw[fM,show o+(i+1)=o+1+i by omega];exact ht,hl⟩
end
def td(l:List Int)(b:Int):Int:=l.foldl min b
def XW:∀ (l:List Int) (b:Int),td l b<=b/\(∀ x∈l,td l b<=x)/\(td l b=b\/td l b∈l)
 |[],b=>⟨Int.le_refl _,λ_ h=>(by cases h),.inl rfl⟩
 |x::l,b=>by
  obtain⟨h1,h2,h3⟩:=XW l (min b x);have e:td (x::l) b=td l (min b x):=rfl;rw[e];refine⟨Ix,λy hy=>?_,?_⟩
  ·rcases bj.1 hy with rfl|hy
   ·omega
   ·exact h2 y hy
  ·rcases h3 with h3|h3
   ·rcases Int.le_total b x with hb|hb
    ·left;rw[h3];omega
    ·right;rw[h3,Int.min_eq_right hb];simp
   ·right;simp[h3]
def Tr.eR(hm:VM m){v:List Int}(h:Tr m P 0 P.length (eS m) [] v)(hn:P.length<=20000):th m P=(td v 1099511627776,true):=by
 have uI:=h.DK.shaped hn;have hd:=K8 uI;obtain⟨n,h1,h2⟩:=h.DK.eR hm hn;obtain⟨l1,l2⟩:=h.leaves hd (bb _);obtain⟨_,_,hr⟩:=agB h1;obtain⟨q1,q2⟩:=agC hr;obtain⟨m1,m2,m3⟩:=XW v 1099511627776;have e1:td v 1099511627776<=n:=h2 _ m1 λs hs bG=>by
  obtain⟨x,hx,_,qG,_,hv⟩:=l1 s hs bG;rw[qG,XX];have:=m2 x hx;unfold z6 at hv;dsimp only;omega
 have e2:n<=td v 1099511627776:=by
  rcases m3 with e|e
  ·omega
  ·obtain⟨t,ht,bG,qG,BS,hv⟩:=l2 _ e;have:=(q2 t ht).2 bG;rw[BS,if_neg Iy,qG,XX]at this;unfold z6 at hv;dsimp only at this;omega
 rw[h1,show n=td v 1099511627776 by omega]
end T

