import Derived.Test.YtjadfapldkfbpaaGreatX30
import Derived.Test.YtjadfapldkfbpaaGreatX27
set_option linter.all false
set_option maxHeartbeats 0
set_option maxRecDepth 20000
open List renaming getD_eq_getElem?_getD→aG,getElem?_append_left→dg,getElem?_append_right→fO,getElem?_set→cm,length_append→bQ,mem_singleton→ec,mem_cons→cu,mem_flatMap→BZ,mem_reverse→vX,getD_cons_zero→jh,getD_cons_succ→gN
open Nat renaming le_refl→aR,zero_add→gf
open Int renaming toNat_natCast→ig
open Go Go.Am
namespace T
def zC(m:ah)(L:List Int)(nodes:List Nd)(k:Nat):List Nd×Nat:=(nodes++[eW (wU L m 3 (bR L k)).1],(wU L m 3 (bR L k)).2)
def mL(m:ah)(L:List Int)(k:Nat):Int:=da L k ((m.cls.length:Int)+1)
def FO(m:ah)(L:List Int)(s:Nat)(nodes:List Nd)(k:Nat)(ab:List Int):Bool :=
 decide (mL m L k=m.cls.length)||decide (s=0)||decide (300<nodes.length+1)||ab.contains (mL m L k)
def nh(g:List Nd->Nat->List Nd×Nat):Nat->List Nd->Nat->List Int->List Nd×Nat×List Int
 |0,nodes,k,ks=>(nodes,k,ks)
 |w+1,nodes,k,ks=>nh g w (g nodes k).1 (g nodes k).2 (ks++[(nodes.length:Int)])
def ku(m:ah)(L:List Int):Nat->List Nd->Nat->List Int->List Nd×Nat
 |0,nodes,k,ab=>zC m L nodes k
 |s+1,nodes,k,ab =>
  if FO m L (s+1) nodes k ab=true then zC m L nodes k
  else((nh (λn q=>ku m L s n q (ab++[mL m L k])) (m.cls.getD (mL m L k).toNat default).length (nodes++[eW []]) (bR L k) []).1.set nodes.length ⟨mL m L k,(nh (λn q=>ku m L s n q (ab++[mL m L k])) (m.cls.getD (mL m L k).toNat default).length (nodes++[eW []]) (bR L k) []).2.2,[],[],[]⟩,
   (nh (λn q=>ku m L s n q (ab++[mL m L k])) (m.cls.getD (mL m L k).toNat default).length (nodes++[eW []]) (bR L k) []).2.1)
def aim(m:ah)(L:List Int)(s:Nat)(nodes:List Nd)(k:Nat)(ab:List Int):ku m L s nodes k ab =
  if FO m L s nodes k ab=true then zC m L nodes k
  else((nh (λn q=>ku m L (s-1) n q (ab++[mL m L k])) (m.cls.getD (mL m L k).toNat default).length (nodes++[eW []]) (bR L k) []).1.set nodes.length ⟨mL m L k,(nh (λn q=>ku m L (s-1) n q (ab++[mL m L k])) (m.cls.getD (mL m L k).toNat default).length (nodes++[eW []]) (bR L k) []).2.2,[],[],[]⟩,
   (nh (λn q=>ku m L (s-1) n q (ab++[mL m L k])) (m.cls.getD (mL m L k).toNat default).length (nodes++[eW []]) (bR L k) []).2.1):=by
 cases s with
 |zero=>rw[ku,if_pos];unfold FO;simp
 |succ s=>rfl
def ZL(m:ah)(L:List Int)(k:Nat):0<=mL m L k/\mL m L k<=m.cls.length:=by
 have:=kd (L:=L) (k:=k) (n:=(m.cls.length:Int)+1) G3;unfold mL;omega
def kv(w:Nat):Nat->Nat
 |0=>1
 |s+1=>1+w*kv w s
def ZM(w s:Nat):1<=kv w s:=by cases s<;>simp[kv]
structure an6(m:ah)(L:List Int)(w:Nat)(s:Nat)(ab:List Int)(nodes:List Nd)(r:List Nd×Nat):Prop where
 k:r.2<=L.length
 lt:nodes.length<r.1.length
 le:r.1.length<=nodes.length+kv w s
 pre:∀ i,i<nodes.length->nd r.1 i=nd nodes i
 FQ:lN m r.1 (λ_=>True) nodes.length r.1.length ab
def NA{P:List Nd}{x:Nd}{i:Nat}(h:i<P.length):nd (P++[x]) i=nd P i:=by
 unfold nd;rw[aG,dg h,aG]
def ZK{P:List Nd}{x:Nd}:nd (P++[x]) P.length=x:=by
 unfold nd;rw[aG,fO (aR _)];simp
def ain{P:List Nd}{x:Nd}{i j:Nat}(h:j<P.length):nd (P.set j x) i=if i=j then x else nd P i:=by
 unfold nd;rw[aG,cm];by_cases e:j=i
 ·subst e;rw[if_pos rfl,if_pos h,if_pos rfl];rfl
 ·rw[if_neg e,if_neg (Ne.symm e),aG]
def upto(n:Nat):List Int:=(List.range n).map λ(j:Nat)=>(j:Int)
structure an7(m:ah)(w d:Nat)(nodes r:List Nd):Prop where
 lt:nodes.length<r.length
 le:r.length<=nodes.length+kv w d
 pre:∀ i,i<nodes.length->nd r i=nd nodes i
 FQ:lN m r (λab=>ab=upto m.cls.length) nodes.length r.length (upto (m.cls.length-d))
def aik{w o:Nat}(h:o<w)(j:Nat):(nS w o).getD j false=decide (j=o):=by
 unfold nS;rw[aG,cm,List.length_replicate];by_cases e:o=j
 ·subst e;rw[if_pos rfl,if_pos h,decide_eq_true rfl];rfl
 ·rw[if_neg e,List.getElem?_replicate,decide_eq_false (Ne.symm e)];split<;>rfl
def Jh(left:List (List Bool)):Nat->Nat->Nat
 |0,c=>c
 |f+1,c=>if c<left.length/\(left.getD c default).length=1 then Jh left f (c+1) else c
def cH(left:List (List Bool))(c:Nat):Nat:=Jh left (left.length-c) c
def Ny{left:List (List Bool)}{c:Nat}(h:c<left.length/\(left.getD c default).length=1):cH left c=cH left (c+1):=by
 unfold cH;rw[show left.length-c=(left.length-(c+1))+1 by omega,Jh,if_pos h]
def Nz{left:List (List Bool)}{c:Nat}(h:¬(c<left.length/\(left.getD c default).length=1)):cH left c=c:=by
 unfold cH;cases left.length-c with
 |zero=>rfl
 |succ f=>rw[Jh,if_neg h]
def FH{left:List (List Bool)}:∀ (k c:Nat),left.length-c=k->c<=cH left c/\(c<=left.length->cH left c<=left.length)/\(∀ j,c<=j->j<cH left c->j<left.length/\(left.getD j default).length=1)/\(cH left c<left.length->(left.getD (cH left c) default).length≠1)
  |k,c,hk=>by
    by_cases h:c<left.length/\(left.getD c default).length=1
    · rw[Ny h]
      obtain⟨a,b,d,e⟩:=FH (left:=left) (k-1) (c+1) G3;refine⟨G3,λ_=>b G3,λj h1 h2=>?_,e⟩;by_cases e2:j=c
      · subst e2;exact h
      · exact d j G3 h2
    · rw[Nz h]
      exact⟨aR _,λh=>h,λj h1 h2=>G3,λh1 h2=>h ⟨h1,h2⟩⟩
 termination_by k c _=>left.length-c
def uo:List Bool->Int->Int
 |[],_=>-1
 |b::r,i=>if b=true then i else uo r (i+1)
def kr(left:List (List Bool)):List Int:=left.map λl=>uo l 0
structure DS where
 nodes:List Nd
 room:Int
 eN:Int
 whole:Bool
 plan:List Int
 cO:Int
 fe:Int
def um(f:List (List Bool)->DS->DS)(left:List (List Bool))(c:Nat):Nat->Nat->DS->List Int->DS×List Int
 |0,_,s,ks=>(s,ks)
 |w+1,o,s,ks=>um f left c w (o+1) (f (cf left c o) s) (ks++[(s.nodes.length:Int)])
def po(left:List (List Bool))(c:Nat)(v:Int)(s:DS):DS:=⟨s.nodes++[eW []],s.room-(left.getD c default).length,s.eN-1,s.whole,s.plan,s.cO,s.fe⟩
def FM(c j:Nat)(r:DS×List Int):DS:={ r.1 with nodes:=r.1.nodes.set j ⟨(c:Int),r.2,[],[],[]⟩ }
def si(m:ah):Nat->Nat->List (List Bool)->DS->DS
 |0,_,_,s=>s
 |f+1,c,left,s =>
  if s.cO<=iA m left then { s with nodes:=s.nodes++[eW []],fe:=min s.fe (iA m left) }
  else if cH left c=left.length then { s with nodes:=s.nodes++[eW []],plan:=kr left,cO:=iA m left,fe:=min s.fe (iA m left) }
  else if s.eN=0\/s.room<(left.getD (cH left c) default).length then { s with nodes:=s.nodes++[eW []],whole:=false,fe:=min s.fe (iA m left) }
  else FM (cH left c) s.nodes.length (um (si m f (cH left c+1)) left (cH left c) (left.getD (cH left c) default).length 0 (po left (cH left c) (iA m left) s) [])
def wL(m:ah)(p:List Int):Int:=mC (mZ m p) 0
def ZN(f:List Int->List Int×Int)(p:List Int):Nat->Nat->List Int×Int->List Int×Int
 |0,_,a=>a
 |w+1,k,a=>ZN f p w (k+1) (if(f (p++[(k:Int)])).2<a.2 then f (p++[(k:Int)]) else a)
def ZO(m:ah):Nat->List Int->List Int×Int
 |0,p=>if 1099511627776<=wL m p then([],1099511627776) else(p,wL m p)
 |d+1,p=>ZN (ZO m d) p (m.cls.getD p.length default).length 0 ([],1099511627776)
def ZP(f:List Int->List Int×Int->List Int×Int)(p:List Int):Nat->Nat->List Int×Int->List Int×Int
 |0,_,a=>a
 |w+1,k,a=>ZP f p w (k+1) (f (p++[(k:Int)]) a)
def C8(m:ah):Nat->List Int->List Int×Int->List Int×Int
 |0,p,a=>if wL m p<a.2 then(p,wL m p) else a
 |d+1,p,a=>ZP (C8 m d) p (m.cls.getD p.length default).length 0 a
structure BP(m:ah)(p:List Int):Prop where
 len:p.length<=m.cls.length
 get:∀ j,j<p.length->0<=p.getD j 0/\p.getD j 0<(m.cls.getD j default).length
def Nw{p q:List Int}{j:Nat}(h:j<p.length):(p++q).getD j 0=p.getD j 0:=by
 rw[aG,dg h,<- aG]
def Nx{p:List Int}{x:Int}:(p++[x]).getD p.length 0=x:=by
 rw[aG,fO (aR _),Nat.sub_self];rfl
def BP.snoc{m:ah}{p:List Int}(h:BP m p){k:Nat}(h1:p.length<m.cls.length)(hk:k<(m.cls.getD p.length default).length):BP m (p++[(k:Int)]):=⟨by rw[bQ];exact h1,λj hj=>by
 rw[bQ]at hj;by_cases e:j<p.length
 ·rw[Nw e];exact h.get j e
 ·obtain rfl:j=p.length:=by simp at hj;omega
  rw[Nx];omega⟩
def BP.fp{m:ah}{p:List Int}(h:BP m p)(hl:p.length=m.cls.length):FP m p:=⟨hl,λj hj=>iv.2 (by
 have:=h.get j hj;rw[ig];omega)⟩
def Bj(m:ah)(left:List (List Bool)):Int:=r8 m left (S0 m,T0 m)
mutual
inductive Tr(m:ah)(P:List Nd):Nat->Nat->List (List Bool)->List Int->List Int->Prop
 |leaf (lo:Nat) (left:List (List Bool)) (ab:List Int) (h:nd P lo=eW []) (ha:(-1:Int) ∉ ab):Tr m P lo (lo+1) left ab [Bj m left]
 |node (lo hi:Nat) (left:List (List Bool)) (ab:List Int) (c:Nat) (ks vs:List Int) (h:nd P lo=⟨c,ks,[],[],[]⟩) (hc:c<m.cls.length) (ha:(c:Int) ∉ ab) (hk:ks.length=(m.cls.getD c default).length) (hs:ur m P (lo+1) hi left c (ab++[(c:Int)]) 0 ks vs):Tr m P lo hi left ab vs
inductive ur(m:ah)(P:List Nd):Nat->Nat->List (List Bool)->Nat->List Int->Nat->List Int->List Int->Prop
 |nil (lo:Nat) (left:List (List Bool)) (c:Nat) (ab:List Int) (o:Nat):ur m P lo lo left c ab o [] []
 |cons (lo mid hi:Nat) (left:List (List Bool)) (c:Nat) (ab:List Int) (o:Nat) (ks v vs:List Int) (h:Tr m P lo mid (cf left c o) ab v) (hs:ur m P mid hi left c ab (o+1) ks vs):ur m P lo hi left c ab o ((lo:Int)::ks) (v++vs)
end
variable {m:ah} {P P':List Nd} {lo mid hi c o:Nat} {left:List (List Bool)} {ab ks v w:List Int}
def ur.snoc(h2:Tr m P mid hi (cf left c (o+ks.length)) ab w)(h:ur m P lo mid left c ab o ks v):ur m P lo hi left c ab o (ks++[(mid:Int)]) (v++w):=by
 induction ks generalizing lo o v with
 |nil =>
  cases h;have:=ur.cons _ _ _ left c ab o [] w [] h2 (.nil _ _ _ _ _);simpa using this
 |cons k ks ih =>
  cases h with
  |cons _ aio _ _ _ _ _ _ v1 vs h1 hs =>
   rw[List.append_assoc];exact .cons _ _ _ _ _ _ _ _ _ _ h1 (ih (by rw[List.length_cons]at h2;rwa [show o+1+ks.length=o+(ks.length+1) by omega]) hs)
mutual
def Tr.FQ{lo hi:Nat}{left:List (List Bool)}{ab v:List Int}:Tr m P lo hi left ab v->lN m P (λ_=>True) lo hi ab
 |.leaf _ _ _ h ha=>.leaf _ _ [] h (Nat.zero_le _) (λ_ h=>by cases h) ha trivial
 |.node _ _ _ _ c ks _ h hc ha hk hs=>.node _ _ _ c ks h hc ha hk hs.Ji
def ur.Ji{lo hi c o:Nat}{left:List (List Bool)}{ab ks v:List Int}:ur m P lo hi left c ab o ks v->lO m P (λ_=>True) lo hi ab ks
 |.nil _ _ _ _ _=>.nil _ _
 |.cons _ mid _ _ _ _ _ _ _ _ h hs=>.cons _ mid _ _ _ h.FQ hs.Ji
end
def FR(m:ah)(P:List Nd)(t:ee)(x:Int):Prop:=(nd P t.1).cls = -1/\(nd P t.1).cR=[]/\(nd P t.1).bh=[]/\Bj m t.2.1=x
mutual
def Tr.leaves{lo hi:Nat}{left:List (List Bool)}{ab v:List Int}(hd:Down P):Tr m P lo hi left ab v->hi<=P.length->(∀ t∈vs P (lo,left,ab),(nd P t.1).cls = -1->∃ x∈v,FR m P t x)/\∀ x∈v,∃ t∈vs P (lo,left,ab),FR m P t x
 |.leaf lo left ab h ha,hh=>by
  rw[NC hd (by show lo<_;omega) (by show(nd P lo).kids=[];rw[h];rfl)];have hl:FR m P (lo,left,ab) (Bj m left):=⟨by show(nd P lo).cls = -1;rw[h];rfl,by show(nd P lo).cR=[];rw[h];rfl,by show(nd P lo).bh=[];rw[h];rfl,rfl⟩;constructor
  ·intro t ht _;rw[ec]at ht;subst ht;exact⟨_,G9,hl⟩
  ·intro x hx;rw[ec]at hx;subst hx;exact⟨_,G9,hl⟩
 |.node lo hi left ab c ks vl h hc ha hk hs,hh=>by
  have hle:=hs.Ji.le;obtain⟨i1,i2⟩:=hs.leaves hd hh;have qO:∀ o,nT P (lo,left,ab) o=((ks.getD o 0).toNat,cf left c o,ab++[(c:Int)]):=λo=>by
   unfold nT;dsimp only;rw[h];rfl
  have cF:(nd P lo).kids=ks:=by rw[h]
  rw[FT hd (by show lo<_;omega)];constructor
  ·intro t ht bY;rw[cu]at ht;rcases ht with rfl|ht
   ·dsimp only at bY;rw[h]at bY;exact absurd (show(c:Int) = -1 from bY) G3
   ·obtain⟨u,hu,ht⟩:=BZ.1 ht;obtain⟨o,ho,rfl⟩:=wV (vX.1 hu);dsimp only at ho;rw[cF]at ho;rw[qO]at ht;rw[<- gf o]at ht;exact i1 o ho t (by simpa using ht) bY
  ·intro x hx;obtain⟨o,ho,t,ht,hl⟩:=i2 x hx;rw[gf]at ht;refine⟨t,List.mem_cons_of_mem _ (BZ.2 ⟨nT P (lo,left,ab) o,vX.2 ?_,by rw[qO];exact ht⟩),hl⟩;unfold qP jD;exact List.mem_map.2 ⟨o,List.mem_range.2 (by show o<(nd P lo).kids.length;rw[cF];exact ho),rfl⟩
def ur.leaves{lo hi c o:Nat}{left:List (List Bool)}{ab ks v:List Int}(hd:Down P):ur m P lo hi left c ab o ks v->hi<=P.length->(∀ i,i<ks.length->∀ t∈vs P ((ks.getD i 0).toNat,cf left c (o+i),ab),(nd P t.1).cls = -1->∃ x∈v,FR m P t x)/\∀ x∈v,∃ i,i<ks.length/\∃ t∈vs P ((ks.getD i 0).toNat,cf left c (o+i),ab),FR m P t x
 |.nil _ _ _ _ _,_=>⟨λi hi=>(by cases hi),λx hx=>(by cases hx)⟩
 |.cons lo mid hi left c ab o ks v w h hs,hh=>by
  have hle:=hs.Ji.le;obtain⟨a1,a2⟩:=h.leaves hd G3;obtain⟨b1,b2⟩:=hs.leaves hd hh;constructor
  ·intro i hi t ht bY;cases i with
   |zero =>
    rw[jh,ig]at ht;obtain⟨x,hx,hl⟩:=a1 t ht bY;exact⟨x,List.mem_append_left _ hx,hl⟩
   |succ i =>
    rw[gN,show o+(i+1)=o+1+i by omega]at ht;obtain⟨x,hx,hl⟩:=b1 i (by simpa using hi) t ht bY;exact⟨x,List.mem_append_right _ hx,hl⟩
  ·intro x hx;rcases List.mem_append.1 hx with hx|hx
   ·obtain⟨t,ht,hl⟩:=a2 x hx;exact⟨0,G9,t,by rw[jh,ig];exact ht,hl⟩
   ·obtain⟨i,hi,t,ht,hl⟩:=b2 x hx;exact⟨i+1,by simpa using hi,t,by rw[gN,show o+(i+1)=o+1+i by omega];exact ht,hl⟩
end
def uq(l:List Int)(b:Int):Int:=l.foldl min b
def ZQ:∀ (l:List Int) (b:Int),uq l b<=b/\(∀ x∈l,uq l b<=x)/\(uq l b=b\/uq l b∈l)
 |[],b=>⟨Int.le_refl _,λ_ h=>(by cases h),.inl rfl⟩
 |x::l,b=>by
  obtain⟨h1,h2,h3⟩:=ZQ l (min b x);have e:uq (x::l) b=uq l (min b x):=rfl;rw[e];refine⟨G3,λy hy=>?_,?_⟩
  ·rcases cu.1 hy with rfl|hy
   ·omega
   ·exact h2 y hy
  ·rcases h3 with h3|h3
   ·rcases Int.le_total b x with hb|hb
    ·left;rw[h3];omega
    ·right;rw[h3,Int.min_eq_right hb];simp
   ·right;simp[h3]
def Tr.fZ(hm:VM m){v:List Int}(h:Tr m P 0 P.length (fM m) [] v)(hn:P.length<=20000):lY m P=(uq v 1099511627776,true):=by
 have yk:=h.FQ.shaped hn;have hd:=wW yk;obtain⟨n,h1,h2⟩:=h.FQ.fZ hm hn;obtain⟨l1,l2⟩:=h.leaves hd (aR _);obtain⟨_,_,hr⟩:=ZR h1;obtain⟨q1,q2⟩:=ZS hr;obtain⟨m1,m2,m3⟩:=ZQ v 1099511627776;have e1:uq v 1099511627776<=n:=h2 _ m1 λs hs bY=>by
  obtain⟨x,hx,_,qQ,_,hv⟩:=l1 s hs bY;rw[qQ,ZT];have:=m2 x hx;unfold Bj at hv;dsimp only;omega
 have e2:n<=uq v 1099511627776:=by
  rcases m3 with e|e
  ·omega
  ·obtain⟨t,ht,bY,qQ,Bk,hv⟩:=l2 _ e;have:=(q2 t ht).2 bY;rw[Bk,if_neg G9,qQ,ZT]at this;unfold Bj at hv;dsimp only at this;omega
 rw[h1,show n=uq v 1099511627776 by omega]
end T

