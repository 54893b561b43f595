import Derived.Test.YtfoopmojjjpapaaGreatX41
set_option linter.all false
set_option maxHeartbeats 0
set_option maxRecDepth 20000
open List renaming getD_eq_getElem?_getD→az,length_append→bO,mem_singleton→cV,mem_cons→bw,mem_flatMap→Cd,mem_reverse→wE,getD_cons_zero→ik,getD_cons_succ→e7
open Nat renaming le_refl→aY,zero_le→aS,zero_add→gJ
open Int renaming toNat_natCast→c7
open Go Go.Am
namespace T
def HV(left:List (List Bool)):Nat->Nat->Nat
 |0,c=>c
 |f+1,c=>if c<left.length/\(left.getD c default).length=1 then HV left f (c+1) else c
def CV(left:List (List Bool))(c:Nat):Nat:=HV left (left.length-c) c
def agO{left:List (List Bool)}{c:Nat}(h:c<left.length/\(left.getD c default).length=1):CV left c=CV left (c+1):=by
 unfold CV;rw[show left.length-c=(left.length-(c+1))+1 by omega,HV,if_pos h]
def agP{left:List (List Bool)}{c:Nat}(h:¬(c<left.length/\(left.getD c default).length=1)):CV left c=c:=by
 unfold CV;cases left.length-c with
 |zero=>rfl
 |succ f=>rw[HV,if_neg h]
structure DS where
 nodes:List Nd
 room:Int
 spl:Int
 whole:Bool
 plan:List Int
 kK:Int
 yk:Int
def Mf(m:ah)(p:List Int):Int:=wW (zF m p) 0
def Ts(f:List Int->List Int×Int->List Int×Int)(p:List Int):Nat->Nat->List Int×Int->List Int×Int
 |0,_,a=>a
 |w+1,k,a=>Ts f p w (k+1) (f (p++[(k:Int)]) a)
def CW(m:ah):Nat->List Int->List Int×Int->List Int×Int
 |0,p,a=>if Mf m p<a.2 then(p,Mf m p) else a
 |d+1,p,a=>Ts (CW m d) p (m.cls.getD p.length default).length 0 a
structure BP(m:ah)(p:List Int):Prop where
 len:p.length<=m.cls.length
 get:∀ j,j<p.length->0<=p.getD j 0/\p.getD j 0<(m.cls.getD j default).length
def Mg{p q:List Int}{j:Nat}(h:j<p.length):(p++q).getD j 0=p.getD j 0:=by
 rw[az,List.getElem?_append_left h,<- az]
def Mh{p:List Int}{x:Int}:(p++[x]).getD p.length 0=x:=by
 rw[az,List.getElem?_append_right (aY _),Nat.sub_self];rfl
def BP.snoc{m:ah}{p:List Int}(h:BP m p){k:Nat}(h1:p.length<m.cls.length)(hk:k<(m.cls.getD p.length default).length):BP m (p++[(k:Int)]):=⟨by rw[bO];exact h1,λj hj=>by
 rw[bO]at hj;by_cases e:j<p.length
 ·rw[Mg e];exact h.get j e
 ·obtain rfl:j=p.length:=by simp at hj;omega
  rw[Mh];omega⟩
def BP.fp{m:ah}{p:List Int}(h:BP m p)(hl:p.length=m.cls.length):FP m p:=⟨hl,λj hj=>jN.2 (by
 have:=h.get j hj;rw[c7];omega)⟩
def Bi(m:ah)(left:List (List Bool)):Int:=l8 m left (S0 m,T0 m)
mutual
inductive Tr(m:ah)(P:List Nd):Nat->Nat->List (List Bool)->List Int->List Int->Prop
 |leaf (lo:Nat) (left:List (List Bool)) (ab:List Int) (h:nd P lo=Mi []) (ha:(-1:Int) ∉ ab):Tr m P lo (lo+1) left ab [Bi m left]
 |node (lo hi:Nat) (left:List (List Bool)) (ab:List Int) (c:Nat) (ks vs:List Int) (h:nd P lo=⟨c,ks,[],[],[]⟩) (hc:c<m.cls.length) (ha:(c:Int) ∉ ab) (hk:ks.length=(m.cls.getD c default).length) (hs:uv m P (lo+1) hi left c (ab++[(c:Int)]) 0 ks vs):Tr m P lo hi left ab vs
inductive uv(m:ah)(P:List Nd):Nat->Nat->List (List Bool)->Nat->List Int->Nat->List Int->List Int->Prop
 |nil (lo:Nat) (left:List (List Bool)) (c:Nat) (ab:List Int) (o:Nat):uv m P lo lo left c ab o [] []
 |cons (lo mid hi:Nat) (left:List (List Bool)) (c:Nat) (ab:List Int) (o:Nat) (ks v vs:List Int) (h:Tr m P lo mid (gZ left c o) ab v) (hs:uv m P mid hi left c ab (o+1) ks vs):uv m P lo hi left c ab o ((lo:Int)::ks) (v++vs)
end
variable {m:ah} {P P':List Nd} {lo mid hi c o:Nat} {left:List (List Bool)} {ab ks v w:List Int}
def uv.snoc(h2:Tr m P mid hi (gZ left c (o+ks.length)) ab w)(h:uv m P lo mid left c ab o ks v):uv m P lo hi left c ab o (ks++[(mid:Int)]) (v++w):=by
 induction ks generalizing lo o v with
 |nil =>
  cases h;have:=uv.cons _ _ _ left c ab o [] w [] h2 (.nil _ _ _ _ _);simpa using this
 |cons k ks ih =>
  cases h with
  |cons _ agQ _ _ _ _ _ _ v1 vs h1 hs =>
   rw[List.append_assoc];exact .cons _ _ _ _ _ _ _ _ _ _ h1 (ih (by rw[List.length_cons]at h2;rwa [show o+1+ks.length=o+(ks.length+1) by omega]) hs)
mutual
def Tr.EF{lo hi:Nat}{left:List (List Bool)}{ab v:List Int}:Tr m P lo hi left ab v->lh m P (λ_=>True) lo hi ab
 |.leaf _ _ _ h ha=>.leaf _ _ [] h (aS _) (λ_ h=>by cases h) ha trivial
 |.node _ _ _ _ c ks _ h hc ha hk hs=>.node _ _ _ c ks h hc ha hk hs.HW
def uv.HW{lo hi c o:Nat}{left:List (List Bool)}{ab ks v:List Int}:uv m P lo hi left c ab o ks v->lj m P (λ_=>True) lo hi ab ks
 |.nil _ _ _ _ _=>.nil _ _
 |.cons _ mid _ _ _ _ _ _ _ _ h hs=>.cons _ mid _ _ _ h.EF hs.HW
end
def EG(m:ah)(P:List Nd)(t:dF)(x:Int):Prop:=(nd P t.1).cls = -1/\(nd P t.1).c9=[]/\(nd P t.1).a7=[]/\Bi m t.2.1=x
mutual
def Tr.leaves{lo hi:Nat}{left:List (List Bool)}{ab v:List Int}(hd:Down P):Tr m P lo hi left ab v->hi<=P.length->(∀ t∈vs P (lo,left,ab),(nd P t.1).cls = -1->∃ x∈v,EG m P t x)/\∀ x∈v,∃ t∈vs P (lo,left,ab),EG m P t x
 |.leaf lo left ab h ha,hh=>by
  rw[Mj hd (by show lo<_;omega) (by show(nd P lo).kids=[];rw[h];rfl)];have hl:EG m P (lo,left,ab) (Bi m left):=⟨by show(nd P lo).cls = -1;rw[h];rfl,by show(nd P lo).c9=[];rw[h];rfl,by show(nd P lo).a7=[];rw[h];rfl,rfl⟩;constructor
  ·intro t ht _;rw[cV]at ht;subst ht;exact⟨_,GM,hl⟩
  ·intro x hx;rw[cV]at hx;subst hx;exact⟨_,GM,hl⟩
 |.node lo hi left ab c ks vl h hc ha hk hs,hh=>by
  have hle:=hs.HW.le;obtain⟨i1,i2⟩:=hs.leaves hd hh;have zD:∀ o,ny P (lo,left,ab) o=((ks.getD o 0).toNat,gZ left c o,ab++[(c:Int)]):=λo=>by
   unfold ny;dsimp only;rw[h];rfl
  have eG:(nd P lo).kids=ks:=by rw[h]
  rw[EH hd (by show lo<_;omega)];constructor
  ·intro t ht bK;rw[bw]at ht;rcases ht with rfl|ht
   ·dsimp only at bK;rw[h]at bK;exact absurd (show(c:Int) = -1 from bK) GK
   ·obtain⟨u,hu,ht⟩:=Cd.1 ht;obtain⟨o,ho,rfl⟩:=wX (wE.1 hu);dsimp only at ho;rw[eG]at ho;rw[zD]at ht;rw[<- gJ o]at ht;exact i1 o ho t (by simpa using ht) bK
  ·intro x hx;obtain⟨o,ho,t,ht,hl⟩:=i2 x hx;rw[gJ]at ht;refine⟨t,List.mem_cons_of_mem _ (Cd.2 ⟨ny P (lo,left,ab) o,wE.2 ?_,by rw[zD];exact ht⟩),hl⟩;unfold qz je;exact List.mem_map.2 ⟨o,List.mem_range.2 (by show o<(nd P lo).kids.length;rw[eG];exact ho),rfl⟩
def uv.leaves{lo hi c o:Nat}{left:List (List Bool)}{ab ks v:List Int}(hd:Down P):uv m P lo hi left c ab o ks v->hi<=P.length->(∀ i,i<ks.length->∀ t∈vs P ((ks.getD i 0).toNat,gZ left c (o+i),ab),(nd P t.1).cls = -1->∃ x∈v,EG m P t x)/\∀ x∈v,∃ i,i<ks.length/\∃ t∈vs P ((ks.getD i 0).toNat,gZ left c (o+i),ab),EG m P t x
 |.nil _ _ _ _ _,_=>⟨λi hi=>(by cases hi),λx hx=>(by cases hx)⟩
 |.cons lo mid hi left c ab o ks v w h hs,hh=>by
  have hle:=hs.HW.le;obtain⟨a1,a2⟩:=h.leaves hd GK;obtain⟨b1,b2⟩:=hs.leaves hd hh;constructor
  ·intro i hi t ht bK;cases i with
   |zero =>
    rw[ik,c7]at ht;obtain⟨x,hx,hl⟩:=a1 t ht bK;exact⟨x,List.mem_append_left _ hx,hl⟩
   |succ i =>
    rw[e7,show o+(i+1)=o+1+i by omega]at ht;obtain⟨x,hx,hl⟩:=b1 i (by simpa using hi) t ht bK;exact⟨x,List.mem_append_right _ hx,hl⟩
  ·intro x hx;rcases List.mem_append.1 hx with hx|hx
   ·obtain⟨t,ht,hl⟩:=a2 x hx;exact⟨0,GM,t,by rw[ik,c7];exact ht,hl⟩
   ·obtain⟨i,hi,t,ht,hl⟩:=b2 x hx;exact⟨i+1,by simpa using hi,t,by rw[e7,show o+(i+1)=o+1+i by omega];exact ht,hl⟩
end
def uw(l:List Int)(b:Int):Int:=l.foldl min b
def Tt:∀ (l:List Int) (b:Int),uw l b<=b/\(∀ x∈l,uw l b<=x)/\(uw l b=b\/uw l b∈l)
 |[],b=>⟨Int.le_refl _,λ_ h=>(by cases h),.inl rfl⟩
 |x::l,b=>by
  obtain⟨h1,h2,h3⟩:=Tt l (min b x);have e:uw (x::l) b=uw l (min b x):=rfl;rw[e];refine⟨GK,λy hy=>?_,?_⟩
  ·rcases bw.1 hy with rfl|hy
   ·omega
   ·exact h2 y hy
  ·rcases h3 with h3|h3
   ·rcases Int.le_total b x with hb|hb
    ·left;rw[h3];omega
    ·right;rw[h3,Int.min_eq_right hb];simp
   ·right;simp[h3]
def Tr.fh(hm:VM m){v:List Int}(h:Tr m P 0 P.length (cI m) [] v)(hn:P.length<=20000):nA m P=(uw v 1099511627776,true):=by
 have rG:=h.EF.shaped hn;have hd:=wY rG;obtain⟨n,h1,h2⟩:=h.EF.fh hm hn;obtain⟨l1,l2⟩:=h.leaves hd (aY _);obtain⟨_,_,hr⟩:=Tu h1;obtain⟨q1,q2⟩:=Tv hr;obtain⟨m1,m2,m3⟩:=Tt v 1099511627776;have e1:uw v 1099511627776<=n:=h2 _ m1 λs hs bK=>by
  obtain⟨x,hx,_,rH,_,hv⟩:=l1 s hs bK;rw[rH,Tw];have:=m2 x hx;unfold Bi at hv;dsimp only;omega
 have e2:n<=uw v 1099511627776:=by
  rcases m3 with e|e
  ·omega
  ·obtain⟨t,ht,bK,rH,yl,hv⟩:=l2 _ e;have:=(q2 t ht).2 bK;rw[yl,if_neg GM,rH,Tw]at this;unfold Bi at hv;dsimp only at this;omega
 rw[h1,show n=uw v 1099511627776 by omega]
structure Dn(m:ah)(left:List (List Bool))(p:List Int):Prop where
 fit:dh m left
 bp:BP m p
 one:∀ j,j<p.length->left.getD j default=wZ (m.cls.getD j default).length (p.getD j 0).toNat
 all:∀ j,p.length<=j->j<m.cls.length->left.getD j default=List.replicate (m.cls.getD j default).length true
variable {m:ah} {left:List (List Bool)} {p:List Int}
def Dn.root(hm:VM m):Dn m (cI m) []:=by
 refine⟨Ey hm,⟨aS _,λj hj=>(by cases hj)⟩,λj hj=>(by cases hj),λj _ hj=>?_⟩;unfold cI dW;rw[if_pos (nu.2 hm),iS _ _ _ hj]
def Tx{left:List (List Bool)}{c j:Nat}(x:List Bool)(h:c≠j):(left.set c x).getD j default=left.getD j default:=by
 rw[az,List.getElem?_set_ne h,<- az]
def Dn.next(h:Dn m left p)(hc:p.length<m.cls.length){k:Nat}(hk:k<(m.cls.getD p.length default).length):Dn m (gZ left p.length k) (p++[(k:Int)]):=by
 refine⟨HX h.fit (Mk _ _ _),h.bp.snoc hc hk,λj hj=>?_,λj h1 h2=>?_⟩
 ·unfold gZ;rw[bO]at hj;by_cases e:j<p.length
  ·rw[Tx _ GK,Mg e];exact h.one j e
  ·obtain rfl:j=p.length:=by simp at hj;omega
   rw[uq _ _ _ (by rw[h.fit.1];exact hc),Mh,h.fit.2 _ (by rw[h.fit.1];exact hc)];rfl
 ·unfold gZ;rw[bO]at h1;rw[Tx _ (by simp at h1;omega)];exact h.all j GK h2
def Dn.single(h:Dn m left p)(hc:p.length<left.length)(h1:(left.getD p.length default).length=1):Dn m left (p++[0]):=by
 have fY:p.length<m.cls.length:=by rw[<- h.fit.1];exact hc
 have hl:=h.fit.2 _ hc;refine⟨h.fit,h.bp.snoc (k:=0) fY GK,λj hj=>?_,λj h2 h3=>h.all j (by rw[bO]at h2;omega) h3⟩;rw[bO]at hj;by_cases e:j<p.length
 ·rw[Mg e];exact h.one j e
 ·obtain rfl:j=p.length:=by simp at hj;omega
  rw[Mh,h.all _ (aY _) fY,<- hl,h1];rfl
def Dn.skip:∀ (k:Nat) (p:List Int),left.length-p.length=k->Dn m left p->∃ r:List Int,Dn m left (p++r)/\(p++r).length=CV left p.length/\∀ a,CW m (m.cls.length-p.length) p a=CW m (m.cls.length-(p++r).length) (p++r) a
  |k,p,hk,h=>by
    by_cases hc:p.length<left.length/\(left.getD p.length default).length=1
    · have h1:=h.single hc.1 hc.2
      obtain⟨r,a1,a2,a3⟩:=Dn.skip (k-1) (p++[0]) (by rw[bO];simp;omega) h1;have e:p++[0]++r=p++(0::r):=GM;rw[e]at a1 a2 a3;refine⟨0::r,a1,?_,λa=>?_⟩
      · rw[agO hc,a2];simp
      · rw[<- a3 a]
        have hl:=h.fit.2 _ hc.1;have aX:p.length<m.cls.length:=by rw[<- h.fit.1];exact hc.1
        rw[show m.cls.length-p.length=(m.cls.length-(p++[0]).length)+1 by simp;omega,CW,<- hl,hc.2];rfl
    · exact⟨[],by simpa using h,by rw[agP hc];simp,λa=>GM⟩
 termination_by k p _ _=>left.length-p.length
decreasing_by simp;omega
def Dn.agR(h:Dn m left p)(hl:p.length=m.cls.length):EI m left p:=λi hi j=>by
 have:=h.bp.get i GK;rw[h.one i GK,agS GK]
def Dn.exact(hm:VM m)(h:Dn m left p)(hl:p.length=m.cls.length):CX m left=Mf m p:=by
 rw[Tz hm h.fit];exact S7 hm (h.bp.fp hl) left h.fit (h.agR hl) [] (λ_ h=>by cases h)
structure DL(m:ah)(left:List (List Bool))(p:List Int)(s r:DS):Prop where
 kK:r.kK<=s.kK
 bl:r.yk<=s.yk
 bt:r.kK<s.kK->r.yk<=r.kK
 wh:r.whole=true->s.whole=true/\(r.plan,r.kK)=CW m (m.cls.length-p.length) p (s.plan,s.kK)/\min s.yk r.kK<=r.yk
 room:(r.nodes.length:Int)+r.room=s.nodes.length+s.room+1
 rm0:0<=s.room->0<=r.room
 lt:s.nodes.length<r.nodes.length
 pre:∀ i,i<s.nodes.length->nd r.nodes i=nd s.nodes i
 tr:∀ ab:List Int,(∀ x∈ab,0<=x/\x<p.length)->∃ v,Tr m r.nodes s.nodes.length r.nodes.length left ab v/\r.yk=uw v s.yk
def DL.leaf(hm:VM m)(h:dh m left){s r:DS}(hn:r.nodes=s.nodes++[Mi []])(hr:r.room=s.room)(hb:r.yk=min s.yk (CX m left))(ht:r.kK<=s.kK)(hbt:r.kK<s.kK->r.kK=CX m left)(hw:r.whole=true->s.whole=true/\(r.plan,r.kK)=CW m (m.cls.length-p.length) p (s.plan,s.kK)/\r.kK<=CX m left):DL m left p s r:=by
 refine⟨ht,GK,λh=>by have:=hbt h;omega,λh=>?_,by rw[hn,hr];simp;omega,λh=>GK,by rw[hn];simp,λi hi=>by rw[hn];exact agU hi,λab ju=>⟨[Bi m left],?_,?_⟩⟩
 ·obtain⟨a,b,c⟩:=hw h;exact⟨a,b,GK⟩
 ·rw[hn,bO];exact .leaf _ _ _ agV (λh=>by have:=ju _ h;omega)
 ·rw[hb];unfold uw Bi;rw[Tz hm h];rfl
def HU(m:ah):Nat->Nat
 |0=>1
 |d+1=>(m.cls.getD (m.cls.length-(d+1)) default).length*HU m d
variable {m:ah} {left:List (List Bool)} {p:List Int}
end T

