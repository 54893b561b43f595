import Derived.Test.YtfoopmojjjpapaaGreatX30
import Derived.Test.YtfoopmojjjpapaaGreatX37
set_option linter.all false
set_option maxHeartbeats 0
set_option maxRecDepth 20000
open List renaming getD_eq_getElem?_getD→ax,length_append→bL,mem_singleton→c8,mem_cons→bm,mem_flatMap→CH,mem_reverse→wq,getD_cons_zero→iv,getD_cons_succ→fq,getElem?_eq_some_iff→aR
open Nat renaming le_refl→aX,zero_le→aW,zero_add→fc,le_trans→sr
open Int renaming toNat_natCast→cY
open Go Go.Am Go.Proofs
namespace T
def Gp(left:List (List Bool)):Nat->Nat->Nat
 |0,c=>c
 |f+1,c=>if c<left.length/\(left.getD c default).length=1 then Gp left f (c+1) else c
def By(left:List (List Bool))(c:Nat):Nat:=Gp left (left.length-c) c
def aeD{left:List (List Bool)}{c:Nat}(h:c<left.length/\(left.getD c default).length=1):By left c=By left (c+1):=by
 unfold By;rw[show left.length-c=(left.length-(c+1))+1 by omega,Gp,if_pos h]
def aeE{left:List (List Bool)}{c:Nat}(h:¬(c<left.length/\(left.getD c default).length=1)):By left c=c:=by
 unfold By;cases left.length-c with
 |zero=>rfl
 |succ f=>rw[Gp,if_neg h]
structure DS where
 nodes:List Nd
 room:Int
 spl:Int
 whole:Bool
 plan:List Int
 j8:Int
 wP:Int
def Kv(m:ah)(p:List Int):Int:=pz (rK m p) 0
def RT(f:List Int->List Int×Int->List Int×Int)(p:List Int):Nat->Nat->List Int×Int->List Int×Int
 |0,_,a=>a
 |w+1,k,a=>RT f p w (k+1) (f (p++[(k:Int)]) a)
def Bz(m:ah):Nat->List Int->List Int×Int->List Int×Int
 |0,p,a=>if Kv m p<a.2 then(p,Kv m p) else a
 |d+1,p,a=>RT (Bz m d) p (m.cls.getD p.length default).length 0 a
structure BP(m:ah)(p:List Int):Prop where
 len:p.length<=m.cls.length
 get:∀ j,j<p.length->0<=p.getD j 0/\p.getD j 0<(m.cls.getD j default).length
def Kw{p q:List Int}{j:Nat}(h:j<p.length):(p++q).getD j 0=p.getD j 0:=by
 rw[ax,List.getElem?_append_left h,<- ax]
def Kx{p:List Int}{x:Int}:(p++[x]).getD p.length 0=x:=by
 rw[ax,List.getElem?_append_right (aX _),Nat.sub_self];rfl
def BP.snoc{m:ah}{p:List Int}(h:BP m p){k:Nat}(h1:p.length<m.cls.length)(hk:k<(m.cls.getD p.length default).length):BP m (p++[(k:Int)]):=⟨by rw[bL];exact h1,λj hj=>by
 rw[bL]at hj;by_cases e:j<p.length
 ·rw[Kw e];exact h.get j e
 ·obtain rfl:j=p.length:=by simp at hj;omega
  rw[Kx];omega⟩
def BP.fp{m:ah}{p:List Int}(h:BP m p)(hl:p.length=m.cls.length):FP m p:=⟨hl,λj hj=>iN.2 (by
 have:=h.get j hj;rw[cY];omega)⟩
def zS(m:ah)(left:List (List Bool)):Int:=kk m left (S0 m,T0 m)
mutual
inductive Tr(m:ah)(P:List Nd):Nat->Nat->List (List Bool)->List Int->List Int->Prop
 |leaf (lo:Nat) (left:List (List Bool)) (ab:List Int) (h:nd P lo=eH []) (ha:(-1:Int) ∉ ab):Tr m P lo (lo+1) left ab [zS m left]
 |node (lo hi:Nat) (left:List (List Bool)) (ab:List Int) (c:Nat) (ks vs:List Int) (h:nd P lo=⟨c,ks,[],[],[]⟩) (hc:c<m.cls.length) (ha:(c:Int) ∉ ab) (hk:ks.length=(m.cls.getD c default).length) (hs:pA m P (lo+1) hi left c (ab++[(c:Int)]) 0 ks vs):Tr m P lo hi left ab vs
inductive pA(m:ah)(P:List Nd):Nat->Nat->List (List Bool)->Nat->List Int->Nat->List Int->List Int->Prop
 |nil (lo:Nat) (left:List (List Bool)) (c:Nat) (ab:List Int) (o:Nat):pA m P lo lo left c ab o [] []
 |cons (lo mid hi:Nat) (left:List (List Bool)) (c:Nat) (ab:List Int) (o:Nat) (ks v vs:List Int) (h:Tr m P lo mid (db left c o) ab v) (hs:pA m P mid hi left c ab (o+1) ks vs):pA m P lo hi left c ab o ((lo:Int)::ks) (v++vs)
end
variable {m:ah} {P P':List Nd} {lo mid hi c o:Nat} {left:List (List Bool)} {ab ks v w:List Int}
def pA.snoc(h2:Tr m P mid hi (db left c (o+ks.length)) ab w)(h:pA m P lo mid left c ab o ks v):pA m P lo hi left c ab o (ks++[(mid:Int)]) (v++w):=by
 induction ks generalizing lo o v with
 |nil =>
  cases h;have:=pA.cons _ _ _ left c ab o [] w [] h2 (.nil _ _ _ _ _);simpa using this
 |cons k ks ih =>
  cases h with
  |cons _ aeF _ _ _ _ _ _ v1 vs h1 hs =>
   rw[List.append_assoc];exact .cons _ _ _ _ _ _ _ _ _ _ h1 (ih (by rw[List.length_cons]at h2;rwa [show o+1+ks.length=o+(ks.length+1) by omega]) hs)
mutual
def Tr.wQ{lo hi:Nat}{left:List (List Bool)}{ab v:List Int}:Tr m P lo hi left ab v->eS m P (λ_=>True) lo hi ab
 |.leaf _ _ _ h ha=>.leaf _ _ [] h (aW _) (λ_ h=>by cases h) ha trivial
 |.node _ _ _ _ c ks _ h hc ha hk hs=>.node _ _ _ c ks h hc ha hk hs.BA
def pA.BA{lo hi c o:Nat}{left:List (List Bool)}{ab ks v:List Int}:pA m P lo hi left c ab o ks v->iV m P (λ_=>True) lo hi ab ks
 |.nil _ _ _ _ _=>.nil _ _
 |.cons _ mid _ _ _ _ _ _ _ _ h hs=>.cons _ mid _ _ _ h.wQ hs.BA
end
mutual
def Tr.frame{lo hi:Nat}{left:List (List Bool)}{ab v:List Int}:Tr m P lo hi left ab v->(∀ i,lo<=i->i<hi->nd P' i=nd P i)->Tr m P' lo hi left ab v
 |.leaf _ _ _ h ha,hf=>.leaf _ _ _ ((hf _ (aX _) (Nat.lt_succ_self _)).trans h) ha
 |.node _ _ _ _ c ks _ h hc ha hk hs,hf=>.node _ _ _ _ c ks _ ((hf _ (aX _) (by have:=hs.BA.le;omega)).trans h) hc ha hk (hs.frame λi h1 h2=>hf i AT h2)
def pA.frame{lo hi c o:Nat}{left:List (List Bool)}{ab ks v:List Int}:pA m P lo hi left c ab o ks v->(∀ i,lo<=i->i<hi->nd P' i=nd P i)->pA m P' lo hi left c ab o ks v
 |.nil _ _ _ _ _,_=>.nil _ _ _ _ _
 |.cons _ mid _ _ _ _ _ _ _ _ h hs,hf=>.cons _ mid _ _ _ _ _ _ _ _ (h.frame λi h1 h2=>hf i h1 (by have:=hs.BA.le;omega)) (hs.frame λi h1 h2=>hf i (by have:=h.wQ.lt;omega) h2)
end
def Dw(m:ah)(P:List Nd)(t:dS)(x:Int):Prop:=(nd P t.1).cls = -1/\(nd P t.1).dT=[]/\(nd P t.1).aT=[]/\zS m t.2.1=x
mutual
def Tr.leaves{lo hi:Nat}{left:List (List Bool)}{ab v:List Int}(hd:Down P):Tr m P lo hi left ab v->hi<=P.length->(∀ t∈vs P (lo,left,ab),(nd P t.1).cls = -1->∃ x∈v,Dw m P t x)/\∀ x∈v,∃ t∈vs P (lo,left,ab),Dw m P t x
 |.leaf lo left ab h ha,hh=>by
  rw[Ky hd (by show lo<_;omega) (by show(nd P lo).kids=[];rw[h];rfl)];have hl:Dw m P (lo,left,ab) (zS m left):=⟨by show(nd P lo).cls = -1;rw[h];rfl,by show(nd P lo).dT=[];rw[h];rfl,by show(nd P lo).aT=[];rw[h];rfl,rfl⟩;constructor
  ·intro t ht _;rw[c8]at ht;subst ht;exact⟨_,IM,hl⟩
  ·intro x hx;rw[c8]at hx;subst hx;exact⟨_,IM,hl⟩
 |.node lo hi left ab c ks vl h hc ha hk hs,hh=>by
  have hle:=hs.BA.le;obtain⟨i1,i2⟩:=hs.leaves hd hh;have yj:∀ o,lg P (lo,left,ab) o=((ks.getD o 0).toNat,db left c o,ab++[(c:Int)]):=λo=>by
   unfold lg;dsimp only;rw[h];rfl
  have ed:(nd P lo).kids=ks:=by rw[h]
  rw[wR hd (by show lo<_;omega)];constructor
  ·intro t ht bn;rw[bm]at ht;rcases ht with rfl|ht
   ·dsimp only at bn;rw[h]at bn;exact absurd (show(c:Int) = -1 from bn) AT
   ·obtain⟨u,hu,ht⟩:=CH.1 ht;obtain⟨o,ho,rfl⟩:=wS (wq.1 hu);dsimp only at ho;rw[ed]at ho;rw[yj]at ht;rw[<- fc o]at ht;exact i1 o ho t (by simpa using ht) bn
  ·intro x hx;obtain⟨o,ho,t,ht,hl⟩:=i2 x hx;rw[fc]at ht;refine⟨t,List.mem_cons_of_mem _ (CH.2 ⟨lg P (lo,left,ab) o,wq.2 ?_,by rw[yj];exact ht⟩),hl⟩;unfold qF iO;exact List.mem_map.2 ⟨o,List.mem_range.2 (by show o<(nd P lo).kids.length;rw[ed];exact ho),rfl⟩
def pA.leaves{lo hi c o:Nat}{left:List (List Bool)}{ab ks v:List Int}(hd:Down P):pA m P lo hi left c ab o ks v->hi<=P.length->(∀ i,i<ks.length->∀ t∈vs P ((ks.getD i 0).toNat,db left c (o+i),ab),(nd P t.1).cls = -1->∃ x∈v,Dw m P t x)/\∀ x∈v,∃ i,i<ks.length/\∃ t∈vs P ((ks.getD i 0).toNat,db left c (o+i),ab),Dw m P t x
 |.nil _ _ _ _ _,_=>⟨λi hi=>(by cases hi),λx hx=>(by cases hx)⟩
 |.cons lo mid hi left c ab o ks v w h hs,hh=>by
  have hle:=hs.BA.le;obtain⟨a1,a2⟩:=h.leaves hd AT;obtain⟨b1,b2⟩:=hs.leaves hd hh;constructor
  ·intro i hi t ht bn;cases i with
   |zero =>
    rw[iv,cY]at ht;obtain⟨x,hx,hl⟩:=a1 t ht bn;exact⟨x,List.mem_append_left _ hx,hl⟩
   |succ i =>
    rw[fq,show o+(i+1)=o+1+i by omega]at ht;obtain⟨x,hx,hl⟩:=b1 i (by simpa using hi) t ht bn;exact⟨x,List.mem_append_right _ hx,hl⟩
  ·intro x hx;rcases List.mem_append.1 hx with hx|hx
   ·obtain⟨t,ht,hl⟩:=a2 x hx;exact⟨0,IM,t,by rw[iv,cY];exact ht,hl⟩
   ·obtain⟨i,hi,t,ht,hl⟩:=b2 x hx;exact⟨i+1,by simpa using hi,t,by rw[fq,show o+(i+1)=o+1+i by omega];exact ht,hl⟩
end
def ta(l:List Int)(b:Int):Int:=l.foldl min b
def RU:∀ (l:List Int) (b:Int),ta l b<=b/\(∀ x∈l,ta l b<=x)/\(ta l b=b\/ta l b∈l)
 |[],b=>⟨Int.le_refl _,λ_ h=>(by cases h),.inl rfl⟩
 |x::l,b=>by
  obtain⟨h1,h2,h3⟩:=RU l (min b x);have e:ta (x::l) b=ta l (min b x):=rfl;rw[e];refine⟨AT,λy hy=>?_,?_⟩
  ·rcases bm.1 hy with rfl|hy
   ·omega
   ·exact h2 y hy
  ·rcases h3 with h3|h3
   ·rcases Int.le_total b x with hb|hb
    ·left;rw[h3];omega
    ·right;rw[h3,Int.min_eq_right hb];simp
   ·right;simp[h3]
def Tr.Ds(hm:VM m){v:List Int}(h:Tr m P 0 P.length (cg m) [] v)(hn:P.length<=20000):oB m P=(ta v 1099511627776,true):=by
 have mo:=h.wQ.shaped hn;have hd:=yk mo;obtain⟨n,h1,h2⟩:=h.wQ.Ds hm hn;obtain⟨l1,l2⟩:=h.leaves hd (aX _);obtain⟨_,_,hr⟩:=Kz h1;obtain⟨q1,q2⟩:=KA hr;obtain⟨m1,m2,m3⟩:=RU v 1099511627776;have e1:ta v 1099511627776<=n:=h2 _ m1 λs hs bn=>by
  obtain⟨x,hx,_,oC,_,hv⟩:=l1 s hs bn;rw[oC,RV];have:=m2 x hx;unfold zS at hv;dsimp only;omega
 have e2:n<=ta v 1099511627776:=by
  rcases m3 with e|e
  ·omega
  ·obtain⟨t,ht,bn,oC,BC,hv⟩:=l2 _ e;have:=(q2 t ht).2 bn;rw[BC,if_neg IM,oC,RV]at this;unfold zS at hv;dsimp only at this;omega
 rw[h1,show n=ta v 1099511627776 by omega]
structure Dn(m:ah)(left:List (List Bool))(p:List Int):Prop where
 fit:cp m left
 bp:BP m p
 one:∀ j,j<p.length->left.getD j default=mZ (m.cls.getD j default).length (p.getD j 0).toNat
 all:∀ j,p.length<=j->j<m.cls.length->left.getD j default=List.replicate (m.cls.getD j default).length true
variable {m:ah} {left:List (List Bool)} {p:List Int}
def Dn.root(hm:VM m):Dn m (cg m) []:=by
 refine⟨zP hm,⟨aW _,λj hj=>(by cases hj)⟩,λj hj=>(by cases hj),λj _ hj=>?_⟩;unfold cg cu;rw[if_pos (jD.2 hm),gR _ _ _ hj]
def RW{left:List (List Bool)}{c j:Nat}(x:List Bool)(h:c≠j):(left.set c x).getD j default=left.getD j default:=by
 rw[ax,List.getElem?_set_ne h,<- ax]
def Dn.next(h:Dn m left p)(hc:p.length<m.cls.length){k:Nat}(hk:k<(m.cls.getD p.length default).length):Dn m (db left p.length k) (p++[(k:Int)]):=by
 refine⟨BD h.fit (BE _ _ _),h.bp.snoc hc hk,λj hj=>?_,λj h1 h2=>?_⟩
 ·unfold db;rw[bL]at hj;by_cases e:j<p.length
  ·rw[RW _ AT,Kw e];exact h.one j e
  ·obtain rfl:j=p.length:=by simp at hj;omega
   rw[rJ _ _ _ (by rw[h.fit.1];exact hc),Kx,h.fit.2 _ (by rw[h.fit.1];exact hc)];rfl
 ·unfold db;rw[bL]at h1;rw[RW _ (by simp at h1;omega)];exact h.all j AT h2
def Dn.single(h:Dn m left p)(hc:p.length<left.length)(h1:(left.getD p.length default).length=1):Dn m left (p++[0]):=by
 have iK:p.length<m.cls.length:=by rw[<- h.fit.1];exact hc
 have hl:=h.fit.2 _ hc;refine⟨h.fit,h.bp.snoc (k:=0) iK AT,λj hj=>?_,λj h2 h3=>h.all j (by rw[bL]at h2;omega) h3⟩;rw[bL]at hj;by_cases e:j<p.length
 ·rw[Kw e];exact h.one j e
 ·obtain rfl:j=p.length:=by simp at hj;omega
  rw[Kx,h.all _ (aX _) iK,<- hl,h1];rfl
def Dn.skip:∀ (k:Nat) (p:List Int),left.length-p.length=k->Dn m left p->∃ r:List Int,Dn m left (p++r)/\(p++r).length=By left p.length/\∀ a,Bz m (m.cls.length-p.length) p a=Bz m (m.cls.length-(p++r).length) (p++r) a
  |k,p,hk,h=>by
    by_cases hc:p.length<left.length/\(left.getD p.length default).length=1
    · have h1:=h.single hc.1 hc.2
      obtain⟨r,a1,a2,a3⟩:=Dn.skip (k-1) (p++[0]) (by rw[bL];simp;omega) h1;have e:p++[0]++r=p++(0::r):=IM;rw[e]at a1 a2 a3;refine⟨0::r,a1,?_,λa=>?_⟩
      · rw[aeD hc,a2];simp
      · rw[<- a3 a]
        have hl:=h.fit.2 _ hc.1;have aS:p.length<m.cls.length:=by rw[<- h.fit.1];exact hc.1
        rw[show m.cls.length-p.length=(m.cls.length-(p++[0]).length)+1 by simp;omega,Bz,<- hl,hc.2];rfl
    · exact⟨[],by simpa using h,by rw[aeE hc];simp,λa=>IM⟩
 termination_by k p _ _=>left.length-p.length
decreasing_by simp;omega
def Dn.aeG(h:Dn m left p)(hl:p.length=m.cls.length):BF m left p:=λi hi j=>by
 have:=h.bp.get i AT;rw[h.one i AT,RX AT]
def Dn.exact(hm:VM m)(h:Dn m left p)(hl:p.length=m.cls.length):BG m left=Kv m p:=by
 rw[RY hm h.fit];exact Gq hm (h.bp.fp hl) left h.fit (h.aeG hl) [] (λ_ h=>by cases h)
structure DL(m:ah)(left:List (List Bool))(p:List Int)(s r:DS):Prop where
 j8:r.j8<=s.j8
 bl:r.wP<=s.wP
 bt:r.j8<s.j8->r.wP<=r.j8
 wh:r.whole=true->s.whole=true/\(r.plan,r.j8)=Bz m (m.cls.length-p.length) p (s.plan,s.j8)/\min s.wP r.j8<=r.wP
 room:(r.nodes.length:Int)+r.room=s.nodes.length+s.room+1
 rm0:0<=s.room->0<=r.room
 lt:s.nodes.length<r.nodes.length
 pre:∀ i,i<s.nodes.length->nd r.nodes i=nd s.nodes i
 tr:∀ ab:List Int,(∀ x∈ab,0<=x/\x<p.length)->∃ v,Tr m r.nodes s.nodes.length r.nodes.length left ab v/\r.wP=ta v s.wP
def DL.leaf(hm:VM m)(h:cp m left){s r:DS}(hn:r.nodes=s.nodes++[eH []])(hr:r.room=s.room)(hb:r.wP=min s.wP (BG m left))(ht:r.j8<=s.j8)(hbt:r.j8<s.j8->r.j8=BG m left)(hw:r.whole=true->s.whole=true/\(r.plan,r.j8)=Bz m (m.cls.length-p.length) p (s.plan,s.j8)/\r.j8<=BG m left):DL m left p s r:=by
 refine⟨ht,AT,λh=>by have:=hbt h;omega,λh=>?_,by rw[hn,hr];simp;omega,λh=>AT,by rw[hn];simp,λi hi=>by rw[hn];exact Dx hi,λab eX=>⟨[zS m left],?_,?_⟩⟩
 ·obtain⟨a,b,c⟩:=hw h;exact⟨a,b,AT⟩
 ·rw[hn,bL];exact .leaf _ _ _ Gr (λh=>by have:=eX _ h;omega)
 ·rw[hb];unfold ta zS;rw[RY hm h];rfl
def Gs(m:ah):Nat->Nat
 |0=>1
 |d+1=>(m.cls.getD (m.cls.length-(d+1)) default).length*Gs m d
variable {m:ah} {left:List (List Bool)} {p:List Int}
def RZ{m:ah}{w:Nat}(h:∀ l∈m.cls,l.length<=w):∀ d,d<=m.cls.length->Gs m d<=w^d
 |0,_=>aX _
 |d+1,hd=>by
  rw[Gs,Nat.pow_succ,Nat.mul_comm];exact Nat.mul_le_mul (RZ h d AT) (h _ (aE AT))
structure FW(m:ah):Prop where
 vm:VM m
 sZ:m.cls.length<=4
 opt:∀ l∈m.cls,l.length<=4
def FW.cap{m:ah}(h:FW m):Gs m m.cls.length<=8000 :=
 sr (RZ h.opt _ (aX _)) (sr (Nat.pow_le_pow_right IP h.sZ) IP)
def MM.fw{m:ah}{a b:Nat}(h:MM m a b)(ha:a<=4)(hb:b<=4):FW m:=⟨h.vm,sr h.sZ ha,λl hl=>sr (h.some l hl).2 hb⟩
def FW.zT{m:ah}(h:FW m){c:Int}(hc:0<=c):FW (pB m c):=⟨aeI h.vm hc,by unfold pB;simpa using h.sZ,λl hl=>by
 rcases List.mem_or_eq_of_mem_set hl with h1|h1
 ·exact h.opt l h1
 ·rw[h1];exact aW _⟩
def aeJ(L:List Int)(k:Nat)(hk:k<=L.length)(hL:L.length<1000000):
  dy Tryz.prog 33 [.ptr 0 0 0] [vr L k] (λr os=>∃ m k',FW m/\k'<=L.length/\r=.agg (yl m)/\os=[vr L k',.arr 4 (rowsOf aG m.ae)]):=by
 have Di:=aeK L k 4 4 hk hL IP IP IP;unfold vr at *;refine dy.aN 117 1 [.cell 2 32] Tryz.func33 ?_;repeat'(first|((fail_if_success (first|refine eO 1 ?_|refine eP 1 ?_));refine Xr X0 ?_;intro K hK)|(refine hK _ ?_;clear hK K)|refine Xy ?_|fail)
 refine ox 1 IP _ rfl ?_;intro K hK;simp(disch:=omega)only[Ac,↓Pc,simprocAttr,List.take,List.drop];refine⟨rfl,(show kK Tryz.prog 37 [.ptr 0 0 0,Oi (4:Nat),Oi (4:Nat)] (some 11) _ _ from ?_)⟩;refine FV [0] Di IP ⟨rfl,trivial⟩ ⟨.eq rfl,.pure rfl,.pure rfl,trivial⟩ ?_;rintro r os⟨m,k1,hm,eY,rfl,rfl⟩;clear Di hk;have Dy:=hm.fw (aX 4) (aX 4);have gp:oD m.cls<=256:=Int.le_trans (R0 (w:=4) m.cls 4 IP hm.sZ hm.some) IP;have gG:=aeL m hm.vm (λl hl=>(hm.some l hl).1) AT;generalize oD m.cls=pn at *;unfold yl;simp(disch:=omega)only[Ac,↓Pc,simprocAttr,mW];refine hK _ ?_;clear hK K;repeat(refine Xu ?_)
 have qA:=Gt L k1 12 (by unfold fM;omega) AT eY hL;have cE:=lP eY;refine Va X0 ?_;refine bb (λ_:Unit=>(⟨ao [(0,.ptr 0 0 0),(2,.ptr 1 0 0),(3,.ptr 3 0 0)],[.var [.tree 1 (ints L),Oi k1],.var [.lit (.slice none 0 0),.lit (.slice none 0 0),.lit (.slice none 0 0),Oi 0],.arr 4 (rowsOf aG m.ae),.var [.tree 1 (rowsOf aV m.cls),.ref 2 4 0 m.ae.length,.tree 4 (rowsOf df m.aC),Oi m.rules]]⟩:St)) (λ_=>True) (λ_=>0) () trivial (Xv X0) ?_;rintro _ _ Ql ak au;((refine Va X0 ?_)<;>try with_reducible intro K hK)
 refine rj [] gG IP trivial ⟨(bT.agg _ _ rfl (mf.spec (R:=bT _ _ _ _) (cs:=aq m) (ds:=[.tree 1 (rowsOf aV m.cls),.ref 2 4 0 m.ae.length,.tree 4 (rowsOf df m.aC),Oi m.rules]) ⟨.pure rfl,bT.cC rfl (kI _) (by rw[cr]) IM (qB _),.pure rfl,.pure rfl,trivial⟩).2),trivial⟩ rfl IM ?_;simp(disch:=omega)only[Ac,↓Pc,simprocAttr];((try revert hK K);(repeat'(first|refine Va X0 ?_|(refine Xi ?_ ?_<;>try intro ht)|exact Xx|fail)))
 refine au _ _ rfl ?_;clear ak au Ql;repeat(refine Xu ?_)
 clear gG gp;have Gc:∀ (env:Nat->AV) (m:ah) (k':Nat) (q:Nat) (os:List Ob),FW m->k'<=L.length->env 2=.ptr 1 0 0->os[0]?=some (.var [.tree 1 (ints L),Oi k'])->os[1]?=some (.var [.tree 1 (rowsOf aV m.cls),.ref q 4 0 m.ae.length,.tree 4 (rowsOf df m.aC),Oi m.rules])->os[q]?=some (.arr 4 (rowsOf aG m.ae))->q≠0 ->
   kJ Tryz.prog 1 [.cell 2 32] (λr os=>∃ m k',FW m/\k'<=L.length/\r=.agg (yl m)/\os=[.var [.tree 1 (ints L),Oi k'],.arr 4 (rowsOf aG m.ae)]) .ret ⟨env,os⟩:=by
  intro env m k' q os wT bf mU h0 h1 hq hq0;have hl0:=(aR.1 h0).1;have hlq:=(aR.1 hq).1;unfold kJ;simp only[gm,fW,mU];simp(disch:=omega)only[Ac,↓Pc,simprocAttr,mU,h1];refine⟨_,_,⟨m,k',wT,bf,rfl,rfl⟩,?_⟩;refine u9 [0,q] true (by simp[Ne.symm hq0]) ⟨⟨hl0,.inr (by rw[h0];rfl)⟩,⟨hlq,.inr (by rw[hq,mW])⟩,trivial⟩ IM (λi hi=>by
   obtain rfl:i=0:=AT;rfl) ?_
  refine(bT.agg _ _ rfl (mf.spec (R:=bT _ _ _ _) (cs:=yl m) (ds:=[.tree 1 (rowsOf aV m.cls),.ref q 4 0 m.ae.length,.tree 4 (rowsOf df m.aC),Oi m.rules]) ⟨.pure rfl,.eq rfl,.pure rfl,.pure rfl,trivial⟩).2)
 ((repeat'(first|refine Va X0 ?_|(refine V2 X0 ?_ ?_<;>try with_reducible intro hb)|(refine Xi ?_ ?_<;>try intro ht)|exact Xx|fail))<;>try with_reducible intro K hK)
 rotate_left
 ·exact Gc _ m k1 2 _ Dy eY (by simp only[Kc,simprocAttr]) rfl rfl rfl IP
 have mj:0<m.cls.length:=AT;have wU:=pC L (eZ L k1) (m.cls.length:Int) (by unfold fM;have:=hm.vm.cls;omega) cE hL;have R2:=qG (L:=L) (k:=eZ L k1) (n:=(m.cls.length:Int)) AT;have R3:=aeO m hm.vm (iD L (eZ L k1) (m.cls.length:Int)) R2;have hwf:=Dy.zT R2.1;have mX:=lP cE;unfold vr at *;generalize Dz L k1 12=bo at *;generalize iD L (eZ L k1) (m.cls.length:Int)=v at *;generalize eZ L (eZ L k1)=k3 at *;generalize eZ L k1=k2 at *;generalize pB m v=mw at *;(refine Xn [0] (qA) ?_;simp(disch:=omega)only[Ac,↓Pc,simprocAttr])
 ((try revert hK K);(repeat'(first|refine Va X0 ?_|(refine Xi ?_ ?_<;>try intro ht)|fail))<;>try with_reducible intro K hK)
 ·(refine Xn [0] (wU) ?_;simp(disch:=omega)only[Ac,↓Pc,simprocAttr])
  repeat'(first|(refine hK _ ?_;clear hK K)|refine Xy ?_|fail)
  refine cd (aF.ye 2 3 1 4 Od Od (by rw[cr];rfl) (kI _) (qB _)) ?_;unfold KB at R3;((refine Va X0 ?_)<;>try with_reducible intro K hK)
  (refine Xn [] (R3) ?_;simp(disch:=omega)only[Ac,↓Pc,simprocAttr,mW])
  ((try revert hK K);(refine Va X0 ?_))
  exact Gc _ mw k3 4 _ hwf mX (by simp only[Kc,simprocAttr]) rfl rfl rfl IP
 ·exact Gc _ m k2 2 _ Dy cE (by simp only[Kc,simprocAttr]) rfl rfl rfl IP
def aeb(L:List Int)(k:Nat)(hk:k<=L.length)(hL:L.length<1000000):
  dy Tryz.prog 33 [.ptr 0 0 0] [vr L k] (λr os=>∃ m k',FW m/\k'<=L.length/\r=.agg (aq m)/\os=[vr L k']) :=
 aeQ (aeJ L k hk hL) λr os h=>by
  obtain⟨m,k',h1,h2,rfl,rfl⟩:=h;exact⟨_,_,⟨m,k',h1,h2,rfl,rfl⟩,aeR m _ (λ_=>rfl)⟩
end T

