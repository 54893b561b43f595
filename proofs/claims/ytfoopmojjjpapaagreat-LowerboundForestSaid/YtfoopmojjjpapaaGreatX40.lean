import Derived.Test.YtfoopmojjjpapaaGreatX31
import Derived.Test.YtfoopmojjjpapaaGreatX38
import Derived.Test.YtfoopmojjjpapaaGreatX39
set_option linter.all false
set_option maxHeartbeats 0
set_option maxRecDepth 20000
open List renaming getD_eq_getElem?_getD→az,length_append→bI,mem_singleton→dI,mem_cons→a8,mem_flatMap→Jr,mem_reverse→AY,getD_cons_zero→gA,getD_cons_succ→eS
open Nat renaming le_refl→aU,zero_le→aS,zero_add→gq,le_trans→tP
open Int renaming toNat_natCast→cF
open Go Go.Am Go.Proofs
namespace T
def IX(left:List (List Bool)):Nat->Nat->Nat
 |0,c=>c
 |f+1,c=>if c<left.length/\(left.getD c default).length=1 then IX left f (c+1) else c
def CG(left:List (List Bool))(c:Nat):Nat:=IX left (left.length-c) c
def amI{left:List (List Bool)}{c:Nat}(h:c<left.length/\(left.getD c default).length=1):CG left c=CG left (c+1):=by
 unfold CG;rw[show left.length-c=(left.length-(c+1))+1 by omega,IX,if_pos h]
def amJ{left:List (List Bool)}{c:Nat}(h:¬(c<left.length/\(left.getD c default).length=1)):CG left c=c:=by
 unfold CG;cases left.length-c with
 |zero=>rfl
 |succ f=>rw[IX,if_neg h]
structure DS where
 nodes:List Nd
 room:Int
 spl:Int
 whole:Bool
 an:List Int
 jW:Int
 xI:Int
def Oo(m:aj)(p:List Int):Int:=te (vU m p) 0
def ac0(f:List Int->List Int×Int->List Int×Int)(p:List Int):Nat->Nat->List Int×Int->List Int×Int
 |0,_,a=>a
 |w+1,k,a=>ac0 f p w (k+1) (f (p++[(k:Int)]) a)
def CH(m:aj):Nat->List Int->List Int×Int->List Int×Int
 |0,p,a=>if Oo m p<a.2 then(p,Oo m p) else a
 |d+1,p,a=>ac0 (CH m d) p (m.cls.getD p.length default).length 0 a
structure BP(m:aj)(p:List Int):Prop where
 len:p.length<=m.cls.length
 get:∀ j,j<p.length->0<=p.getD j 0/\p.getD j 0<(m.cls.getD j default).length
def Oq{p q:List Int}{j:Nat}(h:j<p.length):(p++q).getD j 0=p.getD j 0:=by
 rw[az,List.getElem?_append_left h,<- az]
def Ot{p:List Int}{x:Int}:(p++[x]).getD p.length 0=x:=by
 rw[az,List.getElem?_append_right (aU _),Nat.sub_self];rfl
def BP.snoc{m:aj}{p:List Int}(h:BP m p){k:Nat}(h1:p.length<m.cls.length)(hk:k<(m.cls.getD p.length default).length):BP m (p++[(k:Int)]):=⟨by rw[bI];exact h1,λj hj=>by
 rw[bI]at hj;by_cases e:j<p.length
 ·rw[Oq e];exact h.get j e
 ·obtain rfl:j=p.length:=by simp at hj;omega
  rw[Ot];omega⟩
def BP.fp{m:aj}{p:List Int}(h:BP m p)(hl:p.length=m.cls.length):FP m p:=⟨hl,λj hj=>jK.2 (by
 have:=h.get j hj;rw[cF];omega)⟩
def AM(m:aj)(left:List (List Bool)):Int:=kU m left (S0 m,T0 m)
mutual
inductive Tr(m:aj)(P:List Nd):Nat->Nat->List (List Bool)->List Int->List Int->Prop
 |leaf (lo:Nat) (left:List (List Bool)) (ab:List Int) (h:nd P lo=Iv []) (ha:(-1:Int) ∉ ab):Tr m P lo (lo+1) left ab [AM m left]
 |node (lo hi:Nat) (left:List (List Bool)) (ab:List Int) (c:Nat) (ks vs:List Int) (h:nd P lo=⟨c,ks,[],[],[]⟩) (hc:c<m.cls.length) (ha:(c:Int) ∉ ab) (hk:ks.length=(m.cls.getD c default).length) (hs:tD m P (lo+1) hi left c (ab++[(c:Int)]) 0 ks vs):Tr m P lo hi left ab vs
inductive tD(m:aj)(P:List Nd):Nat->Nat->List (List Bool)->Nat->List Int->Nat->List Int->List Int->Prop
 |nil (lo:Nat) (left:List (List Bool)) (c:Nat) (ab:List Int) (o:Nat):tD m P lo lo left c ab o [] []
 |cons (lo mid hi:Nat) (left:List (List Bool)) (c:Nat) (ab:List Int) (o:Nat) (ks v vs:List Int) (h:Tr m P lo mid (mB left c o) ab v) (hs:tD m P mid hi left c ab (o+1) ks vs):tD m P lo hi left c ab o ((lo:Int)::ks) (v++vs)
end
variable {m:aj} {P P':List Nd} {lo mid hi c o:Nat} {left:List (List Bool)} {ab ks v w:List Int}
def tD.snoc(h2:Tr m P mid hi (mB left c (o+ks.length)) ab w)(h:tD m P lo mid left c ab o ks v):tD m P lo hi left c ab o (ks++[(mid:Int)]) (v++w):=by
 induction ks generalizing lo o v with
 |nil =>
  cases h;have:=tD.cons _ _ _ left c ab o [] w [] h2 (.nil _ _ _ _ _);simpa using this
 |cons k ks ih =>
  cases h with
  |cons _ amk _ _ _ _ _ _ v1 vs h1 hs =>
   rw[List.append_assoc];exact .cons _ _ _ _ _ _ _ _ _ _ h1 (ih (by rw[List.length_cons]at h2;rwa [show o+1+ks.length=o+(ks.length+1) by omega]) hs)
mutual
def Tr.Cu{lo hi:Nat}{left:List (List Bool)}{ab v:List Int}:Tr m P lo hi left ab v->jN m P (λ_=>True) lo hi ab
 |.leaf _ _ _ h ha=>.leaf _ _ [] h (aS _) (λ_ h=>by cases h) ha trivial
 |.node _ _ _ _ c ks _ h hc ha hk hs=>.node _ _ _ c ks h hc ha hk hs.IY
def tD.IY{lo hi c o:Nat}{left:List (List Bool)}{ab ks v:List Int}:tD m P lo hi left c ab o ks v->kK m P (λ_=>True) lo hi ab ks
 |.nil _ _ _ _ _=>.nil _ _
 |.cons _ mid _ _ _ _ _ _ _ _ h hs=>.cons _ mid _ _ _ h.Cu hs.IY
end
def Fa(m:aj)(P:List Nd)(t:eB)(x:Int):Prop:=(nd P t.1).cls = -1/\(nd P t.1).dW=[]/\(nd P t.1).bj=[]/\AM m t.2.1=x
mutual
def Tr.leaves{lo hi:Nat}{left:List (List Bool)}{ab v:List Int}(hd:Down P):Tr m P lo hi left ab v->hi<=P.length->(∀ t∈vs P (lo,left,ab),(nd P t.1).cls = -1->∃ x∈v,Fa m P t x)/\∀ x∈v,∃ t∈vs P (lo,left,ab),Fa m P t x
 |.leaf lo left ab h ha,hh=>by
  rw[N2 hd (by show lo<_;omega) (by show(nd P lo).kids=[];rw[h];rfl)];have hl:Fa m P (lo,left,ab) (AM m left):=⟨by show(nd P lo).cls = -1;rw[h];rfl,by show(nd P lo).dW=[];rw[h];rfl,by show(nd P lo).bj=[];rw[h];rfl,rfl⟩;constructor
  ·intro t ht _;rw[dI]at ht;subst ht;exact⟨_,Fl,hl⟩
  ·intro x hx;rw[dI]at hx;subst hx;exact⟨_,Fl,hl⟩
 |.node lo hi left ab c ks vl h hc ha hk hs,hh=>by
  have hle:=hs.IY.le;obtain⟨i1,i2⟩:=hs.leaves hd hh;have CE:∀ o,oP P (lo,left,ab) o=((ks.getD o 0).toNat,mB left c o,ab++[(c:Int)]):=λo=>by
   unfold oP;dsimp only;rw[h];rfl
  have dY:(nd P lo).kids=ks:=by rw[h]
  rw[EW hd (by show lo<_;omega)];constructor
  ·intro t ht bz;rw[a8]at ht;rcases ht with rfl|ht
   ·dsimp only at bz;rw[h]at bz;exact absurd (show(c:Int) = -1 from bz) CZ
   ·obtain⟨u,hu,ht⟩:=Jr.1 ht;obtain⟨o,ho,rfl⟩:=AD (AY.1 hu);dsimp only at ho;rw[dY]at ho;rw[CE]at ht;rw[<- gq o]at ht;exact i1 o ho t (by simpa using ht) bz
  ·intro x hx;obtain⟨o,ho,t,ht,hl⟩:=i2 x hx;rw[gq]at ht;refine⟨t,List.mem_cons_of_mem _ (Jr.2 ⟨oP P (lo,left,ab) o,AY.2 ?_,by rw[CE];exact ht⟩),hl⟩;unfold tw jk;exact List.mem_map.2 ⟨o,List.mem_range.2 (by show o<(nd P lo).kids.length;rw[dY];exact ho),rfl⟩
def tD.leaves{lo hi c o:Nat}{left:List (List Bool)}{ab ks v:List Int}(hd:Down P):tD m P lo hi left c ab o ks v->hi<=P.length->(∀ i,i<ks.length->∀ t∈vs P ((ks.getD i 0).toNat,mB left c (o+i),ab),(nd P t.1).cls = -1->∃ x∈v,Fa m P t x)/\∀ x∈v,∃ i,i<ks.length/\∃ t∈vs P ((ks.getD i 0).toNat,mB left c (o+i),ab),Fa m P t x
 |.nil _ _ _ _ _,_=>⟨λi hi=>(by cases hi),λx hx=>(by cases hx)⟩
 |.cons lo mid hi left c ab o ks v w h hs,hh=>by
  have hle:=hs.IY.le;obtain⟨a1,a2⟩:=h.leaves hd CZ;obtain⟨b1,b2⟩:=hs.leaves hd hh;constructor
  ·intro i hi t ht bz;cases i with
   |zero =>
    rw[gA,cF]at ht;obtain⟨x,hx,hl⟩:=a1 t ht bz;exact⟨x,List.mem_append_left _ hx,hl⟩
   |succ i =>
    rw[eS,show o+(i+1)=o+1+i by omega]at ht;obtain⟨x,hx,hl⟩:=b1 i (by simpa using hi) t ht bz;exact⟨x,List.mem_append_right _ hx,hl⟩
  ·intro x hx;rcases List.mem_append.1 hx with hx|hx
   ·obtain⟨t,ht,hl⟩:=a2 x hx;exact⟨0,Fl,t,by rw[gA,cF];exact ht,hl⟩
   ·obtain⟨i,hi,t,ht,hl⟩:=b2 x hx;exact⟨i+1,by simpa using hi,t,by rw[eS,show o+(i+1)=o+1+i by omega];exact ht,hl⟩
end
def tE(l:List Int)(b:Int):Int:=l.foldl min b
def ac1:∀ (l:List Int) (b:Int),tE l b<=b/\(∀ x∈l,tE l b<=x)/\(tE l b=b\/tE l b∈l)
 |[],b=>⟨Int.le_refl _,λ_ h=>(by cases h),.inl rfl⟩
 |x::l,b=>by
  obtain⟨h1,h2,h3⟩:=ac1 l (min b x);have e:tE (x::l) b=tE l (min b x):=rfl;rw[e];refine⟨CZ,λy hy=>?_,?_⟩
  ·rcases a8.1 hy with rfl|hy
   ·omega
   ·exact h2 y hy
  ·rcases h3 with h3|h3
   ·rcases Int.le_total b x with hb|hb
    ·left;rw[h3];omega
    ·right;rw[h3,Int.min_eq_right hb];simp
   ·right;simp[h3]
def Tr.eO(hm:VM m){v:List Int}(h:Tr m P 0 P.length (dR m) [] v)(hn:P.length<=20000):tx m P=(tE v 1099511627776,true):=by
 have uz:=h.Cu.shaped hn;have hd:=NP uz;obtain⟨n,h1,h2⟩:=h.Cu.eO hm hn;obtain⟨l1,l2⟩:=h.leaves hd (aU _);obtain⟨_,_,hr⟩:=al2 h1;obtain⟨q1,q2⟩:=al3 hr;obtain⟨m1,m2,m3⟩:=ac1 v 1099511627776;have e1:tE v 1099511627776<=n:=h2 _ m1 λs hs bz=>by
  obtain⟨x,hx,_,qK,_,hv⟩:=l1 s hs bz;rw[qK,acd];have:=m2 x hx;unfold AM at hv;dsimp only;omega
 have e2:n<=tE v 1099511627776:=by
  rcases m3 with e|e
  ·omega
  ·obtain⟨t,ht,bz,qK,BI,hv⟩:=l2 _ e;have:=(q2 t ht).2 bz;rw[BI,if_neg Fl,qK,acd]at this;unfold AM at hv;dsimp only at this;omega
 rw[h1,show n=tE v 1099511627776 by omega]
structure Dn(m:aj)(left:List (List Bool))(p:List Int):Prop where
 fit:cP m left
 bp:BP m p
 one:∀ j,j<p.length->left.getD j default=yP (m.cls.getD j default).length (p.getD j 0).toNat
 all:∀ j,p.length<=j->j<m.cls.length->left.getD j default=List.replicate (m.cls.getD j default).length true
variable {m:aj} {left:List (List Bool)} {p:List Int}
def Dn.root(hm:VM m):Dn m (dR m) []:=by
 refine⟨GL hm,⟨aS _,λj hj=>(by cases hj)⟩,λj hj=>(by cases hj),λj _ hj=>?_⟩;unfold dR dy;rw[if_pos (oB.2 hm),gn _ _ _ hj]
def ac2{left:List (List Bool)}{c j:Nat}(x:List Bool)(h:c≠j):(left.set c x).getD j default=left.getD j default:=by
 rw[az,List.getElem?_set_ne h,<- az]
def Dn.next(h:Dn m left p)(hc:p.length<m.cls.length){k:Nat}(hk:k<(m.cls.getD p.length default).length):Dn m (mB left p.length k) (p++[(k:Int)]):=by
 refine⟨K8 h.fit (abL _ _ _),h.bp.snoc hc hk,λj hj=>?_,λj h1 h2=>?_⟩
 ·unfold mB;rw[bI]at hj;by_cases e:j<p.length
  ·rw[ac2 _ CZ,Oq e];exact h.one j e
  ·obtain rfl:j=p.length:=by simp at hj;omega
   rw[uE _ _ _ (by rw[h.fit.1];exact hc),Ot,h.fit.2 _ (by rw[h.fit.1];exact hc)];rfl
 ·unfold mB;rw[bI]at h1;rw[ac2 _ (by simp at h1;omega)];exact h.all j CZ h2
def Dn.single(h:Dn m left p)(hc:p.length<left.length)(h1:(left.getD p.length default).length=1):Dn m left (p++[0]):=by
 have fI:p.length<m.cls.length:=by rw[<- h.fit.1];exact hc
 have hl:=h.fit.2 _ hc;refine⟨h.fit,h.bp.snoc (k:=0) fI CZ,λj hj=>?_,λj h2 h3=>h.all j (by rw[bI]at h2;omega) h3⟩;rw[bI]at hj;by_cases e:j<p.length
 ·rw[Oq e];exact h.one j e
 ·obtain rfl:j=p.length:=by simp at hj;omega
  rw[Ot,h.all _ (aU _) fI,<- hl,h1];rfl
def Dn.skip:∀ (k:Nat) (p:List Int),left.length-p.length=k->Dn m left p->∃ r:List Int,Dn m left (p++r)/\(p++r).length=CG left p.length/\∀ a,CH m (m.cls.length-p.length) p a=CH m (m.cls.length-(p++r).length) (p++r) a
  |k,p,hk,h=>by
    by_cases hc:p.length<left.length/\(left.getD p.length default).length=1
    · have h1:=h.single hc.1 hc.2
      obtain⟨r,a1,a2,a3⟩:=Dn.skip (k-1) (p++[0]) (by rw[bI];simp;omega) h1;have e:p++[0]++r=p++(0::r):=Fl;rw[e]at a1 a2 a3;refine⟨0::r,a1,?_,λa=>?_⟩
      · rw[amI hc,a2];simp
      · rw[<- a3 a]
        have hl:=h.fit.2 _ hc.1;have ba:p.length<m.cls.length:=by rw[<- h.fit.1];exact hc.1
        rw[show m.cls.length-p.length=(m.cls.length-(p++[0]).length)+1 by simp;omega,CH,<- hl,hc.2];rfl
    · exact⟨[],by simpa using h,by rw[amJ hc];simp,λa=>Fl⟩
 termination_by k p _ _=>left.length-p.length
decreasing_by simp;omega
def Dn.amK(h:Dn m left p)(hl:p.length=m.cls.length):EZ m left p:=λi hi j=>by
 have:=h.bp.get i CZ;rw[h.one i CZ,amq CZ]
def Dn.exact(hm:VM m)(h:Dn m left p)(hl:p.length=m.cls.length):CB m left=Oo m p:=by
 rw[acL hm h.fit];exact N' hm (h.bp.fp hl) left h.fit (h.amK hl) [] (λ_ h=>by cases h)
structure DL(m:aj)(left:List (List Bool))(p:List Int)(s r:DS):Prop where
 jW:r.jW<=s.jW
 bl:r.xI<=s.xI
 bt:r.jW<s.jW->r.xI<=r.jW
 wh:r.whole=true->s.whole=true/\(r.an,r.jW)=CH m (m.cls.length-p.length) p (s.an,s.jW)/\min s.xI r.jW<=r.xI
 room:(r.nodes.length:Int)+r.room=s.nodes.length+s.room+1
 rm0:0<=s.room->0<=r.room
 lt:s.nodes.length<r.nodes.length
 pre:∀ i,i<s.nodes.length->nd r.nodes i=nd s.nodes i
 tr:∀ ab:List Int,(∀ x∈ab,0<=x/\x<p.length)->∃ v,Tr m r.nodes s.nodes.length r.nodes.length left ab v/\r.xI=tE v s.xI
def DL.leaf(hm:VM m)(h:cP m left){s r:DS}(hn:r.nodes=s.nodes++[Iv []])(hr:r.room=s.room)(hb:r.xI=min s.xI (CB m left))(ht:r.jW<=s.jW)(hbt:r.jW<s.jW->r.jW=CB m left)(hw:r.whole=true->s.whole=true/\(r.an,r.jW)=CH m (m.cls.length-p.length) p (s.an,s.jW)/\r.jW<=CB m left):DL m left p s r:=by
 refine⟨ht,CZ,λh=>by have:=hbt h;omega,λh=>?_,by rw[hn,hr];simp;omega,λh=>CZ,by rw[hn];simp,λi hi=>by rw[hn];exact amo hi,λab eX=>⟨[AM m left],?_,?_⟩⟩
 ·obtain⟨a,b,c⟩:=hw h;exact⟨a,b,CZ⟩
 ·rw[hn,bI];exact .leaf _ _ _ amp (λh=>by have:=eX _ h;omega)
 ·rw[hb];unfold tE AM;rw[acL hm h];rfl
def IZ(m:aj):Nat->Nat
 |0=>1
 |d+1=>(m.cls.getD (m.cls.length-(d+1)) default).length*IZ m d
variable {m:aj} {left:List (List Bool)} {p:List Int}
def ac3{m:aj}{w:Nat}(h:∀ l∈m.cls,l.length<=w):∀ d,d<=m.cls.length->IZ m d<=w^d
 |0,_=>aU _
 |d+1,hd=>by
  rw[IZ,Nat.pow_succ,Nat.mul_comm];exact Nat.mul_le_mul (ac3 h d CZ) (h _ (aF CZ))
structure FW(m:aj):Prop where
 vm:VM m
 vX:m.cls.length<=4
 opt:∀ l∈m.cls,l.length<=4
def FW.cap{m:aj}(h:FW m):IZ m m.cls.length<=8000 :=
 tP (ac3 h.opt _ (aU _)) (tP (Nat.pow_le_pow_right Fs h.vX) Fs)
def MM.fw{m:aj}{a b:Nat}(h:MM m a b)(ha:a<=4)(hb:b<=4):FW m:=⟨h.vm,tP h.vX ha,λl hl=>tP (h.some l hl).2 hb⟩
def FW.Ce{m:aj}(h:FW m){c:Int}(hc:0<=c):FW (wv m c):=⟨alb h.vm hc,by unfold wv;simpa using h.vX,λl hl=>by
 rcases List.mem_or_eq_of_mem_set hl with h1|h1
 ·exact h.opt l h1
 ·rw[h1];exact aS _⟩
end T

