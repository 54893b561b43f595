import Derived.Test.YtodilglobhifaaaGreatDoorX18
set_option linter.all false
set_option maxHeartbeats 0
set_option maxRecDepth 20000
open List renaming find?_cons→BK,getElem?_map→cm,any_eq_true→np,mem_filter→kF,getD_eq_getElem?_getD→ax,getElem?_append_right→dy,getElem?_eq_some_iff→aN,mem_append→bE,mem_singleton→bK,getElem?_set_ne→dz,mem_iff_getElem→n6,getElem?_eq_getElem→aT,range→bp,range_succ→sF,filter_append→BJ,map_append→iJ,filter_cons→E3,filter_nil→JO,flatMap_append→sG,flatMap_cons→qW,flatMap_nil→EU,append_nil→gI,mem_map→cF,mem_range→jA,mem_flatMap→E2,length_map→eA,length_filter_le→BH,length_range→JF,length_append→aK,contains_iff_mem→pP,length_cons→cf,take_length→y9,length_set→bm,replicate→aD,eq_of_mem_replicate→y7,mem_of_getElem?→fq,map_replicate→E5
open Nat renaming zero_add→gw,le_refl→aM,sub_self→lU,sub_zero→nr,add_sub_cancel_left→vr
open Option renaming getD_some→dE
open Go Go.Am
namespace T
structure Ml(α:Type)where
 key:List Int
 at_:Nat
 l:List α
variable {α:Type}
instance:Inhabited (Ml α):=⟨⟨[],0,[]⟩⟩
def dM(sz:Nat)(M:List (Ml α)):List (List Int×AV):=M.map λx=>(x.key,.ref x.at_ sz 0 x.l.length)
def ej(M:List (Ml α))(k:List Int):Option (Ml α):=M.find? λx=>decide (x.key=k)
def Ea(sz:Nat)(k:List Int)(M:List (Ml α)):kP k (dM sz M)=(ej M k).map λx=>.ref x.at_ sz 0 x.l.length:=by
 unfold kP;have key:∀ (M:List (Ml α)) (i:Nat),(dV k (dM sz M) i=none/\ej M k=none)\/∃ q x,dV k (dM sz M) i=some (i+q)/\M[q]?=some x/\ej M k=some x:=by
  intro M
  induction M with
  |nil=>intro i;exact .inl ⟨rfl,rfl⟩
  |cons x r ih =>
   intro i;have hf:dV k (dM sz (x::r)) i=if x.key=k then some i else dV k (dM sz r) (i+1):=rfl;have hm:ej (x::r) k=if x.key=k then some x else ej r k:=by
    unfold ej;rw[BK];by_cases h:x.key=k
    ·rw[if_pos h];simp[h]
    ·rw[if_neg h];simp[h]
   rw[hf,hm];by_cases h:x.key=k
   ·rw[if_pos h,if_pos h];exact .inr ⟨0,x,rfl,rfl,rfl⟩
   ·rw[if_neg h,if_neg h];rcases ih (i+1) with h1|⟨q,y,h1,h2,h3⟩
    ·exact .inl h1
    ·exact .inr ⟨q+1,y,by rw[h1];congr 1;omega,by simpa using h2,h3⟩
 rcases key M 0 with⟨h1,h2⟩|⟨q,x,h1,h2,h3⟩
 ·rw[h1,h2];rfl
 ·rw[h1,h3,gw];show((dM sz M)[q]?).map (·.2)=_;unfold dM;rw[cm,h2];rfl
structure wM(m:ah)(p q:Nat)(M:List (Ml Pr))(os:List Ob):Prop where
 fin:os[p]?=some (.var (aB m++[.dP q]))
 mp:os[q]?=some (.mp 2 (dM 4 M))
 row:∀ k x,ej M k=some x->os[x.at_]?=some (.arr 4 (rowsOf aO x.l))
def wM.cW{m:ah}{p q:Nat}{M:List (Ml Pr)}{os ob:List Ob}(h:wM m p q M os)(hk:cQ os ob):wM m p q M ob:=⟨hk _ _ h.fin,hk _ _ h.mp,λk x hx=>hk _ _ (h.row k x hx)⟩
def Em(m:ah)(M:List (Ml Pr)):Prop:=∀ a b:Int,m.aj.filter (λp=>decide (p.fst=a/\p.snd=b))=match ej M [a,b] with|some x=>x.l|none=>[]
def qP(m:ah)(x:Int×Int):Prop:=(0<=x.1/\x.1<m.cls.length)/\0<=x.2/\x.2<(m.cls.getD x.1.toNat default).length
def En(m:ah)(x y:Int×Int)(p:Pr):Bool:=decide (pB m p x.2 y.2=1099511627776)
def ac3(m:ah)(x y:Int×Int):m.aj.any (oH m x.1 x.2 y.1 y.2)=(m.aj.filter λp=>decide (p.fst=x.1/\p.snd=y.1)).any (En m x y):=by
 rw[Bool.eq_iff_iff,np,np];constructor
 ·rintro⟨p,h1,h2⟩;unfold oH at h2;rw[decide_eq_true_eq]at h2;exact⟨p,kF.2 ⟨h1,decide_eq_true ⟨h2.1,h2.2.1⟩⟩,decide_eq_true h2.2.2⟩
 ·rintro⟨p,h1,h2⟩;obtain⟨h3,h4⟩:=kF.1 h1;rw[decide_eq_true_eq]at h4;unfold En at h2;rw[decide_eq_true_eq]at h2;exact⟨p,h3,by unfold oH;rw[decide_eq_true_eq];exact⟨h4.1,h4.2,h2⟩⟩
def ua(k:List Int):List AV:=k.map λx=>aam x
def gV{α:Type}(k:List Int)(a:Nat)(l:List α):List (Ml α)->List (Ml α)
 |[]=>[⟨k,a,l⟩]
 |x::r=>if x.key=k then⟨k,a,l⟩::r else x::gV k a l r
def wN{α:Type}(k:List Int)(a:Nat)(l:List α)(k':List Int):∀ G:List (Ml α),ej (gV k a l G) k'=if k=k' then some ⟨k,a,l⟩ else ej G k'
 |[]=>by
  unfold gV ej;rw[BK];by_cases h:k=k'
  ·rw[if_pos h];simp[h]
  ·rw[if_neg h];simp[h]
 |x::r=>by
  have ih:=wN k a l k' r;unfold gV;by_cases hx:x.key=k
  ·rw[if_pos hx];unfold ej;rw[BK,BK];by_cases h:k=k'
   ·rw[if_pos h];simp[h]
   ·rw[if_neg h];have:¬ x.key=k':=λe=>h (hx.symm.trans e);simp[h,this]
  ·rw[if_neg hx];unfold ej at ih ⊢;rw[BK,BK];by_cases h:x.key=k'
   ·have:¬ k=k':=λe=>hx (h.trans e.symm);rw[if_neg this];simp[h]
   ·simp only[h,decide_false];exact ih
def Uy(l:List Int):∀ (L:List (List Int×AV)) (i:Nat),dV l L (i+1)=(dV l L i).map (·+1)
 |[],i=>rfl
 |p::r,i=>by
  show(if p.1=l then some (i+1) else dV l r (i+1+1))=(if p.1=l then some i else dV l r (i+1)).map (·+1);split
  ·rfl
  ·exact Uy l r (i+1)
def ads(k:List Int)(v:AV)(p:List Int×AV)(L:List (List Int×AV)):Am.cS k v (p::L)=if p.1=k then(k,v)::L else p::Am.cS k v L:=by
 unfold Am.cS;show(match (if p.1=k then some 0 else dV k L 1) with|some i=>(p::L).set i (k,v)|none=>p::L++[(k,v)])=_;by_cases h:p.1=k
 ·rw[if_pos h,if_pos h];rfl
 ·rw[if_neg h,if_neg h,Uy];cases dV k L 0<;>rfl
def A4{α:Type}{sz:Nat}(k:List Int)(a:Nat)(l:List α):∀ G:List (Ml α),Am.cS k (.ref a sz 0 l.length) (dM sz G)=dM sz (gV k a l G)
 |[]=>rfl
 |x::r=>by
  show Am.cS k _ ((x.key,_)::dM sz r)=_;rw[ads,A4 k a l r,show gV k a l (x::r)=if x.key=k then⟨k,a,l⟩::r else x::gV k a l r from rfl];dsimp only;by_cases h:x.key=k
  ·rw[if_pos h,if_pos h];rfl
  ·rw[if_neg h,if_neg h];rfl
def IE(l:List Int)(u v:AV)(L:List (List Int×AV)):l8 (rA l L) v (Am.cS l u L)=Am.cS l v L:=by
 unfold l8 rA Am.cS;cases h:dV l L 0 with
 |none =>
  rw[Option.getD_none];dsimp only;rw[List.set_append_right _ _ (aM _),lU,ax,dy (aM _),lU];rfl
 |some q =>
  obtain⟨_,w,hw⟩:=s5 h;rw[nr]at hw;have hq:=(aN.1 hw).1;rw[dE];dsimp only;rw[List.set_set,ax,List.getElem?_set_self hq];rfl
def IF(l:List Int)(u:AV)(L:List (List Int×AV)):rA l L<(Am.cS l u L).length:=by
 unfold rA Am.cS;cases h:dV l L 0 with
 |none=>simp
 |some q =>
  obtain⟨_,w,hw⟩:=s5 h;rw[nr]at hw;have hq:=(aN.1 hw).1;simpa using hq
structure CB(base:List Ob)(gq to tk:Nat)(D:List (Nat×Nat))(S:List (List (Int×Int)))(G:List (Ml (Int×Int)))(ks:List (List Int))(ob:List Ob):Prop where
 kp:cQ base ob
 mp:ob[gq]?=some (.mp 4 (dM 2 G))
 out:ob[to]?=some (.arr 1 (rowsOf bY D))
 ni:ob[tk]?=some (.arr 4 (rowsOf ua ks))
 ri:RI av ob D S
 gr:∀ k g,ej G k=some g->ob[g.at_]?=some (.arr 2 (rowsOf av g.l))
 inj:∀ k k' g g',ej G k=some g->ej G k'=some g'->g.at_=g'.at_->k=k'
 yG:∀ k g,ej G k=some g->∀ d∈D,d.1≠g.at_
 fr:(base.length<=gq/\base.length<=to/\base.length<=tk)/\∀ k g,ej G k=some g->base.length<=g.at_
variable {base ob l:List Ob} {gq to tk:Nat} {D:List (Nat×Nat)} {S:List (List (Int×Int))} {G:List (Ml (Int×Int))} {ks:List (List Int)}
def CB.app(h:CB base gq to tk D S G ks ob)(l:List Ob):CB base gq to tk D S G ks (ob++l) :=
 ⟨h.kp.app l,aA h.mp l,aA h.out l,aA h.ni l,h.ri.app l,λk g hg=>aA (h.gr k g hg) l,h.inj,h.yG,h.fr⟩
def CB.start(os:List Ob):CB os os.length (os.length+1) (os.length+2) [] [] [] [] (os++[.mp 4 [],.arr 1 [],.arr 4 []]) :=
 ⟨(cQ.refl os).app _,jH _ _ _,lG _ _ 1,lG _ _ 2,RI.nil,λk g h=>(by cases(show(none:Option (Ml (Int×Int)))=some g from h)),λk k' g g' h=>(by cases(show(none:Option (Ml (Int×Int)))=some g from h)),λk g h=>(by cases(show(none:Option (Ml (Int×Int)))=some g from h)),⟨⟨Bv,Bv,Bv⟩,λk g h=>(by cases(show(none:Option (Ml (Int×Int)))=some g from h))⟩⟩
def gW{os:List Ob}{i:Nat}{o:Ob}(h:os[i]?=some o):i<os.length:=(aN.1 h).1
def CB.lone(h:CB base gq to tk D S G ks ob){x:Int×Int}{a b:Nat}(h1:l[a]?=some (.arr 2 (rowsOf av [x])))(h2:l[b]?=some (.arr 1 (rowsOf bY (D++[(ob.length+a,1)])))):
  CB base gq (ob.length+b) tk (D++[(ob.length+a,1)]) (S++[[x]]) G ks (ob.set to .gone++l):=by
 have hr:RI av (ob.set to .gone++l) D S:=(h.ri.kill h.out (by intro l e;cases e)).app l;refine⟨(h.kp.set h.fr.1.2.1).app l,?_,?_,?_,?_,λk g hg=>?_,h.inj,λk g hg d hd=>?_,⟨⟨h.fr.1.1,?_,h.fr.1.2.2⟩,h.fr.2⟩⟩
 ·exact aA (cZ h.mp h.out (by intro e;cases e)) l
 ·rw[jJ];exact h2
 ·exact aA (cZ h.ni h.out (by intro e;cases e)) l
 ·exact RI.snoc (r:=[x]) hr (by rw[jJ];exact h1)
 ·exact aA (cZ (h.gr k g hg) h.out (by intro e;cases e)) l
 ·rcases bE.1 hd with hd|hd
  ·exact h.yG k g hg d hd
  ·rw[bK]at hd;subst hd;have:=gW (h.gr k g hg);dsimp only;omega
 ·have:=h.kp.len;omega
def CB.key(h:CB base gq to tk D S G ks ob){k:List Int}{b:Nat}(h2:l[b]?=some (.arr 4 (rowsOf ua (ks++[k])))):CB base gq to (ob.length+b) D S G (ks++[k]) (ob.set tk .gone++l):=by
 refine⟨(h.kp.set h.fr.1.2.2).app l,?_,?_,?_,(h.ri.kill h.ni (by intro l e;cases e)).app l,λk g hg=>?_,h.inj,h.yG,⟨⟨h.fr.1.1,h.fr.1.2.1,?_⟩,h.fr.2⟩⟩
 ·exact aA (cZ h.mp h.ni (by intro e;cases e)) l
 ·exact aA (cZ h.out h.ni (by intro e;cases e)) l
 ·rw[jJ];exact h2
 ·exact aA (cZ (h.gr k g hg) h.ni (by intro e;cases e)) l
 ·have:=h.kp.len;omega
def RI.off{α:Type}{enc:α->List AV}{os:List Ob}{D:List (Nat×Nat)}{S:List (List α)}(h:RI enc os D S){i:Nat}(hi:∀ d∈D,d.1≠i){y:Ob}:RI enc (os.set i y) D S :=
 ⟨h.len,λj hj=>⟨by
  have:i≠(D.getD j default).1:=λe=>hi _ (aF (d:=default) hj) e.symm;rw[dz this];exact(h.row j hj).1,(h.row j hj).2⟩⟩
def CB.more(h:CB base gq to tk D S G ks ob){k:List Int}{g:Ml (Int×Int)}(hg:ej G k=some g){x:Int×Int}{b:Nat}(h2:l[b]?=some (.arr 2 (rowsOf av (g.l++[x])))):
  CB base gq to tk D S (gV k (ob.length+b) (g.l++[x]) G) ks ((ob.set g.at_ .gone).set gq (.mp 4 (dM 2 (gV k (ob.length+b) (g.l++[x]) G)))++l):=by
 have dq:=h.gr k g hg;have m1:(ob.set g.at_ .gone)[gq]?=some (.mp 4 (dM 2 G)):=cZ h.mp dq (by intro e;cases e);have hl:((ob.set g.at_ .gone).set gq (.mp 4 (dM 2 (gV k (ob.length+b) (g.l++[x]) G)))).length=ob.length:=Jy;have lC:((ob.set g.at_ .gone).set gq (.mp 4 (dM 2 (gV k (ob.length+b) (g.l++[x]) G)))++l)[ob.length+b]?=some (.arr 2 (rowsOf av (g.l++[x]))):=by
  rw[dy Bv,hl,vr];exact h2
 refine⟨((h.kp.set (h.fr.2 k g hg)).set h.fr.1.1).app l,aA (jI m1) l,aA (cZ (cZ h.out dq (by intro e;cases e)) m1 (by intro e;cases e)) l,aA (cZ (cZ h.ni dq (by intro e;cases e)) m1 (by intro e;cases e)) l,
  ((h.ri.off (h.yG k g hg)).kill m1 (by intro l e;cases e)).app l,λk' g' bB=>?_,λk1 k2 g1 g2 dg dc e=>?_,λk' g' bB d hd=>?_,⟨h.fr.1,λk' g' bB=>?_⟩⟩
 all_goals rw[wN]at *
 ·split at bB
  ·injection bB with bB;subst bB;exact lC
  ·rename_i cC;have hx:=h.gr k' g' bB;have:g.at_≠g'.at_:=λe=>cC (h.inj k k' g g' hg bB e);exact aA (cZ (o:=.arr 2 (rowsOf av g'.l)) (by rw[dz this];exact hx) m1 (by intro e;cases e)) l
 ·split at dg<;>split at dc
  ·rename_i e1 e2;exact e1.symm.trans e2
  ·injection dg with dg;subst dg;have:=gW (h.gr k2 g2 dc);dsimp only at e;omega
  ·injection dc with dc;subst dc;have:=gW (h.gr k1 g1 dg);dsimp only at e;omega
  ·exact h.inj k1 k2 g1 g2 dg dc e
 ·split at bB
  ·injection bB with bB;subst bB;obtain⟨j,hj,rfl⟩:=n6.1 hd;have h3:=gW (h.ri.row j hj).1;rw[ax,aT hj,dE]at h3;dsimp only;omega
  ·exact h.yG k' g' bB d hd
 ·split at bB
  ·injection bB with bB;subst bB;have:=h.kp.len;dsimp only;omega
  ·exact h.fr.2 k' g' bB
def CB.first(h:CB base gq to tk D S G ks ob){k:List Int}{x:Int×Int}{b:Nat}(h2:l[b]?=some (.arr 2 (rowsOf av [x]))):
  CB base gq to tk D S (gV k (ob.length+b) [x] G) ks (ob.set gq (.mp 4 (dM 2 (gV k (ob.length+b) [x] G)))++l):=by
 have m1:=h.mp;have hl:(ob.set gq (.mp 4 (dM 2 (gV k (ob.length+b) [x] G)))).length=ob.length:=Jy;have lC:(ob.set gq (.mp 4 (dM 2 (gV k (ob.length+b) [x] G)))++l)[ob.length+b]?=some (.arr 2 (rowsOf av [x])):=by
  rw[dy Bv,hl,vr];exact h2
 refine⟨(h.kp.set h.fr.1.1).app l,aA (jI m1) l,aA (cZ h.out m1 (by intro e;cases e)) l,aA (cZ h.ni m1 (by intro e;cases e)) l,
  (h.ri.kill m1 (by intro l e;cases e)).app l,λk' g' bB=>?_,λk1 k2 g1 g2 dg dc e=>?_,λk' g' bB d hd=>?_,⟨h.fr.1,λk' g' bB=>?_⟩⟩
 all_goals rw[wN]at *
 ·split at bB
  ·injection bB with bB;subst bB;exact lC
  ·exact aA (cZ (h.gr k' g' bB) m1 (by intro e;cases e)) l
 ·split at dg<;>split at dc
  ·rename_i e1 e2;exact e1.symm.trans e2
  ·injection dg with dg;subst dg;have:=gW (h.gr k2 g2 dc);dsimp only at e;omega
  ·injection dc with dc;subst dc;have:=gW (h.gr k1 g1 dg);dsimp only at e;omega
  ·exact h.inj k1 k2 g1 g2 dg dc e
 ·split at bB
  ·injection bB with bB;subst bB;obtain⟨j,hj,rfl⟩:=n6.1 hd;have h3:=gW (h.ri.row j hj).1;rw[ax,aT hj,dE]at h3;dsimp only;omega
  ·exact h.yG k' g' bB d hd
 ·split at bB
  ·injection bB with bB;subst bB;have:=h.kp.len;dsimp only;omega
  ·exact h.fr.2 k' g' bB
def uc(left:List (List Bool))(c i:Nat):List (Int×Int):=((bp i).filter λj=>(left.getD c default).getD j false).map λj:Nat=>((c:Int),(j:Int))
def XP(m:ah)(left:List (List Bool))(c i:Nat):List (Int×Int):=(bp c).flatMap (wg m left)++uc left c i
def adl(m:ah)(left:List (List Bool))(c i:Nat):XP m left c (i+1)=XP m left c i++if(left.getD c default).getD i false=true then [((c:Int),(i:Int))] else []:=by
 unfold XP uc;rw[sF,BJ,iJ,List.append_assoc];congr 2;rw[E3,JO];split<;>rfl
def Uo(m:ah)(left:List (List Bool))(c:Nat):XP m left (c+1) 0=XP m left c (m.cls.getD c default).length:=by
 unfold XP;rw[sF,sG];show _++([c].flatMap (wg m left))++uc left (c+1) 0=_;rw[qW,EU,gI];show _++wg m left c++[]=_;rw[gI];rfl
def yh(m:ah)(left:List (List Bool)):XP m left m.cls.length 0=fU m left:=by
 unfold XP fU;exact gI _
def adt{left:List (List Bool)}{c i:Nat}{x:Int×Int}(h:x∈uc left c i):∃j:Nat,j<i/\x=((c:Int),(j:Int)):=by
 obtain⟨j,h1,h2⟩:=cF.1 h;exact⟨j,jA.1 (kF.1 h1).1,h2.symm⟩
def HS{m:ah}{left:List (List Bool)}{c i:Nat}(hc:c<m.cls.length\/i=0/\c<=m.cls.length)(hi:i<=(m.cls.getD c default).length):∀ x∈XP m left c i,qP m x:=by
 have key:∀ (c i:Nat),c<m.cls.length->i<=(m.cls.getD c default).length->∀ x∈uc left c i,qP m x:=λc i hc hi x hx=>by
  obtain⟨j,h1,rfl⟩:=adt hx;refine⟨⟨aad,aad⟩,aad,?_⟩;show(j:Int)<(m.cls.getD (Int.toNat (c:Int)) default).length;rw[Int.toNat_natCast];omega
 intro x hx;rcases bE.1 hx with hx|hx
 ·obtain⟨d,h1,h2⟩:=E2.1 hx;have hd:=jA.1 h1;exact key d _ Bv (aM _) x h2
 ·rcases hc with hc|⟨rfl,hc⟩
  ·exact key c i hc hi x hx
  ·exact absurd hx (by simp[uc])
def DJ{m:ah}{left:List (List Bool)}(AW:∀ l∈m.cls,l.length<=24):∀ (c i:Nat),c<=m.cls.length->i<=24->(XP m left c i).length<=24*c+i:=by
 intro c
 induction c with
 |zero =>
  intro i _ _;unfold XP uc;simp only[List.range_zero,EU,List.nil_append,eA];have:=BH (λj=>(left.getD 0 default).getD j false) (bp i);rw[JF]at this;omega
 |succ c ih =>
  intro i hc hi;have h1:=ih (m.cls.getD c default).length Bv (AW _ (aF (d:=default) Bv));have h2:=AW _ (aF (l:=m.cls) (i:=c) (d:=default) Bv);rw[<- Uo]at h1;unfold XP at h1 ⊢;rw[aK]at h1 ⊢;have h3:(uc left (c+1) i).length<=i:=by
   unfold uc;rw[eA];have:=BH (λj=>(left.getD (c+1) default).getD j false) (bp i);rw[JF]at this;omega
  omega
def Ez(m:ah)(x:Int×Int):∀ (X:List (Int×Int)) (ks:List (List Int)),jy m (X++[x]) ks=if gD m x&&!(jy m X ks).contains (dI m x) then jy m X ks++[dI m x] else jy m X ks
 |[],ks=>rfl
 |y::r,ks=>Ez m x r _
def Ja(m:ah)(X:List (Int×Int))(x:Int×Int)(k:List Int):eJ m (X++[x]) k=eJ m X k++if gD m x=true/\dI m x=k then [x] else []:=by
 unfold eJ;rw[BJ,E3,JO];congr 1;by_cases h1:gD m x=true<;>by_cases h2:dI m x=k<;>simp[h1,h2]
def Jb(m:ah)(X:List (Int×Int))(x:Int×Int):rW m (X++[x])=rW m X++if gD m x=true then [] else [[x]]:=by
 unfold rW;rw[BJ,iJ,E3,JO];congr 1;by_cases h1:gD m x=true<;>simp[h1]
structure k7(m:ah)(X:List (Int×Int))(S:List (List (Int×Int)))(G:List (Ml (Int×Int)))(ks:List (List Int)):Prop where
 lone:S=rW m X
 keys:ks=jy m X []
 aX:∀ k,match ej G k with|some g=>g.l=eJ m X k/\eJ m X k≠[]|none=>eJ m X k=[]
def k7.nil(m:ah):k7 m [] [] [] []:=⟨rfl,rfl,λk=>rfl⟩
def k7.none{m:ah}{X:List (Int×Int)}{S:List (List (Int×Int))}{G:List (Ml (Int×Int))}{ks:List (List Int)}(h:k7 m X S G ks){x:Int×Int}(hx:gD m x=false):k7 m (X++[x]) (S++[[x]]) G ks:=by
 refine⟨?_,?_,λk=>?_⟩
 ·rw[Jb,hx,h.lone];rfl
 ·rw[Ez,hx,h.keys];rfl
 ·have:=h.aX k;rw[Ja,hx];simpa using this
def k7.first{m:ah}{X:List (Int×Int)}{S:List (List (Int×Int))}{G:List (Ml (Int×Int))}{ks:List (List Int)}(h:k7 m X S G ks){x:Int×Int}(hx:gD m x=true)(hk:ej G (dI m x)=Option.none)(a:Nat):k7 m (X++[x]) S (gV (dI m x) a [x] G) (ks++[dI m x]):=by
 have h0:=h.aX (dI m x);rw[hk]at h0;dsimp only at h0;have Bg:(jy m X []).contains (dI m x)=false:=by
  rw[<- Bool.not_eq_true,pP,x9];rintro(hh |⟨y,h1,h2,h3⟩)
  ·cases hh
  ·have:y∈eJ m X (dI m x):=nf.2 ⟨h1,h2,h3⟩;rw[h0]at this;cases this
 refine⟨?_,?_,λk=>?_⟩
 ·rw[Jb,hx,h.lone];simp
 ·rw[Ez,hx,Bg,h.keys];rfl
 ·rw[wN,Ja];by_cases e:dI m x=k
  ·rw[if_pos e,if_pos ⟨hx,e⟩,<- e,h0];exact⟨rfl,Jy⟩
  ·rw[if_neg e,if_neg (λhh=>e hh.2),gI];exact h.aX k
def k7.more{m:ah}{X:List (Int×Int)}{S:List (List (Int×Int))}{G:List (Ml (Int×Int))}{ks:List (List Int)}(h:k7 m X S G ks){x:Int×Int}(hx:gD m x=true){g:Ml (Int×Int)}(hk:ej G (dI m x)=some g)(a:Nat):k7 m (X++[x]) S (gV (dI m x) a (g.l++[x]) G) ks:=by
 have h0:=h.aX (dI m x);rw[hk]at h0;dsimp only at h0;have Bg:(jy m X []).contains (dI m x)=true:=by
  rw[pP,x9];cases hg:eJ m X (dI m x) with
  |nil=>exact absurd hg h0.2
  |cons y r =>
   obtain⟨h1,h2,h3⟩:=nf.1 (show y∈eJ m X (dI m x) by rw[hg];simp);exact .inr ⟨y,h1,h2,h3⟩
 refine⟨?_,?_,λk=>?_⟩
 ·rw[Jb,hx,h.lone];simp
 ·rw[Ez,hx,Bg,h.keys];rfl
 ·rw[wN,Ja];by_cases e:dI m x=k
  ·rw[if_pos e,if_pos ⟨hx,e⟩,<- e,<- h0.1];exact⟨rfl,Jy⟩
  ·rw[if_neg e,if_neg (λhh=>e hh.2),gI];exact h.aX k
def IY(m:ah)(X:List (Int×Int)):(rW m X).length<=X.length:=by
 unfold rW;rw[eA];exact BH _ _
def Eo(m:ah):∀ (X:List (Int×Int)) (ks:List (List Int)),(jy m X ks).length<=ks.length+X.length
 |[],ks=>by simp[jy]
 |x::r,ks=>by
  rw[jy];have:=Eo m r (if gD m x&&!ks.contains (dI m x) then ks++[dI m x] else ks);have h2:(if gD m x&&!ks.contains (dI m x) then ks++[dI m x] else ks).length<=ks.length+1:=by split<;>simp
  rw[cf];omega
def Es(m:ah)(X:List (Int×Int))(k:List Int):(eJ m X k).length<=X.length:=BH _ _
structure pO(m:ah)(M:List (Ml Pr))(n:Nat)(ob:List Ob):Prop where
 o0:ob[0]?=some (.var (aB m))
 o1:ob[1]?=some (.var [.lit (.slice none 0 0)])
 mp:ob[2]?=some (.mp 2 (dM 4 M))
 o3:ob[3]?=some (.var (aB m++[.dP 2]))
 gr:∀ k g,ej M k=some g->ob[g.at_]?=some (.arr 4 (rowsOf aO g.l))/\4<=g.at_
 inj:∀ k k' g g',ej M k=some g->ej M k'=some g'->g.at_=g'.at_->k=k'
 val:∀ a b:Int,((m.aj.take n).filter λp=>decide (p.fst=a/\p.snd=b))=match ej M [a,b] with|some x=>x.l|none=>[]
 len:∀ k g,ej M k=some g->g.l.length<=n
variable {m:ah} {M:List (Ml Pr)} {n:Nat} {ob l:List Ob}
def pO.fin(h:pO m M m.aj.length ob):wM m 3 2 M ob/\Em m M:=⟨⟨h.o3,h.mp,λk g hg=>(h.gr k g hg).1⟩,λa b=>by have:=h.val a b;rwa [y9]at this⟩
def pO.start(m:ah):pO m [] 0 [.var (aB m),.var [.lit (.slice none 0 0)],.mp 2 [],.var (aB m++[.dP 2])] :=
 ⟨rfl,rfl,rfl,rfl,λk g h=>(by cases(show(none:Option (Ml Pr))=some g from h)),λk k' g g' h=>(by cases(show(none:Option (Ml Pr))=some g from h)),λa b=>rfl,λk g h=>(by cases(show(none:Option (Ml Pr))=some g from h))⟩
def Uz{n:Nat}(hn:n<m.aj.length)(a b:Int):((m.aj.take (n+1)).filter λp=>decide (p.fst=a/\p.snd=b))=((m.aj.take n).filter λp=>decide (p.fst=a/\p.snd=b))++if(m.aj.getD n default).fst=a/\(m.aj.getD n default).snd=b then [m.aj.getD n default] else []:=by
 rw[jb hn,BJ,E3,JO];congr 1;by_cases h:(m.aj.getD n default).fst=a/\(m.aj.getD n default).snd=b
 ·rw[if_pos h,if_pos (decide_eq_true h)]
 ·rw[if_neg h,if_neg (by rw[decide_eq_false h];simp)]
def pO.first(h:pO m M n ob)(hn:n<m.aj.length){k:List Int}(hk:k=[(m.aj.getD n default).fst,(m.aj.getD n default).snd])(lz:ej M k=none){b:Nat}(h2:l[b]?=some (.arr 4 (rowsOf aO [m.aj.getD n default]))):
  pO m (gV k (ob.length+b) [m.aj.getD n default] M) (n+1) (ob.set 2 (.mp 2 (dM 4 (gV k (ob.length+b) [m.aj.getD n default] M)))++l):=by
 have m1:=h.mp;have h3:=gW h.o3;have lC:(ob.set 2 (.mp 2 (dM 4 (gV k (ob.length+b) [m.aj.getD n default] M)))++l)[ob.length+b]?=some (.arr 4 (rowsOf aO [m.aj.getD n default])):=by
  rw[jJ];exact h2
 refine⟨aA (cZ h.o0 m1 (by intro e;cases e)) l,aA (cZ h.o1 m1 (by intro e;cases e)) l,aA (jI m1) l,aA (cZ h.o3 m1 (by intro e;cases e)) l,λk' g' bB=>?_,λk1 k2 g1 g2 dg dc e=>?_,λa c=>?_,λk' g' bB=>?_⟩;all_goals rw[wN]at *
 ·split at bB
  ·injection bB with bB;subst bB;exact⟨lC,aad⟩
  ·exact⟨aA (cZ (h.gr k' g' bB).1 m1 (by intro e;cases e)) l,(h.gr k' g' bB).2⟩
 ·split at dg<;>split at dc
  ·rename_i e1 e2;exact e1.symm.trans e2
  ·injection dg with dg;subst dg;have:=gW (h.gr k2 g2 dc).1;dsimp only at e;omega
  ·injection dc with dc;subst dc;have:=gW (h.gr k1 g1 dg).1;dsimp only at e;omega
  ·exact h.inj k1 k2 g1 g2 dg dc e
 ·rw[Uz hn];have hv:=h.val a c;by_cases e:(m.aj.getD n default).fst=a/\(m.aj.getD n default).snd=c
  ·have ek:k=[a,c]:=by rw[hk,e.1,e.2]
   rw[<- ek,lz]at hv;rw[if_pos e,if_pos ek,hv];rfl
  ·have ek:¬ k=[a,c]:=λh=>e (by rw[hk]at h;injection h with h1 h2;injection h2 with h2 _;exact⟨h1,h2⟩);rw[if_neg e,if_neg ek,gI,hv]
 ·split at bB
  ·injection bB with bB;subst bB;simp
  ·have:=h.len k' g' bB;omega
def pO.more(h:pO m M n ob)(hn:n<m.aj.length){k:List Int}(hk:k=[(m.aj.getD n default).fst,(m.aj.getD n default).snd]){g:Ml Pr}(hg:ej M k=some g){b:Nat}(h2:l[b]?=some (.arr 4 (rowsOf aO (g.l++[m.aj.getD n default])))):
  pO m (gV k (ob.length+b) (g.l++[m.aj.getD n default]) M) (n+1) ((ob.set g.at_ .gone).set 2 (.mp 2 (dM 4 (gV k (ob.length+b) (g.l++[m.aj.getD n default]) M)))++l):=by
 have dq:=(h.gr k g hg).1;have h4:=(h.gr k g hg).2;have h3:=gW h.o3;have m1:(ob.set g.at_ .gone)[2]?=some (.mp 2 (dM 4 M)):=cZ h.mp dq (by intro e;cases e);have lC:((ob.set g.at_ .gone).set 2 (.mp 2 (dM 4 (gV k (ob.length+b) (g.l++[m.aj.getD n default]) M)))++l)[ob.length+b]?=some (.arr 4 (rowsOf aO (g.l++[m.aj.getD n default]))):=by
  rw[dy Jy,bm,bm,vr];exact h2
 refine⟨aA (cZ (cZ h.o0 dq (by intro e;cases e)) m1 (by intro e;cases e)) l,aA (cZ (cZ h.o1 dq (by intro e;cases e)) m1 (by intro e;cases e)) l,aA (jI m1) l,aA (cZ (cZ h.o3 dq (by intro e;cases e)) m1 (by intro e;cases e)) l,λk' g' bB=>?_,λk1 k2 g1 g2 dg dc e=>?_,λa c=>?_,λk' g' bB=>?_⟩;all_goals rw[wN]at *
 ·split at bB
  ·injection bB with bB;subst bB;exact⟨lC,aad⟩
  ·rename_i cC;have hx:=(h.gr k' g' bB).1;have:g.at_≠g'.at_:=λe=>cC (h.inj k k' g g' hg bB e);exact⟨aA (cZ (o:=.arr 4 (rowsOf aO g'.l)) (by rw[dz this];exact hx) m1 (by intro e;cases e)) l,(h.gr k' g' bB).2⟩
 ·split at dg<;>split at dc
  ·rename_i e1 e2;exact e1.symm.trans e2
  ·injection dg with dg;subst dg;have:=gW (h.gr k2 g2 dc).1;dsimp only at e;omega
  ·injection dc with dc;subst dc;have:=gW (h.gr k1 g1 dg).1;dsimp only at e;omega
  ·exact h.inj k1 k2 g1 g2 dg dc e
 ·rw[Uz hn];have hv:=h.val a c;by_cases e:(m.aj.getD n default).fst=a/\(m.aj.getD n default).snd=c
  ·have ek:k=[a,c]:=by rw[hk,e.1,e.2]
   rw[<- ek,hg]at hv;rw[if_pos e,if_pos ek,hv]
  ·have ek:¬ k=[a,c]:=λh=>e (by rw[hk]at h;injection h with h1 h2;injection h2 with h2 _;exact⟨h1,h2⟩);rw[if_neg e,if_neg ek,gI,hv]
 ·split at bB
  ·injection bB with bB;subst bB;have:=h.len k g hg;simp;omega
  ·have:=h.len k' g' bB;omega
def gp(q:Nat×List Int):List AV:=if q.2=[] then [.lit (.slice none 0 0)] else [.ref q.1 1 0 q.2.length]
structure LB(m:ah)(A:List (List (Int×Int)))(D:List (Nat×Nat))(to lp:Nat)(Q:List (Nat×List Int))(ob:List Ob):Prop where
 o0:ob[0]?=some (.var (aB m))
 o1:ob[1]?=some (.var [.lit (.slice none 0 0)])
 out:ob[to]?=some (.arr 1 (rowsOf bY D))
 ri:RI av ob D A
 ls:ob[lp]?=some (.arr 1 (rowsOf gp Q))
 row:∀ c,c<Q.length->(Q.getD c default).2≠[]->ob[(Q.getD c default).1]?=some (.arr 1 (ints (Q.getD c default).2))/\(Q.getD c default).1≠to/\(Q.getD c default).1≠lp
 inj:∀ c c',c<Q.length->c'<Q.length->(Q.getD c default).2≠[]->(Q.getD c' default).2≠[]->(Q.getD c default).1=(Q.getD c' default).1->c=c'
 ne:to≠lp
variable {m:ah} {A:List (List (Int×Int))} {D:List (Nat×Nat)} {to lp:Nat} {Q:List (Nat×List Int)} {ob l:List Ob}
def LB.app(h:LB m A D to lp Q ob)(l:List Ob):LB m A D to lp Q (ob++l) :=
 ⟨aA h.o0 l,aA h.o1 l,aA h.out l,h.ri.app l,aA h.ls l,λc hc hn=>⟨aA (h.row c hc hn).1 l,(h.row c hc hn).2⟩,h.inj,h.ne⟩
def tW{α:Type}[Inhabited α](L:List α)(c k:Nat)(x:α)(hc:c<L.length):(L.set c x).getD k default=if k=c then x else L.getD k default:=by
 rw[ax,List.getElem?_set];by_cases h:c=k
 ·subst h;simp[hc]
 ·rw[if_neg h,if_neg (Ne.symm h),ax]
def LB.grow(h:LB m A D to lp Q ob){c:Nat}(hc:c<Q.length){n:Int}{ob1:List Ob}{b:Nat}(hk:∀ k o,ob[k]?=some o->((Q.getD c default).2≠[]->k≠(Q.getD c default).1)->ob1[k]?=some o)(pN:ob1.length=ob.length)(h2:l[b]?=some (.arr 1 (ints ((Q.getD c default).2++[n])))):
  LB m A D to lp (Q.set c (ob.length+b,(Q.getD c default).2++[n])) (ob1.set lp (.arr 1 (rowsOf gp (Q.set c (ob.length+b,(Q.getD c default).2++[n]))))++l):=by
 have hq:=λhn=>h.row c hc hn;have Eb:lp<ob.length:=gW h.ls;have yy:to<ob.length:=gW h.out;have k0:=hk _ _ h.o0 (λhn e=>by have:=(hq hn).1;rw[<- e,h.o0]at this;cases this);have k1:=hk _ _ h.o1 (λhn e=>by have:=(hq hn).1;rw[<- e,h.o1]at this;cases this);have k2:=hk _ _ h.out (λhn e=>(hq hn).2.1 e.symm);have k3:=hk _ _ h.ls (λhn e=>(hq hn).2.2 e.symm);have kr:RI av ob1 D A:=⟨h.ri.len,λj hj=>⟨hk _ _ (h.ri.row j hj).1 (λhn e=>by have:=(hq hn).1;rw[<- e,(h.ri.row j hj).1]at this;cases this),(h.ri.row j hj).2⟩⟩;have wO:∀ i o,ob1[i]?=some o->i≠lp->∀ y,(ob1.set lp y)[i]?=some o:=λi o hi hn y=>by rw[dz (Ne.symm hn)];exact hi
 have lC:(ob1.set lp (.arr 1 (rowsOf gp (Q.set c (ob.length+b,(Q.getD c default).2++[n]))))++l)[ob.length+b]?=some (.arr 1 (ints ((Q.getD c default).2++[n]))):=by
  rw[dy aak,bm,pN,vr];exact h2
 refine⟨aA (wO _ _ k0 (λe=>by have:=h.ls;rw[<- e,h.o0]at this;cases this) _) l,aA (wO _ _ k1 (λe=>by have:=h.ls;rw[<- e,h.o1]at this;cases this) _) l,aA (wO _ _ k2 h.ne _) l,(kr.kill k3 (by intro l e;cases e)).app l,aA (jI k3) l,λk dS hn=>?_,λk k' dS wP hn fR e=>?_,h.ne⟩
 ·rw[bm]at dS;rw[tW _ _ _ _ hc]at hn ⊢;split at hn
  ·rename_i e;rw[if_pos e];exact⟨lC,aad,aad⟩
  ·rename_i e;rw[if_neg e];have hr:=h.row k dS hn;refine⟨aA (wO _ _ (hk _ _ hr.1 (λkk e2=>e (h.inj k c dS hc hn kk e2))) hr.2.2 _) l,hr.2⟩
 ·rw[bm]at dS wP;rw[tW _ _ _ _ hc]at hn e;rw[tW _ _ _ _ hc]at fR e;by_cases h1:k=c<;>by_cases h3:k'=c
  ·exact h1.trans h3.symm
  ·rw[if_pos h1,if_neg h3]at e;rw[if_neg h3]at fR;have:=gW (h.row k' wP fR).1;dsimp only at e;omega
  ·rw[if_neg h1,if_pos h3]at e;rw[if_neg h1]at hn;have:=gW (h.row k dS hn).1;dsimp only at e;omega
  ·rw[if_neg h1,if_neg h3]at e;rw[if_neg h1]at hn;rw[if_neg h3]at fR;exact h.inj k k' dS wP hn fR e
def LB.start{o2:List Ob}{N:Nat}(h0:o2[0]?=some (.var (aB m)))(h1:o2[1]?=some (.var [.lit (.slice none 0 0)]))(ho:o2[to]?=some (.arr 1 (rowsOf bY D)))(hr:RI av o2 D A):
  LB m A D to o2.length (aD N (0,[])) (o2++[.arr 1 (aD N [.lit (.slice none 0 0)])]):=by
 have hz:∀ c,((aD N ((0:Nat),([]:List Int))).getD c default).2=[]:=λc=>by
  rw[ax];cases hh:(aD N ((0:Nat),([]:List Int)))[c]? with
  |none=>rfl
  |some q=>rw[y7 (fq hh)];rfl
 refine⟨aA h0 _,aA h1 _,aA ho _,hr.app _,?_,λc _ hn=>absurd (hz c) hn,λc c' _ _ hn=>absurd (hz c) hn,?_⟩
 ·rw[show rowsOf gp (aD N ((0:Nat),([]:List Int)))=aD N [.lit (.slice none 0 0)] by unfold rowsOf;rw[E5];rfl];exact jH _ _ _
 ·have:=gW ho;omega
def LB.len{N:Nat}:((aD N ((0:Nat),([]:List Int))).map (·.2))=aD N []:=by rw[E5]
def TP{c:Nat}(hc:c<Q.length):(rowsOf gp Q)[c]?=some (gp (Q.getD c default)):=by
 unfold rowsOf;rw[cm,aT hc,ax,aT hc];rfl
def acs{n:Nat}{x:Int×Int}(hx:x.1.toNat<Q.length):Au n (Q.map (·.2)) x=if 0<(Q.getD x.1.toNat default).2.length/\(Q.getD x.1.toNat default).2.getD ((Q.getD x.1.toNat default).2.length-1) 0=(n:Int) then Q.map (·.2) else(Q.map (·.2)).set x.1.toNat ((Q.getD x.1.toNat default).2++[(n:Int)]):=by
 have e:(Q.map (·.2)).getD x.1.toNat []=(Q.getD x.1.toNat default).2:=by
  rw[ax,cm,aT hx,ax,aT hx];rfl
 unfold Au;rw[e]
def LB.zero{N c:Nat}:((aD N ((0:Nat),([]:List Int))).getD c default).2.length=0:=by
 rw[ax];cases hh:(aD N ((0:Nat),([]:List Int)))[c]? with
 |none=>rfl
 |some q=>rw[y7 (fq hh)];rfl
structure CQ(base:List Ob)(gq tk:Nat)(G:List (Ml (Int×Int)))(ks:List (List Int))(to:Nat)(D:List (Nat×Nat))(S:List (List (Int×Int)))(ob:List Ob):Prop where
 kp:cQ base ob
 mp:ob[gq]?=some (.mp 4 (dM 2 G))
 out:ob[to]?=some (.arr 1 (rowsOf bY D))
 ni:ob[tk]?=some (.arr 4 (rowsOf ua ks))
 ri:RI av ob D S
 gr:∀ k g,ej G k=some g->ob[g.at_]?=some (.arr 2 (rowsOf av g.l))
 fr:base.length<=to
variable {base ob l:List Ob} {gq to tk:Nat} {D:List (Nat×Nat)} {S:List (List (Int×Int))} {G:List (Ml (Int×Int))} {ks:List (List Int)}
def CB.cq(h:CB base gq to tk D S G ks ob):CQ base gq tk G ks to D S ob:=⟨h.kp,h.mp,h.out,h.ni,h.ri,h.gr,h.fr.1.2.1⟩
def CQ.cW(h:CQ base gq tk G ks to D S ob){ob':List Ob}(hk:cQ ob ob'):CQ base gq tk G ks to D S ob' :=
 ⟨λk o e=>hk k o (h.kp k o e),hk _ _ h.mp,hk _ _ h.out,hk _ _ h.ni,⟨h.ri.len,λj hj=>⟨hk _ _ (h.ri.row j hj).1,(h.ri.row j hj).2⟩⟩,λk g hg=>hk _ _ (h.gr k g hg),h.fr⟩
def CQ.app(h:CQ base gq tk G ks to D S ob)(l:List Ob):CQ base gq tk G ks to D S (ob++l):=h.cW ((cQ.refl ob).app l)
def CQ.add(h:CQ base gq tk G ks to D S ob){a b:Nat}{C:List (Int×Int)}(h1:(ob.set to .gone++l)[a]?=some (.arr 2 (rowsOf av C)))(h2:l[b]?=some (.arr 1 (rowsOf bY (D++[(a,C.length)])))):
  CQ base gq tk G ks (ob.length+b) (D++[(a,C.length)]) (S++[C]) (ob.set to .gone++l):=by
 have hr:RI av (ob.set to .gone++l) D S:=(h.ri.kill h.out (by intro l e;cases e)).app l;refine⟨(h.kp.set h.fr).app l,aA (cZ h.mp h.out (by intro e;cases e)) l,?_,aA (cZ h.ni h.out (by intro e;cases e)) l,RI.snoc (r:=C) hr h1,λk g hg=>aA (cZ (h.gr k g hg) h.out (by intro e;cases e)) l,?_⟩
 ·rw[jJ];exact h2
 ·have:=h.kp.len;have:=h.fr;omega
def CQ.lone(h:CQ base gq tk G ks to D S ob){x:Int×Int}{a b:Nat}(h1:l[a]?=some (.arr 2 (rowsOf av [x])))(h2:l[b]?=some (.arr 1 (rowsOf bY (D++[(ob.length+a,1)])))):
  CQ base gq tk G ks (ob.length+b) (D++[(ob.length+a,1)]) (S++[[x]]) (ob.set to .gone++l) :=
 h.add (C:=[x]) (by rw[jJ];exact h1) h2
def CQ.aX(h:CQ base gq tk G ks to D S ob){k:List Int}{g:Ml (Int×Int)}(hg:ej G k=some g){b:Nat}(h2:l[b]?=some (.arr 1 (rowsOf bY (D++[(g.at_,g.l.length)])))):
  CQ base gq tk G ks (ob.length+b) (D++[(g.at_,g.l.length)]) (S++[g.l]) (ob.set to .gone++l) :=
 h.add (aA (cZ (h.gr k g hg) h.out (by intro e;cases e)) l) h2
def k7.key{m:ah}{X:List (Int×Int)}(h:k7 m X S G ks){n:Nat}(hn:n<ks.length):∃g,ej G (ks.getD n default)=some g/\g.l=eJ m X (ks.getD n default):=by
 have hk:ks.getD n default∈jy m X []:=by rw[<- h.keys];exact aF hn
 have cC:eJ m X (ks.getD n default)≠[]:=by
  rcases(x9 X [] _).1 hk with hh|⟨y,h1,h2,h3⟩
  ·cases hh
  ·have:y∈eJ m X (ks.getD n default):=nf.2 ⟨h1,h2,h3⟩;intro e;rw[e]at this;cases this
 have h0:=h.aX (ks.getD n default);cases hm:ej G (ks.getD n default) with
 |none=>rw[hm]at h0;exact absurd h0 cC
 |some g=>rw[hm]at h0;exact⟨g,rfl,h0.1⟩
def ade{m:ah}{X:List (Int×Int)}(h:k7 m X S G ks){n:Nat}(hn:n<ks.length):∃a b c d,ks.getD n default=[a,b,c,d]:=by
 have hk:ks.getD n default∈jy m X []:=by rw[<- h.keys];exact aF hn
 rcases(x9 X [] _).1 hk with hh|⟨y,h1,h2,h3⟩
 ·cases hh
 ·exact⟨_,_,_,_,h3.symm⟩
def adf{m:ah}{X:List (Int×Int)}{n:Nat}(hn:n<ks.length):(ks.take (n+1)).flatMap (kU m X)=(ks.take n).flatMap (kU m X)++kU m X (ks.getD n default):=by
 rw[jb hn,sG];simp
def adj{g:List (Int×Int)}{j:Nat}(hj:j<g.length):(g.take (j+1)).map (λc=>[c])=(g.take j).map (λc=>[c])++[[g.getD j default]]:=by
 rw[jb hj,iJ];simp
def adg{m:ah}{X:List (Int×Int)}{k:List Int}(h:pG m (eJ m X k)=true):kU m X k=[eJ m X k]:=by unfold kU;rw[if_pos h]
def adh{m:ah}{X:List (Int×Int)}{k:List Int}(h:pG m (eJ m X k)=false):kU m X k=(eJ m X k).map λc=>[c]:=by unfold kU;rw[if_neg (by rw[h];simp)]
def ac'{m:ah}{X:List (Int×Int)}(h:k7 m X S G ks):S++(ks.take ks.length).flatMap (kU m X)=kW m X:=by
 rw[y9,h.keys,h.lone];rfl
def adu{m:ah}{X:List (Int×Int)}{k:List Int}{C:List (Int×Int)}(h:C∈kU m X k):C.length<=X.length+1/\∀ x∈C,x∈X:=by
 unfold kU at h;have hs:∀ x∈eJ m X k,x∈X:=λx hx=>(nf.1 hx).1;have hl:=Es m X k;split at h
 ·rw[bK]at h;subst h;exact⟨Bv,hs⟩
 ·obtain⟨c,h1,rfl⟩:=cF.1 h;exact⟨Jy,λx hx=>by rw[bK]at hx;subst hx;exact hs _ h1⟩
def HT{m:ah}{X:List (Int×Int)}{C:List (Int×Int)}(h:C∈kW m X):C.length<=X.length+1/\∀ x∈C,x∈X:=by
 unfold kW at h;rcases bE.1 h with h|h
 ·unfold rW at h;obtain⟨c,h1,rfl⟩:=cF.1 h;exact⟨Jy,λx hx=>by rw[bK]at hx;subst hx;exact(kF.1 h1).1⟩
 ·obtain⟨k,h1,h2⟩:=E2.1 h;exact adu h2
def UA{m:ah}{X:List (Int×Int)}:∀ ks:List (List Int),(ks.flatMap (kU m X)).length<=ks.length*(X.length+1)
 |[]=>Jy
 |k::r=>by
  rw[qW,aK,cf,Nat.succ_mul];have h1:=UA (m:=m) (X:=X) r;have h2:(kU m X k).length<=X.length+1:=by
   unfold kU;have hl:=Es m X k;split
   ·simp
   ·rw[eA];omega
  omega
def acn{m:ah}{X:List (Int×Int)}:(kW m X).length<=X.length+X.length*(X.length+1):=by
 unfold kW;rw[aK];have h1:=IY m X;have h2:=UA (m:=m) (X:=X) (jy m X []);have h3:=Eo m X [];simp only[List.length_nil,gw]at h3;have h4:=Nat.mul_le_mul_right (X.length+1) h3;omega
end T

