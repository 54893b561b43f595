import Derived.Test.YtodilglobhifaaaGreatDoorX25
set_option linter.all false
set_option maxHeartbeats 0
set_option maxRecDepth 20000
open List renaming find?_cons→AG,getElem?_map→dm,any_eq_true→nQ,mem_filter→jH,getD_eq_getElem?_getD→aw,getElem?_append_right→dS,getElem?_eq_some_iff→ba,mem_append→bj,mem_singleton→bm,getElem?_set_ne→dq,mem_iff_getElem→oS,getElem?_eq_getElem→bc,range→bD,range_succ→ug,filter_append→vX,map_append→nS,filter_cons→xV,filter_nil→AH,flatMap_append→xR,flatMap_cons→Hg,flatMap_nil→Hh,append_nil→fF,mem_map→cN,mem_range→kA,mem_flatMap→Dt,length_map→iS,length_filter_le→uo,length_append→aJ,contains_iff_mem→ml,length_cons→cK,take_length→xX,length_set→bt,replicate→ax,eq_of_mem_replicate→ui,mem_of_getElem?→fB,map_replicate→Hu
open Nat renaming zero_add→gM,le_refl→aM,sub_self→kB,sub_zero→nP,add_sub_cancel_left→um
open Option renaming getD_some→dK
open Go Go.Am
namespace T
structure Ml(α:Type)where
 key:List Int
 at_:Nat
 l:List α
variable {α:Type}
instance:Inhabited (Ml α):=⟨⟨[],0,[]⟩⟩
def dy(sz:Nat)(M:List (Ml α)):List (List Int×AV):=M.map λx=>(x.key,.ref x.at_ sz 0 x.l.length)
def ee(M:List (Ml α))(k:List Int):Option (Ml α):=M.find? λx=>decide (x.key=k)
def Cn(sz:Nat)(k:List Int)(M:List (Ml α)):kh k (dy sz M)=(ee M k).map λx=>.ref x.at_ sz 0 x.l.length:=by
 unfold kh;have key:∀ (M:List (Ml α)) (i:Nat),(dP k (dy sz M) i=none/\ee M k=none)\/∃ q x,dP k (dy sz M) i=some (i+q)/\M[q]?=some x/\ee M k=some x:=by
  intro M
  induction M with
  |nil=>intro i;exact .inl ⟨rfl,rfl⟩
  |cons x r ih =>
   intro i;have hf:dP k (dy sz (x::r)) i=if x.key=k then some i else dP k (dy sz r) (i+1):=rfl;have hm:ee (x::r) k=if x.key=k then some x else ee r k:=by
    unfold ee;rw[AG];by_cases h:x.key=k
    ·rw[if_pos h];simp[h]
    ·rw[if_neg h];simp[h]
   rw[hf,hm];by_cases h:x.key=k
   ·rw[if_pos h,if_pos h];exact .inr ⟨0,x,rfl,rfl,rfl⟩
   ·rw[if_neg h,if_neg h];rcases ih (i+1) with h1|⟨q,y,h1,h2,h3⟩
    ·exact .inl h1
    ·exact .inr ⟨q+1,y,by rw[h1];congr 1;omega,by simpa using h2,h3⟩
 rcases key M 0 with⟨h1,h2⟩|⟨q,x,h1,h2,h3⟩
 ·rw[h1,h2];rfl
 ·rw[h1,h3,gM];show((dy sz M)[q]?).map (·.2)=_;unfold dy;rw[dm,h2];rfl
structure vB(m:ah)(p q:Nat)(M:List (Ml Pr))(os:List Ob):Prop where
 fin:os[p]?=some (.var (aA m++[.dx q]))
 mp:os[q]?=some (.mp 2 (dy 4 M))
 row:∀ k x,ee M k=some x->os[x.at_]?=some (.arr 4 (rowsOf bL x.l))
def vB.cO{m:ah}{p q:Nat}{M:List (Ml Pr)}{os ob:List Ob}(h:vB m p q M os)(hk:eX os ob):vB m p q M ob:=⟨hk _ _ h.fin,hk _ _ h.mp,λk x hx=>hk _ _ (h.row k x hx)⟩
def CD(m:ah)(M:List (Ml Pr)):Prop:=∀ a b:Int,m.ae.filter (λp=>decide (p.fst=a/\p.snd=b))=match ee M [a,b] with|some x=>x.l|none=>[]
def iB(m:ah)(x:Int×Int):Prop:=(0<=x.1/\x.1<m.cls.length)/\0<=x.2/\x.2<(m.cls.getD x.1.toNat default).length
def CR(m:ah)(x y:Int×Int)(p:Pr):Bool:=decide (nq m p x.2 y.2=1099511627776)
def Yp(m:ah)(x y:Int×Int):m.ae.any (qK m x.1 x.2 y.1 y.2)=(m.ae.filter λp=>decide (p.fst=x.1/\p.snd=y.1)).any (CR m x y):=by
 rw[Bool.eq_iff_iff,nQ,nQ];constructor
 ·rintro⟨p,h1,h2⟩;unfold qK at h2;rw[decide_eq_true_eq]at h2;exact⟨p,jH.2 ⟨h1,decide_eq_true ⟨h2.1,h2.2.1⟩⟩,decide_eq_true h2.2.2⟩
 ·rintro⟨p,h1,h2⟩;obtain⟨h3,h4⟩:=jH.1 h1;rw[decide_eq_true_eq]at h4;unfold CR at h2;rw[decide_eq_true_eq]at h2;exact⟨p,h3,by unfold qK;rw[decide_eq_true_eq];exact⟨h4.1,h4.2,h2⟩⟩
def sq(k:List Int):List AV:=k.map λx=>aah x
def gz{α:Type}(k:List Int)(a:Nat)(l:List α):List (Ml α)->List (Ml α)
 |[]=>[⟨k,a,l⟩]
 |x::r=>if x.key=k then⟨k,a,l⟩::r else x::gz k a l r
def vG{α:Type}(k:List Int)(a:Nat)(l:List α)(k':List Int):∀ G:List (Ml α),ee (gz k a l G) k'=if k=k' then some ⟨k,a,l⟩ else ee G k'
 |[]=>by
  unfold gz ee;rw[AG];by_cases h:k=k'
  ·rw[if_pos h];simp[h]
  ·rw[if_neg h];simp[h]
 |x::r=>by
  have ih:=vG k a l k' r;unfold gz;by_cases hx:x.key=k
  ·rw[if_pos hx];unfold ee;rw[AG,AG];by_cases h:k=k'
   ·rw[if_pos h];simp[h]
   ·rw[if_neg h];have:¬ x.key=k':=λe=>h (hx.symm.trans e);simp[h,this]
  ·rw[if_neg hx];unfold ee at ih ⊢;rw[AG,AG];by_cases h:x.key=k'
   ·have:¬ k=k':=λe=>hx (h.trans e.symm);rw[if_neg this];simp[h]
   ·simp only[h,decide_false];exact ih
def QZ(l:List Int):∀ (L:List (List Int×AV)) (i:Nat),dP l L (i+1)=(dP l L i).map (·+1)
 |[],i=>rfl
 |p::r,i=>by
  show(if p.1=l then some (i+1) else dP l r (i+1+1))=(if p.1=l then some i else dP l r (i+1)).map (·+1);split
  ·rfl
  ·exact QZ l r (i+1)
def Yz(k:List Int)(v:AV)(p:List Int×AV)(L:List (List Int×AV)):Am.cB k v (p::L)=if p.1=k then(k,v)::L else p::Am.cB k v L:=by
 unfold Am.cB;show(match (if p.1=k then some 0 else dP k L 1) with|some i=>(p::L).set i (k,v)|none=>p::L++[(k,v)])=_;by_cases h:p.1=k
 ·rw[if_pos h,if_pos h];rfl
 ·rw[if_neg h,if_neg h,QZ];cases dP k L 0<;>rfl
def zG{α:Type}{sz:Nat}(k:List Int)(a:Nat)(l:List α):∀ G:List (Ml α),Am.cB k (.ref a sz 0 l.length) (dy sz G)=dy sz (gz k a l G)
 |[]=>rfl
 |x::r=>by
  show Am.cB k _ ((x.key,_)::dy sz r)=_;rw[Yz,zG k a l r,show gz k a l (x::r)=if x.key=k then⟨k,a,l⟩::r else x::gz k a l r from rfl];dsimp only;by_cases h:x.key=k
  ·rw[if_pos h,if_pos h];rfl
  ·rw[if_neg h,if_neg h];rfl
def F0(l:List Int)(u v:AV)(L:List (List Int×AV)):k9 (qe l L) v (Am.cB l u L)=Am.cB l v L:=by
 unfold k9 qe Am.cB;cases h:dP l L 0 with
 |none =>
  rw[Option.getD_none];dsimp only;rw[List.set_append_right _ _ (aM _),kB,aw,dS (aM _),kB];rfl
 |some q =>
  obtain⟨_,w,hw⟩:=rq h;rw[nP]at hw;have hq:=(ba.1 hw).1;rw[dK];dsimp only;rw[List.set_set,aw,List.getElem?_set_self hq];rfl
def F1(l:List Int)(u:AV)(L:List (List Int×AV)):qe l L<(Am.cB l u L).length:=by
 unfold qe Am.cB;cases h:dP l L 0 with
 |none=>simp
 |some q =>
  obtain⟨_,w,hw⟩:=rq h;rw[nP]at hw;have hq:=(ba.1 hw).1;simpa using hq
structure CB(base:List Ob)(gq to tk:Nat)(D:List (Nat×Nat))(S:List (List (Int×Int)))(G:List (Ml (Int×Int)))(ks:List (List Int))(ob:List Ob):Prop where
 kp:eX base ob
 mp:ob[gq]?=some (.mp 4 (dy 2 G))
 out:ob[to]?=some (.arr 1 (rowsOf gy D))
 mj:ob[tk]?=some (.arr 4 (rowsOf sq ks))
 ri:RI aj ob D S
 gr:∀ k g,ee G k=some g->ob[g.at_]?=some (.arr 2 (rowsOf aj g.l))
 inj:∀ k k' g g',ee G k=some g->ee G k'=some g'->g.at_=g'.at_->k=k'
 xw:∀ k g,ee G k=some g->∀ d∈D,d.1≠g.at_
 fr:(base.length<=gq/\base.length<=to/\base.length<=tk)/\∀ k g,ee G k=some g->base.length<=g.at_
variable {base ob l:List Ob} {gq to tk:Nat} {D:List (Nat×Nat)} {S:List (List (Int×Int))} {G:List (Ml (Int×Int))} {ks:List (List Int)}
def CB.app(h:CB base gq to tk D S G ks ob)(l:List Ob):CB base gq to tk D S G ks (ob++l) :=
 ⟨h.kp.app l,aD h.mp l,aD h.out l,aD h.mj l,h.ri.app l,λk g hg=>aD (h.gr k g hg) l,h.inj,h.xw,h.fr⟩
def CB.start(os:List Ob):CB os os.length (os.length+1) (os.length+2) [] [] [] [] (os++[.mp 4 [],.arr 1 [],.arr 4 []]) :=
 ⟨(eX.refl os).app _,pG _ _ _,pH _ _ 1,pH _ _ 2,RI.nil,λk g h=>(by cases(show(none:Option (Ml (Int×Int)))=some g from h)),λk k' g g' h=>(by cases(show(none:Option (Ml (Int×Int)))=some g from h)),λk g h=>(by cases(show(none:Option (Ml (Int×Int)))=some g from h)),⟨⟨Ay,Ay,Ay⟩,λk g h=>(by cases(show(none:Option (Ml (Int×Int)))=some g from h))⟩⟩
def fZ{os:List Ob}{i:Nat}{o:Ob}(h:os[i]?=some o):i<os.length:=(ba.1 h).1
def CB.lone(h:CB base gq to tk D S G ks ob){x:Int×Int}{a b:Nat}(h1:l[a]?=some (.arr 2 (rowsOf aj [x])))(h2:l[b]?=some (.arr 1 (rowsOf gy (D++[(ob.length+a,1)])))):
  CB base gq (ob.length+b) tk (D++[(ob.length+a,1)]) (S++[[x]]) G ks (ob.set to .gone++l):=by
 have hr:RI aj (ob.set to .gone++l) D S:=(h.ri.kill h.out (by intro l e;cases e)).app l;refine⟨(h.kp.set h.fr.1.2.1).app l,?_,?_,?_,?_,λk g hg=>?_,h.inj,λk g hg d hd=>?_,⟨⟨h.fr.1.1,?_,h.fr.1.2.2⟩,h.fr.2⟩⟩
 ·exact aD (cP h.mp h.out (by intro e;cases e)) l
 ·rw[mg];exact h2
 ·exact aD (cP h.mj h.out (by intro e;cases e)) l
 ·exact RI.snoc (r:=[x]) hr (by rw[mg];exact h1)
 ·exact aD (cP (h.gr k g hg) h.out (by intro e;cases e)) l
 ·rcases bj.1 hd with hd|hd
  ·exact h.xw k g hg d hd
  ·rw[bm]at hd;subst hd;have:=fZ (h.gr k g hg);dsimp only;omega
 ·have:=h.kp.len;omega
def CB.key(h:CB base gq to tk D S G ks ob){k:List Int}{b:Nat}(h2:l[b]?=some (.arr 4 (rowsOf sq (ks++[k])))):CB base gq to (ob.length+b) D S G (ks++[k]) (ob.set tk .gone++l):=by
 refine⟨(h.kp.set h.fr.1.2.2).app l,?_,?_,?_,(h.ri.kill h.mj (by intro l e;cases e)).app l,λk g hg=>?_,h.inj,h.xw,⟨⟨h.fr.1.1,h.fr.1.2.1,?_⟩,h.fr.2⟩⟩
 ·exact aD (cP h.mp h.mj (by intro e;cases e)) l
 ·exact aD (cP h.out h.mj (by intro e;cases e)) l
 ·rw[mg];exact h2
 ·exact aD (cP (h.gr k g hg) h.mj (by intro e;cases e)) l
 ·have:=h.kp.len;omega
def RI.off{α:Type}{enc:α->List AV}{os:List Ob}{D:List (Nat×Nat)}{S:List (List α)}(h:RI enc os D S){i:Nat}(hi:∀ d∈D,d.1≠i){y:Ob}:RI enc (os.set i y) D S :=
 ⟨h.len,λj hj=>⟨by
  have:i≠(D.getD j default).1:=λe=>hi _ (aG (d:=default) hj) e.symm;rw[dq this];exact(h.row j hj).1,(h.row j hj).2⟩⟩
def CB.more(h:CB base gq to tk D S G ks ob){k:List Int}{g:Ml (Int×Int)}(hg:ee G k=some g){x:Int×Int}{b:Nat}(h2:l[b]?=some (.arr 2 (rowsOf aj (g.l++[x])))):
  CB base gq to tk D S (gz k (ob.length+b) (g.l++[x]) G) ks ((ob.set g.at_ .gone).set gq (.mp 4 (dy 2 (gz k (ob.length+b) (g.l++[x]) G)))++l):=by
 have cT:=h.gr k g hg;have m1:(ob.set g.at_ .gone)[gq]?=some (.mp 4 (dy 2 G)):=cP h.mp cT (by intro e;cases e);have hl:((ob.set g.at_ .gone).set gq (.mp 4 (dy 2 (gz k (ob.length+b) (g.l++[x]) G)))).length=ob.length:=Dg;have kK:((ob.set g.at_ .gone).set gq (.mp 4 (dy 2 (gz k (ob.length+b) (g.l++[x]) G)))++l)[ob.length+b]?=some (.arr 2 (rowsOf aj (g.l++[x]))):=by
  rw[dS Ay,hl,um];exact h2
 refine⟨((h.kp.set (h.fr.2 k g hg)).set h.fr.1.1).app l,aD (jB m1) l,aD (cP (cP h.out cT (by intro e;cases e)) m1 (by intro e;cases e)) l,aD (cP (cP h.mj cT (by intro e;cases e)) m1 (by intro e;cases e)) l,
  ((h.ri.off (h.xw k g hg)).kill m1 (by intro l e;cases e)).app l,λk' g' bp=>?_,λk1 k2 g1 g2 dG cI e=>?_,λk' g' bp d hd=>?_,⟨h.fr.1,λk' g' bp=>?_⟩⟩
 all_goals rw[vG]at *
 ·split at bp
  ·injection bp with bp;subst bp;exact kK
  ·rename_i bI;have hx:=h.gr k' g' bp;have:g.at_≠g'.at_:=λe=>bI (h.inj k k' g g' hg bp e);exact aD (cP (o:=.arr 2 (rowsOf aj g'.l)) (by rw[dq this];exact hx) m1 (by intro e;cases e)) l
 ·split at dG<;>split at cI
  ·rename_i e1 e2;exact e1.symm.trans e2
  ·injection dG with dG;subst dG;have:=fZ (h.gr k2 g2 cI);dsimp only at e;omega
  ·injection cI with cI;subst cI;have:=fZ (h.gr k1 g1 dG);dsimp only at e;omega
  ·exact h.inj k1 k2 g1 g2 dG cI e
 ·split at bp
  ·injection bp with bp;subst bp;obtain⟨j,hj,rfl⟩:=oS.1 hd;have h3:=fZ (h.ri.row j hj).1;rw[aw,bc hj,dK]at h3;dsimp only;omega
  ·exact h.xw k' g' bp d hd
 ·split at bp
  ·injection bp with bp;subst bp;have:=h.kp.len;dsimp only;omega
  ·exact h.fr.2 k' g' bp
def CB.first(h:CB base gq to tk D S G ks ob){k:List Int}{x:Int×Int}{b:Nat}(h2:l[b]?=some (.arr 2 (rowsOf aj [x]))):
  CB base gq to tk D S (gz k (ob.length+b) [x] G) ks (ob.set gq (.mp 4 (dy 2 (gz k (ob.length+b) [x] G)))++l):=by
 have m1:=h.mp;have hl:(ob.set gq (.mp 4 (dy 2 (gz k (ob.length+b) [x] G)))).length=ob.length:=Dg;have kK:(ob.set gq (.mp 4 (dy 2 (gz k (ob.length+b) [x] G)))++l)[ob.length+b]?=some (.arr 2 (rowsOf aj [x])):=by
  rw[dS Ay,hl,um];exact h2
 refine⟨(h.kp.set h.fr.1.1).app l,aD (jB m1) l,aD (cP h.out m1 (by intro e;cases e)) l,aD (cP h.mj m1 (by intro e;cases e)) l,
  (h.ri.kill m1 (by intro l e;cases e)).app l,λk' g' bp=>?_,λk1 k2 g1 g2 dG cI e=>?_,λk' g' bp d hd=>?_,⟨h.fr.1,λk' g' bp=>?_⟩⟩
 all_goals rw[vG]at *
 ·split at bp
  ·injection bp with bp;subst bp;exact kK
  ·exact aD (cP (h.gr k' g' bp) m1 (by intro e;cases e)) l
 ·split at dG<;>split at cI
  ·rename_i e1 e2;exact e1.symm.trans e2
  ·injection dG with dG;subst dG;have:=fZ (h.gr k2 g2 cI);dsimp only at e;omega
  ·injection cI with cI;subst cI;have:=fZ (h.gr k1 g1 dG);dsimp only at e;omega
  ·exact h.inj k1 k2 g1 g2 dG cI e
 ·split at bp
  ·injection bp with bp;subst bp;obtain⟨j,hj,rfl⟩:=oS.1 hd;have h3:=fZ (h.ri.row j hj).1;rw[aw,bc hj,dK]at h3;dsimp only;omega
  ·exact h.xw k' g' bp d hd
 ·split at bp
  ·injection bp with bp;subst bp;have:=h.kp.len;dsimp only;omega
  ·exact h.fr.2 k' g' bp
def ss(left:List (List Bool))(c i:Nat):List (Int×Int):=((bD i).filter λj=>(left.getD c default).getD j false).map λj:Nat=>((c:Int),(j:Int))
def XP(m:ah)(left:List (List Bool))(c i:Nat):List (Int×Int):=(bD c).flatMap (vg m left)++ss left c i
def YA(m:ah)(left:List (List Bool)):XP m left 0 0=[]:=rfl
def Gu(m:ah)(left:List (List Bool))(c i:Nat):XP m left c (i+1)=XP m left c i++if(left.getD c default).getD i false=true then [((c:Int),(i:Int))] else []:=by
 unfold XP ss;rw[ug,vX,nS,List.append_assoc];congr 2;rw[xV,AH];split<;>rfl
def CN(m:ah)(left:List (List Bool))(c:Nat):XP m left (c+1) 0=XP m left c (m.cls.getD c default).length:=by
 unfold XP;rw[ug,xR];show _++([c].flatMap (vg m left))++ss left (c+1) 0=_;rw[Hg,Hh,fF];show _++vg m left c++[]=_;rw[fF];rfl
def pR(m:ah)(left:List (List Bool)):XP m left m.cls.length 0=cZ m left:=by
 unfold XP cZ;exact fF _
def YB{left:List (List Bool)}{c i:Nat}{x:Int×Int}(h:x∈ss left c i):∃j:Nat,j<i/\x=((c:Int),(j:Int)):=by
 obtain⟨j,h1,h2⟩:=cN.1 h;exact⟨j,kA.1 (jH.1 h1).1,h2.symm⟩
def zJ{m:ah}{left:List (List Bool)}{c i:Nat}(hc:c<m.cls.length\/i=0/\c<=m.cls.length)(hi:i<=(m.cls.getD c default).length):∀ x∈XP m left c i,iB m x:=by
 have key:∀ (c i:Nat),c<m.cls.length->i<=(m.cls.getD c default).length->∀ x∈ss left c i,iB m x:=λc i hc hi x hx=>by
  obtain⟨j,h1,rfl⟩:=YB hx;refine⟨⟨aaa,aaa⟩,aaa,?_⟩;show(j:Int)<(m.cls.getD (Int.toNat (c:Int)) default).length;rw[Int.toNat_natCast];omega
 intro x hx;rcases bj.1 hx with hx|hx
 ·obtain⟨d,h1,h2⟩:=Dt.1 hx;have hd:=kA.1 h1;exact key d _ Ay (aM _) x h2
 ·rcases hc with hc|⟨rfl,hc⟩
  ·exact key c i hc hi x hx
  ·exact absurd hx (by simp[ss])
def xe{m:ah}{left:List (List Bool)}(z5:∀ l∈m.cls,l.length<=24):∀ (c i:Nat),c<=m.cls.length->i<=24->(XP m left c i).length<=24*c+i:=by
 intro c
 induction c with
 |zero =>
  intro i _ _;unfold XP ss;simp only[List.range_zero,Hh,List.nil_append,iS];have:=uo (λj=>(left.getD 0 default).getD j false) (bD i);rw[List.length_range]at this;omega
 |succ c ih =>
  intro i hc hi;have h1:=ih (m.cls.getD c default).length Ay (z5 _ (aG (d:=default) Ay));have h2:=z5 _ (aG (l:=m.cls) (i:=c) (d:=default) Ay);rw[<- CN]at h1;unfold XP at h1 ⊢;rw[aJ]at h1 ⊢;have h3:(ss left (c+1) i).length<=i:=by
   unfold ss;rw[iS];have:=uo (λj=>(left.getD (c+1) default).getD j false) (bD i);rw[List.length_range]at this;omega
  omega
def CU(m:ah)(x:Int×Int):∀ (X:List (Int×Int)) (ks:List (List Int)),iQ m (X++[x]) ks=if fY m x&&!(iQ m X ks).contains (du m x) then iQ m X ks++[du m x] else iQ m X ks
 |[],ks=>rfl
 |y::r,ks=>CU m x r _
def GC(m:ah)(X:List (Int×Int))(x:Int×Int)(k:List Int):eu m (X++[x]) k=eu m X k++if fY m x=true/\du m x=k then [x] else []:=by
 unfold eu;rw[vX,xV,AH];congr 1;by_cases h1:fY m x=true<;>by_cases h2:du m x=k<;>simp[h1,h2]
def GD(m:ah)(X:List (Int×Int))(x:Int×Int):qF m (X++[x])=qF m X++if fY m x=true then [] else [[x]]:=by
 unfold qF;rw[vX,nS,xV,AH];congr 1;by_cases h1:fY m x=true<;>simp[h1]
structure ky(m:ah)(X:List (Int×Int))(S:List (List (Int×Int)))(G:List (Ml (Int×Int)))(ks:List (List Int)):Prop where
 lone:S=qF m X
 keys:ks=iQ m X []
 nu:∀ k,match ee G k with|some g=>g.l=eu m X k/\eu m X k≠[]|none=>eu m X k=[]
def ky.nil(m:ah):ky m [] [] [] []:=⟨rfl,rfl,λk=>rfl⟩
def ky.none{m:ah}{X:List (Int×Int)}{S:List (List (Int×Int))}{G:List (Ml (Int×Int))}{ks:List (List Int)}(h:ky m X S G ks){x:Int×Int}(hx:fY m x=false):ky m (X++[x]) (S++[[x]]) G ks:=by
 refine⟨?_,?_,λk=>?_⟩
 ·rw[GD,hx,h.lone];rfl
 ·rw[CU,hx,h.keys];rfl
 ·have:=h.nu k;rw[GC,hx];simpa using this
def ky.first{m:ah}{X:List (Int×Int)}{S:List (List (Int×Int))}{G:List (Ml (Int×Int))}{ks:List (List Int)}(h:ky m X S G ks){x:Int×Int}(hx:fY m x=true)(hk:ee G (du m x)=Option.none)(a:Nat):ky m (X++[x]) S (gz (du m x) a [x] G) (ks++[du m x]):=by
 have h0:=h.nu (du m x);rw[hk]at h0;dsimp only at h0;have zU:(iQ m X []).contains (du m x)=false:=by
  rw[<- Bool.not_eq_true,ml,wT];rintro(hh |⟨y,h1,h2,h3⟩)
  ·cases hh
  ·have:y∈eu m X (du m x):=l9.2 ⟨h1,h2,h3⟩;rw[h0]at this;cases this
 refine⟨?_,?_,λk=>?_⟩
 ·rw[GD,hx,h.lone];simp
 ·rw[CU,hx,zU,h.keys];rfl
 ·rw[vG,GC];by_cases e:du m x=k
  ·rw[if_pos e,if_pos ⟨hx,e⟩,<- e,h0];exact⟨rfl,Dg⟩
  ·rw[if_neg e,if_neg (λhh=>e hh.2),fF];exact h.nu k
def ky.more{m:ah}{X:List (Int×Int)}{S:List (List (Int×Int))}{G:List (Ml (Int×Int))}{ks:List (List Int)}(h:ky m X S G ks){x:Int×Int}(hx:fY m x=true){g:Ml (Int×Int)}(hk:ee G (du m x)=some g)(a:Nat):ky m (X++[x]) S (gz (du m x) a (g.l++[x]) G) ks:=by
 have h0:=h.nu (du m x);rw[hk]at h0;dsimp only at h0;have zU:(iQ m X []).contains (du m x)=true:=by
  rw[ml,wT];cases hg:eu m X (du m x) with
  |nil=>exact absurd hg h0.2
  |cons y r =>
   obtain⟨h1,h2,h3⟩:=l9.1 (show y∈eu m X (du m x) by rw[hg];simp);exact .inr ⟨y,h1,h2,h3⟩
 refine⟨?_,?_,λk=>?_⟩
 ·rw[GD,hx,h.lone];simp
 ·rw[CU,hx,zU,h.keys];rfl
 ·rw[vG,GC];by_cases e:du m x=k
  ·rw[if_pos e,if_pos ⟨hx,e⟩,<- e,<- h0.1];exact⟨rfl,Dg⟩
  ·rw[if_neg e,if_neg (λhh=>e hh.2),fF];exact h.nu k
def Gj(m:ah)(X:List (Int×Int)):(qF m X).length<=X.length:=by
 unfold qF;rw[iS];exact uo _ _
def CE(m:ah):∀ (X:List (Int×Int)) (ks:List (List Int)),(iQ m X ks).length<=ks.length+X.length
 |[],ks=>by simp[iQ]
 |x::r,ks=>by
  rw[iQ];have:=CE m r (if fY m x&&!ks.contains (du m x) then ks++[du m x] else ks);have h2:(if fY m x&&!ks.contains (du m x) then ks++[du m x] else ks).length<=ks.length+1:=by split<;>simp
  rw[cK];omega
def CH(m:ah)(X:List (Int×Int))(k:List Int):(eu m X k).length<=X.length:=uo _ _
structure oM(m:ah)(M:List (Ml Pr))(n:Nat)(ob:List Ob):Prop where
 o0:ob[0]?=some (.var (aA m))
 o1:ob[1]?=some (.var [.lit (.slice none 0 0)])
 mp:ob[2]?=some (.mp 2 (dy 4 M))
 o3:ob[3]?=some (.var (aA m++[.dx 2]))
 gr:∀ k g,ee M k=some g->ob[g.at_]?=some (.arr 4 (rowsOf bL g.l))/\4<=g.at_
 inj:∀ k k' g g',ee M k=some g->ee M k'=some g'->g.at_=g'.at_->k=k'
 val:∀ a b:Int,((m.ae.take n).filter λp=>decide (p.fst=a/\p.snd=b))=match ee M [a,b] with|some x=>x.l|none=>[]
 len:∀ k g,ee M k=some g->g.l.length<=n
variable {m:ah} {M:List (Ml Pr)} {n:Nat} {ob l:List Ob}
def oM.fin(h:oM m M m.ae.length ob):vB m 3 2 M ob/\CD m M:=⟨⟨h.o3,h.mp,λk g hg=>(h.gr k g hg).1⟩,λa b=>by have:=h.val a b;rwa [xX]at this⟩
def oM.start(m:ah):oM m [] 0 [.var (aA m),.var [.lit (.slice none 0 0)],.mp 2 [],.var (aA m++[.dx 2])] :=
 ⟨rfl,rfl,rfl,rfl,λk g h=>(by cases(show(none:Option (Ml Pr))=some g from h)),λk k' g g' h=>(by cases(show(none:Option (Ml Pr))=some g from h)),λa b=>rfl,λk g h=>(by cases(show(none:Option (Ml Pr))=some g from h))⟩
def Q2{n:Nat}(hn:n<m.ae.length)(a b:Int):((m.ae.take (n+1)).filter λp=>decide (p.fst=a/\p.snd=b))=((m.ae.take n).filter λp=>decide (p.fst=a/\p.snd=b))++if(m.ae.getD n default).fst=a/\(m.ae.getD n default).snd=b then [m.ae.getD n default] else []:=by
 rw[tE hn,vX,xV,AH];congr 1;by_cases h:(m.ae.getD n default).fst=a/\(m.ae.getD n default).snd=b
 ·rw[if_pos h,if_pos (decide_eq_true h)]
 ·rw[if_neg h,if_neg (by rw[decide_eq_false h];simp)]
def oM.first(h:oM m M n ob)(hn:n<m.ae.length){k:List Int}(hk:k=[(m.ae.getD n default).fst,(m.ae.getD n default).snd])(jX:ee M k=none){b:Nat}(h2:l[b]?=some (.arr 4 (rowsOf bL [m.ae.getD n default]))):
  oM m (gz k (ob.length+b) [m.ae.getD n default] M) (n+1) (ob.set 2 (.mp 2 (dy 4 (gz k (ob.length+b) [m.ae.getD n default] M)))++l):=by
 have m1:=h.mp;have h3:=fZ h.o3;have kK:(ob.set 2 (.mp 2 (dy 4 (gz k (ob.length+b) [m.ae.getD n default] M)))++l)[ob.length+b]?=some (.arr 4 (rowsOf bL [m.ae.getD n default])):=by
  rw[mg];exact h2
 refine⟨aD (cP h.o0 m1 (by intro e;cases e)) l,aD (cP h.o1 m1 (by intro e;cases e)) l,aD (jB m1) l,aD (cP h.o3 m1 (by intro e;cases e)) l,λk' g' bp=>?_,λk1 k2 g1 g2 dG cI e=>?_,λa c=>?_,λk' g' bp=>?_⟩;all_goals rw[vG]at *
 ·split at bp
  ·injection bp with bp;subst bp;exact⟨kK,aaa⟩
  ·exact⟨aD (cP (h.gr k' g' bp).1 m1 (by intro e;cases e)) l,(h.gr k' g' bp).2⟩
 ·split at dG<;>split at cI
  ·rename_i e1 e2;exact e1.symm.trans e2
  ·injection dG with dG;subst dG;have:=fZ (h.gr k2 g2 cI).1;dsimp only at e;omega
  ·injection cI with cI;subst cI;have:=fZ (h.gr k1 g1 dG).1;dsimp only at e;omega
  ·exact h.inj k1 k2 g1 g2 dG cI e
 ·rw[Q2 hn];have hv:=h.val a c;by_cases e:(m.ae.getD n default).fst=a/\(m.ae.getD n default).snd=c
  ·have ek:k=[a,c]:=by rw[hk,e.1,e.2]
   rw[<- ek,jX]at hv;rw[if_pos e,if_pos ek,hv];rfl
  ·have ek:¬ k=[a,c]:=λh=>e (by rw[hk]at h;injection h with h1 h2;injection h2 with h2 _;exact⟨h1,h2⟩);rw[if_neg e,if_neg ek,fF,hv]
 ·split at bp
  ·injection bp with bp;subst bp;simp
  ·have:=h.len k' g' bp;omega
def oM.more(h:oM m M n ob)(hn:n<m.ae.length){k:List Int}(hk:k=[(m.ae.getD n default).fst,(m.ae.getD n default).snd]){g:Ml Pr}(hg:ee M k=some g){b:Nat}(h2:l[b]?=some (.arr 4 (rowsOf bL (g.l++[m.ae.getD n default])))):
  oM m (gz k (ob.length+b) (g.l++[m.ae.getD n default]) M) (n+1) ((ob.set g.at_ .gone).set 2 (.mp 2 (dy 4 (gz k (ob.length+b) (g.l++[m.ae.getD n default]) M)))++l):=by
 have cT:=(h.gr k g hg).1;have h4:=(h.gr k g hg).2;have h3:=fZ h.o3;have m1:(ob.set g.at_ .gone)[2]?=some (.mp 2 (dy 4 M)):=cP h.mp cT (by intro e;cases e);have kK:((ob.set g.at_ .gone).set 2 (.mp 2 (dy 4 (gz k (ob.length+b) (g.l++[m.ae.getD n default]) M)))++l)[ob.length+b]?=some (.arr 4 (rowsOf bL (g.l++[m.ae.getD n default]))):=by
  rw[dS Dg,bt,bt,um];exact h2
 refine⟨aD (cP (cP h.o0 cT (by intro e;cases e)) m1 (by intro e;cases e)) l,aD (cP (cP h.o1 cT (by intro e;cases e)) m1 (by intro e;cases e)) l,aD (jB m1) l,aD (cP (cP h.o3 cT (by intro e;cases e)) m1 (by intro e;cases e)) l,λk' g' bp=>?_,λk1 k2 g1 g2 dG cI e=>?_,λa c=>?_,λk' g' bp=>?_⟩;all_goals rw[vG]at *
 ·split at bp
  ·injection bp with bp;subst bp;exact⟨kK,aaa⟩
  ·rename_i bI;have hx:=(h.gr k' g' bp).1;have:g.at_≠g'.at_:=λe=>bI (h.inj k k' g g' hg bp e);exact⟨aD (cP (o:=.arr 4 (rowsOf bL g'.l)) (by rw[dq this];exact hx) m1 (by intro e;cases e)) l,(h.gr k' g' bp).2⟩
 ·split at dG<;>split at cI
  ·rename_i e1 e2;exact e1.symm.trans e2
  ·injection dG with dG;subst dG;have:=fZ (h.gr k2 g2 cI).1;dsimp only at e;omega
  ·injection cI with cI;subst cI;have:=fZ (h.gr k1 g1 dG).1;dsimp only at e;omega
  ·exact h.inj k1 k2 g1 g2 dG cI e
 ·rw[Q2 hn];have hv:=h.val a c;by_cases e:(m.ae.getD n default).fst=a/\(m.ae.getD n default).snd=c
  ·have ek:k=[a,c]:=by rw[hk,e.1,e.2]
   rw[<- ek,hg]at hv;rw[if_pos e,if_pos ek,hv]
  ·have ek:¬ k=[a,c]:=λh=>e (by rw[hk]at h;injection h with h1 h2;injection h2 with h2 _;exact⟨h1,h2⟩);rw[if_neg e,if_neg ek,fF,hv]
 ·split at bp
  ·injection bp with bp;subst bp;have:=h.len k g hg;simp;omega
  ·have:=h.len k' g' bp;omega
def dj(q:Nat×List Int):List AV:=if q.2=[] then [.lit (.slice none 0 0)] else [.ref q.1 1 0 q.2.length]
structure LB(m:ah)(A:List (List (Int×Int)))(D:List (Nat×Nat))(to lp:Nat)(Q:List (Nat×List Int))(ob:List Ob):Prop where
 o0:ob[0]?=some (.var (aA m))
 o1:ob[1]?=some (.var [.lit (.slice none 0 0)])
 out:ob[to]?=some (.arr 1 (rowsOf gy D))
 ri:RI aj ob D A
 ls:ob[lp]?=some (.arr 1 (rowsOf dj Q))
 row:∀ c,c<Q.length->(Q.getD c default).2≠[]->ob[(Q.getD c default).1]?=some (.arr 1 (ints (Q.getD c default).2))/\(Q.getD c default).1≠to/\(Q.getD c default).1≠lp
 inj:∀ c c',c<Q.length->c'<Q.length->(Q.getD c default).2≠[]->(Q.getD c' default).2≠[]->(Q.getD c default).1=(Q.getD c' default).1->c=c'
 ne:to≠lp
variable {m:ah} {A:List (List (Int×Int))} {D:List (Nat×Nat)} {to lp:Nat} {Q:List (Nat×List Int)} {ob l:List Ob}
def LB.app(h:LB m A D to lp Q ob)(l:List Ob):LB m A D to lp Q (ob++l) :=
 ⟨aD h.o0 l,aD h.o1 l,aD h.out l,h.ri.app l,aD h.ls l,λc hc hn=>⟨aD (h.row c hc hn).1 l,(h.row c hc hn).2⟩,h.inj,h.ne⟩
def qM{α:Type}[Inhabited α](L:List α)(c k:Nat)(x:α)(hc:c<L.length):(L.set c x).getD k default=if k=c then x else L.getD k default:=by
 rw[aw,List.getElem?_set];by_cases h:c=k
 ·subst h;simp[hc]
 ·rw[if_neg h,if_neg (Ne.symm h),aw]
def LB.grow(h:LB m A D to lp Q ob){c:Nat}(hc:c<Q.length){n:Int}{ob1:List Ob}{b:Nat}(hk:∀ k o,ob[k]?=some o->((Q.getD c default).2≠[]->k≠(Q.getD c default).1)->ob1[k]?=some o)(hl1:ob1.length=ob.length)(h2:l[b]?=some (.arr 1 (ints ((Q.getD c default).2++[n])))):
  LB m A D to lp (Q.set c (ob.length+b,(Q.getD c default).2++[n])) (ob1.set lp (.arr 1 (rowsOf dj (Q.set c (ob.length+b,(Q.getD c default).2++[n]))))++l):=by
 have hq:=λhn=>h.row c hc hn;have Co:lp<ob.length:=fZ h.ls;have xd:to<ob.length:=fZ h.out;have k0:=hk _ _ h.o0 (λhn e=>by have:=(hq hn).1;rw[<- e,h.o0]at this;cases this);have k1:=hk _ _ h.o1 (λhn e=>by have:=(hq hn).1;rw[<- e,h.o1]at this;cases this);have k2:=hk _ _ h.out (λhn e=>(hq hn).2.1 e.symm);have k3:=hk _ _ h.ls (λhn e=>(hq hn).2.2 e.symm);have kr:RI aj ob1 D A:=⟨h.ri.len,λj hj=>⟨hk _ _ (h.ri.row j hj).1 (λhn e=>by have:=(hq hn).1;rw[<- e,(h.ri.row j hj).1]at this;cases this),(h.ri.row j hj).2⟩⟩;have vH:∀ i o,ob1[i]?=some o->i≠lp->∀ y,(ob1.set lp y)[i]?=some o:=λi o hi hn y=>by rw[dq (Ne.symm hn)];exact hi
 have kK:(ob1.set lp (.arr 1 (rowsOf dj (Q.set c (ob.length+b,(Q.getD c default).2++[n]))))++l)[ob.length+b]?=some (.arr 1 (ints ((Q.getD c default).2++[n]))):=by
  rw[dS aab,bt,hl1,um];exact h2
 refine⟨aD (vH _ _ k0 (λe=>by have:=h.ls;rw[<- e,h.o0]at this;cases this) _) l,aD (vH _ _ k1 (λe=>by have:=h.ls;rw[<- e,h.o1]at this;cases this) _) l,aD (vH _ _ k2 h.ne _) l,(kr.kill k3 (by intro l e;cases e)).app l,aD (jB k3) l,λk eT hn=>?_,λk k' eT vI hn fC e=>?_,h.ne⟩
 ·rw[bt]at eT;rw[qM _ _ _ _ hc]at hn ⊢;split at hn
  ·rename_i e;rw[if_pos e];exact⟨kK,aaa,aaa⟩
  ·rename_i e;rw[if_neg e];have hr:=h.row k eT hn;refine⟨aD (vH _ _ (hk _ _ hr.1 (λiV e2=>e (h.inj k c eT hc hn iV e2))) hr.2.2 _) l,hr.2⟩
 ·rw[bt]at eT vI;rw[qM _ _ _ _ hc]at hn e;rw[qM _ _ _ _ hc]at fC e;by_cases h1:k=c<;>by_cases h3:k'=c
  ·exact h1.trans h3.symm
  ·rw[if_pos h1,if_neg h3]at e;rw[if_neg h3]at fC;have:=fZ (h.row k' vI fC).1;dsimp only at e;omega
  ·rw[if_neg h1,if_pos h3]at e;rw[if_neg h1]at hn;have:=fZ (h.row k eT hn).1;dsimp only at e;omega
  ·rw[if_neg h1,if_neg h3]at e;rw[if_neg h1]at hn;rw[if_neg h3]at fC;exact h.inj k k' eT vI hn fC e
def LB.start{o2:List Ob}{N:Nat}(h0:o2[0]?=some (.var (aA m)))(h1:o2[1]?=some (.var [.lit (.slice none 0 0)]))(ho:o2[to]?=some (.arr 1 (rowsOf gy D)))(hr:RI aj o2 D A):
  LB m A D to o2.length (ax N (0,[])) (o2++[.arr 1 (ax N [.lit (.slice none 0 0)])]):=by
 have hz:∀ c,((ax N ((0:Nat),([]:List Int))).getD c default).2=[]:=λc=>by
  rw[aw];cases hh:(ax N ((0:Nat),([]:List Int)))[c]? with
  |none=>rfl
  |some q=>rw[ui (fB hh)];rfl
 refine⟨aD h0 _,aD h1 _,aD ho _,hr.app _,?_,λc _ hn=>absurd (hz c) hn,λc c' _ _ hn=>absurd (hz c) hn,?_⟩
 ·rw[show rowsOf dj (ax N ((0:Nat),([]:List Int)))=ax N [.lit (.slice none 0 0)] by unfold rowsOf;rw[Hu];rfl];exact pG _ _ _
 ·have:=fZ ho;omega
def LB.len{N:Nat}:((ax N ((0:Nat),([]:List Int))).map (·.2))=ax N []:=by rw[Hu]
def F6{c:Nat}(hc:c<Q.length):(rowsOf dj Q)[c]?=some (dj (Q.getD c default)):=by
 unfold rowsOf;rw[dm,bc hc,aw,bc hc];rfl
def WT{n:Nat}{x:Int×Int}(hx:x.1.toNat<Q.length):zm n (Q.map (·.2)) x=if 0<(Q.getD x.1.toNat default).2.length/\(Q.getD x.1.toNat default).2.getD ((Q.getD x.1.toNat default).2.length-1) 0=(n:Int) then Q.map (·.2) else(Q.map (·.2)).set x.1.toNat ((Q.getD x.1.toNat default).2++[(n:Int)]):=by
 have e:(Q.map (·.2)).getD x.1.toNat []=(Q.getD x.1.toNat default).2:=by
  rw[aw,dm,bc hx,aw,bc hx];rfl
 unfold zm;rw[e]
def LB.zero{N c:Nat}:((ax N ((0:Nat),([]:List Int))).getD c default).2.length=0:=by
 rw[aw];cases hh:(ax N ((0:Nat),([]:List Int)))[c]? with
 |none=>rfl
 |some q=>rw[ui (fB hh)];rfl
structure CQ(base:List Ob)(gq tk:Nat)(G:List (Ml (Int×Int)))(ks:List (List Int))(to:Nat)(D:List (Nat×Nat))(S:List (List (Int×Int)))(ob:List Ob):Prop where
 kp:eX base ob
 mp:ob[gq]?=some (.mp 4 (dy 2 G))
 out:ob[to]?=some (.arr 1 (rowsOf gy D))
 mj:ob[tk]?=some (.arr 4 (rowsOf sq ks))
 ri:RI aj ob D S
 gr:∀ k g,ee G k=some g->ob[g.at_]?=some (.arr 2 (rowsOf aj g.l))
 fr:base.length<=to
variable {base ob l:List Ob} {gq to tk:Nat} {D:List (Nat×Nat)} {S:List (List (Int×Int))} {G:List (Ml (Int×Int))} {ks:List (List Int)}
def CB.cq(h:CB base gq to tk D S G ks ob):CQ base gq tk G ks to D S ob:=⟨h.kp,h.mp,h.out,h.mj,h.ri,h.gr,h.fr.1.2.1⟩
def CQ.cO(h:CQ base gq tk G ks to D S ob){ob':List Ob}(hk:eX ob ob'):CQ base gq tk G ks to D S ob' :=
 ⟨λk o e=>hk k o (h.kp k o e),hk _ _ h.mp,hk _ _ h.out,hk _ _ h.mj,⟨h.ri.len,λj hj=>⟨hk _ _ (h.ri.row j hj).1,(h.ri.row j hj).2⟩⟩,λk g hg=>hk _ _ (h.gr k g hg),h.fr⟩
def CQ.app(h:CQ base gq tk G ks to D S ob)(l:List Ob):CQ base gq tk G ks to D S (ob++l):=h.cO ((eX.refl ob).app l)
def CQ.add(h:CQ base gq tk G ks to D S ob){a b:Nat}{C:List (Int×Int)}(h1:(ob.set to .gone++l)[a]?=some (.arr 2 (rowsOf aj C)))(h2:l[b]?=some (.arr 1 (rowsOf gy (D++[(a,C.length)])))):
  CQ base gq tk G ks (ob.length+b) (D++[(a,C.length)]) (S++[C]) (ob.set to .gone++l):=by
 have hr:RI aj (ob.set to .gone++l) D S:=(h.ri.kill h.out (by intro l e;cases e)).app l;refine⟨(h.kp.set h.fr).app l,aD (cP h.mp h.out (by intro e;cases e)) l,?_,aD (cP h.mj h.out (by intro e;cases e)) l,RI.snoc (r:=C) hr h1,λk g hg=>aD (cP (h.gr k g hg) h.out (by intro e;cases e)) l,?_⟩
 ·rw[mg];exact h2
 ·have:=h.kp.len;have:=h.fr;omega
def CQ.lone(h:CQ base gq tk G ks to D S ob){x:Int×Int}{a b:Nat}(h1:l[a]?=some (.arr 2 (rowsOf aj [x])))(h2:l[b]?=some (.arr 1 (rowsOf gy (D++[(ob.length+a,1)])))):
  CQ base gq tk G ks (ob.length+b) (D++[(ob.length+a,1)]) (S++[[x]]) (ob.set to .gone++l) :=
 h.add (C:=[x]) (by rw[mg];exact h1) h2
def CQ.nu(h:CQ base gq tk G ks to D S ob){k:List Int}{g:Ml (Int×Int)}(hg:ee G k=some g){b:Nat}(h2:l[b]?=some (.arr 1 (rowsOf gy (D++[(g.at_,g.l.length)])))):
  CQ base gq tk G ks (ob.length+b) (D++[(g.at_,g.l.length)]) (S++[g.l]) (ob.set to .gone++l) :=
 h.add (aD (cP (h.gr k g hg) h.out (by intro e;cases e)) l) h2
def ky.key{m:ah}{X:List (Int×Int)}(h:ky m X S G ks){n:Nat}(hn:n<ks.length):∃g,ee G (ks.getD n default)=some g/\g.l=eu m X (ks.getD n default):=by
 have hk:ks.getD n default∈iQ m X []:=by rw[<- h.keys];exact aG hn
 have bI:eu m X (ks.getD n default)≠[]:=by
  rcases(wT X [] _).1 hk with hh|⟨y,h1,h2,h3⟩
  ·cases hh
  ·have:y∈eu m X (ks.getD n default):=l9.2 ⟨h1,h2,h3⟩;intro e;rw[e]at this;cases this
 have h0:=h.nu (ks.getD n default);cases hm:ee G (ks.getD n default) with
 |none=>rw[hm]at h0;exact absurd h0 bI
 |some g=>rw[hm]at h0;exact⟨g,rfl,h0.1⟩
def XU{m:ah}{X:List (Int×Int)}(h:ky m X S G ks){n:Nat}(hn:n<ks.length):∃a b c d,ks.getD n default=[a,b,c,d]:=by
 have hk:ks.getD n default∈iQ m X []:=by rw[<- h.keys];exact aG hn
 rcases(wT X [] _).1 hk with hh|⟨y,h1,h2,h3⟩
 ·cases hh
 ·exact⟨_,_,_,_,h3.symm⟩
def XV{m:ah}{X:List (Int×Int)}{n:Nat}(hn:n<ks.length):(ks.take (n+1)).flatMap (kn m X)=(ks.take n).flatMap (kn m X)++kn m X (ks.getD n default):=by
 rw[tE hn,xR];simp
def X6{g:List (Int×Int)}{j:Nat}(hj:j<g.length):(g.take (j+1)).map (λc=>[c])=(g.take j).map (λc=>[c])++[[g.getD j default]]:=by
 rw[tE hj,nS];simp
def XW{m:ah}{X:List (Int×Int)}{k:List Int}(h:mO m (eu m X k)=true):kn m X k=[eu m X k]:=by unfold kn;rw[if_pos h]
def XX{m:ah}{X:List (Int×Int)}{k:List Int}(h:mO m (eu m X k)=false):kn m X k=(eu m X k).map λc=>[c]:=by unfold kn;rw[if_neg (by rw[h];simp)]
def XR{m:ah}{X:List (Int×Int)}(h:ky m X S G ks):S++(ks.take ks.length).flatMap (kn m X)=iR m X:=by
 rw[xX,h.keys,h.lone];rfl
def YC{m:ah}{X:List (Int×Int)}{k:List Int}{C:List (Int×Int)}(h:C∈kn m X k):C.length<=X.length+1/\∀ x∈C,x∈X:=by
 unfold kn at h;have hs:∀ x∈eu m X k,x∈X:=λx hx=>(l9.1 hx).1;have hl:=CH m X k;split at h
 ·rw[bm]at h;subst h;exact⟨Ay,hs⟩
 ·obtain⟨c,h1,rfl⟩:=cN.1 h;exact⟨Dg,λx hx=>by rw[bm]at hx;subst hx;exact hs _ h1⟩
def F4{m:ah}{X:List (Int×Int)}{C:List (Int×Int)}(h:C∈iR m X):C.length<=X.length+1/\∀ x∈C,x∈X:=by
 unfold iR at h;rcases bj.1 h with h|h
 ·unfold qF at h;obtain⟨c,h1,rfl⟩:=cN.1 h;exact⟨Dg,λx hx=>by rw[bm]at hx;subst hx;exact(jH.1 h1).1⟩
 ·obtain⟨k,h1,h2⟩:=Dt.1 h;exact YC h2
def Q3{m:ah}{X:List (Int×Int)}:∀ ks:List (List Int),(ks.flatMap (kn m X)).length<=ks.length*(X.length+1)
 |[]=>Dg
 |k::r=>by
  rw[Hg,aJ,cK,Nat.succ_mul];have h1:=Q3 (m:=m) (X:=X) r;have h2:(kn m X k).length<=X.length+1:=by
   unfold kn;have hl:=CH m X k;split
   ·simp
   ·rw[iS];omega
  omega
def WO{m:ah}{X:List (Int×Int)}:(iR m X).length<=X.length+X.length*(X.length+1):=by
 unfold iR;rw[aJ];have h1:=Gj m X;have h2:=Q3 (m:=m) (X:=X) (iQ m X []);have h3:=CE m X [];simp only[List.length_nil,gM]at h3;have h4:=Nat.mul_le_mul_right (X.length+1) h3;omega
end T

