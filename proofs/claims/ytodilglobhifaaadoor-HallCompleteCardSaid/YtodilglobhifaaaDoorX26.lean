import Derived.Test.YtodilglobhifaaaDoorX25
set_option linter.all false
set_option maxHeartbeats 0
set_option maxRecDepth 20000
open List renaming getElem?_append_left→bL,getElem?_set_ne→cV,mem_of_getElem?→eh,range→bj,getElem?_eq_some_iff→aF,map_congr_left→oo,mem_range→jM,length_set→bm,getElem?_append_right→dk
open Option renaming getD_some→dg,bind_some→lG
open Nat renaming le_refl→aH,le_trans→jN,zero_le→bk,not_lt_zero→qR
open Go Go.Am Go.Proofs
namespace T
def iP(lo hi:Nat)(os os':List Ob):Prop:=∀ i,lo<=i->i<hi->os'[i]?=os[i]?
section
variable {lo hi w:Nat} {os os':List Ob} {v:AV} {X:List (List AV)}
def iP.mono(h:iP lo hi os os'){a b:Nat}(ha:lo<=a)(hb:b<=hi):iP a b os os':=λi h1 h2=>h i z8 z8
def iP.app{os:List Ob}{hi:Nat}(h:hi<=os.length)(l:List Ob)(lo:Nat):iP lo hi os (os++l):=λi _ h2=>by rw[bL z8]
def iP.set{os:List Ob}{k:Nat}(h:k<lo\/hi<=k)(y:Ob):iP lo hi os (os.set k y):=λi h1 h2=>by rw[cV z8]
def iP.trans{a b c:List Ob}(h:iP lo hi a b)(k:iP lo hi b c):iP lo hi a c:=λi h1 h2=>(k i h1 h2).trans (h i h1 h2)
def m9(w:Nat)(os:List Ob)(lo hi:Nat)(v:AV)(X:List (List AV)):Prop :=
 (v=.tree w X/\X=[])\/∃ b rows,v=.ref b w 0 X.length/\lo<=b/\b<hi/\os[b]?=some (.arr w (X++rows))/\∀ row∈X++rows,row.length=w
def m9.same(h:m9 w os lo hi v X)(k:iP lo hi os os'):m9 w os' lo hi v X:=by
 rcases h with h|⟨b,rows,h1,h2,h3,h4,h5⟩
 ·exact .inl h
 ·exact .inr ⟨b,rows,h1,h2,h3,by rw[k b h2 h3];exact h4,h5⟩
def m9.mono(h:m9 w os lo hi v X){a b:Nat}(ha:a<=lo)(hb:hi<=b):m9 w os a b v X:=by
 rcases h with h|⟨b,rows,h1,h2,h3,h4,h5⟩
 ·exact .inl h
 ·exact .inr ⟨b,rows,h1,z8,z8,h4,h5⟩
def m9.bt(h:m9 w os lo hi v X):bt v=true:=by
 rcases h with⟨rfl,_⟩|⟨b,rows,rfl,_⟩<;>rfl
def m9.bp{os:List Ob}{e:Nat->AV}{kp:Nat->Prop}(h:m9 w os lo hi v X)(hk:∀ i,lo<=i->i<hi->¬ kp i)(hf:∀ row∈X,∀ v∈row,(∃ x,v=AV.lit x)\/∃ s r,v=AV.tree s r):cW ⟨e,os⟩ kp (.tree w X) v:=by
 rcases h with⟨rfl,rfl⟩|⟨b,rows,rfl,h2,h3,h4,h5⟩
 ·exact .tree _ _
 ·refine .ref b w 0 X.length (X++rows) X (λr c=>(cellAt X r c).getD .undef) h4 (hk b h2 h3) Eb (λrow hr=>h5 row (by simp[hr])) (λr c v hv=>?_) (λr c v hv=>?_)
  ·simp[hv]
  ·rw[hv,dg];simp only[cellAt,Option.bind_eq_some_iff]at hv;obtain⟨row,h6,h7⟩:=hv;rcases hf row (eh h6) v (eh h7) with⟨x,rfl⟩|⟨s,r,rfl⟩
   ·exact .lit x
   ·exact .tree s r
end
structure zB(Pd:List Ob->Nat->Nat->AV->Prop):Prop where
 same:∀ {os os' l r v},Pd os l r v->iP l r os os'->Pd os' l r v
 mono:∀ {os l r v l' r'},Pd os l r v->l'<=l->r<=r'->Pd os l' r' v
structure eD(w:Nat)(Pd:Nat->List Ob->Nat->Nat->AV->Prop)(os:List Ob)(a lo hi n:Nat)(A:Nat->List AV)(C:Nat->AV):Prop where
 arr:os[a]?=some (.arr w ((bj n).map λk=>A k++[C k]))
 at_:hi<=a
 wid:∀ k,k<n->(A k).length+1=w
 row :∃S:Nat->Nat,lo<=S 0/\S n<=hi/\(∀ k,k<n->S k<=S (k+1))/\∀ k,k<n->Pd k os (S k) (S (k+1)) (C k)
section
variable {lo hi w a n:Nat} {os os':List Ob} {A:Nat->List AV} {C:Nat->AV} {Pd:Nat->List Ob->Nat->Nat->AV->Prop}
def LV{S:Nat->Nat}{n:Nat}(h:∀ k,k<n->S k<=S (k+1)):∀ (d i:Nat),i+d<=n->S i<=S (i+d)
 |0,i,_=>aH _
 |d+1,i,hd=>jN (LV h d i z8) (h (i+d) z8)
def lC{S:Nat->Nat}{n:Nat}(h:∀ k,k<n->S k<=S (k+1)){i j:Nat}(tJ:i<=j)(hj:j<=n):S i<=S j:=by
 have:=LV h (j-i) i z8;rwa [show i+(j-i)=j by omega]at this
def eD.same(hP:∀ k,zB (Pd k))(h:eD w Pd os a lo hi n A C)(k:iP lo hi os os')(ha:os'[a]?=os[a]?):eD w Pd os' a lo hi n A C:=by
 obtain⟨h1,h2,h3,S,s1,s2,s3,s4⟩:=h;refine⟨by rw[ha];exact h1,h2,h3,S,s1,s2,s3,λi hi'=>(hP i).same (s4 i hi') (k.mono ?_ ?_)⟩
 ·exact jN s1 (lC s3 (bk _) z8)
 ·exact jN (lC s3 (show i+1<=n by omega) (aH _)) s2
def eD.SE(h:eD w Pd os a lo hi n A C):lo<=hi:=by
 obtain⟨h1,h2,h3,S,s1,s2,s3,s4⟩:=h;have:=lC s3 (bk _) (aH n);omega
def eD.get(h:eD w Pd os a lo hi n A C){k:Nat}(hk:k<n):∃l r,lo<=l/\r<=hi/\Pd k os l r (C k):=by
 obtain⟨h1,h2,h3,S,s1,s2,s3,s4⟩:=h;exact⟨S k,S (k+1),jN s1 (lC s3 (bk _) z8),jN (lC s3 (show k+1<=n by omega) (aH _)) s2,s4 k hk⟩
def eD.len(h:eD w Pd os a lo hi n A C):a<os.length:=(aF.1 h.arr).1
def Di{α:Type}(f:Nat->α){n k:Nat}(h:k<n):((bj n).map f)[k]?=some (f k):=by rw[List.getElem?_map,List.getElem?_range h];rfl
def eD.at(hP:∀ k,zB (Pd k))(h:eD w Pd os a lo hi n A C){k:Nat}(hk:k<n):∃l r,lo<=l/\r<=hi/\Pd k os l r (C k) /\
  ∀ (sw:Nat->List Ob->Nat->Nat->AV->Prop) (v:AV) (os':List Ob),os'[a]?=some (.arr w ((bj n).map λi=>A i++[if i=k then v else C i]))->sw k os' l r v ->
   (∀ i,lo<=i->i<hi->(i<l\/r<=i)->os'[i]?=os[i]?)->(∀ i,i≠k->i<n->∀ os l r v,Pd i os l r v->sw i os l r v)->eD w sw os' a lo hi n A (λi=>if i=k then v else C i):=by
 obtain⟨h1,h2,h3,S,s1,s2,s3,s4⟩:=h;have b1:lo<=S k:=jN s1 (lC s3 (bk _) z8);have b2:S (k+1)<=hi:=jN (lC s3 (show k+1<=n by omega) (aH _)) s2;refine⟨S k,S (k+1),b1,b2,s4 k hk,λsw v os' ha c1 c2 eI=>⟨ha,h2,h3,S,s1,s2,s3,λi hi'=>?_⟩⟩;have e1:lo<=S i:=jN s1 (lC s3 (bk _) z8);have e2:S (i+1)<=hi:=jN (lC s3 (show i+1<=n by omega) (aH _)) s2;by_cases e:i=k
 ·subst e;rw[if_pos rfl];exact c1
 ·rw[if_neg e];refine eI i e hi' _ _ _ _ ((hP i).same (s4 i hi') (λj j1 j2=>c2 j z8 z8 ?_));rcases Nat.lt_or_gt_of_ne e with e'|e'
  ·have:=lC s3 (show i+1<=k by omega) z8;omega
  ·have:=lC s3 (show k+1<=i by omega) z8;omega
def eD.push(hP:∀ k,zB (Pd k))(h:eD w Pd os a lo hi n A C){os':List Ob}{a' hi':Nat}{R:List AV}{v:AV}(hs:iP lo hi os os')(hh:hi<=hi')(mY:hi'<=a')(hv:Pd n os' hi hi' v)(hR:R.length+1=w)(nB:os'[a']?=some (.arr w ((bj n).map (λk=>A k++[C k])++[R++[v]]))):
  eD w Pd os' a' lo hi' (n+1) (λi=>if i=n then R else A i) (λi=>if i=n then v else C i):=by
 obtain⟨h1,h2,h3,S,s1,s2,s3,s4⟩:=h;refine⟨?_,mY,λk hk=>?_,λi=>if i=n+1 then hi' else S i,?_,?_,λk hk=>?_,λk hk=>?_⟩
 ·rw[nB,List.range_succ,List.map_append];congr 3
  ·refine oo λk hk=>?_;rw[if_neg (by have:=jM.1 hk;omega),if_neg (by have:=jM.1 hk;omega)]
  ·simp
 ·by_cases e:k=n
  ·rw[if_pos e];exact hR
  ·rw[if_neg e];exact h3 k z8
 ·dsimp only;rw[if_neg z8];exact s1
 ·dsimp only;rw[if_pos rfl];exact aH _
 ·dsimp only;rw[if_neg z8];by_cases e:k=n
  ·subst e;rw[if_pos rfl];omega
  ·rw[if_neg z8];exact s3 k z8
 ·dsimp only;rw[if_neg (show k≠n+1 by omega)];by_cases e:k=n
  ·subst e;rw[if_pos rfl,if_pos rfl];exact(hP k).mono hv s2 (aH _)
  ·rw[if_neg e,if_neg z8];exact(hP k).same (s4 k z8) (hs.mono (jN s1 (lC s3 (bk _) z8)) (jN (lC s3 (show k+1<=n by omega) (aH _)) s2))
def eD.nil{os:List Ob}{a:Nat}(h:os[a]?=some (.arr w []))(lo:Nat)(hl:lo<=a)(A:Nat->List AV)(C:Nat->AV):eD w Pd os a lo lo 0 A C :=
 ⟨by rw[h];rfl,hl,λk hk=>absurd hk (qR _),λ_=>lo,aH _,aH _,λk hk=>absurd hk (qR _),λk hk=>absurd hk (qR _)⟩
def eD.SF{A':Nat->List AV}{C':Nat->AV}{sw:Nat->List Ob->Nat->Nat->AV->Prop}(h:eD w Pd os a lo hi n A C)(hA:∀ k,k<n->A' k=A k)(hC:∀ k,k<n->C' k=C k)(hp:∀ k,k<n->∀ os l r v,Pd k os l r v->sw k os l r v):eD w sw os a lo hi n A' C':=by
 obtain⟨h1,h2,h3,S,s1,s2,s3,s4⟩:=h;refine⟨?_,h2,λk hk=>by rw[hA k hk];exact h3 k hk,S,s1,s2,s3,λk hk=>by rw[hC k hk];exact hp k hk _ _ _ _ (s4 k hk)⟩;rw[h1];congr 2;exact oo λk hk=>by rw[hA k (jM.1 hk),hC k (jM.1 hk)]
def eD.app(hP:∀ k,zB (Pd k))(h:eD w Pd os a lo hi n A C)(X:List Ob){v:AV}{l0:Nat}(ha:a<l0)(h0:l0<=os.length)(hR:(A n).length+1=w)(hv:∀ os',iP l0 (os.length+X.length) (os++X) os'->Pd n os' l0 (os.length+X.length) v):
  eD w Pd (os.set a .gone++(X++[.arr w ((bj n).map (λk=>A k++[C k])++[A n++[v]])])) (os.length+X.length) lo (os.length+X.length) (n+1) A (λi=>if i=n then v else C i):=by
 have hb:=h.len;have CZ:=h.at_;refine(eD.push hP h (os':=os.set a .gone++(X++[.arr w ((bj n).map (λk=>A k++[C k])++[A n++[v]])])) (hi':=os.length+X.length) (R:=A n) (v:=v) (λi h1 h2=>?_) z8 (aH _) ((hP n).mono (hv _ (λi h1 h2=>?_)) z8 (aH _)) hR ?_).SF (λk hk=>?_) (λ_ _=>rfl) (λ_ _ _ _ _ _ h=>h)
 ·rw[bL (by rw[bm];omega),cV z8]
 ·by_cases e:i<os.length
  ·rw[bL (by rw[bm];omega),bL e,cV z8]
  ·rw[dk (by rw[bm];omega),dk (l₁:=os) z8,bm,bL z8]
 ·rw[dk (by rw[bm];omega),bm,Nat.add_sub_cancel_left,dk (aH _),Nat.sub_self];rfl
 ·by_cases e:k=n
  ·rw[if_pos e,e]
  ·rw[if_neg e]
def iP.kill{m b:Nat}{ot:List Ob}(hb:m<=b)(hl:b<ot.length)(L:List Ob):iP 0 m ot (ot.set b .gone++L):=λi _ h2=>by
 rw[bL (by rw[bm];omega),cV z8]
def eD.bp{os:List Ob}{e:Nat->AV}{kp:Nat->Prop}{T:Nat->AV}(h:eD w Pd os a lo hi n A C)(hk:∀ i,lo<=i->i<=a->¬ kp i)(hA:∀ k,k<n->∀ v∈A k,∃ x,v=AV.lit x)(hT:∀ k,k<n->∀ l r v,lo<=l->r<=hi->Pd k os l r v->cW ⟨e,os⟩ kp (T k) v):cW ⟨e,os⟩ kp (.tree w ((bj n).map λk=>A k++[T k])) (.ref a w 0 n):=by
 have Uq:=h.SE;have hr:=λk hk=>h.get (k:=k) hk;obtain⟨h1,h2,h3,S,s1,s2,s3,s4⟩:=h;refine .ref a w 0 n _ _ (λr c=>(cellAt ((bj n).map λk=>A k++[C k]) r c).getD .undef) h1 (hk a z8 (aH _)) Eb (λrow hr=>?_) (λr c v hv=>?_) (λr c v hv=>?_)
 ·obtain⟨k,hk,rfl⟩:=List.mem_map.1 hr;rw[List.length_append];exact h3 k (jM.1 hk)
 all_goals
  unfold cellAt at hv;by_cases oc:r<n;rotate_left
  ·rw[List.getElem?_eq_none (by simpa using oc)]at hv;simp at hv
  rw[Di _ oc,lG]at hv
 ·rw[List.drop_zero,List.take_of_length_le Eb];unfold cellAt;rw[Di _ oc,lG];have dj:c<(A r++[C r]).length:=by
   have:=(aF.1 hv).1;simpa using this
  rw[List.getElem?_eq_getElem dj];rfl
 ·unfold cellAt;rw[Di _ oc,lG];by_cases hc:c<(A r).length
  ·rw[bL hc]at hv ⊢;rw[hv,dg];obtain⟨x,rfl⟩:=hA r oc v (eh hv);exact .lit x
  ·rw[dk z8]at hv ⊢;have iY:c-(A r).length=0:=by
    have:=(aF.1 hv).1;simp at this;omega
   rw[iY]at hv ⊢;simp only[List.getElem?_cons_zero,Option.some.injEq]at hv;subst hv;obtain⟨l,u,u1,u2,hO⟩:=hr r oc;exact hT r oc l u _ u1 u2 hO
end
def eD.low{Pd:Nat->List Ob->Nat->Nat->AV->Prop}{w a lo hi n:Nat}{os:List Ob}{A:Nat->List AV}{C:Nat->AV}(h:eD w Pd os a lo hi n A C){gC:Nat}(hl:gC<=lo):eD w Pd os a gC hi n A C:=by
 obtain⟨h1,h2,h3,S,s1,s2,s3,s4⟩:=h;exact⟨h1,h2,h3,S,z8,s2,s3,s4⟩
end T

