import Derived.Test.YtodilglobhifaaaGreatDoorX16
set_option linter.all false
set_option maxHeartbeats 0
set_option maxRecDepth 20000
open List renaming getElem?_append_left→cG,getElem?_set_ne→dz,mem_of_getElem?→fq,range→bp,getElem?_eq_some_iff→aN,map_congr_left→qX,mem_range→jA,length_set→bm,getElem?_append_right→dy
open Option renaming getD_some→dE,bind_some→n5
open Nat renaming le_refl→aM,le_trans→mE,zero_le→aS,not_lt_zero→ns
open Go Go.Am
namespace T
def k8(lo hi:Nat)(os os':List Ob):Prop:=∀ i,lo<=i->i<hi->os'[i]?=os[i]?
section
variable {lo hi w:Nat} {os os':List Ob} {v:AV} {X:List (List AV)}
def k8.mono(h:k8 lo hi os os'){a b:Nat}(ha:lo<=a)(hb:b<=hi):k8 a b os os':=λi h1 h2=>h i Bv Bv
def k8.app{os:List Ob}{hi:Nat}(h:hi<=os.length)(l:List Ob)(lo:Nat):k8 lo hi os (os++l):=λi _ h2=>by rw[cG Bv]
def k8.set{os:List Ob}{k:Nat}(h:k<lo\/hi<=k)(y:Ob):k8 lo hi os (os.set k y):=λi h1 h2=>by rw[dz Bv]
def k8.trans{a b c:List Ob}(h:k8 lo hi a b)(k:k8 lo hi b c):k8 lo hi a c:=λi h1 h2=>(k i h1 h2).trans (h i h1 h2)
def qR(w:Nat)(os:List Ob)(lo hi:Nat)(v:AV)(X:List (List AV)):Prop :=
 (v=.tree w X/\X=[])\/∃ b rows,v=.ref b w 0 X.length/\lo<=b/\b<hi/\os[b]?=some (.arr w (X++rows))/\∀ row∈X++rows,row.length=w
def qR.same(h:qR w os lo hi v X)(k:k8 lo hi os os'):qR w os' lo hi v X:=by
 rcases h with h|⟨b,rows,h1,h2,h3,h4,h5⟩
 ·exact .inl h
 ·exact .inr ⟨b,rows,h1,h2,h3,by rw[k b h2 h3];exact h4,h5⟩
def qR.mono(h:qR w os lo hi v X){a b:Nat}(ha:a<=lo)(hb:hi<=b):qR w os a b v X:=by
 rcases h with h|⟨b,rows,h1,h2,h3,h4,h5⟩
 ·exact .inl h
 ·exact .inr ⟨b,rows,h1,Bv,Bv,h4,h5⟩
def qR.ca(h:qR w os lo hi v X):ca v=true:=by
 rcases h with⟨rfl,_⟩|⟨b,rows,rfl,_⟩<;>rfl
def qR.bV{os:List Ob}{e:Nat->AV}{kp:Nat->Prop}(h:qR w os lo hi v X)(hk:∀ i,lo<=i->i<hi->¬ kp i)(hf:∀ row∈X,∀ v∈row,(∃ x,v=AV.lit x)\/∃ s r,v=AV.tree s r):df ⟨e,os⟩ kp (.tree w X) v:=by
 rcases h with⟨rfl,rfl⟩|⟨b,rows,rfl,h2,h3,h4,h5⟩
 ·exact .tree _ _
 ·refine .ref b w 0 X.length (X++rows) X (λr c=>(cellAt X r c).getD .undef) h4 (hk b h2 h3) Jy (λrow hr=>h5 row (by simp[hr])) (λr c v hv=>?_) (λr c v hv=>?_)
  ·simp[hv]
  ·rw[hv,dE];simp only[cellAt,Option.bind_eq_some_iff]at hv;obtain⟨row,h6,h7⟩:=hv;rcases hf row (fq h6) v (fq h7) with⟨x,rfl⟩|⟨s,r,rfl⟩
   ·exact .lit x
   ·exact .tree s r
end
structure EG(Pd:List Ob->Nat->Nat->AV->Prop):Prop where
 same:∀ {os os' l r v},Pd os l r v->k8 l r os os'->Pd os' l r v
 mono:∀ {os l r v l' r'},Pd os l r v->l'<=l->r<=r'->Pd os l' r' v
structure gu(w:Nat)(Pd:Nat->List Ob->Nat->Nat->AV->Prop)(os:List Ob)(a lo hi n:Nat)(A:Nat->List AV)(C:Nat->AV):Prop where
 arr:os[a]?=some (.arr w ((bp n).map λk=>A k++[C k]))
 at_:hi<=a
 wid:∀ k,k<n->(A k).length+1=w
 row :∃S:Nat->Nat,lo<=S 0/\S n<=hi/\(∀ k,k<n->S k<=S (k+1))/\∀ k,k<n->Pd k os (S k) (S (k+1)) (C k)
section
variable {lo hi w a n:Nat} {os os':List Ob} {A:Nat->List AV} {C:Nat->AV} {Pd:Nat->List Ob->Nat->Nat->AV->Prop}
def UO{S:Nat->Nat}{n:Nat}(h:∀ k,k<n->S k<=S (k+1)):∀ (d i:Nat),i+d<=n->S i<=S (i+d)
 |0,i,_=>aM _
 |d+1,i,hd=>mE (UO h d i Bv) (h (i+d) Bv)
def oR{S:Nat->Nat}{n:Nat}(h:∀ k,k<n->S k<=S (k+1)){i j:Nat}(oJ:i<=j)(hj:j<=n):S i<=S j:=by
 have:=UO h (j-i) i Bv;rwa [show i+(j-i)=j by omega]at this
def gu.same(hP:∀ k,EG (Pd k))(h:gu w Pd os a lo hi n A C)(k:k8 lo hi os os')(ha:os'[a]?=os[a]?):gu w Pd os' a lo hi n A C:=by
 obtain⟨h1,h2,h3,S,s1,s2,s3,s4⟩:=h;refine⟨by rw[ha];exact h1,h2,h3,S,s1,s2,s3,λi hi'=>(hP i).same (s4 i hi') (k.mono ?_ ?_)⟩
 ·exact mE s1 (oR s3 (aS _) Bv)
 ·exact mE (oR s3 (show i+1<=n by omega) (aM _)) s2
def gu.adD(h:gu w Pd os a lo hi n A C):lo<=hi:=by
 obtain⟨h1,h2,h3,S,s1,s2,s3,s4⟩:=h;have:=oR s3 (aS _) (aM n);omega
def gu.get(h:gu w Pd os a lo hi n A C){k:Nat}(hk:k<n):∃l r,lo<=l/\r<=hi/\Pd k os l r (C k):=by
 obtain⟨h1,h2,h3,S,s1,s2,s3,s4⟩:=h;exact⟨S k,S (k+1),mE s1 (oR s3 (aS _) Bv),mE (oR s3 (show k+1<=n by omega) (aM _)) s2,s4 k hk⟩
def gu.len(h:gu w Pd os a lo hi n A C):a<os.length:=(aN.1 h.arr).1
def Jg{α:Type}(f:Nat->α){n k:Nat}(h:k<n):((bp n).map f)[k]?=some (f k):=by rw[List.getElem?_map,List.getElem?_range h];rfl
def gu.at(hP:∀ k,EG (Pd k))(h:gu w Pd os a lo hi n A C){k:Nat}(hk:k<n):∃l r,lo<=l/\r<=hi/\Pd k os l r (C k) /\
  ∀ (wS:Nat->List Ob->Nat->Nat->AV->Prop) (v:AV) (os':List Ob),os'[a]?=some (.arr w ((bp n).map λi=>A i++[if i=k then v else C i]))->wS k os' l r v ->
   (∀ i,lo<=i->i<hi->(i<l\/r<=i)->os'[i]?=os[i]?)->(∀ i,i≠k->i<n->∀ os l r v,Pd i os l r v->wS i os l r v)->gu w wS os' a lo hi n A (λi=>if i=k then v else C i):=by
 obtain⟨h1,h2,h3,S,s1,s2,s3,s4⟩:=h;have b1:lo<=S k:=mE s1 (oR s3 (aS _) Bv);have b2:S (k+1)<=hi:=mE (oR s3 (show k+1<=n by omega) (aM _)) s2;refine⟨S k,S (k+1),b1,b2,s4 k hk,λwS v os' ha c1 c2 c9=>⟨ha,h2,h3,S,s1,s2,s3,λi hi'=>?_⟩⟩;have e1:lo<=S i:=mE s1 (oR s3 (aS _) Bv);have e2:S (i+1)<=hi:=mE (oR s3 (show i+1<=n by omega) (aM _)) s2;by_cases e:i=k
 ·subst e;rw[if_pos rfl];exact c1
 ·rw[if_neg e];refine c9 i e hi' _ _ _ _ ((hP i).same (s4 i hi') (λj j1 j2=>c2 j Bv Bv ?_));rcases Nat.lt_or_gt_of_ne e with e'|e'
  ·have:=oR s3 (show i+1<=k by omega) Bv;omega
  ·have:=oR s3 (show k+1<=i by omega) Bv;omega
def gu.push(hP:∀ k,EG (Pd k))(h:gu w Pd os a lo hi n A C){os':List Ob}{a' hi':Nat}{R:List AV}{v:AV}(hs:k8 lo hi os os')(hh:hi<=hi')(oD:hi'<=a')(hv:Pd n os' hi hi' v)(hR:R.length+1=w)(km:os'[a']?=some (.arr w ((bp n).map (λk=>A k++[C k])++[R++[v]]))):
  gu w Pd os' a' lo hi' (n+1) (λi=>if i=n then R else A i) (λi=>if i=n then v else C i):=by
 obtain⟨h1,h2,h3,S,s1,s2,s3,s4⟩:=h;refine⟨?_,oD,λk hk=>?_,λi=>if i=n+1 then hi' else S i,?_,?_,λk hk=>?_,λk hk=>?_⟩
 ·rw[km,List.range_succ,List.map_append];congr 3
  ·refine qX λk hk=>?_;rw[if_neg (by have:=jA.1 hk;omega),if_neg (by have:=jA.1 hk;omega)]
  ·simp
 ·by_cases e:k=n
  ·rw[if_pos e];exact hR
  ·rw[if_neg e];exact h3 k Bv
 ·dsimp only;rw[if_neg Bv];exact s1
 ·dsimp only;rw[if_pos rfl];exact aM _
 ·dsimp only;rw[if_neg Bv];by_cases e:k=n
  ·subst e;rw[if_pos rfl];omega
  ·rw[if_neg Bv];exact s3 k Bv
 ·dsimp only;rw[if_neg (show k≠n+1 by omega)];by_cases e:k=n
  ·subst e;rw[if_pos rfl,if_pos rfl];exact(hP k).mono hv s2 (aM _)
  ·rw[if_neg e,if_neg Bv];exact(hP k).same (s4 k Bv) (hs.mono (mE s1 (oR s3 (aS _) Bv)) (mE (oR s3 (show k+1<=n by omega) (aM _)) s2))
def gu.nil{os:List Ob}{a:Nat}(h:os[a]?=some (.arr w []))(lo:Nat)(hl:lo<=a)(A:Nat->List AV)(C:Nat->AV):gu w Pd os a lo lo 0 A C :=
 ⟨by rw[h];rfl,hl,λk hk=>absurd hk (ns _),λ_=>lo,aM _,aM _,λk hk=>absurd hk (ns _),λk hk=>absurd hk (ns _)⟩
def gu.adE{A':Nat->List AV}{C':Nat->AV}{wS:Nat->List Ob->Nat->Nat->AV->Prop}(h:gu w Pd os a lo hi n A C)(hA:∀ k,k<n->A' k=A k)(hC:∀ k,k<n->C' k=C k)(hp:∀ k,k<n->∀ os l r v,Pd k os l r v->wS k os l r v):gu w wS os a lo hi n A' C':=by
 obtain⟨h1,h2,h3,S,s1,s2,s3,s4⟩:=h;refine⟨?_,h2,λk hk=>by rw[hA k hk];exact h3 k hk,S,s1,s2,s3,λk hk=>by rw[hC k hk];exact hp k hk _ _ _ _ (s4 k hk)⟩;rw[h1];congr 2;exact qX λk hk=>by rw[hA k (jA.1 hk),hC k (jA.1 hk)]
def gu.app(hP:∀ k,EG (Pd k))(h:gu w Pd os a lo hi n A C)(X:List Ob){v:AV}{l0:Nat}(ha:a<l0)(h0:l0<=os.length)(hR:(A n).length+1=w)(hv:∀ os',k8 l0 (os.length+X.length) (os++X) os'->Pd n os' l0 (os.length+X.length) v):
  gu w Pd (os.set a .gone++(X++[.arr w ((bp n).map (λk=>A k++[C k])++[A n++[v]])])) (os.length+X.length) lo (os.length+X.length) (n+1) A (λi=>if i=n then v else C i):=by
 have hb:=h.len;have xP:=h.at_;refine(gu.push hP h (os':=os.set a .gone++(X++[.arr w ((bp n).map (λk=>A k++[C k])++[A n++[v]])])) (hi':=os.length+X.length) (R:=A n) (v:=v) (λi h1 h2=>?_) Bv (aM _) ((hP n).mono (hv _ (λi h1 h2=>?_)) Bv (aM _)) hR ?_).adE (λk hk=>?_) (λ_ _=>rfl) (λ_ _ _ _ _ _ h=>h)
 ·rw[cG (by rw[bm];omega),dz Bv]
 ·by_cases e:i<os.length
  ·rw[cG (by rw[bm];omega),cG e,dz Bv]
  ·rw[dy (by rw[bm];omega),dy (l₁:=os) Bv,bm,cG Bv]
 ·rw[dy (by rw[bm];omega),bm,Nat.add_sub_cancel_left,dy (aM _),Nat.sub_self];rfl
 ·by_cases e:k=n
  ·rw[if_pos e,e]
  ·rw[if_neg e]
def k8.kill{m b:Nat}{ot:List Ob}(hb:m<=b)(hl:b<ot.length)(L:List Ob):k8 0 m ot (ot.set b .gone++L):=λi _ h2=>by
 rw[cG (by rw[bm];omega),dz Bv]
def gu.bV{os:List Ob}{e:Nat->AV}{kp:Nat->Prop}{T:Nat->AV}(h:gu w Pd os a lo hi n A C)(hk:∀ i,lo<=i->i<=a->¬ kp i)(hA:∀ k,k<n->∀ v∈A k,∃ x,v=AV.lit x)(hT:∀ k,k<n->∀ l r v,lo<=l->r<=hi->Pd k os l r v->df ⟨e,os⟩ kp (T k) v):df ⟨e,os⟩ kp (.tree w ((bp n).map λk=>A k++[T k])) (.ref a w 0 n):=by
 have hlh:=h.adD;have hr:=λk hk=>h.get (k:=k) hk;obtain⟨h1,h2,h3,S,s1,s2,s3,s4⟩:=h;refine .ref a w 0 n _ _ (λr c=>(cellAt ((bp n).map λk=>A k++[C k]) r c).getD .undef) h1 (hk a Bv (aM _)) Jy (λrow hr=>?_) (λr c v hv=>?_) (λr c v hv=>?_)
 ·obtain⟨k,hk,rfl⟩:=List.mem_map.1 hr;rw[List.length_append];exact h3 k (jA.1 hk)
 all_goals
  unfold cellAt at hv;by_cases su:r<n;rotate_left
  ·rw[List.getElem?_eq_none (by simpa using su)]at hv;simp at hv
  rw[Jg _ su,n5]at hv
 ·rw[List.drop_zero,List.take_of_length_le Jy];unfold cellAt;rw[Jg _ su,n5];have cz:c<(A r++[C r]).length:=by
   have:=(aN.1 hv).1;simpa using this
  rw[List.getElem?_eq_getElem cz];rfl
 ·unfold cellAt;rw[Jg _ su,n5];by_cases hc:c<(A r).length
  ·rw[cG hc]at hv ⊢;rw[hv,dE];obtain⟨x,rfl⟩:=hA r su v (fq hv);exact .lit x
  ·rw[dy Bv]at hv ⊢;have jO:c-(A r).length=0:=by
    have:=(aN.1 hv).1;simp at this;omega
   rw[jO]at hv ⊢;simp only[List.getElem?_cons_zero,Option.some.injEq]at hv;subst hv;obtain⟨l,u,u1,u2,hO⟩:=hr r su;exact hT r su l u _ u1 u2 hO
end
def gu.low{Pd:Nat->List Ob->Nat->Nat->AV->Prop}{w a lo hi n:Nat}{os:List Ob}{A:Nat->List AV}{C:Nat->AV}(h:gu w Pd os a lo hi n A C){jE:Nat}(hl:jE<=lo):gu w Pd os a jE hi n A C:=by
 obtain⟨h1,h2,h3,S,s1,s2,s3,s4⟩:=h;exact⟨h1,h2,h3,S,Bv,s2,s3,s4⟩
end T

