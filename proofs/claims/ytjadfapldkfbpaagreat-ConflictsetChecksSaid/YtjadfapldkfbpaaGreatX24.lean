import Derived.Test.YtjadfapldkfbpaaGreatX20
set_option linter.all false
set_option maxHeartbeats 0
set_option maxRecDepth 20000
open List renaming getElem?_append_left→dg,getElem?_set_ne→bM,mem_of_getElem?→gY,range→aZ,getElem?_eq_some_iff→aY,getElem?_map→b6,ext_getElem?→jR,getElem?_eq_none→ei,map_congr_left→oM,mem_range→mi,length_set→bw,getElem?_append_right→fO,getElem?_eq_getElem→bT,mem_cons→cu,not_mem_nil→jQ,eq_nil_of_length_eq_zero→sF,nil_append→dZ,length_nil→k8,append_nil→ic,all_nil→G2,filter_cons→z9,drop_eq_nil_of_le→cM,filter_nil→DX
open Option renaming getD_some→k9,bind_some→uG,isNone_none→DR,isNone_some→Hb
open Nat renaming le_refl→aR,le_trans→j',zero_le→aF,not_lt_zero→mQ,eq_zero_or_pos→n7,reduceEqDiff→B0,reduceBEq→nq
open Go Go.Am Go.Proofs
namespace T
def gB(lo hi:Nat)(os os':List Ob):Prop:=∀ i,lo<=i->i<hi->os'[i]?=os[i]?
section
variable {lo hi w:Nat} {os os':List Ob} {v:AV} {X:List (List AV)}
def gB.mono(h:gB lo hi os os'){a b:Nat}(ha:lo<=a)(hb:b<=hi):gB a b os os':=λi h1 h2=>h i G3 G3
def gB.app{os:List Ob}{hi:Nat}(h:hi<=os.length)(l:List Ob)(lo:Nat):gB lo hi os (os++l):=λi _ h2=>by rw[dg G3]
def gB.set{os:List Ob}{k:Nat}(h:k<lo\/hi<=k)(y:Ob):gB lo hi os (os.set k y):=λi h1 h2=>by rw[bM G3]
def gB.trans{a b c:List Ob}(h:gB lo hi a b)(k:gB lo hi b c):gB lo hi a c:=λi h1 h2=>(k i h1 h2).trans (h i h1 h2)
def iM(w:Nat)(os:List Ob)(lo hi:Nat)(v:AV)(X:List (List AV)):Prop :=
 (v=.tree w X/\X=[])\/∃ b rows,v=.ref b w 0 X.length/\lo<=b/\b<hi/\os[b]?=some (.arr w (X++rows))/\∀ row∈X++rows,row.length=w
def iM.same(h:iM w os lo hi v X)(k:gB lo hi os os'):iM w os' lo hi v X:=by
 rcases h with h|⟨b,rows,h1,h2,h3,h4,h5⟩
 ·exact .inl h
 ·exact .inr ⟨b,rows,h1,h2,h3,by rw[k b h2 h3];exact h4,h5⟩
def iM.mono(h:iM w os lo hi v X){a b:Nat}(ha:a<=lo)(hb:hi<=b):iM w os a b v X:=by
 rcases h with h|⟨b,rows,h1,h2,h3,h4,h5⟩
 ·exact .inl h
 ·exact .inr ⟨b,rows,h1,G3,G3,h4,h5⟩
def iM.cJ(h:iM w os lo hi v X):cJ v=true:=by
 rcases h with⟨rfl,_⟩|⟨b,rows,rfl,_⟩<;>rfl
def iM.cp{os:List Ob}{e:Nat->AV}{kp:Nat->Prop}(h:iM w os lo hi v X)(hk:∀ i,lo<=i->i<hi->¬ kp i)(hf:∀ row∈X,∀ v∈row,(∃ x,v=AV.lit x)\/∃ s r,v=AV.tree s r):cG ⟨e,os⟩ kp (.tree w X) v:=by
 rcases h with⟨rfl,rfl⟩|⟨b,rows,rfl,h2,h3,h4,h5⟩
 ·exact .tree _ _
 ·refine .ref b w 0 X.length (X++rows) X (λr c=>(cellAt X r c).getD .undef) h4 (hk b h2 h3) G9 (λrow hr=>h5 row (by simp[hr])) (λr c v hv=>?_) (λr c v hv=>?_)
  ·simp[hv]
  ·rw[hv,k9];simp only[cellAt,Option.bind_eq_some_iff]at hv;obtain⟨row,h6,h7⟩:=hv;rcases hf row (gY h6) v (gY h7) with⟨x,rfl⟩|⟨s,r,rfl⟩
   ·exact .lit x
   ·exact .tree s r
end
structure yw(Pd:List Ob->Nat->Nat->AV->Prop):Prop where
 same:∀ {os os' l r v},Pd os l r v->gB l r os os'->Pd os' l r v
 mono:∀ {os l r v l' r'},Pd os l r v->l'<=l->r<=r'->Pd os l' r' v
def iM.aaU(w:Nat)(X:List (List AV)):yw (λos l r v=>iM w os l r v X):=⟨λh k=>h.same k,λh a b=>h.mono a b⟩
structure cX(w:Nat)(Pd:Nat->List Ob->Nat->Nat->AV->Prop)(os:List Ob)(a lo hi n:Nat)(A:Nat->List AV)(C:Nat->AV):Prop where
 arr:os[a]?=some (.arr w ((aZ n).map λk=>A k++[C k]))
 at_:hi<=a
 wid:∀ k,k<n->(A k).length+1=w
 row :∃S:Nat->Nat,lo<=S 0/\S n<=hi/\(∀ k,k<n->S k<=S (k+1))/\∀ k,k<n->Pd k os (S k) (S (k+1)) (C k)
section
variable {lo hi w a n:Nat} {os os':List Ob} {A:Nat->List AV} {C:Nat->AV} {Pd:Nat->List Ob->Nat->Nat->AV->Prop}
def aaV{S:Nat->Nat}{n:Nat}(h:∀ k,k<n->S k<=S (k+1)):∀ (d i:Nat),i+d<=n->S i<=S (i+d)
 |0,i,_=>aR _
 |d+1,i,hd=>j' (aaV h d i G3) (h (i+d) G3)
def tj{S:Nat->Nat}{n:Nat}(h:∀ k,k<n->S k<=S (k+1)){i j:Nat}(yx:i<=j)(hj:j<=n):S i<=S j:=by
 have:=aaV h (j-i) i G3;rwa [show i+(j-i)=j by omega]at this
def cX.same(hP:∀ k,yw (Pd k))(h:cX w Pd os a lo hi n A C)(k:gB lo hi os os')(ha:os'[a]?=os[a]?):cX w Pd os' a lo hi n A C:=by
 obtain⟨h1,h2,h3,S,s1,s2,s3,s4⟩:=h;refine⟨by rw[ha];exact h1,h2,h3,S,s1,s2,s3,λi hi'=>(hP i).same (s4 i hi') (k.mono ?_ ?_)⟩
 ·exact j' s1 (tj s3 (aF _) G3)
 ·exact j' (tj s3 (show i+1<=n by omega) (aR _)) s2
def cX.uj(h:cX w Pd os a lo hi n A C):lo<=hi:=by
 obtain⟨h1,h2,h3,S,s1,s2,s3,s4⟩:=h;have:=tj s3 (aF _) (aR n);omega
def cX.get(h:cX w Pd os a lo hi n A C){k:Nat}(hk:k<n):∃l r,lo<=l/\r<=hi/\Pd k os l r (C k):=by
 obtain⟨h1,h2,h3,S,s1,s2,s3,s4⟩:=h;exact⟨S k,S (k+1),j' s1 (tj s3 (aF _) G3),j' (tj s3 (show k+1<=n by omega) (aR _)) s2,s4 k hk⟩
def cX.len(h:cX w Pd os a lo hi n A C):a<os.length:=(aY.1 h.arr).1
def sZ{α:Type}(f:Nat->α){n k:Nat}(h:k<n):((aZ n).map f)[k]?=some (f k):=by rw[b6,List.getElem?_range h];rfl
def ahT{α:Type}(f:Nat->α){n k:Nat}(y:α):((aZ n).map f).set k y=(aZ n).map λi=>if i=k then y else f i:=by
 apply jR;intro j;rw[List.getElem?_set];by_cases hj:j<n
 ·try simp only[]
  by_cases e:k=j
  ·subst e;rw[if_pos rfl,if_pos (by simpa using hj),sZ _ hj,if_pos rfl]
  ·rw[if_neg e,sZ _ hj,sZ (λi=>if i=k then y else f i) hj,if_neg (λh=>e h.symm)]
 ·rw[ei (l:=(aZ n).map λi=>if i=k then y else f i) (by simpa using hj)];split
  ·rename_i e;subst e;rw[if_neg (by simpa using hj)]
  ·exact ei (by simpa using hj)
def cX.at(hP:∀ k,yw (Pd k))(h:cX w Pd os a lo hi n A C){k:Nat}(hk:k<n):∃l r,lo<=l/\r<=hi/\Pd k os l r (C k) /\
  ∀ (Pd':Nat->List Ob->Nat->Nat->AV->Prop) (v:AV) (os':List Ob),os'[a]?=some (.arr w ((aZ n).map λi=>A i++[if i=k then v else C i]))->Pd' k os' l r v ->
   (∀ i,lo<=i->i<hi->(i<l\/r<=i)->os'[i]?=os[i]?)->(∀ i,i≠k->i<n->∀ os l r v,Pd i os l r v->Pd' i os l r v)->cX w Pd' os' a lo hi n A (λi=>if i=k then v else C i):=by
 obtain⟨h1,h2,h3,S,s1,s2,s3,s4⟩:=h;have b1:lo<=S k:=j' s1 (tj s3 (aF _) G3);have b2:S (k+1)<=hi:=j' (tj s3 (show k+1<=n by omega) (aR _)) s2;refine⟨S k,S (k+1),b1,b2,s4 k hk,λPd' v os' ha c1 c2 dX=>⟨ha,h2,h3,S,s1,s2,s3,λi hi'=>?_⟩⟩;have e1:lo<=S i:=j' s1 (tj s3 (aF _) G3);have e2:S (i+1)<=hi:=j' (tj s3 (show i+1<=n by omega) (aR _)) s2;by_cases e:i=k
 ·subst e;rw[if_pos rfl];exact c1
 ·rw[if_neg e];refine dX i e hi' _ _ _ _ ((hP i).same (s4 i hi') (λj j1 j2=>c2 j G3 G3 ?_));rcases Nat.lt_or_gt_of_ne e with e'|e'
  ·have:=tj s3 (show i+1<=k by omega) G3;omega
  ·have:=tj s3 (show k+1<=i by omega) G3;omega
def cX.push(hP:∀ k,yw (Pd k))(h:cX w Pd os a lo hi n A C){os':List Ob}{a' hi':Nat}{R:List AV}{v:AV}(hs:gB lo hi os os')(hh:hi<=hi')(m7:hi'<=a')(hv:Pd n os' hi hi' v)(hR:R.length+1=w)(jc:os'[a']?=some (.arr w ((aZ n).map (λk=>A k++[C k])++[R++[v]]))):
  cX w Pd os' a' lo hi' (n+1) (λi=>if i=n then R else A i) (λi=>if i=n then v else C i):=by
 obtain⟨h1,h2,h3,S,s1,s2,s3,s4⟩:=h;refine⟨?_,m7,λk hk=>?_,λi=>if i=n+1 then hi' else S i,?_,?_,λk hk=>?_,λk hk=>?_⟩
 ·rw[jc,List.range_succ,List.map_append];congr 3
  ·refine oM λk hk=>?_;rw[if_neg (by have:=mi.1 hk;omega),if_neg (by have:=mi.1 hk;omega)]
  ·simp
 ·by_cases e:k=n
  ·rw[if_pos e];exact hR
  ·rw[if_neg e];exact h3 k G3
 ·dsimp only;rw[if_neg G3];exact s1
 ·dsimp only;rw[if_pos rfl];exact aR _
 ·dsimp only;rw[if_neg G3];by_cases e:k=n
  ·subst e;rw[if_pos rfl];omega
  ·rw[if_neg G3];exact s3 k G3
 ·dsimp only;rw[if_neg (show k≠n+1 by omega)];by_cases e:k=n
  ·subst e;rw[if_pos rfl,if_pos rfl];exact(hP k).mono hv s2 (aR _)
  ·rw[if_neg e,if_neg G3];exact(hP k).same (s4 k G3) (hs.mono (j' s1 (tj s3 (aF _) G3)) (j' (tj s3 (show k+1<=n by omega) (aR _)) s2))
def cX.nil{os:List Ob}{a:Nat}(h:os[a]?=some (.arr w []))(lo:Nat)(hl:lo<=a)(A:Nat->List AV)(C:Nat->AV):cX w Pd os a lo lo 0 A C :=
 ⟨by rw[h];rfl,hl,λk hk=>absurd hk (mQ _),λ_=>lo,aR _,aR _,λk hk=>absurd hk (mQ _),λk hk=>absurd hk (mQ _)⟩
def cX.C1{A':Nat->List AV}{C':Nat->AV}{Pd':Nat->List Ob->Nat->Nat->AV->Prop}(h:cX w Pd os a lo hi n A C)(hA:∀ k,k<n->A' k=A k)(hC:∀ k,k<n->C' k=C k)(hp:∀ k,k<n->∀ os l r v,Pd k os l r v->Pd' k os l r v):cX w Pd' os a lo hi n A' C':=by
 obtain⟨h1,h2,h3,S,s1,s2,s3,s4⟩:=h;refine⟨?_,h2,λk hk=>by rw[hA k hk];exact h3 k hk,S,s1,s2,s3,λk hk=>by rw[hC k hk];exact hp k hk _ _ _ _ (s4 k hk)⟩;rw[h1];congr 2;exact oM λk hk=>by rw[hA k (mi.1 hk),hC k (mi.1 hk)]
def cX.app(hP:∀ k,yw (Pd k))(h:cX w Pd os a lo hi n A C)(X:List Ob){v:AV}{l0:Nat}(ha:a<l0)(h0:l0<=os.length)(hR:(A n).length+1=w)(hv:∀ os',gB l0 (os.length+X.length) (os++X) os'->Pd n os' l0 (os.length+X.length) v):
  cX w Pd (os.set a .gone++(X++[.arr w ((aZ n).map (λk=>A k++[C k])++[A n++[v]])])) (os.length+X.length) lo (os.length+X.length) (n+1) A (λi=>if i=n then v else C i):=by
 have hb:=h.len;have CL:=h.at_;refine(cX.push hP h (os':=os.set a .gone++(X++[.arr w ((aZ n).map (λk=>A k++[C k])++[A n++[v]])])) (hi':=os.length+X.length) (R:=A n) (v:=v) (λi h1 h2=>?_) G3 (aR _) ((hP n).mono (hv _ (λi h1 h2=>?_)) G3 (aR _)) hR ?_).C1 (λk hk=>?_) (λ_ _=>rfl) (λ_ _ _ _ _ _ h=>h)
 ·rw[dg (by rw[bw];omega),bM G3]
 ·by_cases e:i<os.length
  ·rw[dg (by rw[bw];omega),dg e,bM G3]
  ·rw[fO (by rw[bw];omega),fO (l₁:=os) G3,bw,dg G3]
 ·rw[fO (by rw[bw];omega),bw,Nat.add_sub_cancel_left,fO (aR _),Nat.sub_self];rfl
 ·by_cases e:k=n
  ·rw[if_pos e,e]
  ·rw[if_neg e]
def cX.Gn(hP:∀ k,yw (Pd k))(h:cX w Pd os a lo hi n A C){q:Nat}(hq:q<lo)(y:Ob):cX w Pd (os.set q y) a lo hi n A C :=
 h.same hP (gB.set (.inl hq) y) (bM (by have:=h.at_;have:=h.uj;omega))
def gB.kill{m b:Nat}{ot:List Ob}(hb:m<=b)(hl:b<ot.length)(L:List Ob):gB 0 m ot (ot.set b .gone++L):=λi _ h2=>by
 rw[dg (by rw[bw];omega),bM G3]
def cX.cp{os:List Ob}{e:Nat->AV}{kp:Nat->Prop}{T:Nat->AV}(h:cX w Pd os a lo hi n A C)(hk:∀ i,lo<=i->i<=a->¬ kp i)(hA:∀ k,k<n->∀ v∈A k,∃ x,v=AV.lit x)(hT:∀ k,k<n->∀ l r v,lo<=l->r<=hi->Pd k os l r v->cG ⟨e,os⟩ kp (T k) v):cG ⟨e,os⟩ kp (.tree w ((aZ n).map λk=>A k++[T k])) (.ref a w 0 n):=by
 have hlh:=h.uj;have hr:=λk hk=>h.get (k:=k) hk;obtain⟨h1,h2,h3,S,s1,s2,s3,s4⟩:=h;refine .ref a w 0 n _ _ (λr c=>(cellAt ((aZ n).map λk=>A k++[C k]) r c).getD .undef) h1 (hk a G3 (aR _)) G9 (λrow hr=>?_) (λr c v hv=>?_) (λr c v hv=>?_)
 ·obtain⟨k,hk,rfl⟩:=List.mem_map.1 hr;rw[List.length_append];exact h3 k (mi.1 hk)
 all_goals
  unfold cellAt at hv;by_cases qX:r<n;rotate_left
  ·rw[ei (by simpa using qX)]at hv;simp at hv
  rw[sZ _ qX,uG]at hv
 ·rw[List.drop_zero,List.take_of_length_le G9];unfold cellAt;rw[sZ _ qX,uG];have bY:c<(A r++[C r]).length:=by
   have:=(aY.1 hv).1;simpa using this
  rw[bT bY];rfl
 ·unfold cellAt;rw[sZ _ qX,uG];by_cases hc:c<(A r).length
  ·rw[dg hc]at hv ⊢;rw[hv,k9];obtain⟨x,rfl⟩:=hA r qX v (gY hv);exact .lit x
  ·rw[fO G3]at hv ⊢;have mW:c-(A r).length=0:=by
    have:=(aY.1 hv).1;simp at this;omega
   rw[mW]at hv ⊢;simp only[List.getElem?_cons_zero,Option.some.injEq]at hv;subst hv;obtain⟨l,u,u1,u2,hO⟩:=hr r qX;exact hT r qX l u _ u1 u2 hO
end
def jM(o:bV):List AV:=[aaa o.wk,aaa o.day,aaa o.st,aaa o.len,aaa o.room]
def kq(p:Pr):List AV:=[aaa p.fst,aaa p.snd,aaa p.bF]
def yg(xs:List (Int×Int))(os:List Ob)(l r:Nat)(v:AV):Prop:=iM 2 os l r v (rowsOf aK xs)
def wQ(xs:List Int)(os:List Ob)(l r:Nat)(v:AV):Prop:=iM 1 os l r v (ints xs)
def Ja(xs:List (Int×Int)):yw (yg xs):=iM.aaU 2 _
def yi(xs:List Int):yw (wQ xs):=iM.aaU 1 _
def cX.low{Pd:Nat->List Ob->Nat->Nat->AV->Prop}{w a lo hi n:Nat}{os:List Ob}{A:Nat->List AV}{C:Nat->AV}(h:cX w Pd os a lo hi n A C){mq:Nat}(hl:mq<=lo):cX w Pd os a mq hi n A C:=by
 obtain⟨h1,h2,h3,S,s1,s2,s3,s4⟩:=h;exact⟨h1,h2,h3,S,G3,s2,s3,s4⟩
def yh(L:List bV)(os:List Ob)(l r:Nat)(v:AV):Prop :=
 ∃ a hi C,v=.ref a 6 0 L.length/\a<r/\cX 6 (λk=>yg (L.getD k default).ch) os a l hi L.length (λk=>jM (L.getD k default)) C
def wO(L:List bV):yw (yh L):=by
 refine⟨?_,?_⟩
 ·rintro os os' l r v ⟨a,hi,C,h1,h2,h3⟩ hs;have:=h3.at_;have:=h3.uj;exact⟨a,hi,C,h1,h2,h3.same (λk=>Ja _) (hs.mono (aR _) G3) (hs a G3 h2)⟩
 ·rintro os l r v l' r' ⟨a,hi,C,h1,h2,h3⟩ hl hr;exact⟨a,hi,C,h1,G3,h3.low hl⟩
def C5(cls:List (List bV))(os:List Ob)(a lo hi n:Nat)(C:Nat->AV):Prop:=cX 1 (λc=>yh (cls.getD c default)) os a lo hi n (λ_=>[]) C
def FG(ae:List Pr)(os:List Ob)(a lo hi n:Nat)(C:Nat->AV):Prop:=cX 4 (λi=>wQ (ae.getD i default).aD) os a lo hi n (λi=>kq (ae.getD i default)) C
def Ot{α β:Type}[Inhabited α](xs:List α)(f:α->β):((aZ xs.length).map λk=>f (xs.getD k default))=xs.map f:=by
 apply jR;intro i;by_cases h:i<xs.length
 ·rw[sZ _ h,b6,List.getD_eq_getElem?_getD,bT h];rfl
 ·rw[ei (by simpa using h),ei (by simpa using h)]
def aj8{L:List bV}{os:List Ob}{l r:Nat}{v:AV}{e:Nat->AV}{kp:Nat->Prop}(h:yh L os l r v)(hk:∀ i,l<=i->i<r->¬ kp i):cG ⟨e,os⟩ kp (.tree 6 (rowsOf cK L)) v:=by
 obtain⟨a,hi,C,rfl,h2,h3⟩:=h;have h4:=h3.at_;have e1:rowsOf cK L=(aZ L.length).map λk=>jM (L.getD k default)++[.tree 2 (rowsOf aK (L.getD k default).ch)]:=by
  exact(Ot L λo=>jM o++[AV.tree 2 (rowsOf aK o.ch)]).symm
 rw[e1];refine h3.cp (λi h5 h6=>hk i h5 G3) (λk hk v hv=>?_) (λk aL l' r' v h5 h6 h7=>?_)
 ·unfold jM at hv;simp only[cu,jQ,or_false]at hv;rcases hv with rfl|rfl|rfl|rfl|rfl<;>exact⟨_,rfl⟩
 ·exact iM.cp h7 (λi h8 h9=>hk i G3 G3) (jX _)
def aie{cls:List (List bV)}{os:List Ob}{a lo hi:Nat}{C:Nat->AV}{e:Nat->AV}{kp:Nat->Prop}(h:C5 cls os a lo hi cls.length C)(hk:∀ i,lo<=i->i<=a->¬ kp i):cG ⟨e,os⟩ kp (.tree 1 (rowsOf a9 cls)) (.ref a 1 0 cls.length):=by
 have h4:=h.at_;have e1:rowsOf a9 cls=(aZ cls.length).map λk=>[]++[.tree 6 (rowsOf cK (cls.getD k default))]:=by
  exact(Ot cls λo=>([]:List AV)++[AV.tree 6 (rowsOf cK o)]).symm
 rw[e1];refine cX.cp h hk (λk hk v hv=>(by cases hv)) (λk aL l' r' v h5 h6 h7=>?_);exact aj8 h7 λi h8 h9=>hk i G3 G3
def aif{ae:List Pr}{os:List Ob}{a lo hi:Nat}{C:Nat->AV}{e:Nat->AV}{kp:Nat->Prop}(h:FG ae os a lo hi ae.length C)(hk:∀ i,lo<=i->i<=a->¬ kp i):cG ⟨e,os⟩ kp (.tree 4 (rowsOf aQ ae)) (.ref a 4 0 ae.length):=by
 have h4:=h.at_;have e1:rowsOf aQ ae=(aZ ae.length).map λk=>kq (ae.getD k default)++[.tree 1 (ints (ae.getD k default).aD)]:=by
  exact(Ot ae λo=>kq o++[AV.tree 1 (ints o.aD)]).symm
 rw[e1];refine cX.cp h hk (λk hk v hv=>?_) (λk aL l' r' v h5 h6 h7=>?_)
 ·unfold kq at hv;simp only[cu,jQ,or_false]at hv;rcases hv with rfl|rfl|rfl<;>exact⟨_,rfl⟩
 ·exact iM.cp h7 (λi h8 h9=>hk i G3 G3) (oa _)
def Z0(xs:List Int)(h:0<xs.length)(hl:xs.length<549755813888):an Tryz.prog 62 [.tree 1 (ints xs)] [] (.ref 0 1 0 xs.length) [.arr 1 (ints xs)]:=by
 refine an.aC 8 0 [.tmp 2] Tryz.func62 ?_;((repeat'(first|refine Vb @D4 ?_|(refine Xi ?_ ?_<;>try intro ht)|exact Xx|fail)))
 exact Xw false [1] X0
def aaW(xs:List Int)(hl:xs.length<549755813888):an Tryz.prog 62 [.tree 1 (ints xs)] [] (.tree 1 (ints xs)) []:=by
 rcases n7 xs.length with h|h
 ·obtain rfl:=sF h;refine an.empty (pre:=[]) (post:=[]) (λa cap=>?_);rw[dZ];cases a with
  |none =>
   refine an.aC 8 0 [.tmp 2] Tryz.func62 ?_;((repeat'(first|refine Vb @DR.{0} ?_|(refine Xi ?_ ?_<;>try intro ht)|exact Xx|fail)))
   all_goals first|(refine dr [] true Kq trivial Kq Kq ?_;exact aI.nil)|(exfalso;simp at *;done)
  |some ad =>
   refine an.aC 8 0 [.tmp 2] Tryz.func62 ?_;refine xO Kq ?_;intro K hK;simp(disch:=omega)only[Ac,↓Pc,simprocAttr];refine hK _ ?_;clear hK K;refine Wk ?_;intro Q hn he;((refine xO Kq ?_);intro K hK;simp(disch:=omega)only[Ac,↓Pc,simprocAttr,Hb];skip);(refine hK _ ?_;clear hK K)
   refine Ek (t:=false) (by simp only[n8,Lc,↓reduceIte,B0,nq]) (λht=>by simp at ht) (λht=>?_);refine Ej ?_;refine hn _ ?_;(try clear hn;try clear he;try clear Q;clear ht)
   refine bD (ay.H4 0 1 (by(simp only[n8,rT,Rc,↓reduceIte,B0,nq,ev,fc,St.put];exact rfl))) ?_;refine Vb (X3 @k8.{0} @ic.{0} @G2.{0}) ?_;refine dr [] true Kq trivial Kq Kq ?_;exact aI.cp (rows:=[]) rfl G9 rfl (iD Kq) G9
 ·refine an.aC 8 0 [.tmp 2] Tryz.func62 ?_;((repeat'(first|refine Vb @D4 ?_|(refine Xi ?_ ?_<;>try intro ht)|exact Xx|fail)))
  exact Xw true [] X0
def aaX(xs:List Ld)(hl:xs.length<549755813888):an Tryz.prog 66 [.tree 3 (rowsOf iH xs)] [] (.tree 3 (rowsOf iH xs)) []:=by
 rcases n7 xs.length with h|h
 ·obtain rfl:=sF h;refine an.empty (pre:=[]) (post:=[]) (λa cap=>?_);rw[dZ];cases a with
  |none =>
   refine an.aC 8 0 [.tmp 2] Tryz.func66 ?_;((repeat'(first|refine Vb @DR.{0} ?_|(refine Xi ?_ ?_<;>try intro ht)|exact Xx|fail)))
   all_goals first|(refine dr [] true Kq trivial Kq Kq ?_;exact aI.nil)|(exfalso;simp at *;done)
  |some ad =>
   refine an.aC 8 0 [.tmp 2] Tryz.func66 ?_;refine xO Kq ?_;intro K hK;simp(disch:=omega)only[Ac,↓Pc,simprocAttr];refine hK _ ?_;clear hK K;refine Wk ?_;intro Q hn he;((refine xO Kq ?_);intro K hK;simp(disch:=omega)only[Ac,↓Pc,simprocAttr,Hb];skip);(refine hK _ ?_;clear hK K)
   refine Ek (t:=false) (by simp only[n8,Lc,↓reduceIte,B0,nq]) (λht=>by simp at ht) (λht=>?_);refine Ej ?_;refine hn _ ?_;(try clear hn;try clear he;try clear Q;clear ht)
   refine bD (ay.H4 0 3 (by(simp only[n8,rT,Rc,↓reduceIte,B0,nq,ev,fc,St.put];exact rfl))) ?_;refine Vb (X3 @k8.{0} @ic.{0} @G2.{0}) ?_;refine dr [] true Kq trivial Kq Kq ?_;exact aI.cp (rows:=[]) rfl G9 rfl (iD Kq) G9
 ·refine an.aC 8 0 [.tmp 2] Tryz.func66 ?_;((repeat'(first|refine Vb @EG ?_|(refine Xi ?_ ?_<;>try intro ht)|exact Xx|fail)))
  exact Xw true [] X0
def aj9(aH:List Bool)(c:(Int×Int))(h:0<=c.1/\c.1<aH.length):an Tryz.prog 57 [.agg (aK c),.ptr 0 0 0] [.var [.tree 1 (aX aH)]] (.lit (.bool (hU aH c.1))) [.var [.tree 1 (aX aH)]]:=by
 refine an.aC 9 1 [.tmp 3] Tryz.func57 ?_;refine Vb X0 ?_;exact Xw false [0] X0
def aj'(c:(Int×Int)):an Tryz.prog 58 [.agg (aK c)] [] (.agg (aK c)) []:=by
 refine an.aC 4 0 [.cell 2 53] Tryz.func58 ?_;refine Vb X0 ?_;all_goals simp(disch:=omega)only[Ac,↓Pc,simprocAttr]
 exact aE rfl rfl
def aka(aH:List Bool)(l:List (Int×Int))(hl:l.length<1000000)(hr:∀ c∈l,0<=c.1/\c.1<aH.length):
  an Tryz.prog 56 [.tree 2 (rowsOf aK l),.fn 57 [.ptr 0 0 0],.fn 58 []] [.var [.tree 1 (aX aH)]] (.tree 2 (rowsOf aK (l.filter λc=>hU aH c.1))) [.var [.tree 1 (aX aH)]]:=by
 generalize aj:(l.filter λc=>hU aH c.1)=res;refine an.aC 27 1 [.tmp 6] Tryz.func56 ?_;refine Vb X0 ?_;refine aO (λz:Nat×List (Int×Int)=>(⟨au [(1,.fn 57 [.ptr 0 0 0]),(2,.fn 58 []),(7,.ref 1 2 0 z.2.length),(10,.tree 2 (rowsOf aK l)),(11,aaa l.length),(12,aaa z.1)],[.var [.tree 1 (aX aH)],.arr 2 (rowsOf aK z.2)]⟩:St))
  (λz=>z.1<=l.length/\z.2.length<=z.1/\z.2++((l.drop z.1).filter λc=>hU aH c.1)=res) (λz=>l.length-z.1) (0,[]) ⟨aF _,aR _,aj⟩ (by
   refine ay.trans (ay.nil 7 2 (by simp only[Kc,simprocAttr]) Kq) ?_;exact Xv X0) ?_
 rintro⟨k,out⟩⟨hk,ho,cB⟩Ql ak ar;dsimp only at hk ho cB ⊢;by_cases aL:k<l.length
 ·have hd:=cN l k default aL;have bJ:=aB (d:=default) aL;have hc:=hr _ bJ
  skip
  generalize aM:l.getD k default=c at *;rw[hd,z9]at cB;have hp:=aj9 aH c hc;generalize p5:hU aH c.1=kb at *;have vB:=aj' c;((repeat'(first|refine Va @aM ?_|(refine Xi ?_ ?_<;>try intro ht)|exact Xx|fail))<;>try with_reducible intro K hK)
  (refine Xn [0] (hp) ?_;simp(disch:=omega)only[Ac,↓Pc,simprocAttr,aM])
  ((try revert hK K);(repeat'(first|refine Vc @aM vB ?_|(refine Xi ?_ ?_<;>try intro ht)|fail)))
  ·rw[if_pos (by assumption)]at cB;refine ak _ (k+1,out++[c]) ⟨Kw,PX,by rw[<- cB];simp⟩ Kw ?_;have e:=lJ (enc:=aK) out c;simp only[aK]at e;rw[e];exact Xs false [0,4] X0
  ·rw[if_neg (by simp[*])]at cB;exact ak _ (k+1,out) ⟨Kw,Kw,cB⟩ Kw (Xs false [0,1] X0)
 ·((repeat'(first|refine Va X0 ?_|(refine Xi ?_ ?_<;>try intro ht)|exact Xx|fail)))
  rw[cM G3,DX,ic]at cB;refine ar _ _ rfl ?_;clear ak ar Ql;repeat(refine Xu ?_)
  refine Vb X0 ?_;rw[<- cB];exact Xw true [0] X0
def akb(aH:List Bool)(c:Pr)(h:0<=c.bF/\c.bF<aH.length):an Tryz.prog 60 [.agg (aQ c),.ptr 0 0 0] [.var [.tree 1 (aX aH)]] (.lit (.bool (hU aH c.bF))) [.var [.tree 1 (aX aH)]]:=by
 refine an.aC 9 1 [.tmp 3] Tryz.func60 ?_;refine Vb X0 ?_;exact Xw false [0] X0
def akc(c:Pr)(hb:c.aD.length<549755813888):an Tryz.prog 61 [.agg (aQ c)] [] (.agg (aQ c)) []:=by
 refine an.aC 8 0 [.cell 2 71] Tryz.func61 ?_;refine Vd X0 (aaW c.aD hb) ?_;all_goals simp(disch:=omega)only[Ac,↓Pc,simprocAttr]
 exact aE rfl rfl
def akd(aH:List Bool)(l:List Pr)(hl:l.length<1000000)(hr:∀ c∈l,0<=c.bF/\c.bF<aH.length)(hb:∀ c∈l,c.aD.length<549755813888):
  an Tryz.prog 59 [.tree 4 (rowsOf aQ l),.fn 60 [.ptr 0 0 0],.fn 61 []] [.var [.tree 1 (aX aH)]] (.tree 4 (rowsOf aQ (l.filter λc=>hU aH c.bF))) [.var [.tree 1 (aX aH)]]:=by
 generalize aj:(l.filter λc=>hU aH c.bF)=res;refine an.aC 27 1 [.tmp 6] Tryz.func59 ?_;refine Vb X0 ?_;refine aO (λz:Nat×List Pr=>(⟨au [(1,.fn 60 [.ptr 0 0 0]),(2,.fn 61 []),(7,.ref 1 4 0 z.2.length),(10,.tree 4 (rowsOf aQ l)),(11,aaa l.length),(12,aaa z.1)],[.var [.tree 1 (aX aH)],.arr 4 (rowsOf aQ z.2)]⟩:St))
  (λz=>z.1<=l.length/\z.2.length<=z.1/\z.2++((l.drop z.1).filter λc=>hU aH c.bF)=res) (λz=>l.length-z.1) (0,[]) ⟨aF _,aR _,aj⟩ (by
   refine ay.trans (ay.nil 7 4 (by simp only[Kc,simprocAttr]) Kq) ?_;exact Xv X0) ?_
 rintro⟨k,out⟩⟨hk,ho,cB⟩Ql ak ar;dsimp only at hk ho cB ⊢;by_cases aL:k<l.length
 ·have hd:=cN l k default aL;have bJ:=aB (d:=default) aL;have hc:=hr _ bJ;have jr:=hb _ bJ;generalize aM:l.getD k default=c at *;rw[hd,z9]at cB;have hp:=akb aH c hc;generalize p5:hU aH c.bF=kb at *;have vB:=akc c jr;((repeat'(first|refine Va @aM ?_|(refine Xi ?_ ?_<;>try intro ht)|exact Xx|fail))<;>try with_reducible intro K hK)
  (refine Xn [0] (hp) ?_;simp(disch:=omega)only[Ac,↓Pc,simprocAttr,aM])
  ((try revert hK K);(repeat'(first|refine Vc @aM vB ?_|(refine Xi ?_ ?_<;>try intro ht)|fail)))
  ·rw[if_pos (by assumption)]at cB;refine ak _ (k+1,out++[c]) ⟨Kw,PX,by rw[<- cB];simp⟩ Kw ?_;have e:=lJ (enc:=aQ) out c;simp only[aQ]at e;rw[e];exact Xs false [0,4] X0
  ·rw[if_neg (by simp[*])]at cB;exact ak _ (k+1,out) ⟨Kw,Kw,cB⟩ Kw (Xs false [0,1] X0)
 ·((repeat'(first|refine Va X0 ?_|(refine Xi ?_ ?_<;>try intro ht)|exact Xx|fail)))
  rw[cM G3,DX,ic]at cB;refine ar _ _ rfl ?_;clear ak ar Ql;repeat(refine Xu ?_)
  refine Vb X0 ?_;rw[<- cB];exact Xw true [0] X0
def ake(aH:List Bool)(c:Ct)(h:0<=c.bF/\c.bF<aH.length):an Tryz.prog 64 [.agg (aV c),.ptr 0 0 0] [.var [.tree 1 (aX aH)]] (.lit (.bool (hU aH c.bF))) [.var [.tree 1 (aX aH)]]:=by
 refine an.aC 9 1 [.tmp 3] Tryz.func64 ?_;refine Vb X0 ?_;exact Xw false [0] X0
def akf(c:Ct)(hb:c.aJ.length<549755813888):an Tryz.prog 65 [.agg (aV c)] [] (.agg (aV c)) []:=by
 refine an.aC 8 0 [.cell 2 96] Tryz.func65 ?_;refine Vd X0 (aaX c.aJ hb) ?_;all_goals simp(disch:=omega)only[Ac,↓Pc,simprocAttr]
 exact aE rfl rfl
def akg(aH:List Bool)(l:List Ct)(hl:l.length<1000000)(hr:∀ c∈l,0<=c.bF/\c.bF<aH.length)(hb:∀ c∈l,c.aJ.length<549755813888):
  an Tryz.prog 63 [.tree 4 (rowsOf aV l),.fn 64 [.ptr 0 0 0],.fn 65 []] [.var [.tree 1 (aX aH)]] (.tree 4 (rowsOf aV (l.filter λc=>hU aH c.bF))) [.var [.tree 1 (aX aH)]]:=by
 generalize aj:(l.filter λc=>hU aH c.bF)=res;refine an.aC 27 1 [.tmp 6] Tryz.func63 ?_;refine Vb X0 ?_;refine aO (λz:Nat×List Ct=>(⟨au [(1,.fn 64 [.ptr 0 0 0]),(2,.fn 65 []),(7,.ref 1 4 0 z.2.length),(10,.tree 4 (rowsOf aV l)),(11,aaa l.length),(12,aaa z.1)],[.var [.tree 1 (aX aH)],.arr 4 (rowsOf aV z.2)]⟩:St))
  (λz=>z.1<=l.length/\z.2.length<=z.1/\z.2++((l.drop z.1).filter λc=>hU aH c.bF)=res) (λz=>l.length-z.1) (0,[]) ⟨aF _,aR _,aj⟩ (by
   refine ay.trans (ay.nil 7 4 (by simp only[Kc,simprocAttr]) Kq) ?_;exact Xv X0) ?_
 rintro⟨k,out⟩⟨hk,ho,cB⟩Ql ak ar;dsimp only at hk ho cB ⊢;by_cases aL:k<l.length
 ·have hd:=cN l k default aL;have bJ:=aB (d:=default) aL;have hc:=hr _ bJ;have jr:=hb _ bJ;generalize aM:l.getD k default=c at *;rw[hd,z9]at cB;have hp:=ake aH c hc;generalize p5:hU aH c.bF=kb at *;have vB:=akf c jr;((repeat'(first|refine Va @aM ?_|(refine Xi ?_ ?_<;>try intro ht)|exact Xx|fail))<;>try with_reducible intro K hK)
  (refine Xn [0] (hp) ?_;simp(disch:=omega)only[Ac,↓Pc,simprocAttr,aM])
  ((try revert hK K);(repeat'(first|refine Vc @aM vB ?_|(refine Xi ?_ ?_<;>try intro ht)|fail)))
  ·rw[if_pos (by assumption)]at cB;refine ak _ (k+1,out++[c]) ⟨Kw,PX,by rw[<- cB];simp⟩ Kw ?_;have e:=lJ (enc:=aV) out c;simp only[aV]at e;rw[e];exact Xs false [0,4] X0
  ·rw[if_neg (by simp[*])]at cB;exact ak _ (k+1,out) ⟨Kw,Kw,cB⟩ Kw (Xs false [0,1] X0)
 ·((repeat'(first|refine Va X0 ?_|(refine Xi ?_ ?_<;>try intro ht)|exact Xx|fail)))
  rw[cM G3,DX,ic]at cB;refine ar _ _ rfl ?_;clear ak ar Ql;repeat(refine Xu ?_)
  refine Vb X0 ?_;rw[<- cB];exact Xw true [0] X0
def akh:an Tryz.prog 151 [.tree 2 []] [] (.tree 2 []) []:=by
 refine an.empty (pre:=[]) (post:=[]) (λa cap=>?_);rw[dZ];cases a with
 |none =>
  refine an.aC 8 0 [.tmp 2] Tryz.func151 ?_;((repeat'(first|refine Vb @DR.{0} ?_|(refine Xi ?_ ?_<;>try intro ht)|exact Xx|fail)))
  all_goals first|(refine dr [] true Kq trivial Kq Kq ?_;exact aI.nil)|(exfalso;simp at *;done)
 |some ad =>
  refine an.aC 8 0 [.tmp 2] Tryz.func151 ?_;refine xO Kq ?_;intro K hK;simp(disch:=omega)only[Ac,↓Pc,simprocAttr];refine hK _ ?_;clear hK K;refine Wk ?_;intro Q hn he;((refine xO Kq ?_);intro K hK;simp(disch:=omega)only[Ac,↓Pc,simprocAttr,Hb];skip);(refine hK _ ?_;clear hK K)
  refine Ek (t:=false) (by simp only[n8,Lc,↓reduceIte,B0,nq]) (λht=>by simp at ht) (λht=>?_);refine Ej ?_;refine hn _ ?_;(try clear hn;try clear he;try clear Q;clear ht)
  refine bD (ay.H4 0 2 (by(simp only[n8,rT,Rc,↓reduceIte,B0,nq,ev,fc,St.put];exact rfl))) ?_;refine Vb (X3 @k8.{0} @ic.{0} @G2.{0}) ?_;refine dr [] true Kq trivial Kq Kq ?_;exact aI.cp (rows:=[]) rfl G9 rfl (iD Kq) G9
def aki(xs:List (Int×Int))(h:0<xs.length)(hl:xs.length<549755813888):an Tryz.prog 151 [.tree 2 (rowsOf aK xs)] [] (.ref 0 2 0 xs.length) [.arr 2 (rowsOf aK xs)]:=by
 refine an.aC 8 0 [.tmp 2] Tryz.func151 ?_;((repeat'(first|refine Vb @EG ?_|(refine Xi ?_ ?_<;>try intro ht)|exact Xx|fail)))
 exact Xw false [1] X0
end T

