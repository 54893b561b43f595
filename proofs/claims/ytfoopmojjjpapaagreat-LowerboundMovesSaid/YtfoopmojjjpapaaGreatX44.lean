import Derived.Test.YtfoopmojjjpapaaGreatX41
import Derived.Test.YtfoopmojjjpapaaGreatX43
set_option linter.all false
set_option maxHeartbeats 0
set_option maxRecDepth 20000
open List renaming mem_cons→bj,flatMap_append→tN,all_eq_true→gH,mem_singleton→cU,contains_iff_mem→uY,mem_flatMap→N6,mem_reverse→AP,getD_cons_zero→im,getD_cons_succ→fM
open Int renaming le_refl→nt,le_trans→N5,toNat_natCast→ep
open Nat renaming le_refl→bb,zero_le→aT
open Bool renaming eq_false_iff→Cs
open Go Go.Am Go.Proofs
namespace T
def jo(m:ah)(P:List Nd)(b:Int)(s:eA):Int×Bool :=
 if(nd P s.1).cls≠-1 then(b,true)
 else if 0<(nd P s.1).bh.length then(b,pB m (nd P s.1) s.2.1)
 else(min b (iO m s.2.1 (nd P s.1).ew).1,(iO m s.2.1 (nd P s.1).ew).2==0)
def th(m:ah)(P:List Nd):Int×Bool:=if(rH m P (jo m P) 1099511627776).2=true then((rH m P (jo m P) 1099511627776).1,true) else(0,false)
def agD(m:ah)(P:List Nd)(hP:PB P)(hm:VM m)(b:Int)(s:eA)(hs:z8 m P s):
  Holds Tryz.prog 66 [.agg [N0 s.1,.tree 1 (rowsOf aA s.2.1)],.ptr 1 0 0,.ptr 0 0 0,.ptr 2 0 0] [.var (ao m),.var (cJ P),.var [N0 b]] (.lit (.bool (jo m P b s).2)) [.var (ao m),.var (cJ P),.var [N0 (jo m P b s).1]]:=by
 obtain⟨i,left,ab⟩:=s;have hi:i<P.length:=hs.1;have hf:df m left:=hs.2.1;have z':=hP.Kx;have bU:P.getD i default=nd P i:=rfl;have cH:=aG (l:=P) (i:=i) (d:=default) hi;have b2:=hP.ew _ cH;have b3:=hP.bh _ cH;have b4:=hP.cells _ cH;have b5:=hP.cell _ cH;generalize au:jo m P b (i,left,ab)=res;unfold jo at au;rw[bU]at b2 b3 b4 b5;dsimp only at au;have vp:=agE m (nd P i) left hm hf b3 b4 b5;have GX:=XZ m left (nd P i).ew hm hf b2;generalize pB m (nd P i) left=cw at *;generalize iO m left (nd P i).ew=lt at *;generalize cW:nd P i=x at *;obtain⟨c,kids,ew,bh,cells⟩:=x;obtain⟨v,e⟩:=lt;dsimp only at *;refine Holds.aK 41 3 [.tmp 5] Tryz.func66 ?_;by_cases hc:c = -1;rotate_left
 ·rw[if_pos hc]at au;((repeat'(first|refine Vb (X3 @cJ.eq_1 @bU @bz.eq_1) ?_|(refine Xi ?_ ?_<;>try intro ht)|exact Xx|fail)))
  subst au;exact Xw false [0,1,2] @cJ.eq_1
 rw[if_neg Ix]at au;by_cases hg:0<bh.length
 ·rw[if_pos hg]at au;((repeat'(first|refine Vd (X3 @cJ.eq_1 @bU @bz.eq_1) vp ?_|(refine Xi ?_ ?_<;>try intro ht)|exact Xx|fail)))
  subst au;exact Xw false [0,1,2] @cJ.eq_1
 rw[if_neg hg]at au;((repeat'(first|refine Vd (X3 @cJ.eq_1 @bU @bz.eq_1) GX ?_|(refine Xi ?_ ?_<;>try intro ht)|exact Xx|fail)))
 subst au;exact Xw false [0,1,2] @cJ.eq_1
def X1(m:ah)(P:List Nd)(hm:MB m)(hP:PB P):Holds Tryz.prog 35 [.agg (ao m),.agg (cJ P)] [] (.bu [N0 (th m P).1,.lit (.bool (th m P).2)]) []:=by
 have hw:=agF m P hm hP (λ_=>.var (ao m)) (λ_=>.var (cJ P)) (λb:Int=>.var [N0 b]) [.ptr 1 0 0,.ptr 0 0 0,.ptr 2 0 0] 66 (jo m P) (Inv:=λ_ _=>True)
  ⟨λρ h0 h1 h2 a=>⟨rfl,rfl,rfl⟩,λρ h0 h1 h2 v hv=>by
   simp only[bj,List.not_mem_nil,or_false]at hv;rcases hv with rfl|rfl|rfl<;>simp only[bf,h0,h1,h2],λ_ _ _ _ _=>trivial,λcB a s _ hs _=>agD m P hP cB a s hs⟩ 1099511627776 (λ_ _=>trivial)
 generalize au:th m P=res;unfold th at au;generalize rH m P (jo m P) 1099511627776=r at *;obtain⟨b,ok⟩:=r;dsimp only at hw au;refine Holds.aK 15 0 [.tmp 4,.tmp 5] Tryz.func35 ?_;((refine Vb @cJ.eq_1 ?_)<;>try with_reducible intro K hK)
 refine fF hw Iy ?_;cases ok
 ·rw[if_neg Iy]at au;((try revert hK K);(repeat'(first|refine Vb @Bool.not_false ?_|(refine Xi ?_ ?_<;>try intro ht)|exact Xx|fail)))
  subst au;exact aS rfl rfl
 ·rw[if_pos rfl]at au;((try revert hK K);(repeat'(first|refine Vb @Bool.not_true ?_|(refine Xi ?_ ?_<;>try intro ht)|exact Xx|fail)))
  subst au;exact aS rfl rfl
def X6{α:Type}{P:List Nd}{step:α->eA->α×Bool}:∀ {L:List eA} {a r:α},kT P step L a=(r,true)->∀ (J:α->Prop) (R:α->α->Prop),(∀ x,R x x)->(∀ x y z,R x y->R y z->R x z)->(∀ s∈L,∀ x,(step x s).2=true->R x (step x s).1) ->
  ∀ s∈L,s.2.2.contains (nd P s.1).cls=false/\∃ x,(step x s).2=true/\R (step x s).1 r
 |[],a,r,h,J,R,h1,h2,h3,s,hs=>by simp at hs
 |t::L,a,r,h,J,R,h1,h2,h3,s,hs=>by
  rw[kT]at h;split at h
  ·cases h
  ·rename_i hc;split at h
   ·rename_i kZ;have ih:=X6 h J R h1 h2 (λu hu=>h3 u (by simp[hu]));rcases bj.1 hs with e|hs
    ·subst e;refine⟨by simpa using hc,a,kZ,?_⟩;have mono:∀ (L:List eA) (x y:α),(∀ u∈L,∀ x,(step x u).2=true->R x (step x u).1)->kT P step L x=(y,true)->R x y:=by
      intro L
      induction L with
      |nil=>intro x y _ h;rw[kT]at h;cases h;exact h1 _
      |cons u L DO =>
       intro x y hm h;rw[kT]at h;split at h
       ·cases h
       ·split at h
        ·rename_i hu;exact h2 _ _ _ (hm u Iy x hu) (DO _ _ (λv hv=>hm v (by simp[hv])) h)
        ·cases h
     exact mono L _ _ (λu hu=>h3 u (by simp[hu])) h
    ·exact ih s hs
   ·cases h
def agB{m:ah}{P:List Nd}{n:Int}(h:th m P=(n,true)):VM m/\lY m P=true/\kT P (jo m P) (vs P (root m)) 1099511627776=(n,true):=by
 unfold th rH at h;by_cases h2:jO m=0/\lY m P=true
 ·rw[if_pos h2]at h;split at h
  ·rename_i h1;refine⟨rA.1 h2.1,h2.2,?_⟩;have e:(kT P (jo m P) (vs P (root m)) 1099511627776).1=n:=congrArg Prod.fst h;exact Prod.ext e h1
  ·cases h
 ·rw[if_neg h2]at h;split at h
  ·rename_i h1;cases h1
  ·cases h
def X7{m:ah}{P:List Nd}(b:Int)(s:eA):(jo m P b s).1<=b:=by
 unfold jo;split
 ·exact nt _
 split
 ·exact nt _
 ·exact Int.min_le_left ..
def agC{m:ah}{P:List Nd}{n:Int}(h:kT P (jo m P) (vs P (root m)) 1099511627776=(n,true)):n<=1099511627776/\∀ s∈vs P (root m),s.2.2.contains (nd P s.1).cls=false/\((nd P s.1).cls = -1->if 0<(nd P s.1).bh.length then pB m (nd P s.1) s.2.1=true else n<=(iO m s.2.1 (nd P s.1).ew).1/\(iO m s.2.1 (nd P s.1).ew).2=0):=by
 have agG:∀ (L:List eA) (a r:Int),kT P (jo m P) L a=(r,true)->r<=a:=by
  intro L
  induction L with
  |nil=>intro a r h;rw[kT]at h;cases h;exact nt _
  |cons s L ih =>
   intro a r h;rw[kT]at h;split at h
   ·cases h
   ·split at h
    ·exact N5 (ih _ _ h) (X7 a s)
    ·cases h
 refine⟨agG _ _ _ h,λs hs=>?_⟩;obtain⟨h1,x,h2,h3⟩:=X6 h (λ_=>True) (λx y=>y<=x) (λx=>nt _) (λx y z h1 h2=>N5 h2 h1) (λs _ x _=>X7 x s) s hs;refine⟨h1,λhc=>?_⟩;unfold jo at h2 h3;rw[if_neg Ix]at h2 h3;split
 ·rename_i hg;rw[if_pos hg]at h2;exact h2
 ·rename_i hg;rw[if_neg hg]at h2 h3;dsimp only at h2 h3;exact⟨Ix,by simpa using h2⟩
def agH{m:ah}{P:List Nd}(hm:VM m)(hs:lY m P=true)(h:∀ s∈vs P (root m),s.2.2.contains (nd P s.1).cls=false/\((nd P s.1).cls = -1->(nd P s.1).bh.length=0/\(iO m s.2.1 (nd P s.1).ew).2=0)):
  ∃ n,th m P=(n,true)/\∀ a,a<=1099511627776->(∀ s∈vs P (root m),(nd P s.1).cls = -1->a<=(iO m s.2.1 (nd P s.1).ew).1)->a<=n:=by
 have key:∀ (L:List eA) (b:Int),(∀ s∈L,s.2.2.contains (nd P s.1).cls=false/\((nd P s.1).cls = -1->(nd P s.1).bh.length=0/\(iO m s.2.1 (nd P s.1).ew).2=0)) ->
   (kT P (jo m P) L b).2=true/\∀ a,a<=b->(∀ s∈L,(nd P s.1).cls = -1->a<=(iO m s.2.1 (nd P s.1).ew).1)->a<=(kT P (jo m P) L b).1:=by
  intro L
  induction L with
  |nil=>intro b _;exact⟨rfl,λa h _=>h⟩
  |cons s L ih =>
   intro b h;obtain⟨h1,h2⟩:=h s Iy;have xj:(jo m P b s).2=true:=by
    unfold jo;by_cases hc:(nd P s.1).cls = -1
    ·rw[if_neg Ix,if_neg (by have:=(h2 hc).1;omega)];simp[(h2 hc).2]
    ·rw[if_pos hc]
   rw[kT,h1,if_neg Iy,if_pos xj];obtain⟨i1,i2⟩:=ih (jo m P b s).1 λt ht=>h t (by simp[ht]);refine⟨i1,λa ha hl=>i2 a ?_ λt ht=>hl t (by simp[ht])⟩;unfold jo;by_cases hc:(nd P s.1).cls = -1
   ·rw[if_neg Ix,if_neg (by have:=(h2 hc).1;omega)];have:=hl s Iy hc;show a<=min _ _;omega
   ·rw[if_pos hc];exact ha
 obtain⟨k1,k2⟩:=key (vs P (root m)) 1099511627776 h;refine⟨(kT P (jo m P) (vs P (root m)) 1099511627776).1,?_,k2⟩;have hw:rH m P (jo m P) 1099511627776=kT P (jo m P) (vs P (root m)) 1099511627776:=if_pos ⟨rA.2 hm,hs⟩;unfold th;rw[hw,if_pos k1]
def K4(l:List Mv):Nd:=⟨-1,[],l,[],[]⟩
def K7{P:List Nd}(hd:Down P){s:eA}(hs:s.1<P.length)(hk:(nd P s.1).kids=[]):vs P s=[s]:=by
 rw[DN hd hs];unfold tg iZ;rw[hk];rfl
def XX{m:ah}(left:List (List Bool)):iO m left []=(lq m left (S0 m,T0 m),0):=rfl
mutual
inductive ku(m:ah)(P:List Nd)(Q:List Int->Prop):Nat->Nat->List Int->Prop
 |leaf (lo:Nat) (ab:List Int) (l:List Mv) (h:nd P lo=K4 l) (hl:l.length<=2000) (hv:∀ x∈l,iC m x=true) (ha:(-1:Int) ∉ ab) (hq:Q ab):ku m P Q lo (lo+1) ab
 |node (lo hi:Nat) (ab:List Int) (c:Nat) (ks:List Int) (h:nd P lo=⟨c,ks,[],[],[]⟩) (hc:c<m.cls.length) (ha:(c:Int) ∉ ab) (hk:ks.length=(m.cls.getD c default).length) (hs:kv m P Q (lo+1) hi (ab++[(c:Int)]) ks):ku m P Q lo hi ab
inductive kv(m:ah)(P:List Nd)(Q:List Int->Prop):Nat->Nat->List Int->List Int->Prop
 |nil (lo:Nat) (ab:List Int):kv m P Q lo lo ab []
 |cons (lo mid hi:Nat) (ab:List Int) (ks:List Int) (h:ku m P Q lo mid ab) (hs:kv m P Q mid hi ab ks):kv m P Q lo hi ab ((lo:Int)::ks)
end
def kv.snoc{m:ah}{P:List Nd}{Q:List Int->Prop}{mid hi:Nat}{ab:List Int}(h2:ku m P Q mid hi ab):∀ {ks:List Int} {lo:Nat},kv m P Q lo mid ab ks->kv m P Q lo hi ab (ks++[(mid:Int)])
 |[],lo,h=>by
  cases h;exact .cons _ _ _ _ _ h2 (.nil _ _)
 |k::ks,lo,h=>by
  cases h with
  |cons _ agA _ _ _ h1 hs=>exact .cons _ _ _ _ _ h1 (kv.snoc h2 hs)
mutual
def ku.lt{m:ah}{P:List Nd}{Q:List Int->Prop}{lo hi:Nat}{ab:List Int}:ku m P Q lo hi ab->lo<hi
 |.leaf _ _ _ _ _ _ _ _=>Nat.lt_succ_self _
 |.node _ _ _ _ _ _ _ _ _ hs=>by have:=hs.le;omega
def kv.le{m:ah}{P:List Nd}{Q:List Int->Prop}{lo hi:Nat}{ab ks:List Int}:kv m P Q lo hi ab ks->lo<=hi
 |.nil _ _=>bb _
 |.cons _ _ _ _ _ h hs=>by have:=h.lt;have:=hs.le;omega
end
def tq(P:List Nd)(lo hi:Nat):List Int:=(List.range' lo (hi-lo)).flatMap λi=>(nd P i).kids
def X8(P:List Nd){lo mid hi:Nat}(h1:lo<=mid)(h2:mid<=hi):tq P lo hi=tq P lo mid++tq P mid hi:=by
 unfold tq;rw[<- tN];congr 1;have:=List.range'_append (s:=lo) (m:=mid-lo) (n:=hi-mid) (step:=1);simp only[Nat.one_mul]at this;rw[show lo+(mid-lo)=mid by omega,show mid-lo+(hi-mid)=hi-lo by omega]at this;exact this.symm
def X9(P:List Nd)(lo:Nat):tq P lo (lo+1)=(nd P lo).kids:=by
 unfold tq;rw[show lo+1-lo=1 by omega];simp
def agI(P:List Nd)(lo:Nat):tq P lo lo=[]:=by unfold tq;rw[Nat.sub_self];rfl
mutual
def ku.count{m:ah}{P:List Nd}{Q:List Int->Prop}{lo hi:Nat}{ab:List Int}:ku m P Q lo hi ab->∀ j:Nat,(tq P lo hi).count (j:Int)=if lo<j/\j<hi then 1 else 0
 |.leaf lo _ l h _ _ _ _,j=>by
  rw[X9,h,if_neg Ix];rfl
 |.node lo hi _ c ks h _ _ _ hs,j=>by
  have hle:=hs.le;rw[X8 P (Nat.le_succ lo) hle,X9,h,List.count_append];have:=hs.count j;dsimp only;rw[this];by_cases h1:lo<j/\j<hi
  ·rw[if_pos Ix,if_pos h1]
  ·rw[if_neg Ix,if_neg h1]
def kv.count{m:ah}{P:List Nd}{Q:List Int->Prop}{lo hi:Nat}{ab ks:List Int}:kv m P Q lo hi ab ks->∀ j:Nat,ks.count (j:Int)+(tq P lo hi).count (j:Int)=if lo<=j/\j<hi then 1 else 0
 |.nil lo _,j=>by rw[agI,if_neg Ix];rfl
 |.cons lo mid hi _ ks h hs,j=>by
  have a6:=h.lt;have hle:=hs.le;rw[X8 P (Nat.le_of_lt a6) hle,List.count_append,List.count_cons];have h1:=h.count j;have h2:=hs.count j;have hb:((lo:Int)==(j:Int))=decide (lo=j):=by rw[Bool.eq_iff_iff,beq_iff_eq,decide_eq_true_eq];omega
  rw[h1,hb];by_cases e:lo=j
  ·subst e;rw[if_neg Ix]at h2;simp only[decide_true,if_true];rw[if_neg Ix,if_pos Ix];omega
  ·simp only[decide_eq_false e,Bool.false_eq_true,if_false];by_cases h3:lo<j/\j<mid
   ·rw[if_pos h3,if_pos Ix];rw[if_neg Ix]at h2;omega
   ·rw[if_neg h3];by_cases h4:mid<=j/\j<hi
    ·rw[if_pos h4]at h2;rw[if_pos Ix];omega
    ·rw[if_neg h4]at h2;rw[if_neg Ix];omega
end
mutual
def ku.DP{m:ah}{P:List Nd}{Q:List Int->Prop}{lo hi:Nat}{ab:List Int}:ku m P Q lo hi ab->∀ i,lo<=i->i<hi->rC m (nd P i)=true/\∀ k∈(nd P i).kids,(i:Int)<k/\k<hi
 |.leaf lo _ l h _ _ _ _,i,h1,h2=>by
  obtain rfl:i=lo:=Ix;rw[h];exact⟨rfl,λk hk=>by cases hk⟩
 |.node lo hi _ c ks h hc _ hk hs,i,h1,h2=>by
  by_cases e:i=lo
  ·subst e;rw[h];refine⟨?_,λk kx=>?_⟩
   ·unfold rC;rw[if_neg (by show ¬((c:Int) = -1);omega),decide_eq_true_eq];exact⟨by show(0:Int)<=c;omega,by show(c:Int)<_;omega,by show ks.length=_;rw[ep];exact hk,rfl,rfl,rfl⟩
   ·have:=hs.X' k kx;omega
  ·exact hs.DP i Ix h2
def kv.DP{m:ah}{P:List Nd}{Q:List Int->Prop}{lo hi:Nat}{ab ks:List Int}:kv m P Q lo hi ab ks->∀ i,lo<=i->i<hi->rC m (nd P i)=true/\∀ k∈(nd P i).kids,(i:Int)<k/\k<hi
 |.nil lo _,i,h1,h2=>Ix
 |.cons lo mid hi _ ks h hs,i,h1,h2=>by
  have hle:=hs.le;by_cases e:i<mid
  ·obtain⟨a,b⟩:=h.DP i h1 e;exact⟨a,λk hk=>by have:=b k hk;omega⟩
  ·exact hs.DP i Ix h2
def kv.X'{m:ah}{P:List Nd}{Q:List Int->Prop}{lo hi:Nat}{ab ks:List Int}:kv m P Q lo hi ab ks->∀ k∈ks,(lo:Int)<=k/\k<hi
 |.nil lo _,k,hk=>by cases hk
 |.cons lo mid hi _ ks h hs,k,hk=>by
  have a6:=h.lt;have hle:=hs.le;rcases bj.1 hk with rfl|hk
  ·omega
  ·have:=hs.X' k hk;omega
end
mutual
def ku.flat{m:ah}{P:List Nd}{Q:List Int->Prop}{lo hi:Nat}{ab:List Int}:ku m P Q lo hi ab->∀ i,lo<=i->i<hi->(nd P i).ew.length<=2000/\(nd P i).bh=[]/\(nd P i).cells=[]
 |.leaf lo _ l h hl _ _ _,i,h1,h2=>by
  obtain rfl:i=lo:=Ix;rw[h];exact⟨hl,rfl,rfl⟩
 |.node lo hi _ c ks h hc _ hk hs,i,h1,h2=>by
  by_cases e:i=lo
  ·subst e;rw[h];exact⟨aT _,rfl,rfl⟩
  ·exact hs.flat i Ix h2
def kv.flat{m:ah}{P:List Nd}{Q:List Int->Prop}{lo hi:Nat}{ab ks:List Int}:kv m P Q lo hi ab ks->∀ i,lo<=i->i<hi->(nd P i).ew.length<=2000/\(nd P i).bh=[]/\(nd P i).cells=[]
 |.nil lo _,i,h1,h2=>Ix
 |.cons lo mid hi _ ks h hs,i,h1,h2=>by
  have hle:=hs.le;by_cases e:i<mid
  ·exact h.flat i h1 e
  ·exact hs.flat i Ix h2
end
def agJ(P:List Nd):tq P 0 P.length=jC P:=by
 unfold tq jC;rw[Nat.sub_zero,<- List.range_eq_range'];have:∀ n,n<=P.length->(List.range n).flatMap (λi=>(nd P i).kids)=(P.take n).flatMap (·.kids):=by
  intro n
  induction n with
  |zero=>intro _;rfl
  |succ n ih =>
   intro hn;rw[List.range_succ,tN,ih Ix,eZ Ix,tN,List.flatMap_singleton,List.flatMap_singleton];rfl
 rw[this P.length (bb _),List.take_length]
def ku.shaped{m:ah}{P:List Nd}{Q:List Int->Prop}(h:ku m P Q 0 P.length [])(hn:P.length<=20000):lY m P=true:=by
 have a6:=h.lt;rw[Wh ⟨a6,hn⟩ (λi hi=>by
  obtain⟨a,b⟩:=h.DP i (aT _) hi;show mz m P.length i (nd P i)=true;unfold mz;rw[a,Bool.true_and,gH];intro k hk;have:=b k hk;unfold uC;rw[decide_eq_true_eq];exact this)]
 rw[Bool.not_eq_true',List.any_eq_false];intro x hx;unfold jQ at hx;rw[<- List.map_drop]at hx;obtain⟨j,hj,rfl⟩:=List.mem_map.1 hx;have zy:1<=j/\j<P.length:=by
  obtain⟨i,hi,rfl⟩:=List.getElem_of_mem hj;rw[List.length_drop,List.length_range]at hi;rw[List.getElem_drop,List.getElem_range];omega
 have hc:=h.count j;rw[agJ,if_pos Ix]at hc;rw[hc];decide
def agK{m:ah}{left:List (List Bool)}{l:List Mv}(hl:l.length<=2000)(hv:∀ x∈l,iC m x=true):iO m left l=(lq m left (iF m l (S0 m,T0 m)),0):=by
 unfold iO;rw[if_neg Ix,if_neg (by rw[gH.2 hv];simp)]
mutual
def ku.DQ{m:ah}{P:List Nd}{Q:List Int->Prop}(hd:Down P){lo hi:Nat}{ab:List Int}:ku m P Q lo hi ab->hi<=P.length->∀ left,∀ t∈vs P (lo,left,ab),t.2.2.contains (nd P t.1).cls=false/\((nd P t.1).cls = -1->(nd P t.1).bh.length=0/\(iO m t.2.1 (nd P t.1).ew).2=0)
 |.leaf lo ab l h hl hv ha _,hh,left,t,ht=>by
  rw[K7 hd (by show lo<_;omega) (by show(nd P lo).kids=[];rw[h];rfl),cU]at ht;subst ht;dsimp only;rw[h];refine⟨?_,λ_=>⟨rfl,by show(iO m left l).2=0;rw[agK hl hv]⟩⟩;show ab.contains (-1)=false;rw[Cs];intro hc;exact ha (uY.1 hc)
 |.node lo hi ab c ks h hc ha hk hs,hh,left,t,ht=>by
  have hle:=hs.le;rw[DN hd (by show lo<_;omega),bj]at ht;rcases ht with rfl|ht
  ·dsimp only;rw[h];refine⟨?_,λh2=>absurd (show(c:Int) = -1 from h2) Ix⟩;rw[Cs];intro hc;exact ha (uY.1 hc)
  ·obtain⟨u,hu,ht⟩:=N6.1 ht;obtain⟨o,ho,rfl⟩:=z7 (AP.1 hu);dsimp only at ho;have yD:oJ P (lo,left,ab) o=((ks.getD o 0).toNat,nL left c o,ab++[(c:Int)]):=by
    unfold oJ;dsimp only;rw[h];rfl
   rw[yD]at ht;rw[h]at ho;exact hs.DQ hd hh o ho _ t ht
def kv.DQ{m:ah}{P:List Nd}{Q:List Int->Prop}(hd:Down P){lo hi:Nat}{ab ks:List Int}:kv m P Q lo hi ab ks->hi<=P.length->∀ o,o<ks.length->∀ left,∀ t∈vs P ((ks.getD o 0).toNat,left,ab),t.2.2.contains (nd P t.1).cls=false/\((nd P t.1).cls = -1->(nd P t.1).bh.length=0/\(iO m t.2.1 (nd P t.1).ew).2=0)
 |.nil _ _,_,o,ho,_,_,_=>by cases ho
 |.cons lo mid hi ab ks h hs,hh,o,ho,left,t,ht=>by
  have hle:=hs.le;cases o with
  |zero =>
   rw[im,ep]at ht;exact h.DQ hd Ix left t ht
  |succ o =>
   rw[fM]at ht;exact hs.DQ hd hh o (by simpa using ho) left t ht
end
mutual
def ku.leaves{m:ah}{P:List Nd}{Q:List Int->Prop}(hd:Down P){lo hi:Nat}{ab:List Int}:ku m P Q lo hi ab->hi<=P.length->∀ left,∀ t∈vs P (lo,left,ab),(nd P t.1).cls = -1->Q t.2.2
 |.leaf lo ab l h hl hv ha hq,hh,left,t,ht,_=>by
  rw[K7 hd (by show lo<_;omega) (by show(nd P lo).kids=[];rw[h];rfl),cU]at ht;subst ht;exact hq
 |.node lo hi ab c ks h hc ha hk hs,hh,left,t,ht,bG=>by
  have hle:=hs.le;rw[DN hd (by show lo<_;omega),bj]at ht;rcases ht with rfl|ht
  ·dsimp only at bG;rw[h]at bG;exact absurd (show(c:Int) = -1 from bG) Ix
  ·obtain⟨u,hu,ht⟩:=N6.1 ht;obtain⟨o,ho,rfl⟩:=z7 (AP.1 hu);dsimp only at ho;have yD:oJ P (lo,left,ab) o=((ks.getD o 0).toNat,nL left c o,ab++[(c:Int)]):=by
    unfold oJ;dsimp only;rw[h];rfl
   rw[yD]at ht;rw[h]at ho;exact hs.leaves hd hh o ho _ t ht bG
def kv.leaves{m:ah}{P:List Nd}{Q:List Int->Prop}(hd:Down P){lo hi:Nat}{ab ks:List Int}:kv m P Q lo hi ab ks->hi<=P.length->∀ o,o<ks.length->∀ left,∀ t∈vs P ((ks.getD o 0).toNat,left,ab),(nd P t.1).cls = -1->Q t.2.2
 |.nil _ _,_,o,ho,_,_,_,_=>by cases ho
 |.cons lo mid hi ab ks h hs,hh,o,ho,left,t,ht,bG=>by
  have hle:=hs.le;cases o with
  |zero =>
   rw[im,ep]at ht;exact h.leaves hd Ix left t ht bG
  |succ o =>
   rw[fM]at ht;exact hs.leaves hd hh o (by simpa using ho) left t ht bG
end
def ku.eR{m:ah}{P:List Nd}{Q:List Int->Prop}(hm:VM m)(h:ku m P Q 0 P.length [])(hn:P.length<=20000):∃n,th m P=(n,true)/\∀ a,a<=1099511627776->(∀ s∈vs P (root m),(nd P s.1).cls = -1->a<=(iO m s.2.1 (nd P s.1).ew).1)->a<=n:=by
 have hs:=h.shaped hn;exact agH hm hs λs kZ=>h.DQ (K8 hs) (bb _) (eS m) s kZ
end T

