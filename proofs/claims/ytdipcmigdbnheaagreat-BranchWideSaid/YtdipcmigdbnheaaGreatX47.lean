import Derived.Test.YtdipcmigdbnheaaGreatX46
import Derived.Test.YtdipcmigdbnheaaGreatX13
import Derived.Test.YtdipcmigdbnheaaGreatX28
import Derived.Test.YtdipcmigdbnheaaGreatX45
import Derived.Test.YtdipcmigdbnheaaGreatX29
set_option linter.unusedVariables false
set_option linter.unusedSimpArgs false
set_option linter.unnecessarySimpa false
set_option linter.unusedSectionVars false
set_option maxHeartbeats 64000000
set_option maxRecDepth 20000
open List renaming getElem?_map→bR,getElem?_range→jT,set_append_right→uM,getD_eq_getElem?_getD→ay,getElem?_append_right→fA,getElem?_eq_some_iff→aY,set_set→r8,getElem?_set_self→D9,getElem?_set_ne→cz,length_set→bF,replicate→aW,length_append→bU,replicate_succ→vY,set_cons_zero→mY,map_append→eT,append_assoc→dj,getElem?_replicate→rW,drop_eq_nil_of_le→b6,length_map→eD,length_take→eX,getElem?_eq_getElem→bm,take_of_length_le→dN,append_nil→oe,getElem?_append_left→dH
open Nat renaming le_refl→aV,sub_self→iz,sub_zero→rV,zero_le→aH
open Int renaming le_refl→c9
open Go Go.Am Go.Proofs
open Nat (reduceEqDiff reduceAdd reduceLeDiff reduceMul)
open Int (reduceNeg reduceLE reduceToNat)
namespace T
def tl (l:List Int):List (List Int × AV):=l.map fun k=>([k],AV.lit (.bool true))
def mR (b0 n:Nat):List (List AV):=(List.range n).map fun i=>[AV.fL (b0+i)]
theorem KZ {b0 n i:Nat} (h:i<n):(mR b0 n)[i]?=some [.fL (b0+i)]:=by unfold mR;rw[bR,jT h];rfl
theorem zo (b0 n:Nat):(mR b0 n).length=n:=by unfold mR;simp
theorem XQ (l:List Int) (u v:AV) (L:List (List Int × AV)):nI (tB l L) v (Am.dY l u L)=Am.dY l v L:=by
  unfold nI tB Am.dY
  cases h:gI l L 0 with
  | none =>
    rw[Option.getD_none]
    dsimp only
    rw[uM _ _ (aV _),iz,ay,fA (aV _),iz]
    rfl
  | some q =>
    obtain ⟨_,w,hw⟩:=u5 h
    rw[rV] at hw
    have hq:=(aY.1 hw).1
    rw[Option.getD_some]
    dsimp only
    rw[r8,ay,D9 hq]
    rfl
theorem K3 (l:List Int) (u:AV) (L:List (List Int × AV)):tB l L<(Am.dY l u L).length:=by
  unfold tB Am.dY
  cases h:gI l L 0 with
  | none=>simp
  | some q =>
    obtain ⟨_,w,hw⟩:=u5 h
    rw[rV] at hw
    have hq:=(aY.1 hw).1
    simpa using hq
theorem XR (k:Int):∀ (l:List Int) (i:Nat),(k ∉ l→gI [k] (tl l) i=none)∧(k∈l→∃ q,gI [k] (tl l) i=some (i+q)∧l[q]?=some k)
  | [],i=>⟨fun _=>rfl,fun h=>by cases h⟩
  | x::r,i=>by
    obtain ⟨h1,h2⟩:=XR k r (i+1)
    show (k ∉ x::r→(if [x]=[k] then some i else gI [k] (tl r) (i+1))=none)∧(k∈x::r→∃ q,(if [x]=[k] then some i else gI [k] (tl r) (i+1))=some (i+q)∧(x::r)[q]?=some k)
    by_cases hx:x=k
    · subst hx
      exact⟨fun h=>absurd (by simp) h,fun _=>⟨0,by simp,rfl⟩⟩
    · rw[if_neg (by simpa using hx)]
      refine⟨fun h=>h1 (fun hh=>h (by simp[hh])),fun h=>?_⟩
      obtain ⟨q,h3,h4⟩:=h2 (by rcases List.mem_cons.1 h with h | h;exact absurd h.symm hx;exact h)
      exact⟨q+1,by rw[h3];congr 1;omega,h4⟩
theorem XS (k:Int) (l:List Int):Am.dY [k] (.lit (.bool true)) (tl l)=tl (qm l k):=by
  obtain ⟨h1,h2⟩:=XR k l 0
  unfold Am.dY qm
  by_cases h:k∈l
  · obtain ⟨q,h3,h4⟩:=h2 h
    rw[h3,if_pos h]
    dsimp only
    rw[Nat.zero_add]
    apply List.ext_getElem?
    intro j
    rw[List.getElem?_set]
    unfold tl
    by_cases hj:q=j
    · subst hj
      obtain ⟨h5,h6⟩:=aY.1 h4
      simp[h6,h5]
    · rw[if_neg hj]
  · rw[h1 h,if_neg h]
    unfold tl
    simp
def vO (l:List Int):Ob:=.mp 0 (tl l)
def jO (b0:Nat) (bx:List (List Int)) (a b:Int) (os:List Ob):List Ob :=
  if a=b then os else (os.set (b0+a.toNat) (vO (qm (bx.getD a.toNat []) b))).set (b0+b.toNat) (vO (qm (bx.getD b.toNat []) a))
structure mU (b0 h ar n:Nat) (bx:List (List Int)) (os:List Ob):Prop where
  v:os[h]?=some (.var [.ref ar 1 0 n])
  a:os[ar]?=some (.arr 1 (mR b0 n))
  len:bx.length=n
  mp:∀ i,i<n→os[b0+i]?=some (vO (bx.getD i []))
theorem mU.app {b0 h ar n:Nat} {bx:List (List Int)} {os:List Ob} (k:mU b0 h ar n bx os) (l:List Ob):mU b0 h ar n bx (os++l):=⟨bz k.v l,bz k.a l,k.len,fun i hi=>bz (k.mp i hi) l⟩
theorem mU.ne {b0 h ar n:Nat} {bx:List (List Int)} {os:List Ob} (k:mU b0 h ar n bx os) {i:Nat} (hi:i<n):b0+i≠h∧b0+i≠ar:=by
  have:=k.mp i hi
  unfold vO at this
  exact⟨fun e=>(by rw[e,k.v] at this;simp at this),fun e=>(by rw[e,k.a] at this;simp at this)⟩
theorem XT {s:List (List Int)} {i k:Nat} (x:List Int) (hi:i<s.length):(s.set i x).getD k []=if i=k then x else s.getD k []:=ug s i k x [] hi
theorem mU.put {b0 h ar n:Nat} {bx:List (List Int)} {os:List Ob} (k:mU b0 h ar n bx os) {i:Nat} (hi:i<n) (x:List Int):mU b0 h ar n (bx.set i x) (os.set (b0+i) (vO x)):=by
  obtain ⟨n1,n2⟩:=k.ne hi
  refine⟨by rw[cz n1];exact k.v,by rw[cz n2];exact k.a,by rw[bF];exact k.len,fun j hj=>?_⟩
  rw[XT _ (by rw[k.len];exact hi)]
  by_cases e:i=j
  · subst e;rw[if_pos rfl];exact oY (k.mp i hi)
  · rw[if_neg e,cz (by omega)];exact k.mp j hj
theorem mU.join {b0 h ar n:Nat} {bx:List (List Int)} {os:List Ob} (k:mU b0 h ar n bx os) {a b:Int} (ha:0≤a∧a<n) (hb:0≤b∧b<n):mU b0 h ar n (AG bx a b) (jO b0 bx a b os):=by
  unfold AG jO
  by_cases gq:a=b
  · rw[if_pos gq,if_pos gq];exact k
  · rw[if_neg gq,if_neg gq]
    have h1:=k.put (i:=a.toNat) (by omega) (qm (bx.getD a.toNat []) b)
    have h2:=h1.put (i:=b.toNat) (by omega) (qm (bx.getD b.toNat []) a)
    have e:(bx.set a.toNat (qm (bx.getD a.toNat []) b)).getD b.toNat []=bx.getD b.toNat []:=by
      rw[XT _ (by rw[k.len];omega),if_neg (by omega)]
    dsimp only
    rw[e]
    exact h2
theorem XU (b0:Nat) (bx:List (List Int)) (a b:Int) (os:List Ob):(jO b0 bx a b os).length=os.length:=by unfold jO;split<;>simp
theorem XV {b0 h ar n:Nat} {bx:List (List Int)} {os:List Ob} (k:mU b0 h ar n bx os) (a b:Int) (ha:0≤a∧a<n) (hb:0≤b∧b<n) :
    ao Tryz.prog 200 [.lit (.int .i64 a),.lit (.int .i64 b),.ptr h 0 0] os (.bM []) (jO b0 bx a b os):=by
  have f1:=k.v
  have f2:=k.a
  have f3:=KZ (b0:=b0) (i:=a.toNat) (n:=n) (by omega)
  have f4:=KZ (b0:=b0) (i:=b.toNat) (n:=n) (by omega)
  have f5:=k.mp a.toNat (by omega)
  have f6:=k.mp b.toNat (by omega)
  have uX:=zo b0 n
  generalize aj:jO b0 bx a b os=res
  unfold jO at aj
  generalize bx.getD a.toNat []=la at *
  generalize bx.getD b.toNat []=lb at *
  have hL:os.length≤res.length:=by rw[← aj];split<;>simp
  refine ao.aD (fn:=Tryz.f200) 22 os.length [] Tryz.func200 rfl rfl rfl rfl rfl (by simp) ?_
  by_cases gq:a=b
  · rw[if_pos gq] at aj
    ((repeat' (first|refine Vb X0 ?_|(refine Xi ?_ ?_<;>try intro ht)|exact Xx|fail)))
    exact fW aj hL rfl
  · rw[if_neg gq] at aj
    unfold vO at f5 f6 aj
    have e1:=fun u=>XQ [b] u (.lit (.bool true)) (tl la)
    have e2:=fun u=>XQ [a] u (.lit (.bool true)) (tl lb)
    have e3:=fun u=>K3 [b] u (tl la)
    have e4:=fun u=>K3 [a] u (tl lb)
    have e5:=XS b la
    have e6:=XS a lb
    have g1:=fun x=>oY (y:=x) f5
    have b8:b0+b.toNat≠b0+a.toNat:=by omega
    have g2:=fun x:Ob=>(show (os.set (b0+a.toNat) x)[b0+b.toNat]?=some (.mp 0 (tl lb)) by rw[cz (Ne.symm b8)];exact f6)
    have g3:=fun x y:Ob=>oY (y:=y) (g2 x)
    ((repeat' (first|refine Vb (X5 @f1 @f2 @f3 @f4 (X5 @f5 @f6 @uX @g1 (X5 @g2 @g3 @e1 @e2 (X5 @e3 @e4 @e5 @e6 @r8.{0})))) ?_|(refine Xi ?_ ?_<;>try intro ht)|refine VD ?_ ?_|exact Xx|fail)))
    all_goals first|exact Int.ofNat_lt.2 (K3 _ _ _)|exact fW aj hL rfl
theorem aga {b0:Nat} {bx:List (List Int)} {a b:Int} {os:List Ob} {i:Nat} (hi:i<b0):(jO b0 bx a b os)[i]?=os[i]?:=by
  unfold jO
  split
  · rfl
  · rw[cz (by omega),cz (by omega)]
theorem K4 {b0 h ar n:Nat} {bx:List (List Int)} {a b:Int} {os:List Ob} (k:mU b0 h ar n bx os) (ha:0≤a∧a<n) (hb:0≤b∧b<n) {i:Nat} {cells:List AV} (hi:os[i]?=some (.var cells)):(jO b0 bx a b os)[i]?=some (.var cells):=by
  have h1:=k.mp a.toNat (by omega)
  have h2:=k.mp b.toNat (by omega)
  unfold vO at h1 h2
  unfold jO
  split
  · exact hi
  · rw[cz (fun e=>by rw[e,hi] at h2;simp at h2),cz (fun e=>by rw[e,hi] at h1;simp at h1)];exact hi
theorem agb (p:Pr):p.aP.contains 1099511627776=yP p:=by
  unfold yP
  rw[Bool.eq_iff_iff,List.contains_iff_mem,List.any_eq_true]
  constructor
  · intro h;exact⟨_,h,by simp⟩
  · rintro ⟨x,hx,e⟩
    rw[decide_eq_true_eq] at e
    rw[← e];exact hx
def mI (n i:Nat):List (List AV):=mR 3 i++aW (n - i) [AV.lit (.map none)]
theorem agc {n i:Nat} (h:i≤n):(mI n i).length=n:=by unfold mI;rw[bU,zo,List.length_replicate];omega
theorem agd {n i:Nat} (h:i<n):(mI n i).set i [.fL (3+i)]=mI n (i+1):=by
  unfold mI
  rw[uM _ _ (by rw[zo];exact aV _),zo,iz,show n - i=(n - (i+1))+1 by omega,vY,mY]
  unfold mR
  rw[List.range_succ,eT,dj]
  rfl
theorem age {n i:Nat} (h:i<n):(mI n i)[i]?=some [.lit (.map none)]:=by
  unfold mI
  rw[fA (by rw[zo];exact aV _),zo,iz,rW,if_pos (by omega)]
theorem agf (m:ae) (hm:VM m):ao Tryz.prog 189 [.agg (au m)] [] (.tree 1 (ints (sN m))) []:=by
  have me:=hm.cls
  have vB:=hm.ah
  have Ba:=hm.av
  have py:=acW hm
  unfold CK at py
  generalize nj:wX m.ah (aW m.cls.length [])=s1 at py
  generalize fF:w5 m.av s1=s2 at py
  generalize g6:m.cls.length=n at *
  refine ao.aD (fn:=Tryz.f189) 99 0 [.tmp 2] Tryz.func189 rfl rfl rfl rfl rfl (by simp) ?_
  refine Vb @g6 ?_
  refine aG (fun z:Nat × List Ob=>(⟨aw [(1,.ptr 0 0 0),(3,.ptr 2 0 0),(21,.ref 1 1 0 n),(22,.lit (.int .i64 n)),(23,.lit (.int .i64 z.1))],z.2⟩:St))
    (fun z=>z.1≤n∧z.2.length=3+z.1∧z.2[0]?=some (.var (au m))∧z.2[1]?=some (.arr 1 (mI n z.1))∧z.2[2]?=some (.var [.ref 1 1 0 n])∧∀ j,j<z.1→z.2[3+j]?=some (vO [])) (fun z=>n - z.1)
    (0,[.var (au m),.arr 1 (mI n 0),.var [.ref 1 1 0 n]]) ⟨aH _,rfl,rfl,rfl,rfl,fun j hj=>by simp at hj⟩ (Xv X0) ?_
  rintro ⟨i,os⟩ ⟨hi,fG,f0,f1,f2,f3⟩ Ql ak aq
  dsimp only at hi fG f0 f1 f2 f3 ⊢
  by_cases ax:i<n
  · have k9:=agd ax
    have a6:=age ax
    have jm:=agc hi
    have g1:=fun l=>bz f1 l
    have g2:=fun l=>bz f2 l
    have g3:=fun x y=>ke f1 x (y:=y)
    rw[← fG] at k9
    ((repeat' (first|refine Va (X5 @f1 @f2 @g1 @g2 (X4 @g3 @jm @a6 @k9)) ?_|(refine Xi ?_ ?_<;>try intro ht)|exact Xx|fail)))
    refine ak _ (i+1,os.set 1 (.arr 1 (mI n (i+1)))++[.mp 0 []]) ⟨by dsimp only;omega,by simp;omega,bz (by rw[cz (by decide)];exact f0) _,bz (oY f1) _,bz (by rw[cz (by decide)];exact f2) _,fun j hj=>?_⟩ (by dsimp only;omega) (Xv X0)
    dsimp only at hj
    by_cases wu:j=i
    · subst wu
      rw[← fG,fA (by simp),bF,iz];rfl
    · exact bz (by rw[cz (by omega)];exact f3 j (by omega)) _
  · obtain rfl:i=n:=by omega
    have XW:mI i i=mR 3 i:=by unfold mI;simp
    rw[XW] at f1
    have k0:mU 3 2 1 i (aW i []) os:=⟨f2,f1,by simp,fun j hj=>by
      rw[ay,rW,if_pos hj];exact f3 j hj⟩
    ((repeat' (first|refine Va X0 ?_|(refine Xi ?_ ?_<;>try intro ht)|exact Xx|fail)))
    refine aq _ _ rfl ?_;clear ak aq Ql
    repeat (refine Xu ?_)
    clear hi fG f1 f2 f3 ax XW
    generalize aW i []=agh at *
    refine Vb @f0 ?_
    refine aG (fun z:Nat × List (List Int) × List Ob=>(⟨aw [(1,.ptr 0 0 0),(3,.ptr 2 0 0),(5,.fn 200 [.ptr 2 0 0]),(33,.tree 4 (rowsOf bc m.ah)),(34,.lit (.int .i64 m.ah.length)),(35,.lit (.int .i64 z.1))],z.2.2⟩:St))
      (fun z=>z.1≤m.ah.length∧z.2.2[0]?=some (.var (au m))∧mU 3 2 1 i z.2.1 z.2.2∧wX (m.ah.drop z.1) z.2.1=s1) (fun z=>m.ah.length - z.1) (0,agh,os) ⟨aH _,f0,k0,nj⟩ (Xv X0) ?_
    clear f0 k0 nj
    rintro ⟨k,bx,os⟩ ⟨hk,f0,k0,hr⟩ Ql ak aq
    dsimp only at hk f0 k0 hr ⊢
    by_cases aF:k<m.ah.length
    · have ca:=fY hm.pr _ (az (d:=default) aF)
      have xj:=hm.mb.aP _ (az (d:=default) aF)
      rw[b7 m.ah k default aF,wX] at hr
      generalize bQ:m.ah.getD k default=p at *
      obtain ⟨q1,q2,q3,q4,q5⟩:=iY ca
      have o6:=I0 p.aP 1099511627776 xj
      rw[agb] at o6
      have k1:=k0.app [.var (bc p)]
      have hj:=XV k1 p.fst p.snd (by omega) (by omega)
      have jH:=XU 3 bx p.fst p.snd (os++[.var (bc p)])
      have k2:=k1.join (a:=p.fst) (b:=p.snd) (by omega) (by omega)
      have f1:(jO 3 bx p.fst p.snd (os++[.var (bc p)]))[0]?=some (.var (au m)):=by rw[aga (by decide)];exact bz f0 _
      generalize yP p=b at *
      cases b
      · rw[if_neg (by decide)] at hr
        ((repeat' (first|refine Vc (X4 @bQ @bc.eq_1 @hC @rA) o6 ?_|(refine Xi ?_ ?_<;>try intro ht)|exact Xx|fail)))
        all_goals exact ak _ (k+1,bx,os++[.var (bc p)]) ⟨by dsimp only;omega,bz f0 _,k1,hr⟩ (by dsimp only;omega) (Xv X0)
      · rw[if_pos rfl] at hr
        ((repeat' (first|refine Vc (X4 @bQ @bc.eq_1 @hC @rA) o6 ?_|(refine Xi ?_ ?_<;>try intro ht)|exact Xx|fail))<;>try with_reducible intro K hK)
        refine mu hj (by rw[jH];exact aV _) ?_
        ((try revert hK K);(refine Va X0 ?_))
        exact ak _ (k+1,_,_) ⟨by dsimp only;omega,f1,k2,hr⟩ (by dsimp only;omega) (Xv X0)
    · rw[b6 (by omega),wX] at hr
      subst hr
      ((repeat' (first|refine Va X0 ?_|(refine Xi ?_ ?_<;>try intro ht)|exact Xx|fail)))
      refine aq _ _ rfl ?_;clear ak aq Ql
      repeat (refine Xu ?_)
      clear hk aF
      refine Vb @f0 ?_
      refine aG (fun z:Nat × List (List Int) × List Ob=>(⟨aw [(1,.ptr 0 0 0),(3,.ptr 2 0 0),(5,.fn 200 [.ptr 2 0 0]),(50,.tree 4 (rowsOf bu m.av)),(51,.lit (.int .i64 m.av.length)),(52,.lit (.int .i64 z.1))],z.2.2⟩:St))
        (fun z=>z.1≤m.av.length∧z.2.2[0]?=some (.var (au m))∧mU 3 2 1 i z.2.1 z.2.2∧w5 (m.av.drop z.1) z.2.1=s2) (fun z=>m.av.length - z.1) (0,bx,os) ⟨aH _,f0,k0,fF⟩ (Xv X0) ?_
      clear f0 k0 fF
      rintro ⟨k,bx,os⟩ ⟨hk,f0,k0,hr⟩ Ql ak aq
      dsimp only at hk f0 k0 hr ⊢
      by_cases aF:k<m.av.length
      · have mS:=hm.ct _ (az (d:=default) aF)
        rw[b7 m.av k default aF,w5] at hr
        generalize aJ:m.av.getD k default=c at *
        have ic:=Jg mS
        have hlen:=uq hm (ju mS).2.2.2
        have XX:=agi c
        generalize AE c=b at *
        cases b
        · rw[if_neg (by decide)] at hr
          ((repeat' (first|refine Vc (X4 @aJ @bu.eq_1 @hC @rA) XX ?_|(refine Xi ?_ ?_<;>try intro ht)|exact Xx|fail)))
          all_goals exact ak _ (k+1,bx,os++[.var (bu c)]) ⟨by dsimp only;omega,bz f0 _,k0.app _,hr⟩ (by dsimp only;omega) (Xv X0)
        · rw[if_pos rfl] at hr
          have ec:(os++[.var (bu c)])[os.length]?=some (.var (bu c)):=hC _ _ _
          have kc:=k0.app [.var (bu c)]
          have fc:=bz f0 [.var (bu c)]
          ((repeat' (first|refine Vc (X4 @aJ @bu.eq_1 @hC @rA) XX ?_|(refine Xi ?_ ?_<;>try intro ht)|exact Xx|fail)))
          all_goals try (exfalso;simp_all;done)
          generalize bL:wZ c.aA c.aA bx=n3 at hr
          generalize os.length=ci at *
          refine aG (fun z:Nat × List (List Int) × List Ob=>(⟨aw [(1,.ptr 0 0 0),(3,.ptr 2 0 0),(5,.fn 200 [.ptr 2 0 0]),(9,.ptr ci 0 0),(50,.tree 4 (rowsOf bu m.av)),(51,.lit (.int .i64 m.av.length)),(52,.lit (.int .i64 k)),(60,.tree 3 (rowsOf dF c.aA)),(61,.lit (.int .i64 c.aA.length)),(62,.lit (.int .i64 z.1))],z.2.2⟩:St))
            (fun z=>z.1≤c.aA.length∧z.2.2[0]?=some (.var (au m))∧z.2.2[ci]?=some (.var (bu c))∧mU 3 2 1 i z.2.1 z.2.2∧wZ c.aA (c.aA.drop z.1) z.2.1=n3) (fun z=>c.aA.length - z.1) (0,bx,os++[.var (bu c)]) ⟨aH _,fc,ec,kc,bL⟩ (Xv X0) ?_
          clear f0 k0 kc ec fc bL
          rintro ⟨x,bx,os⟩ ⟨hx,f0,fc,k0,hJ⟩ cR ba bd
          dsimp only at hx f0 fc k0 hJ ⊢
          by_cases cP:x<c.aA.length
          · have uy:=ic _ (az (d:=default) cP)
            rw[b7 c.aA x default cP,wZ] at hJ
            generalize xr:c.aA.getD x default=a at *
            generalize bL:wY a.cls c.aA bx=n4 at hJ
            have ea:(os++[.var (dF a)])[os.length]?=some (.var (dF a)):=hC _ _ _
            have ka:=k0.app [.var (dF a)]
            have fa:=bz f0 [.var (dF a)]
            have XZ:=bz fc [.var (dF a)]
            have X1:=fun l=>bz fc l
            unfold bu at X1
            ((repeat' (first|refine Va (X5 @xr @dF.eq_1 @hC @rA @X1) ?_|(refine Xi ?_ ?_<;>try intro ht)|exact Xx|fail)))
            generalize os.length=ai at *
            refine aG (fun z:Nat × List (List Int) × List Ob=>(⟨aw [(1,.ptr 0 0 0),(3,.ptr 2 0 0),(5,.fn 200 [.ptr 2 0 0]),(9,.ptr ci 0 0),(11,.ptr ai 0 0),(50,.tree 4 (rowsOf bu m.av)),(51,.lit (.int .i64 m.av.length)),(52,.lit (.int .i64 k)),(60,.tree 3 (rowsOf dF c.aA)),(61,.lit (.int .i64 c.aA.length)),(62,.lit (.int .i64 x)),(67,.tree 3 (rowsOf dF c.aA)),(68,.lit (.int .i64 c.aA.length)),(69,.lit (.int .i64 z.1))],z.2.2⟩:St))
              (fun z=>z.1≤c.aA.length∧z.2.2[0]?=some (.var (au m))∧z.2.2[ci]?=some (.var (bu c))∧z.2.2[ai]?=some (.var (dF a))∧mU 3 2 1 i z.2.1 z.2.2∧wY a.cls (c.aA.drop z.1) z.2.1=n4) (fun z=>c.aA.length - z.1) (0,bx,os++[.var (dF a)]) ⟨aH _,fa,XZ,ea,ka,bL⟩ (Xv X0) ?_
            clear f0 k0 ka ea fa fc XZ bL
            rintro ⟨y,bx,os⟩ ⟨hy,f0,fc,fa,k0,DE⟩ mh eS eI
            dsimp only at hy f0 fc fa k0 DE ⊢
            by_cases X6:y<c.aA.length
            · have pO:=ic _ (az (d:=default) X6)
              rw[b7 c.aA y default X6,wY] at DE
              generalize eF:c.aA.getD y default=bl at *
              have k1:=k0.app [.var (dF bl)]
              have hj:=XV k1 a.cls bl.cls (by omega) (by omega)
              have jH:=XU 3 bx a.cls bl.cls (os++[.var (dF bl)])
              have k2:=k1.join (a:=a.cls) (b:=bl.cls) (by omega) (by omega)
              have g0:=K4 (a:=a.cls) (b:=bl.cls) k1 (by omega) (by omega) (bz f0 [.var (dF bl)])
              have gc:=K4 (a:=a.cls) (b:=bl.cls) k1 (by omega) (by omega) (bz fc [.var (dF bl)])
              have ga:=K4 (a:=a.cls) (b:=bl.cls) k1 (by omega) (by omega) (bz fa [.var (dF bl)])
              have X7:=fun l=>bz fa l
              rw[dF] at X7
              ((repeat' (first|refine Va (X5 @eF @dF.eq_1 @hC @rA @X7) ?_|(refine Xi ?_ ?_<;>try intro ht)|exact Xx|fail))<;>try with_reducible intro K hK)
              refine mu hj (by rw[jH];exact aV _) ?_
              ((try revert hK K);(refine Va X0 ?_))
              exact eS _ (y+1,_,_) ⟨by dsimp only;omega,g0,gc,ga,k2,DE⟩ (by dsimp only;omega) (Xv X0)
            · rw[b6 (by omega),wY] at DE
              subst DE
              ((repeat' (first|refine Va X0 ?_|(refine Xi ?_ ?_<;>try intro ht)|exact Xx|fail)))
              refine eI _ _ rfl ?_
              clear eS eI
              repeat (refine Xu ?_)
              refine Va X0 ?_
              exact ba _ (x+1,bx,os) ⟨by dsimp only;omega,f0,fc,k0,hJ⟩ (by dsimp only;omega) (Xv X0)
          · rw[b6 (by omega),wZ] at hJ
            subst hJ
            ((repeat' (first|refine Va X0 ?_|(refine Xi ?_ ?_<;>try intro ht)|exact Xx|fail)))
            refine bd _ _ rfl ?_
            clear ba bd
            repeat (refine Xu ?_)
            refine Va X0 ?_
            exact ak _ (k+1,bx,os) ⟨by dsimp only;omega,f0,k0,hr⟩ (by dsimp only;omega) (Xv X0)
      · rw[b6 (by omega),w5] at hr
        subst hr
        ((repeat' (first|refine Va X0 ?_|(refine Xi ?_ ?_<;>try intro ht)|exact Xx|fail)))
        refine aq _ _ rfl ?_;clear ak aq Ql
        repeat (refine Xu ?_)
        clear hk aF
        have fv:=k0.v
        have fa:=k0.a
        have uX:=zo 3 i
        have fvl:=fun l=>bz fv l
        have Kh:=fun l=>bz fa l
        have xj:∀ l,(tl l).length=l.length:=fun l=>by unfold tl;simp
        have X8:=fun (l:List Ob)=>(k0.app l).mp
        have ajj:=k0.len
        unfold vO at X8
        refine Vb (X5 @fv @fa @uX @fvl @Kh) ?_
        refine aG (fun z:Nat × List Int=>(⟨aw [(14,.ref os.length 1 0 i),(85,.ref 1 1 0 i),(86,.lit (.int .i64 i)),(87,.lit (.int .i64 z.1))],os++[.arr 1 (ints z.2)]⟩:St))
          (fun z=>z.1≤i∧z.2=(bx.take z.1).map (fun l=>(l.length:Int))++aW (i - z.1) 0) (fun z=>i - z.1) (0,aW i 0) ⟨aH _,by simp⟩ (Xv X0) ?_
        rintro ⟨j,xs⟩ ⟨hj,cl⟩ Ql ak aq
        dsimp only at hj cl ⊢
        by_cases cq:j<i
        · have sV:xs.length=i:=by rw[cl];simp;omega
          have a6:=KZ (b0:=3) cq
          have agk:=fun l=>X8 l j cq
          have wv:xs.set j ((bx.getD j []).length:Int)=(bx.take (j+1)).map (fun l=>(l.length:Int))++aW (i - (j+1)) 0:=by
            rw[cl,uM _ _ (by simp;omega),eD,eX,show j - min j bx.length=0 by omega,show i - j=(i - (j+1))+1 by omega,vY,mY,List.take_add_one,eT,dj]
            congr 1
            rw[ay,bm (by omega)]
            rfl
          generalize bx.getD j []=lj at *
          ((repeat' (first|refine Va (X5 @Kh @uX @a6 @agk (X5 @xj @hC @rA @sV @ints_set)) ?_|(refine Xi ?_ ?_<;>try intro ht)|exact Xx|fail)))
          exact ak _ (j+1,_) ⟨by dsimp only;omega,wv⟩ (by dsimp only;omega) (Xv X0)
        · rw[dN (by omega),show i - j=0 by omega,List.replicate_zero,oe,py] at cl
          subst cl
          ((repeat' (first|refine Va X0 ?_|(refine Xi ?_ ?_<;>try intro ht)|exact Xx|fail)))
          refine aq _ _ rfl ?_;clear ak aq Ql
          repeat (refine Xu ?_)
          refine Vb X0 ?_
          refine dR [] true (by decide) trivial (by decide) (by decide) ?_
          exact aO.cI (rows:=ints (sN m)) (hC _ _ _) (oB _) (by rw[xZ,zq,g6]) (jk (by simp)) (pw _)
theorem agl {nb:List Int} {k:Nat} (h:k<nb.length):rowsOf cZ ((w0 nb).take k)++[[.lit (.int .i64 k),.lit (.int .i64 0),.lit (.int .i64 (nb.getD k 0))]]=rowsOf cZ ((w0 nb).take (k+1)):=by
  have e:(w0 nb).take (k+1)=(w0 nb).take k++[⟨(k:Int),0,nb.getD k 0⟩]:=by
    rw[List.take_add_one]
    congr 1
    unfold w0
    rw[bR,jT h];rfl
  rw[e]
  unfold rowsOf
  rw[eT];rfl
def s8 (m:ae) (plan:List Int) (l:List It) (i:Nat):List It:=(l.take i).map (kT m plan)++l.drop i
theorem agm (m:ae) (plan:List Int) (l:List It) (i:Nat):(s8 m plan l i).length=l.length:=by unfold s8;simp;omega
theorem agn {m:ae} {plan:List Int} {l:List It} {i:Nat} (h:i<l.length):(s8 m plan l i).getD i default=l.getD i default:=by
  unfold s8
  have hl:((l.take i).map (kT m plan)).length=i:=by simp;omega
  rw[ay,fA (by omega),hl,iz,List.getElem?_drop,Nat.add_zero,ay]
theorem ago {m:ae} {plan:List Int} {l:List It} {i:Nat} (h:i<l.length):(s8 m plan l i).set i (kT m plan (l.getD i default))=s8 m plan l (i+1):=by
  unfold s8
  have hl:((l.take i).map (kT m plan)).length=i:=by simp;omega
  rw[uM _ _ (by omega),hl,iz,List.drop_eq_getElem_cons h,mY,List.take_add_one,bm h,eT,dj,ay,bm h]
  rfl
theorem X9 (L:List It) (i:Nat) (a b c:Int):(rowsOf cZ L).set i [.lit (.int .i64 a),.lit (.int .i64 b),.lit (.int .i64 c)]=rowsOf cZ (L.set i ⟨a,b,c⟩):=Ya L i ⟨a,b,c⟩
theorem Yb (L:List It) (i:Nat) (h:i<L.length):(rowsOf cZ L)[i]?=some (cZ (L.getD i default)):=by
  unfold rowsOf
  rw[bR,ay,bm h];rfl
theorem agp (m:ae) (hm:VM m):ao Tryz.prog 162 [.agg (au m)] [] (.ref 0 1 0 (rf m).length) [.arr 1 (ints (rf m))]:=by
  have me:=hm.cls
  have py:=agf m hm
  have k7:=agq m hm
  have Yc:=K5 (zq m)
  have l8:=(Qo m).len
  have K6:=Rv m
  rw[← Yd m]
  rw[← Yd m] at l8
  have agr:=zq m
  have ags:=K6.len
  have wi:=K7 (sN m)
  generalize ajk:sN m=nb at *
  generalize hR:xy m m.cls.length (vw m) (w0 nb)=R at *
  generalize vw m=p0 at *
  generalize g6:m.cls.length=n at *
  refine ao.aD (fn:=Tryz.f162) 83 0 [.tmp 2] Tryz.func162 rfl rfl rfl rfl rfl (by simp) ?_
  ((refine Vb X0 ?_)<;>try with_reducible intro K hK)
  (refine Xn [] (k7) ?_;simp (disch:=omega) only[Ac,↓Pc,simprocAttr])
  ((try revert hK K);(refine Vd X0 py ?_))
  refine dO (aQ.q7 2 0 3 rfl rfl (by decide)) ?_
  refine aG (fun k:Nat=>(⟨aw [(1,.ptr 0 0 0),(3,.ref 1 1 0 n),(4,.ptr 2 0 0),(13,.tree 1 (ints nb)),(14,.lit (.int .i64 nb.length)),(15,.lit (.int .i64 k))],[.var (au m),.arr 1 (ints p0),.var [.ref 3 3 0 ((w0 nb).take k).length],.arr 3 (rowsOf cZ ((w0 nb).take k))]⟩:St))
    (fun k=>k≤nb.length) (fun k=>nb.length - k) 0 (aH _) (Xv X0) ?_
  rintro k hk Ql ak aq
  by_cases aF:k<nb.length
  · have hw:=agl aF
    have vf:((w0 nb).take k).length=k:=by simp;omega
    have ajl:((w0 nb).take (k+1)).length=k+1:=by simp;omega
    have hle:((w0 nb).take k).length+1=((w0 nb).take (k+1)).length:=by omega
    generalize (w0 nb).take k=xs at *
    generalize hnk:nb.getD k 0=nk at *
    ((repeat' (first|refine Va (X2 @hnk @hw) ?_|(refine Xi ?_ ?_<;>try intro ht)|exact Xx|fail)))
    exact ak _ (k+1) (by omega) (by omega) (Xs false [0,1,2,5] @hle)
  · rw[dN (by rw[wi];omega)]
    ((repeat' (first|refine Va X0 ?_|(refine Xi ?_ ?_<;>try intro ht)|exact Xx|fail)))
    refine aq _ _ rfl ?_;clear ak aq Ql
    repeat (refine Xu ?_)
    clear hk aF
    refine Vb X0 ?_
    refine aG (fun z:List Int × List It × List It=>(⟨aw [(1,.ptr 0 0 0),(3,.ref 1 1 0 z.1.length),(4,.ptr 2 0 0)],[.var (au m),.arr 1 (ints z.1),.var [.ref 3 3 0 z.2.1.length],.arr 3 (rowsOf cZ (z.2.1++z.2.2))]⟩:St))
      (fun z=>PM m z.1∧z.2.1.length+z.2.2.length≤24∧(∃ done,WD nb n done z.2.1)∧xy m z.2.1.length z.1 z.2.1=R) (fun z=>z.2.1.length) (p0,w0 nb,[]) ⟨K6,by simp[wi];omega,⟨_,Yc⟩,by dsimp only;rw[wi,agr];exact hR⟩ (by simp only[oe,ags];exact Xv X0) ?_
    (try clear py;clear Yc K6 hR k7)
    rintro ⟨plan,l,t⟩ ⟨pH,aT,⟨done,K8⟩,hr⟩ Ql ak aq
    dsimp only at pH aT K8 hr ⊢
    have b9:=pH.len
    have ajm:(l++t).length=l.length+t.length:=bU
    by_cases hl0:0<l.length
    · ((repeat' (first|refine Va X0 ?_|(refine Xi ?_ ?_<;>try intro ht)|exact Xx|fail)))
      have ze:=K8.bx
      refine aG (fun i:Nat=>(⟨aw [(1,.ptr 0 0 0),(3,.ref 1 1 0 plan.length),(4,.ptr 2 0 0),(30,.ref 3 3 0 l.length),(31,.lit (.int .i64 l.length)),(32,.lit (.int .i64 i))],[.var (au m),.arr 1 (ints plan),.var [.ref 3 3 0 l.length],.arr 3 (rowsOf cZ (s8 m plan l i++t))]⟩:St))
        (fun i=>i≤l.length) (fun i=>l.length - i) 0 (aH _) (Xv X0) ?_
      rintro i hi cR ba bd
      by_cases ax:i<l.length
      · have hgi:=agn (m:=m) (plan:=plan) ax
        have hsi:=ago (m:=m) (plan:=plan) ax
        have bL:=agm m plan l i
        have Ye:=ze _ (az (l:=l) (i:=i) (d:=default) ax)
        generalize bS:l.getD i default=x at *
        have uy:=hm.opt _ (az (l:=m.cls) (i:=x.cls.toNat) (d:=default) (by omega))
        generalize s8 m plan l i=L at *
        have a6:=Yb (L++t) i (by simp;omega)
        have agw:(L++t).getD i default=x:=by rw[ay,dH (by omega),← ay];exact hgi
        rw[agw] at a6
        have hLt:(L++t).length=L.length+t.length:=bU
        have pL:=X9 (L++t) i
        have l0:=fun y:It=>X9 ((L++t).set i y) i
        have nj:∀ y:It,(rowsOf cZ ((L++t).set i y))[i]?=some (cZ y):=fun y=>by
          rw[Yb _ _ (by simp;omega)]
          congr 2
          rw[ay,D9 (by simp;omega)];rfl
        generalize ic:m.cls.getD x.cls.toNat default=lc at *
        ((repeat' (first|refine Va (X5 @a6 @cZ.eq_1 @pL @l0 (X2 @nj @ic)) ?_|(refine Xi ?_ ?_<;>try intro ht)|exact Xx|fail)))
        have Yf:∀ j:Nat,j<lc.length→_:=fun j hj=>Yg m plan x.cls j hm pH Ye.1 (cV.2 ⟨Ye.1,by omega,by omega,by rw[ic];omega⟩)
        have aj:kT m plan x=⟨x.cls,wV (ry m plan x.cls.toNat) lc.length 0 0,x.bx⟩:=by unfold kT wW;rw[ic]
        have K9:∀ j:Nat,rq m (plan.set x.cls.toNat (j:Int))=ry m plan x.cls.toNat j:=fun _=>rfl
        simp only[K9] at Yf
        generalize aZ:wV (ry m plan x.cls.toNat) lc.length 0 0=cv at *
        generalize ry m plan x.cls.toNat=f at *
        have ajo:∀ y:It,((L++t).set i y).length=(L++t).length:=fun y=>bF
        refine aG (fun z:Nat × Int=>(⟨aw [(1,.ptr 0 0 0),(3,.ref 1 1 0 plan.length),(4,.ptr 2 0 0),(7,.lit (.int .i64 i)),(30,.ref 3 3 0 l.length),(31,.lit (.int .i64 l.length)),(32,.lit (.int .i64 i)),(48,.lit (.int .i64 lc.length)),(49,.lit (.int .i64 z.1))],[.var (au m),.arr 1 (ints plan),.var [.ref 3 3 0 l.length],.arr 3 (rowsOf cZ ((L++t).set i ⟨x.cls,z.2,x.bx⟩))]⟩:St))
          (fun z=>z.1≤lc.length∧0≤z.2∧z.2≤z.1∧wV f (lc.length - z.1) z.1 z.2=cv) (fun z=>lc.length - z.1) (0,0) ⟨aH _,c9 _,c9 _,aZ⟩ (Xv X0) ?_
        clear aZ
        rintro ⟨j,a⟩ ⟨hj,qu,xn,uA⟩ mh eS eI
        dsimp only at hj qu xn uA ⊢
        by_cases cq:j<lc.length
        · have hw:=Yf j cq
          rw[show lc.length - j=(lc.length - (j+1))+1 by omega,wV] at uA
          generalize f j=n1 at *
          ((repeat' (first|refine Va (X3 @cZ.eq_1 @nj @l0) ?_|(refine Xi ?_ ?_<;>try intro ht)|exact Xx|fail))<;>try with_reducible intro K hK)
          (refine Xn [1] (hw) ?_;simp (disch:=omega) only[Ac,↓Pc,simprocAttr])
          ((try revert hK K);(repeat' (first|refine Va (X4 @cZ.eq_1 @nj @l0 @r8.{0}) ?_|(refine Xi ?_ ?_<;>try intro ht)|fail)))
          · rw[if_pos (by assumption)] at uA
            exact eS _ (j+1,a+1) ⟨by dsimp only;omega,by dsimp only;omega,by dsimp only;omega,uA⟩ (by dsimp only;omega) (Xv X0)
          · rw[if_neg (by omega)] at uA
            exact eS _ (j+1,a) ⟨by dsimp only;omega,by dsimp only;omega,by dsimp only;omega,uA⟩ (by dsimp only;omega) (Xv X0)
        · rw[show lc.length - j=0 by omega,wV] at uA
          subst uA
          ((repeat' (first|refine Va X0 ?_|(refine Xi ?_ ?_<;>try intro ht)|exact Xx|fail)))
          refine eI _ _ rfl ?_
          clear eS eI
          repeat (refine Xu ?_)
          refine Va X0 ?_
          refine ba _ (i+1) (by omega) (by omega) ?_
          rw[← hsi,aj,← List.set_append_left _ _ (by omega)]
          exact Xv X0
      · obtain rfl:i=l.length:=by omega
        rw[show s8 m plan l l.length=l.map (kT m plan) by unfold s8;simp]
        have K':=La (m:=m) (nb:=nb) (done:=done) (w:=l) (plan:=plan) (by rw[g6];exact K8) hl0
        rw[g6] at K'
        have o7:(l.map (kT m plan)).length=l.length:=eD ..
        have jr:pe m plan l=A3 cF (kM cF (l.length / 2) (l.map (kT m plan)) l.length):=by unfold pe;rw[o7]
        have dE:=agx l.length (l.map (kT m plan)++t) (by rw[bU];omega) (by rw[bU];omega)
        rw[Yh _ _ _ _ (by omega)] at dE
        have kZ:=(JM (lt:=cF) (l.length / 2) (l.map (kT m plan)) l.length (by omega)).length_eq
        generalize kM cF (l.length / 2) (l.map (kT m plan)) l.length=l2 at *
        obtain ⟨k1,fl⟩ :∃k1,l.length=k1+1:=⟨l.length - 1,by omega⟩
        have Gv:=agy k1 (k1+1) (l2++t) (by rw[bU];omega) (by rw[bU];omega) (by omega)
        rw[Yi (by omega) (by omega),Lb _ _ _ _ _ (by rw[rG];omega)] at Gv
        have bX:=A5 (lt:=cF) (k1+1) (gf l2 0 k1) 0 k1 (by rw[rG];omega)
        rw[rG] at bX
        unfold A3 at jr
        rw[show l2.length=k1+1 by omega,Nat.add_sub_cancel] at jr
        dsimp only at jr
        generalize gR cF (k1+1) (gf l2 0 k1) 0 k1=r at *
        rw[show (r++t).getD k1 default=r.getD k1 default by rw[ay,dH (by omega),← ay]] at Gv
        rw[fl,xy,jr] at hr
        rw[jr] at K'
        obtain ⟨-,-,p3,p4,p5⟩:=K'
        dsimp only at hr p3 p4 p5
        generalize bS:r.getD k1 default=x at *
        rw[show cZ x=[.lit (.int .i64 x.cls),.lit (.int .i64 x.opt),.lit (.int .i64 x.bx)] from rfl] at Gv
        have nU:=agz m plan x.cls hm pH (by omega)
        have agA:=Je pH (c:=x.cls.toNat) (by omega)
        ((repeat' (first|refine Va X0 ?_|(refine Xi ?_ ?_<;>try intro ht)|exact Xx|fail)))
        refine bd _ _ rfl ?_
        clear ba bd
        repeat (refine Xu ?_)
        ((refine Va X0 ?_)<;>try with_reducible intro K hK)
        (refine Xn [2,3] (dE) ?_;simp (disch:=omega) only[Ac,↓Pc,simprocAttr])
        ((try revert hK K);(refine Va X0 ?_)<;>try with_reducible intro K hK)
        rw[fl]
        (refine Xn [2,3] (Gv) ?_;simp (disch:=omega) only[Ac,↓Pc,simprocAttr])
        ((try revert hK K);(refine Va @cZ.eq_1 ?_)<;>try with_reducible intro K hK)
        (refine Xn [1] (nU) ?_;simp (disch:=omega) only[Ac,↓Pc,simprocAttr])
        ((try revert hK K);(refine Va X0 ?_))
        have agB:r.take k1++(r.drop k1++t)=r++t:=by rw[← dj,List.take_append_drop]
        have ux:(r.take k1).length=k1:=by rw[eX];omega
        refine ak _ (plan.set x.cls.toNat (kK m plan x.cls.toNat),r.take k1,r.drop k1++t) ⟨agA,?_,⟨_,p3⟩,?_⟩ ?_ ?_
        · dsimp only;rw[ux,bU,List.length_drop];omega
        · dsimp only;rw[ux];exact hr
        · dsimp only;rw[ux];omega
        · dsimp only
          rw[ux,agB,bF]
          exact Xs false [0,1,2,3] X0
    · have o7:l=[]:=List.eq_nil_of_length_eq_zero (by omega)
      subst o7
      rw[List.length_nil,xy] at hr
      subst hr
      ((repeat' (first|refine Va X0 ?_|(refine Xi ?_ ?_<;>try intro ht)|exact Xx|fail)))
      refine aq _ _ rfl ?_;clear ak aq Ql
      repeat (refine Xu ?_)
      refine Vb X0 ?_
      exact Xw true [1] X0
def As (m:ae):List Int × Int:=if dW m≠0 then ([],dW m) else (rf m,0)
theorem abS (m:ae) (hb:MB m):ao Tryz.prog 106 [.agg (au m)] [] (.bM [.tree 1 (ints (As m).1),.lit (.int .i64 (As m).2)]) []:=by
  generalize aj:As m=res
  unfold As at aj
  refine ao.aD (fn:=Tryz.f106) 12 0 [.tmp 2,.tmp 3] Tryz.func106 rfl rfl rfl rfl rfl (by simp) ?_
  ((repeat' (first|refine Vd X0 (sI m hb) ?_|(refine Xi ?_ ?_<;>try intro ht)|fail))<;>try with_reducible intro K hK)
  · rw[if_pos ht] at aj
    rw[← aj]
    exact dR [] true (by decide) trivial (by decide) (by decide) (aO.qL aO.nil (.pure rfl))
  rw[if_neg (by omega)] at aj
  have cu:=iu.1 (by omega)
  have hs:=agp m cu
  (refine Xn [] (hs) ?_;simp (disch:=omega) only[Ac,↓Pc,simprocAttr])
  ((try revert hK K);(refine Vb X0 ?_))
  rw[← aj]
  exact dR [] true (by decide) trivial (by decide) (by decide) (aO.qL (aO.cI (rows:=ints (rf m)) rfl (oB _) (by rw[xZ]) (jk (by simp)) (pw _)) (.pure rfl))
end T

