import Derived.Test.YtdipcmigdbnheaaGreatX15
import Derived.Test.YtdipcmigdbnheaaGreatX22
set_option linter.unusedVariables false
set_option linter.unusedSimpArgs false
set_option linter.unnecessarySimpa false
set_option linter.unusedSectionVars false
set_option maxHeartbeats 64000000
set_option maxRecDepth 20000
open List renaming getD_cons_zero→fT,getD_cons_succ→ep,getD_eq_getElem?_getD→ay,getElem?_eq_none→dM,mem_cons→bW,drop_eq_nil_of_le→b6
open Nat renaming lt_or_ge→dG,zero_add→eK,zero_le→aH
open Int renaming toNat_natCast→dg,le_refl→c9,zero_add→tq,toNat_of_nonneg→mr
open Option renaming map_some→eC,some→dw
open Bool renaming false_eq_true→iJ
open Go Go.Am
open Go Go.Am Go.Proofs
open Nat (reduceEqDiff reduceAdd reduceLeDiff reduceMul)
open Int (reduceNeg reduceLE reduceToNat)
namespace T
theorem KH (l:List Ld) (c:Int):∀ (row:List Bool) (o:Nat) (b:Int),eB l c o row b=b∨∃ i,row.getD i false=true∧eB l c o row b=gd l c (o+i:Nat) 0
  | [],_,_=>.inl rfl
  | is::r,o,b=>by
    rw[eB]
    split
    · rename_i hc
      rcases KH l c r (o+1) (gd l c o 0) with h | ⟨i,h1,h2⟩
      · exact .inr ⟨0,by simpa using hc.1,by rw[h];rfl⟩
      · exact .inr ⟨i+1,by simpa using h1,by rw[h2,show o+1+i=o+(i+1) by omega]⟩
    · rcases KH l c r (o+1) b with h | ⟨i,h1,h2⟩
      · exact .inl h
      · exact .inr ⟨i+1,by simpa using h1,by rw[h2,show o+1+i=o+(i+1) by omega]⟩
theorem W0 {l:List Ld} (h:∀ x∈l,1≤x.wt∧x.wt≤1000) (c:Int):∀ (row:List Bool) (o:Nat) (b:Int) (i:Nat),row.getD i false=true→0≤eB l c o row b
  | [],_,b,i,hi=>by simp at hi
  | is::r,o,b,0,hi=>by
    rw[fT] at hi
    have hw:=yT h c o 0 (by omega)
    rw[eB]
    split
    · exact (Bg h c r (o+1) _ hw.1).1
    · rename_i hc
      have hb:0≤b:=by
        rcases Int.lt_or_le b 0 with h2 | h2
        · exact absurd ⟨hi,.inl h2⟩ hc
        · exact h2
      exact (Bg h c r (o+1) b hb).1
  | is::r,o,b,i+1,hi=>by
    rw[ep] at hi
    rw[eB]
    exact W0 h c r (o+1) _ i hi
theorem W1 {f:Nat→Int}:∀ {n:Nat},(∀ i<n,0≤f i)→(0≤bw f n∧(0<bw f n↔∃ i,i<n∧0<f i))
  | 0,_=>by simp[bw]
  | n+1,h=>by
    obtain ⟨h1,h2⟩:=W1 (n:=n) fun i hi=>h i (by omega)
    have h3:=h n (by omega)
    rw[bw]
    refine⟨by omega,fun h4=>?_,?_⟩
    · by_cases h5:0<bw f n
      · obtain ⟨i,hi,hf⟩:=h2.1 h5;exact⟨i,by omega,hf⟩
      · exact⟨n,by omega,by omega⟩
    · rintro ⟨i,hi,hf⟩
      by_cases e:i=n
      · subst e;omega
      · have:=h2.2 ⟨i,by omega,hf⟩;omega
theorem W2 (f g:Nat→Int):∀ n,bw f n - bw g n=bw (fun i=>f i - g i) n
  | 0=>rfl
  | n+1=>by rw[bw,bw,bw,← W2 f g n];omega
theorem W3:∀ (row:List Bool) (n:Int),o8 row n=n+bw (fun o=>if row.getD o false=true then 1 else 0) row.length
  | [],n=>by simp[o8,bw]
  | b::r,n=>by
    rw[o8,W3 r,List.length_cons,yS]
    simp only[fT,ep]
    split<;>omega
theorem KI {m:ae} {q:Option Ld} {x:Ld} {r:List Ld} (h:eo m q (x::r)=true):eo m (some x) r=true:=by
  cases q<;>rw[eo] at h<;>simp only[Bool.and_eq_true] at h<;>exact h.2
open Classical in
theorem W4 {m:ae} (c:Int) (row:List Bool):∀ {l:List Ld} {q:Option Ld},eo m q l=true→∀ z:Int × Int,
    (kS c row l z).1=z.1 - bw (fun o=>if row.getD o false=true∧∃ x∈l,x.cls=c∧x.opt=(o:Int) then 1 else 0) row.length
  | [],_,_,z=>by
    rw[jz (g:=fun _=>0) _ fun i _=>by simp]
    have:∀ n,bw (fun _=>0) n=0:=fun n=>by induction n with | zero=>rfl | succ n ih=>rw[bw,ih];rfl
    rw[this,kS];omega
  | x::r,q,h,z=>by
    have hr:=KI h
    have hx:=(cV.1 (kF h x (by simp)).1).2.2.1
    rw[kS,W4 c row hr]
    by_cases hc:x.cls=c∧row.getD x.opt.toNat false=true
    · rw[if_pos hc]
      have hk:x.opt.toNat<row.length:=by
        rcases dG x.opt.toNat row.length with h' | h'
        · exact h'
        · rw[ay,dM h'] at hc;simp at hc
      rw[jz (f:=fun o=>if row.getD o false=true∧∃ y∈x::r,y.cls=c∧y.opt=(o:Int) then 1 else 0) (g:=fun o=>if o=x.opt.toNat then (if row.getD o false=true∧∃ y∈r,y.cls=c∧y.opt=(o:Int) then 1 else 0)+1 else (if row.getD o false=true∧∃ y∈r,y.cls=c∧y.opt=(o:Int) then 1 else 0)) _ fun o _=>by
        by_cases e:o=x.opt.toNat
        · subst e
          rw[if_pos ⟨hc.2,x,by simp,hc.1,by omega⟩,if_pos rfl,if_neg (by rintro ⟨_,y,hy,h1,h2⟩;have:=xg hr y hy;omega)];rfl
        · rw[if_neg e]
          congr 1
          rw[eq_iff_iff]
          refine and_congr_right fun _=>⟨?_,fun ⟨y,hy,h1⟩=>⟨y,by simp[hy],h1⟩⟩
          rintro ⟨y,hy,h1,h2⟩
          rcases bW.1 hy with rfl | hy
          · omega
          · exact⟨y,hy,h1,h2⟩,AM,if_pos hk]
      dsimp only;omega
    · rw[if_neg hc]
      rw[jz (f:=fun o=>if row.getD o false=true∧∃ y∈x::r,y.cls=c∧y.opt=(o:Int) then 1 else 0) (g:=fun o=>if row.getD o false=true∧∃ y∈r,y.cls=c∧y.opt=(o:Int) then 1 else 0) _ fun o _=>by
        congr 1
        rw[eq_iff_iff]
        refine and_congr_right fun F6=>⟨?_,fun ⟨y,hy,h1⟩=>⟨y,by simp[hy],h1⟩⟩
        rintro ⟨y,hy,h1,h2⟩
        rcases bW.1 hy with rfl | hy
        · exact absurd ⟨h1,by rw[h2,dg];exact F6⟩ hc
        · exact⟨y,hy,h1,h2⟩]
theorem W5 (c:Int) (row:List Bool):∀ {l:List Ld},(∀ x∈l,1≤x.wt)→∀ z:Int × Int,
    (∀ x∈l,x.cls=c∧row.getD x.opt.toNat false=true→0≤(kS c row l z).2∧(kS c row l z).2≤x.wt)∧(0≤z.2→0≤(kS c row l z).2∧(kS c row l z).2≤z.2) ∧
      ((kS c row l z).2=z.2∨∃ x∈l,(x.cls=c∧row.getD x.opt.toNat false=true)∧(kS c row l z).2=x.wt)
  | [],_,z=>⟨by simp,fun h=>⟨h,c9 _⟩,.inl rfl⟩
  | x::r,h,z=>by
    obtain ⟨h1,h2,h3⟩:=W5 c row (l:=r) (fun y hy=>h y (by simp[hy])) (if x.cls=c∧row.getD x.opt.toNat false=true then (z.1 - 1,if z.2<0∨x.wt<z.2 then x.wt else z.2) else z)
    have hx:=h x (by simp)
    rw[kS]
    generalize kS c row r _=w at *
    by_cases hc:x.cls=c∧row.getD x.opt.toNat false=true
    · rw[if_pos hc] at h2 h3
      dsimp only at h2 h3
      refine⟨fun y hy yo=>?_,fun hz=>?_,?_⟩
      · rcases bW.1 hy with rfl | hy
        · split at h2<;>omega
        · exact h1 y hy yo
      · split at h2<;>omega
      · rcases h3 with h3 | ⟨y,hy,h3⟩
        · split at h3
          · exact .inr ⟨x,by simp,hc,h3⟩
          · exact .inl h3
        · exact .inr ⟨y,by simp[hy],h3⟩
    · rw[if_neg hc] at h2 h3
      refine⟨fun y hy yo=>?_,h2,?_⟩
      · rcases bW.1 hy with rfl | hy
        · exact absurd yo hc
        · exact h1 y hy yo
      · rcases h3 with h3 | ⟨y,hy,h3⟩
        · exact .inl h3
        · exact .inr ⟨y,by simp[hy],h3⟩
theorem KJ {m:ae}:∀ {l:List Ld} {q:Option Ld},eo m q l=true→∀ x∈l,∀ w,gd l x.cls x.opt w=x.wt
  | [],_,_,x,hx,w=>by simp at hx
  | y::r,q,h,x,hx,w=>by
    have hr:=KI h
    rw[gd]
    rcases bW.1 hx with rfl | hx
    · rw[if_pos ⟨rfl,rfl⟩]
      exact Gp r _ _ _ fun z hz he=>by have:=xg hr z hz;omega
    · exact KJ hr x hx _
open Classical in
theorem afF {m:ae} {l:List Ld} {q:Option Ld} (hl:eo m q l=true) (c:Int) (row:List Bool):o9 l c row=ny l c row:=by
  have hw:∀ x∈l,1≤x.wt∧x.wt≤1000:=fun x hx=>(kF hl x hx).2
  have h1:=W4 c row hl (o8 row 0,-1)
  obtain ⟨h2,_,h3⟩:=W5 c row (fun x hx=>(hw x hx).1) (o8 row 0,-1)
  unfold o9
  generalize kS c row l (o8 row 0,-1)=z at *
  rw[W3,tq,W2] at h1
  obtain ⟨h4,h5⟩:=W1 (f:=fun i=>(if row.getD i false=true then (1:Int) else 0) - if row.getD i false=true∧∃ x∈l,x.cls=c∧x.opt=(i:Int) then 1 else 0) (n:=row.length) fun i _=>by
    (repeat' split)<;>simp_all
  rw[← h1] at h4 h5
  have hlen:∀ i,row.getD i false=true→i<row.length:=fun i h'=>by
    rcases dG i row.length with h6 | h6
    · exact h6
    · rw[ay,dM h6] at h';simp at h'
  have lQ:∀ x∈l,0≤x.opt:=fun x hx=>(cV.1 (kF hl x hx).1).2.2.1
  by_cases hex :∃o,row.getD o false=true∧¬∃x∈l,x.cls=c∧x.opt=(o:Int)
  · obtain ⟨o,ho,k7⟩:=hex
    rw[if_pos (.inl (h5.2 ⟨o,hlen o ho,by rw[if_pos ho,if_neg (by rintro ⟨_,h'⟩;exact k7 h')];decide⟩))]
    have h6:=Gq hw c row 0 (-1) o ho
    rw[eK,Gp l c o 0 fun y hy he=>k7 ⟨y,hy,he⟩] at h6
    unfold ny;omega
  have fJ:∀ o,row.getD o false=true→∃ x∈l,x.cls=c∧x.opt=(o:Int):=fun o ho=>Classical.byContradiction fun h'=>hex ⟨o,ho,h'⟩
  have hz:¬ 0<z.1:=fun h'=>by
    obtain ⟨i,hi,h6⟩:=h5.1 h'
    by_cases hr:row.getD i false=true
    · rw[if_pos hr,if_pos ⟨hr,fJ i hr⟩] at h6;omega
    · rw[if_neg hr,if_neg (fun h7=>hr h7.1)] at h6;omega
  by_cases vF :∃o,row.getD o false=true
  · obtain ⟨o,ho⟩:=vF
    obtain ⟨x,hx,sF,uC⟩:=fJ o ho
    obtain ⟨g1,g2⟩:=h2 x hx ⟨sF,by rw[uC,dg];exact ho⟩
    rw[if_neg (by omega)]
    have g3:=W0 hw c row 0 (-1) o ho
    unfold ny
    rw[Int.max_eq_left g3]
    refine Int.le_antisymm ?_ ?_
    · rcases KH l c row 0 (-1) with e | ⟨i,hi,e⟩
      · omega
      · obtain ⟨y,hy,k8,W6⟩:=fJ i hi
        rw[e,eK,← W6,← k8,KJ hl y hy]
        exact (h2 y hy ⟨k8,by rw[W6,dg];exact hi⟩).2
    · rcases h3 with e | ⟨y,hy,⟨k8,KK⟩,e⟩
      · dsimp only at e;omega
      · have h6:=Gq hw c row 0 (-1) _ KK
        rw[eK,mr (lQ y hy),← k8,KJ hl y hy] at h6
        rw[← k8];omega
  · have e:z.2 = -1:=by
      rcases h3 with e | ⟨y,hy,⟨k8,KK⟩,e⟩
      · exact e
      · exact absurd ⟨_,KK⟩ vF
    rw[if_pos (.inr (by omega)),ny,KF l c row 0 (-1) fun i=>by
      cases h':row.getD i false with
      | false=>rfl
      | true=>exact absurd ⟨i,h'⟩ vF]
    rfl
open Classical in
theorem W7 {m:ae} (L:List Ld) (left:List (List Bool)) {N:Nat} (hN:m.cls.length≤N):∀ {r:List Ld} {q:Option Ld},eo m q r=true→∀ n:Int,
    rK L left (q.map (·.cls)) r n=n+bw (fun j=>if (∃ x∈r,x.cls=(j:Int))∧q.map (·.cls)≠some (j:Int) then o9 L j (left.getD j default) else 0) N
  | [],_,_,n=>by
    rw[jz (g:=fun _=>0) _ fun i _=>by simp]
    have:∀ n,bw (fun _=>0) n=0:=fun n=>by induction n with | zero=>rfl | succ n ih=>rw[bw,ih];rfl
    rw[this,rK];omega
  | x::r,q,h,n=>by
    have hr:=KI h
    obtain ⟨hx0,W8,_⟩:=cV.1 (kF h x (by simp)).1
    have h0:=W7 L left hN hr
    simp only[eC] at h0
    rw[rK,h0]
    by_cases hq:q.map (·.cls)=some x.cls
    · rw[if_pos hq,hq]
      congr 1
      refine jz _ fun j _=>?_
      congr 1
      rw[eq_iff_iff]
      simp only[ne_eq,dw.injEq]
      refine and_congr_left fun hj=>⟨fun ⟨y,hy,e⟩=>⟨y,by simp[hy],e⟩,?_⟩
      rintro ⟨y,hy,e⟩
      rcases bW.1 hy with rfl | hy
      · exact absurd e hj
      · exact⟨y,hy,e⟩
    · rw[if_neg hq,jz (f:=fun j=>if (∃ y∈x::r,y.cls=(j:Int))∧q.map (·.cls)≠some (j:Int) then o9 L j (left.getD j default) else 0)
        (g:=fun j=>if j=x.cls.toNat then (if (∃ y∈r,y.cls=(j:Int))∧some x.cls≠some (j:Int) then o9 L j (left.getD j default) else 0)+o9 L x.cls (left.getD x.cls.toNat default) else (if (∃ y∈r,y.cls=(j:Int))∧some x.cls≠some (j:Int) then o9 L j (left.getD j default) else 0)) _ fun j _=>by
        have xu:((x.cls.toNat:Nat):Int)=x.cls:=mr hx0
        by_cases e:j=x.cls.toNat
        · subst e
          rw[if_pos ⟨⟨x,by simp,xu.symm⟩,by rw[xu];exact hq⟩,if_pos rfl,if_neg (by rw[xu];simp),xu];omega
        · rw[if_neg e]
          congr 1
          rw[eq_iff_iff]
          constructor
          · rintro ⟨⟨y,hy,KL⟩,_⟩
            rcases bW.1 hy with rfl | hy
            · omega
            · exact⟨⟨y,hy,KL⟩,by simp only[ne_eq,dw.injEq];omega⟩
          · rintro ⟨⟨y,hy,KL⟩,_⟩
            refine⟨⟨y,by simp[hy],KL⟩,fun W9=>?_⟩
            cases q with
            | none=>simp at W9
            | some q =>
              have h6:=xg h y (by simp[hy])
              have h7:=xg h x (by simp)
              have h8:=xg hr y hy
              simp only[eC,dw.injEq] at W9 hq
              omega,AM,if_pos (by omega)]
      omega
theorem afG {m:ae} (hm:VM m) {left:List (List Bool)} (hf:dK m left) {c:Ct} (hc:fP m c=true) :
    rL left c=lO left c∧(rL left c=1099511627776↔(decide (c.bg=1099511627776) && decide (0<lO left c))=true):=by
  obtain ⟨_,q2,q3,q4⟩:=ju hc
  have hw:∀ x∈c.aA,1≤x.wt∧x.wt≤1000:=fun x hx=>(kF q4 x hx).2
  have hs:rK c.aA left none c.aA (-c.most) = -c.most+j' c.aA 0 left 0:=by
    have:=W7 (m:=m) c.aA left (Nat.le_refl _) (q:=none) q4 (-c.most)
    rw[Option.map_none] at this
    rw[this,AN,tq,hf.1]
    congr 1
    refine jz _ fun j _=>?_
    rw[eK]
    split
    · exact afF q4 _ _
    · rename_i hn
      rw[Sa fun x hx e=>hn ⟨⟨x,hx,e⟩,by simp⟩]
  have hr:=Jv hw left
  have vH:=hm.cls
  rw[hf.1] at hr
  unfold rL lO
  rw[hs]
  generalize j' c.aA 0 left 0=s at *
  unfold xp iZ
  unfold fK at q3
  rw[decide_eq_true_eq] at q3
  by_cases h0:s≤c.most
  · rw[Int.max_eq_right (by omega),if_neg (by omega),if_pos h0]
    simp<;>omega
  rw[Int.max_eq_left (by omega),if_neg h0,show -c.most+s=s - c.most by omega]
  rcases q3 with q3 | q3
  · rw[if_neg (by omega)]
    have h1:(s - c.most) * c.bg≤24000 * 1048576:=Int.mul_le_mul (by omega) (by omega) (by omega) (by omega)
    refine⟨rfl,?_⟩
    rw[decide_eq_false (by omega:¬ c.bg=1099511627776),Bool.false_and]
    constructor
    · intro h;omega
    · intro h;simp at h
  · rw[q3,if_pos ⟨by omega,rfl⟩,show min ((s - c.most) * 1099511627776) 1099511627776=(1099511627776:Int) by omega]
    simp
theorem Xa {m:ae} (hm:VM m) {left:List (List Bool)} (hf:dK m left):∀ (k i:Nat) (n:Int),i+k=m.av.length→vL left (m.av.drop i) n=iT ((List.range' i k).map fun j=>qz m left j) n
  | 0,i,n,h=>by rw[b6 (by omega)];rfl
  | k+1,i,n,h=>by
    have hi:i<m.av.length:=by omega
    obtain ⟨h1,h2⟩:=afG hm hf (hm.ct _ (az (d:=default) hi))
    rw[b7 m.av i default hi,vL,List.range'_succ,List.map_cons,iT,Xa hm hf k (i+1) _ (by omega)]
    unfold qz
    dsimp only
    rw[h1] at h2 ⊢
    by_cases h3:lO left (m.av.getD i default)=1099511627776
    · rw[if_pos h3,h2.1 h3];rfl
    · rw[if_neg h3]
      cases hb:(decide ((m.av.getD i default).bg=1099511627776) && decide (0<lO left (m.av.getD i default))) with
      | true=>exact absurd (h2.2 hb) h3
      | false=>rfl
theorem IS {m:ae} (hm:VM m) {left:List (List Bool)} (hf:dK m left):ey m left=nr m left (S0 m,T0 m):=by
  have h1:=WY hm left m.cls.length 0 0 (by omega)
  have h2:=fun n=>WZ hm hf m.ah.length 0 n (by omega)
  have h3:=fun n=>Xa hm hf m.av.length 0 n (by omega)
  simp only[List.drop_zero,← List.range_eq_range'] at h1 h2 h3
  unfold ey nr
  rw[h1]
  show Dy (Bh m left (Dz m left (iT (PC left (S0 m) m.cls.length) 0)))=_
  have h2':∀ n,vK m left m.ah n=iT (PP m left (T0 m) m.ah.length) n:=h2
  have h3':∀ n,vL left m.av n=iT (PK m left m.av.length) n:=h3
  rw[Gs]
  generalize bI (PC left (S0 m) m.cls.length) (0,false)=z
  obtain ⟨a,b⟩:=z
  cases b
  · simp only[Dz,h2',Gs,iJ,if_false]
    generalize bI (PP m left (T0 m) m.ah.length) (a,false)=z
    obtain ⟨a2,b2⟩:=z
    cases b2
    · simp only[Bh,h3',Gs,iJ,if_false]
      generalize bI (PK m left m.av.length) (a2,false)=z
      obtain ⟨a3,b3⟩:=z
      cases b3<;>simp[Dy]
    · simp only[if_true,Bh,Dy,CP]
  · simp only[if_true,Dz,Bh,Dy]
    have:∀ l n,(bI l (n,true))=((bI l (n,true)).1,true):=fun l n=>Prod.ext rfl (CP l n)
    rw[this,this (PK m left m.av.length)]
    rfl
theorem afJ {l:List Ld} (hw:∀ x∈l,1≤x.wt∧x.wt≤1000) (c:Int) (row:List Bool):0≤o9 l c row∧o9 l c row≤1000:=by
  have h:∀ (l:List Ld) (z:Int × Int),(∀ x∈l,1≤x.wt∧x.wt≤1000)→z.2≤1000→(kS c row l z).2≤1000:=by
    intro l
    induction l with
    | nil=>intro z _ h;exact h
    | cons x r ih =>
      intro z h1 h2
      rw[kS]
      refine ih _ (fun y hy=>h1 y (by simp[hy])) ?_
      have:=h1 x (by simp)
      split
      · dsimp only;split<;>omega
      · exact h2
  have:=h l (o8 row 0,-1) hw (by dsimp only;omega)
  unfold o9
  split<;>omega
theorem afK (c:Ct) (k:Int) (row:List Bool) (DA:row.length≤24) (yz:∀ x∈c.aA,x.cls=k→0≤x.opt∧x.opt<row.length) (hl:c.aA.length≤576) :
    ao Tryz.prog 186 [.agg (bu c),.lit (.int .i64 k),.tree 1 (bf row)] [] (.lit (.int .i64 (o9 c.aA k row))) []:=by
  generalize aj:o9 c.aA k row=res
  unfold o9 at aj
  refine ao.aD (fn:=Tryz.f186) 61 0 [.tmp 6] Tryz.func186 rfl rfl rfl rfl rfl (by simp) ?_
  refine Vb @bu.eq_1 ?_
  generalize hM:o8 row 0=M at *
  refine aG (fun z:Nat × Int=>(⟨aw [(1,.lit (.int .i64 k)),(2,.tree 1 (bf row)),(3,.ptr 0 0 0),(7,.lit (.int .i64 z.2)),(8,.lit (.int .i64 (-1))),(13,.tree 1 (bf row)),(14,.lit (.int .i64 row.length)),(15,.lit (.int .i64 z.1))],[.var (bu c)]⟩:St))
    (fun z=>z.1≤row.length∧0≤z.2∧z.2≤z.1∧o8 (row.drop z.1) z.2=M) (fun z=>row.length - z.1) (0,0) ⟨aH _,c9 _,c9 _,hM⟩ (Xv @bu.eq_1) ?_
  rintro ⟨i,n⟩ ⟨hi,cy,eh,hr⟩ Ql ak aq
  dsimp only at hi cy eh hr ⊢
  by_cases ax:i<row.length
  · have hd:=b7 row i false ax
    generalize xr:row.getD i false=a at *
    rw[hd,o8] at hr
    cases a
    · rw[if_neg (by simp)] at hr
      ((repeat' (first|refine Va @xr ?_|(refine Xi ?_ ?_<;>try intro ht)|exact Xx|fail)))
      all_goals exact ak _ (i+1,n) ⟨by dsimp only;omega,cy,by dsimp only;omega,hr⟩ (by dsimp only;omega) (Xv X0)
    · rw[if_pos rfl] at hr
      ((repeat' (first|refine Va @xr ?_|(refine Xi ?_ ?_<;>try intro ht)|exact Xx|fail)))
      all_goals exact ak _ (i+1,n+1) ⟨by dsimp only;omega,by dsimp only;omega,by dsimp only;omega,hr⟩ (by dsimp only;omega) (Xv X0)
  rw[b6 (by omega),o8] at hr
  subst hr
  ((repeat' (first|refine Va X0 ?_|(refine Xi ?_ ?_<;>try intro ht)|exact Xx|fail)))
  refine aq _ _ rfl ?_;clear ak aq Ql
  repeat (refine Xu ?_)
  refine Va @bu.eq_1 ?_
  generalize hZ:kS k row c.aA (n,-1)=Z at *
  refine aG (fun z:Nat × Int × Int=>(⟨aw [(1,.lit (.int .i64 k)),(2,.tree 1 (bf row)),(7,.lit (.int .i64 z.2.1)),(8,.lit (.int .i64 z.2.2)),(24,.tree 3 (rowsOf dF c.aA)),(25,.lit (.int .i64 c.aA.length)),(26,.lit (.int .i64 z.1))],[]⟩:St))
    (fun z=>z.1≤c.aA.length∧-(z.1:Int)≤z.2.1∧z.2.1≤24∧kS k row (c.aA.drop z.1) z.2=Z) (fun z=>c.aA.length - z.1) (0,n,-1) ⟨aH _,by dsimp only;omega,by dsimp only;omega,hZ⟩ (Xs false [] X0) ?_
  rintro ⟨j,y,w⟩ ⟨hj,KM,KN,hr⟩ Ql ak aq
  dsimp only at hj KM KN hr ⊢
  by_cases cq:j<c.aA.length
  · have hd:=b7 c.aA j default cq
    have hm:=yz _ (az (d:=default) cq)
    generalize bS:c.aA.getD j default=x at *
    rw[hd,kS] at hr
    by_cases hc:x.cls=k
    · have hm:=hm hc
      generalize eF:row.getD x.opt.toNat false=b at *
      cases b
      · rw[if_neg (by simp)] at hr
        ((repeat' (first|refine Va (X3 @bS @dF.eq_1 @eF) ?_|(refine V2 (X3 @bS @dF.eq_1 @eF) ?_ ?_<;>try with_reducible intro hb)|(refine Xi ?_ ?_<;>try intro ht)|exact Xx|fail)))
        all_goals exact ak _ (j+1,y,w) ⟨by dsimp only;omega,by dsimp only;omega,KN,hr⟩ (by dsimp only;omega) (Xs false [] X0)
      · rw[if_pos ⟨hc,rfl⟩] at hr
        by_cases hw:w<0∨x.wt<w
        · rw[if_pos hw] at hr
          ((repeat' (first|refine Va (X3 @bS @dF.eq_1 @eF) ?_|(refine V2 (X3 @bS @dF.eq_1 @eF) ?_ ?_<;>try with_reducible intro hb)|(refine Xi ?_ ?_<;>try intro ht)|exact Xx|fail)))
          all_goals exact ak _ (j+1,y - 1,x.wt) ⟨by dsimp only;omega,by dsimp only;omega,by dsimp only;omega,hr⟩ (by dsimp only;omega) (Xs false [] X0)
        · rw[if_neg hw] at hr
          ((repeat' (first|refine Va (X3 @bS @dF.eq_1 @eF) ?_|(refine V2 (X3 @bS @dF.eq_1 @eF) ?_ ?_<;>try with_reducible intro hb)|(refine Xi ?_ ?_<;>try intro ht)|exact Xx|fail)))
          all_goals exact ak _ (j+1,y - 1,w) ⟨by dsimp only;omega,by dsimp only;omega,by dsimp only;omega,hr⟩ (by dsimp only;omega) (Xs false [] X0)
    · rw[if_neg (fun h=>hc h.1)] at hr
      ((repeat' (first|refine Va (X2 @bS @dF.eq_1) ?_|(refine V2 (X2 @bS @dF.eq_1) ?_ ?_<;>try with_reducible intro hb)|(refine Xi ?_ ?_<;>try intro ht)|exact Xx|fail)))
      all_goals exact ak _ (j+1,y,w) ⟨by dsimp only;omega,by dsimp only;omega,KN,hr⟩ (by dsimp only;omega) (Xs false [] X0)
  rw[b6 (by omega),kS] at hr
  rw[← hr] at aj
  dsimp only at aj
  by_cases he:0<y∨w<0
  · rw[if_pos he] at aj
    ((repeat' (first|refine Va X0 ?_|(refine V2 X0 ?_ ?_<;>try with_reducible intro hb)|(refine Xi ?_ ?_<;>try intro ht)|exact Xx|fail)))
    refine aq _ _ rfl ?_;clear ak aq Ql
    repeat (refine Xu ?_)
    ((repeat' (first|refine Vb X0 ?_|(refine V2 X0 ?_ ?_<;>try with_reducible intro hb)|(refine Xi ?_ ?_<;>try intro ht)|exact Xx|fail)))
    all_goals exact aE rfl (by rw[aj])
  · rw[if_neg he] at aj
    ((repeat' (first|refine Va X0 ?_|(refine V2 X0 ?_ ?_<;>try with_reducible intro hb)|(refine Xi ?_ ?_<;>try intro ht)|exact Xx|fail)))
    refine aq _ _ rfl ?_;clear ak aq Ql
    repeat (refine Xu ?_)
    ((repeat' (first|refine Vb X0 ?_|(refine V2 X0 ?_ ?_<;>try with_reducible intro hb)|(refine Xi ?_ ?_<;>try intro ht)|exact Xx|fail)))
    all_goals exact aE rfl (by rw[aj])
theorem afL (m:ae) (c:Ct) (left:List (List Bool)) (hm:VM m) (hc:fP m c=true) (hf:dK m left) :
    ao Tryz.prog 159 [.agg (bu c),.tree 1 (rowsOf aK left)] [] (.lit (.int .i64 (rL left c))) []:=by
  obtain ⟨q1,q2,q3,q4⟩:=ju hc
  have hl:=uq hm q4
  have cd:=kF q4
  have gB:=hf.1
  have bL:=hm.cls
  have hw:∀ x∈c.aA,1≤x.wt∧x.wt≤1000:=fun x hx=>(cd x hx).2
  have kh:=fun k row=>afJ hw k row
  generalize aj:rL left c=res
  unfold rL at aj
  generalize hG:rK c.aA left none c.aA (-c.most)=G at *
  refine ao.aD (fn:=Tryz.f159) 50 0 [.tmp 4] Tryz.func159 rfl rfl rfl rfl rfl (by simp) ?_
  refine Vb @bu.eq_1 ?_
  refine aG (fun z:Nat × Int=>(⟨aw [(1,.tree 1 (rowsOf aK left)),(2,.ptr 0 0 0),(5,.lit (.int .i64 z.2)),(12,.tree 3 (rowsOf dF c.aA)),(13,.lit (.int .i64 c.aA.length)),(14,.lit (.int .i64 z.1))],[.var (bu c)]⟩:St))
    (fun z=>z.1≤c.aA.length∧-1048576≤z.2∧z.2≤1000 * (z.1:Int)∧rK c.aA left ((lq c.aA z.1).map (·.cls)) (c.aA.drop z.1) z.2=G) (fun z=>c.aA.length - z.1) (0,-c.most) ⟨aH _,by dsimp only;omega,by dsimp only;omega,hG⟩ (Xv @bu.eq_1) ?_
  rintro ⟨i,n⟩ ⟨hi,cy,eh,hr⟩ Ql ak aq
  dsimp only at hi cy eh hr ⊢
  by_cases ax:i<c.aA.length
  · have hd:=b7 c.aA i default ax
    have hx:=cd _ (az (d:=default) ax)
    have Dc:=cV.1 hx.1
    have KO:(lq c.aA (i+1)).map (·.cls)=some (c.aA.getD i default).cls:=by rw[uu];rfl
    have KP:0<i→(lq c.aA i).map (·.cls)=some (c.aA.getD (i - 1) default).cls:=fun h=>by unfold lq;rw[if_neg (by omega)];rfl
    have yK:i=0→(lq c.aA i).map (·.cls)=none:=fun h=>by unfold lq;rw[if_pos h];rfl
    rw[hd,rK] at hr
    have bX:=hf.2 (c.aA.getD i default).cls.toNat (by omega)
    have DA:=hm.opt _ (az (l:=m.cls) (i:=(c.aA.getD i default).cls.toNat) (d:=default) (by omega))
    have aT:=afK c (c.aA.getD i default).cls (left.getD (c.aA.getD i default).cls.toNat default) (by omega) (fun y hy e=>by
      have:=cV.1 (cd y hy).1
      rw[e] at this
      omega) hl
    have ze:=kh (c.aA.getD i default).cls (left.getD (c.aA.getD i default).cls.toNat default)
    have iF:0<i→((i:Int) - 1).toNat=i - 1:=fun h=>by omega
    generalize bQ:(lq c.aA i).map (·.cls)=pq at *
    generalize bS:c.aA.getD i default=x at *
    generalize pN:c.aA.getD (i - 1) default=y at *
    generalize a6:left.getD x.cls.toNat default=row at *
    generalize o9 c.aA x.cls row=g at *
    rcases Nat.eq_zero_or_pos i with h0 | h0
    · rw[yK h0,if_neg (by simp)] at hr
      subst h0
      ((repeat' (first|refine Vc (X5 @bS @dF.eq_1 @a6 @aK.eq_1 @bu.eq_1) aT ?_|(refine Xi ?_ ?_<;>try intro ht)|exact Xx|fail)))
      all_goals exact ak _ (0+1,n+g) ⟨by dsimp only;omega,by dsimp only;omega,by dsimp only;omega,by dsimp only;rw[KO];exact hr⟩ (by dsimp only;omega) (Xs false [0] @bu.eq_1)
    · rw[KP h0] at hr
      have iF:=iF h0
      by_cases he:y.cls=x.cls
      · rw[if_pos (by rw[he])] at hr
        ((repeat' (first|refine Vc (X5 @bS @pN @iF @dF.eq_1 (X3 @a6 @aK.eq_1 @bu.eq_1)) aT ?_|(refine V2 (X5 @bS @pN @iF @dF.eq_1 (X3 @a6 @aK.eq_1 @bu.eq_1)) ?_ ?_<;>try with_reducible intro hb)|(refine Xi ?_ ?_<;>try intro ht)|exact Xx|fail)))
        all_goals exact ak _ (i+1,n) ⟨by dsimp only;omega,cy,by dsimp only;omega,by dsimp only;rw[KO];exact hr⟩ (by dsimp only;omega) (Xs false [0] @bu.eq_1)
      · rw[if_neg (fun e=>he (by injection e))] at hr
        ((repeat' (first|refine Vc (X5 @bS @pN @iF @dF.eq_1 (X3 @a6 @aK.eq_1 @bu.eq_1)) aT ?_|(refine V2 (X5 @bS @pN @iF @dF.eq_1 (X3 @a6 @aK.eq_1 @bu.eq_1)) ?_ ?_<;>try with_reducible intro hb)|(refine Xi ?_ ?_<;>try intro ht)|exact Xx|fail)))
        all_goals exact ak _ (i+1,n+g) ⟨by dsimp only;omega,by dsimp only;omega,by dsimp only;omega,by dsimp only;rw[KO];exact hr⟩ (by dsimp only;omega) (Xs false [0] @bu.eq_1)
  · rw[b6 (by omega),rK] at hr
    subst hr
    have uP:=WA (max n 0) c.bg (by omega) q3
    rw[aj] at uP
    ((repeat' (first|refine Va X0 ?_|(refine V2 X0 ?_ ?_<;>try with_reducible intro hb)|(refine Xi ?_ ?_<;>try intro ht)|exact Xx|fail)))
    refine aq _ _ rfl ?_;clear ak aq Ql
    repeat (refine Xu ?_)
    refine Vd @bu.eq_1 uP ?_
    all_goals exact aE rfl rfl
theorem afM (left:List (List Bool)) {c:Ct} (hp:fK c.bg=true):0≤rL left c∧rL left c≤1099511627776:=by
  have:=g7 hp
  unfold aS at this
  unfold rL xp
  have h:0≤max (rK c.aA left none c.aA (-c.most)) 0:=by omega
  generalize max (rK c.aA left none c.aA (-c.most)) 0=n at *
  have:=Int.mul_nonneg h this.1
  split<;>omega
theorem afN (m:ae) (left:List (List Bool)) (hm:VM m) (hf:dK m left):ao Tryz.prog 104 [.agg (au m),.tree 1 (rowsOf aK left)] [] (.lit (.int .i64 (ey m left))) []:=by
  have gB:=hf.1
  have nX:=hm.cls
  have Db:=hm.ah
  have B4:=hm.av
  generalize aj:ey m left=res
  unfold ey at aj
  generalize hA:tY left 0 m.cls 0=A at *
  refine ao.aD (fn:=Tryz.f104) 85 0 [.tmp 4] Tryz.func104 rfl rfl rfl rfl rfl (by simp) ?_
  refine Vb X0 ?_
  refine aG (fun z:Nat × Int=>(⟨aw [(1,.tree 1 (rowsOf aK left)),(2,.ptr 0 0 0),(5,.lit (.int .i64 z.2)),(18,.tree 1 (rowsOf bA m.cls)),(19,.lit (.int .i64 m.cls.length)),(20,.lit (.int .i64 z.1))],[.var (au m)]⟩:St))
    (fun z=>z.1≤m.cls.length∧0≤z.2∧z.2≤1099511627776 * (z.1:Int)∧tY left z.1 (m.cls.drop z.1) z.2=A) (fun z=>m.cls.length - z.1) (0,0) ⟨aH _,c9 _,by dsimp only;omega,hA⟩ (Xv X0) ?_
  rintro ⟨i,n⟩ ⟨hi,cy,eh,hr⟩ Ql ak aq
  dsimp only at hi cy eh hr ⊢
  by_cases ax:i<m.cls.length
  · have hd:=b7 m.cls i default ax
    have hc:=hm.opt _ (az (d:=default) ax)
    have ej:=hm.mf _ (az (d:=default) ax)
    have bX:=hf.2 i (by omega)
    have Xj:=hm.mP
    generalize aJ:m.cls.getD i default=c at *
    generalize a6:left.getD i default=row at *
    rw[hd,tY,a6] at hr
    have hmr:=Kz (gb c) row 1099511627776 (fun x hx=>by
      obtain ⟨o,ho,rfl⟩:=List.mem_map.1 hx
      exact (CC (ej o ho)).1) (by omega)
    generalize hX:kR (gb c) row 1099511627776=X at *
    ((repeat' (first|refine Va (X2 @aJ @bA.eq_1) ?_|(refine Xi ?_ ?_<;>try intro ht)|exact Xx|fail)))
    refine aG (fun z:Nat × Int=>(⟨aw [(1,.tree 1 (rowsOf aK left)),(2,.ptr 0 0 0),(5,.lit (.int .i64 n)),(6,.lit (.int .i64 i)),(8,.lit (.int .i64 z.2)),(18,.tree 1 (rowsOf bA m.cls)),(19,.lit (.int .i64 m.cls.length)),(20,.lit (.int .i64 i)),(25,.tree 6 (rowsOf dJ c)),(26,.lit (.int .i64 c.length)),(27,.lit (.int .i64 z.1))],[.var (au m)]⟩:St))
      (fun z=>z.1≤c.length∧kR (gb (c.drop z.1)) (row.drop z.1) z.2=X) (fun z=>c.length - z.1) (0,1099511627776) ⟨aH _,hX⟩ (Xv X0) ?_
    rintro ⟨k,x⟩ ⟨hk,fF⟩ cR ba bd
    dsimp only at hk fF ⊢
    by_cases aF:k<c.length
    · have jy:=b7 c k default aF
      have gT:=b7 row k false (by omega)
      have ho:=az (l:=c) (d:=default) aF
      have how:=afn (c.getD k default) (FB (ej _ ho)) (by have:=AL Xj.1 (ej _ ho);omega)
      generalize lP:c.getD k default=o at *
      generalize eF:row.getD k false=b at *
      rw[jy,gT,show gb (o::c.drop (k+1))=qo o::gb (c.drop (k+1)) from rfl,kR] at fF
      cases b
      · rw[if_neg (by simp)] at fF
        ((repeat' (first|refine Va (X4 @lP @a6 @eF @aK.eq_1) ?_|(refine Xi ?_ ?_<;>try intro ht)|exact Xx|fail)))
        all_goals exact ba _ (k+1,x) ⟨by dsimp only;omega,fF⟩ (by dsimp only;omega) (Xs false [0] X0)
      · rw[if_pos rfl] at fF
        ((repeat' (first|refine Vc (X4 @lP @a6 @eF @aK.eq_1) how ?_|(refine Xi ?_ ?_<;>try intro ht)|exact Xx|fail)))
        all_goals exact ba _ (k+1,min x (qo o)) ⟨by dsimp only;omega,fF⟩ (by dsimp only;omega) (Xs false [0] X0)
    · rw[show c.drop k=[] from b6 (by omega)] at fF
      have hxX:x=X:=by rw[← fF];cases row.drop k<;>rfl
      clear fF
      subst hxX
      by_cases hF:x=1099511627776
      · rw[if_pos hF] at hr
        ((repeat' (first|refine Va X0 ?_|(refine Xi ?_ ?_<;>try intro ht)|exact Xx|fail)))
        refine bd _ _ rfl ?_
        clear ba bd
        repeat (refine Xu ?_)
        ((repeat' (first|refine Va X0 ?_|(refine Xi ?_ ?_<;>try intro ht)|exact Xx|fail)))
        all_goals
          repeat (refine Xu ?_)
          rw[← hr] at aj
          refine Vb X0 ?_
          exact aE rfl (by rw[← aj];rfl)
      · rw[if_neg hF] at hr
        ((repeat' (first|refine Va X0 ?_|(refine Xi ?_ ?_<;>try intro ht)|exact Xx|fail)))
        refine bd _ _ rfl ?_
        clear ba bd
        repeat (refine Xu ?_)
        ((repeat' (first|refine Va X0 ?_|(refine Xi ?_ ?_<;>try intro ht)|exact Xx|fail)))
        all_goals exact ak _ (i+1,n+x) ⟨by dsimp only;omega,by dsimp only;omega,by dsimp only;omega,hr⟩ (by dsimp only;omega) (Xv X0)
  rw[show m.cls.drop i=[] from b6 (by omega),tY] at hr
  subst hr
  have oF:n≤1099511627776 * 24:=by omega
  clear eh
  rw[Dz] at aj
  generalize hB:vK m left m.ah n=B at *
  ((repeat' (first|refine Va X0 ?_|(refine Xi ?_ ?_<;>try intro ht)|exact Xx|fail)))
  refine aq _ _ rfl ?_;clear ak aq Ql
  repeat (refine Xu ?_)
  refine Va X0 ?_
  refine aG (fun z:Nat × Int=>(⟨aw [(1,.tree 1 (rowsOf aK left)),(2,.ptr 0 0 0),(5,.lit (.int .i64 z.2)),(51,.tree 4 (rowsOf bc m.ah)),(52,.lit (.int .i64 m.ah.length)),(53,.lit (.int .i64 z.1))],[.var (au m)]⟩:St))
    (fun z=>z.1≤m.ah.length∧0≤z.2∧z.2≤1099511627776 * 24+1099511627776 * (z.1:Int)∧vK m left (m.ah.drop z.1) z.2=B) (fun z=>m.ah.length - z.1) (0,n) ⟨aH _,cy,by dsimp only;omega,hB⟩ (Xv X0) ?_
  (try clear cy;clear hi oF hB i)
  rintro ⟨i,n⟩ ⟨hi,cy,eh,hr⟩ Ql ak aq
  dsimp only at hi cy eh hr ⊢
  by_cases ax:i<m.ah.length
  · have hd:=b7 m.ah i default ax
    have ca:=fY hm.pr _ (az (d:=default) ax)
    have xh:=afo m _ left hm ca hf
    have jx:=afm hm ca hf
    generalize bQ:m.ah.getD i default=p at *
    rw[hd,vK] at hr
    generalize sZ m left p=x at *
    by_cases hF:x=1099511627776
    · rw[if_pos hF] at hr
      ((repeat' (first|refine Vc (X2 @bQ @bc.eq_1) xh ?_|(refine Xi ?_ ?_<;>try intro ht)|exact Xx|fail)))
      all_goals
        repeat (refine Xu ?_)
        rw[← hr] at aj
        refine Vb X0 ?_
        exact aE rfl (by rw[← aj];rfl)
    · rw[if_neg hF] at hr
      ((repeat' (first|refine Vc (X2 @bQ @bc.eq_1) xh ?_|(refine Xi ?_ ?_<;>try intro ht)|exact Xx|fail)))
      all_goals exact ak _ (i+1,n+x) ⟨by dsimp only;omega,by dsimp only;omega,by dsimp only;omega,hr⟩ (by dsimp only;omega) (Xs false [0] X0)
  rw[show m.ah.drop i=[] from b6 (by omega),vK] at hr
  subst hr
  have oF:n≤1099511627776 * 5000:=by omega
  clear eh
  rw[Bh] at aj
  generalize hB:vL left m.av n=B at *
  ((repeat' (first|refine Va X0 ?_|(refine Xi ?_ ?_<;>try intro ht)|exact Xx|fail)))
  refine aq _ _ rfl ?_;clear ak aq Ql
  repeat (refine Xu ?_)
  refine Va X0 ?_
  refine aG (fun z:Nat × Int=>(⟨aw [(1,.tree 1 (rowsOf aK left)),(2,.ptr 0 0 0),(5,.lit (.int .i64 z.2)),(68,.tree 4 (rowsOf bu m.av)),(69,.lit (.int .i64 m.av.length)),(70,.lit (.int .i64 z.1))],[.var (au m)]⟩:St))
    (fun z=>z.1≤m.av.length∧0≤z.2∧z.2≤1099511627776 * 5000+1099511627776 * (z.1:Int)∧vL left (m.av.drop z.1) z.2=B) (fun z=>m.av.length - z.1) (0,n) ⟨aH _,cy,by dsimp only;omega,hB⟩ (Xv X0) ?_
  (try clear cy;clear hi oF hB i)
  rintro ⟨i,n⟩ ⟨hi,cy,eh,hr⟩ Ql ak aq
  dsimp only at hi cy eh hr ⊢
  by_cases ax:i<m.av.length
  · have hd:=b7 m.av i default ax
    have mS:=hm.ct _ (az (d:=default) ax)
    have xh:=afL m _ left hm mS hf
    have jx:=afM left (ju mS).2.2.1
    generalize bQ:m.av.getD i default=p at *
    rw[hd,vL] at hr
    generalize rL left p=x at *
    by_cases hF:x=1099511627776
    · rw[if_pos hF] at hr
      ((repeat' (first|refine Vc (X2 @bQ @bu.eq_1) xh ?_|(refine Xi ?_ ?_<;>try intro ht)|exact Xx|fail)))
      all_goals
        repeat (refine Xu ?_)
        rw[← hr] at aj
        refine Vb X0 ?_
        exact aE rfl (by rw[← aj];rfl)
    · rw[if_neg hF] at hr
      ((repeat' (first|refine Vc (X2 @bQ @bu.eq_1) xh ?_|(refine Xi ?_ ?_<;>try intro ht)|exact Xx|fail)))
      all_goals exact ak _ (i+1,n+x) ⟨by dsimp only;omega,by dsimp only;omega,by dsimp only;omega,hr⟩ (by dsimp only;omega) (Xs false [0] X0)
  rw[show m.av.drop i=[] from b6 (by omega),vL] at hr
  rw[← hr] at aj
  have mT:=Gi n
  rw[show min n 1099511627776=res from aj] at mT
  ((repeat' (first|refine Va X0 ?_|(refine Xi ?_ ?_<;>try intro ht)|exact Xx|fail)))
  refine aq _ _ rfl ?_;clear ak aq Ql
  repeat (refine Xu ?_)
  refine Vd X0 mT ?_
  exact aE rfl rfl
end T

