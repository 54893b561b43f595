import Derived.Test.YtdipcmigdbnheaaGreatX29
import Derived.Test.YtdipcmigdbnheaaGreatX30
import Derived.Test.YtdipcmigdbnheaaGreatX26
import Derived.Test.YtdipcmigdbnheaaGreatX15
set_option linter.unusedVariables false
set_option linter.unusedSimpArgs false
set_option linter.unnecessarySimpa false
set_option linter.unusedSectionVars false
set_option maxHeartbeats 64000000
set_option maxRecDepth 20000
open Int renaming le_refl→dE,le_trans→pk,toNat_of_nonneg→po,toNat_natCast→gD
open Bool renaming and_eq_true→bk,false_or→mS,not_eq_false→Ft
open List renaming getD_eq_getElem?_getD→aA,getElem?_set→b6,length_replicate→tG,mem_map→ca,any_eq_true→p8,getElem_of_mem→sv,getElem?_eq_getElem→bX,all_eq_true→gU,getElem?_map→cm,getElem_mem→pW
open Option renaming getD_some→mP
open Nat renaming le_refl→aG
open Go Go.Am Go.Proofs
open Nat (reduceEqDiff reduceAdd reduceLeDiff reduceMul)
open Int (reduceNeg reduceLE reduceToNat)
open Go Go.Am
namespace T
def jP (m:aj) (P:List Nd) (b:Int) (s:eh):Int × Bool :=
  if (nd P s.1).cls≠-1 then (b,true)
  else if 0<(nd P s.1).dt.length then (b,Ej m (nd P s.1) s.2.1)
  else (min b (kR m s.2.1 (nd P s.1).eU).1,(kR m s.2.1 (nd P s.1).eU).2 == 0)
def l9 (m:aj) (P:List Nd):Int × Bool:=if (rV m P (jP m P) 1099511627776).2=true then ((rV m P (jP m P) 1099511627776).1,true) else (0,false)
theorem UC {α:Type} {P:List Nd} {step:α→eh→α × Bool}:∀ {L:List eh} {a r:α},kT P step L a=(r,true)→∀ (J:α→Prop) (R:α→α→Prop),(∀ x,R x x)→(∀ x y z,R x y→R y z→R x z)→(∀ s∈L,∀ x,(step x s).2=true→R x (step x s).1) →
    ∀ s∈L,s.2.2.contains (nd P s.1).cls=false∧∃ x,(step x s).2=true∧R (step x s).1 r
  | [],a,r,h,J,R,h1,h2,h3,s,hs=>by simp at hs
  | t::L,a,r,h,J,R,h1,h2,h3,s,hs=>by
    rw[kT] at h
    split at h
    · cases h
    · rename_i hc
      split at h
      · rename_i iK
        have ih:=UC h J R h1 h2 (fun u hu=>h3 u (by simp[hu]))
        rcases List.mem_cons.1 hs with e | hs
        · subst e
          refine⟨by simpa using hc,a,iK,?_⟩
          have mono:∀ (L:List eh) (x y:α),(∀ u∈L,∀ x,(step x u).2=true→R x (step x u).1)→kT P step L x=(y,true)→R x y:=by
            intro L
            induction L with
            | nil=>intro x y _ h;rw[kT] at h;cases h;exact h1 _
            | cons u L Bs =>
              intro x y hm h
              rw[kT] at h
              split at h
              · cases h
              · split at h
                · rename_i hu;exact h2 _ _ _ (hm u (by simp) x hu) (Bs _ _ (fun v hv=>hm v (by simp[hv])) h)
                · cases h
          exact mono L _ _ (fun u hu=>h3 u (by simp[hu])) h
        · exact ih s hs
      · cases h
theorem Uh {m:aj} {P:List Nd} {n:Int} (h:l9 m P=(n,true)):VM m∧lN m P=true∧kT P (jP m P) (vs P (root m)) 1099511627776=(n,true):=by
  unfold l9 rV at h
  by_cases h2:dz m=0∧lN m P=true
  · rw[if_pos h2] at h
    split at h
    · rename_i h1
      refine⟨eB.1 h2.1,h2.2,?_⟩
      have e:(kT P (jP m P) (vs P (root m)) 1099511627776).1=n:=congrArg Prod.fst h
      exact Prod.ext e h1
    · cases h
  · rw[if_neg h2] at h
    split at h
    · rename_i h1;cases h1
    · cases h
theorem UD {m:aj} {P:List Nd} (b:Int) (s:eh):(jP m P b s).1≤b:=by
  unfold jP
  split
  · exact dE _
  split
  · exact dE _
  · exact Int.min_le_left ..
theorem Ui {m:aj} {P:List Nd} {n:Int} (h:kT P (jP m P) (vs P (root m)) 1099511627776=(n,true)):n≤1099511627776∧∀ s∈vs P (root m),s.2.2.contains (nd P s.1).cls=false∧((nd P s.1).cls = -1→if 0<(nd P s.1).dt.length then Ej m (nd P s.1) s.2.1=true else n≤(kR m s.2.1 (nd P s.1).eU).1∧(kR m s.2.1 (nd P s.1).eU).2=0):=by
  have adf:∀ (L:List eh) (a r:Int),kT P (jP m P) L a=(r,true)→r≤a:=by
    intro L
    induction L with
    | nil=>intro a r h;rw[kT] at h;cases h;exact dE _
    | cons s L ih =>
      intro a r h
      rw[kT] at h
      split at h
      · cases h
      · split at h
        · exact pk (ih _ _ h) (UD a s)
        · cases h
  refine⟨adf _ _ _ h,fun s hs=>?_⟩
  obtain ⟨h1,x,h2,h3⟩:=UC h (fun _=>True) (fun x y=>y≤x) (fun x=>dE _) (fun x y z h1 h2=>pk h2 h1) (fun s _ x _=>UD x s) s hs
  refine⟨h1,fun hc=>?_⟩
  unfold jP at h2 h3
  rw[if_neg (by omega)] at h2 h3
  split
  · rename_i hg
    rw[if_pos hg] at h2
    exact h2
  · rename_i hg
    rw[if_neg hg] at h2 h3
    dsimp only at h2 h3
    exact⟨by omega,by simpa using h2⟩
theorem adg {m:aj} {P:List Nd} (hm:VM m) (hs:lN m P=true) {plan:List Int} (hp:FP m plan):∀ (f:Nat) (s:eh),uF m P s→P.length - s.1≤f→vM m s.2.1 plan→∃ t∈vs P s,uF m P t∧(nd P t.1).cls = -1∧vM m t.2.1 plan:=by
  have hd:=Ev hs
  intro f
  induction f with
  | zero=>intro s hg hf;have:=hg.1;omega
  | succ f ih =>
    intro s hg hf ei
    rw[zl hd hg.1]
    by_cases hc:(nd P s.1).cls = -1
    · exact⟨s,by simp,hg,hc,ei⟩
    · have hn:=Ii hs hg.1
      unfold lM ni at hn
      rw[bk,if_neg hc,decide_eq_true_eq] at hn
      obtain ⟨⟨c1,c2,c3,_⟩,_⟩:=hn
      have cq:=hp.len
      have UE:=hp.get (nd P s.1).cls.toNat (by omega)
      rw[po c1] at UE
      obtain ⟨o1,o2,o3,o4⟩:=fZ.1 UE
      have ho:(plan.getD (nd P s.1).cls.toNat 0).toNat<(nd P s.1).kids.length:=by omega
      have hk:=zk hd hg.1 ho
      have eP:=hg.2.1.1
      have a7:=hg.2.1.2 (nd P s.1).cls.toNat (by omega)
      obtain ⟨t,ht,h2⟩:=ih (mM P s (plan.getD (nd P s.1).cls.toNat 0).toNat) (TR hd hg ho) (by omega) (fun i hi=>by
        show ((bT s.2.1 (nd P s.1).cls.toNat (plan.getD (nd P s.1).cls.toNat 0).toNat).getD i default).getD _ false=true
        unfold bT
        by_cases e:(nd P s.1).cls.toNat=i
        · subst e
          rw[Tu _ _ _ (by omega)]
          unfold lI
          rw[aA,b6,if_pos rfl,if_pos (by rw[tG,a7];omega)];rfl
        · rw[aA (l:=s.2.1.set _ _),List.getElem?_set_ne e,← aA]
          exact ei i hi)
      refine⟨t,List.mem_cons_of_mem _ (List.mem_flatMap.2 ⟨_,?_,ht⟩),h2⟩
      rw[List.mem_reverse]
      exact ca.2 ⟨_,List.mem_range.2 ho,rfl⟩
theorem UF:∀ (f:Nat→Int) (n i:Nat),(∀ j,j<n→0≤f j)→i<n→f i≤bj f n
  | f,0,i,_,h=>by omega
  | f,n+1,i,h0,h=>by
    rw[bj]
    have CJ:∀ n,(∀ j,j<n→0≤f j)→0≤bj f n:=fun n=>by
      induction n with
      | zero=>intro _;exact dE _
      | succ n ih=>intro h;rw[bj];have:=ih fun j hj=>h j (by omega);have:=h n (by omega);omega
    by_cases e:i=n
    · subst e;have:=CJ i fun j hj=>h0 j (by omega);omega
    · have:=UF f n i (fun j hj=>h0 j (by omega)) (by omega);have:=h0 n (by omega);omega
theorem UG (f:Nat→Int) (n:Nat) (h:∀ j,j<n→0≤f j):0≤bj f n:=by
  induction n with
  | zero=>exact dE _
  | succ n ih=>rw[bj];have:=ih fun j hj=>h j (by omega);have:=h n (by omega);omega
theorem UH {m:aj} (hm:VM m) {plan:List Int} (hp:FP m plan) {j:Nat} (hj:j<m.cls.length):0≤kL m plan j:=by
  have h0:=hp.get j (by rw[hp.len];exact hj)
  obtain ⟨b1,b2,b3,b4⟩:=fZ.1 h0
  rw[gD] at b4
  have hl:=aC (l:=m.cls) (i:=j) (d:=default) hj
  have ho:=aC (l:=m.cls.getD j default) (i:=(plan.getD j 0).toNat) (d:=default) (by omega)
  have:=AR (hm.kI _ hl _ ho)
  unfold bF at this
  unfold kL;omega
theorem UJ {m:aj} (hm:VM m) (plan:List Int) {i:Nat} (hi:i<m.ae.length):0≤jm m plan (m.ae.getD i default):=by
  have dG:=jh hm.pr _ (aC (l:=m.ae) (i:=i) (d:=default) hi)
  have:=yV dG (plan.getD (m.ae.getD i default).fst.toNat 0) (plan.getD (m.ae.getD i default).snd.toNat 0)
  unfold bF at this
  unfold jm;omega
theorem UK {m:aj} (hm:VM m) (plan:List Int) {i:Nat} (hi:i<m.au.length):0≤g9 plan (m.au.getD i default):=by
  obtain ⟨q1,q2,q3,q4⟩:=lj (hm.ct _ (aC (l:=m.au) (i:=i) (d:=default) hi))
  have:=yU (most:=(m.au.getD i default).most) (sum:=iU plan (m.au.getD i default).aS 0) (jY q3)
  unfold bF at this
  unfold g9;omega
theorem adh {m:aj} (hm:VM m) {plan:List Int} (hp:FP m plan) {a b:Int} (h:vO m a (plan.getD a.toNat 0) b (plan.getD b.toNat 0)=true):iF (gQ m plan) 0=1099511627776:=by
  have hex :∃p∈m.ae,jm m plan p=1099511627776:=by
    unfold vO at h
    split at h
    · obtain ⟨p,hp,h⟩:=p8.1 h
      unfold Ei at h
      rw[decide_eq_true_eq] at h
      exact⟨p,hp,by unfold jm;rw[h.1,h.2.1];exact h.2.2⟩
    · obtain ⟨p,hp,h⟩:=p8.1 h
      unfold Ei at h
      rw[decide_eq_true_eq] at h
      exact⟨p,hp,by unfold jm;rw[h.1,h.2.1];exact h.2.2⟩
  obtain ⟨p,xr,he⟩:=hex
  obtain ⟨i,hi,rfl⟩:=sv xr
  rw[y9 hm hp]
  have h1:=UG (kL m plan) m.cls.length fun j hj=>UH hm hp hj
  have h2:=UF (fun i=>jm m plan (m.ae.getD i default)) m.ae.length i (fun j hj=>UJ hm plan hj) hi
  have h3:=UG (fun i=>g9 plan (m.au.getD i default)) m.au.length fun j hj=>UK hm plan hj
  have e:m.ae.getD i default=m.ae[i]:=by rw[aA,bX hi];rfl
  rw[e,he] at h2
  omega
theorem UL:∀ (n:Nat) (l:List Nat),l.Nodup→(∀ x∈l,x<n)→l.length≤n
  | 0,l,_,h=>by
    cases l with
    | nil=>simp
    | cons x l=>have:=h x (by simp);omega
  | n+1,l,hn,h=>by
    have h1:=UL n (l.erase n) (hn.erase n) (fun x hx=>by
      have h2:=(hn.mem_erase_iff).1 hx
      have:=h x h2.2
      have:=h2.1
      omega)
    rw[List.length_erase] at h1
    split at h1<;>omega
theorem adi {n:Nat}:∀ (l:List Nat),l.length > n→(∀ x∈l,x<n)→∃ i j,i<j∧j<l.length∧l[i]?=l[j]?:=by
  intro l hl hx
  by_cases hn:l.Nodup
  · exfalso
    have h2:=UL n l hn hx
    omega
  · unfold List.Nodup at hn
    rw[List.pairwise_iff_getElem] at hn
    simp only[Classical.not_forall,Decidable.not_not] at hn
    obtain ⟨i,j,hi,hj,pO,he⟩:=hn
    exact⟨i,j,pO,hj,by rw[bX hi,bX hj,he]⟩
theorem adj {m:aj} (hm:VM m) {plan:List Int} (hp:FP m plan) {x:Nd} {left:List (List Bool)} (hf:eG m left) (ei:vM m left plan) (h:Ej m x left=true):iF (gQ m plan) 0=1099511627776:=by
  unfold Ej at h
  simp only[bk,decide_eq_true_eq] at h
  obtain ⟨⟨⟨h1,h2⟩,h3⟩,h4⟩:=h
  have hgm:=ab3 h1
  rw[gU] at h3 h4
  have nA:∀ c∈x.dt,∃ i,i<x.cells.length∧(c,plan.getD c.toNat 0)∈x.cells.getD i default:=fun c hc=>by
    have pC:=hgm c hc
    have bd:=h4 c hc
    unfold To at bd
    have cq:=hp.len
    have hg:=hp.get c.toNat (by omega)
    obtain ⟨b1,b2,b3,b4⟩:=fZ.1 hg
    rw[gD] at b4
    have hr:=hf.2 c.toNat (by have:=hf.1;omega)
    have h5:=Ek.1 bd (plan.getD c.toNat 0).toNat (by omega)
    rw[ei c.toNat (by omega),Bool.not_true,mS,p8] at h5
    obtain ⟨l,hl,h6⟩:=h5
    rw[p8] at h6
    obtain ⟨y,hy,h7⟩:=h6
    unfold Tj at h7
    rw[decide_eq_true_eq,po b3] at h7
    obtain ⟨i,hi,rfl⟩:=sv hl
    refine⟨i,hi,?_⟩
    rw[aA,bX hi,mP,← h7]
    exact hy
  have ep :∃f:Int→Nat,∀ c∈x.dt,f c<x.cells.length∧(c,plan.getD c.toNat 0)∈x.cells.getD (f c) default:=by
    classical
    refine⟨fun c=>if hc:c∈x.dt then Classical.choose (nA c hc) else 0,fun c hc=>?_⟩
    dsimp only
    rw[dif_pos hc]
    exact Classical.choose_spec (nA c hc)
  obtain ⟨f,qQ⟩:=ep
  obtain ⟨i,j,pO,hj,he⟩:=adi (n:=x.cells.length) (x.dt.map f) (by simpa using h2) (fun y hy=>by
    obtain ⟨c,hc,rfl⟩:=ca.1 hy
    exact (qQ c hc).1)
  rw[List.length_map] at hj
  rw[cm,cm,bX (by omega),bX hj] at he
  simp only[Option.map_some,Option.some.injEq] at he
  have bw:∀ j,j<x.dt.length→∀ i,i<j→x.dt.getD i 0<x.dt.getD j 0:=by
    intro j
    induction j with
    | zero=>intro _ i hi;omega
    | succ j ih =>
      intro hj i hi
      have h5:=Ek.1 h1 (j+1) hj
      rw[decide_eq_true_eq] at h5
      have h6:x.dt.getD j 0<x.dt.getD (j+1) 0:=by
        rcases h5.2.2 with h | h
        · omega
        · simpa using h
      by_cases e:i=j
      · subst e;exact h6
      · have:=ih (by omega) i (by omega);omega
  have dm:=bw j hj i pO
  rw[aA,aA,bX (by omega),bX hj,mP,mP] at dm
  have m1:=(qQ x.dt[i] (pW _)).2
  have m2:=(qQ x.dt[j] (pW _)).2
  rw[he] at m1
  have cE:=(qQ x.dt[j] (pW _)).1
  generalize x.dt[i]=a at *
  generalize x.dt[j]=b at *
  have h5:=h3 _ (aC (d:=default) cE)
  generalize x.cells.getD (f b) default=l at *
  unfold Tm at h5
  have key:∀ u v:Int × Int,u∈l→v∈l→u.1≠v.1→vO m u.1 u.2 v.1 v.2=true:=fun u v hu hv dm=>by
    obtain ⟨p,hp',rfl⟩:=sv hu
    obtain ⟨q,yC,rfl⟩:=sv hv
    have one:∀ p q (hp:p<l.length) (hq:q<p),l[p].1≠l[q].1→vO m l[p].1 l[p].2 l[q].1 l[q].2=true:=fun p q hp hq dm=>by
      have h6:=Ek.1 h5 p hp
      unfold Tl at h6
      rw[bk,gU,aA,bX hp,mP] at h6
      have h7:=h6.2 l[q] (by rw[List.mem_take_iff_getElem];exact⟨q,by omega,rfl⟩)
      unfold Tk at h7
      rw[decide_eq_false dm,mS] at h7
      exact h7
    rcases Nat.lt_trichotomy p q with h | h | h
    · rw[ab2 dm];exact one q p yC h (Ne.symm dm)
    · subst h;exact absurd rfl dm
    · exact one p q hp' h dm
  exact adh hm hp (key _ _ m1 m2 (by dsimp only;omega))
theorem adm {m:aj} {P:List Nd} {n:Int} (h:l9 m P=(n,true)) {plan:List Int} (hp:FP m plan):n≤iF (gQ m plan) 0:=by
  obtain ⟨hm,hs,hr⟩:=Uh h
  obtain ⟨hn,hl⟩:=Ui hr
  have hlen:=TQ hs
  have dZ:=Ew hm
  obtain ⟨t,ht,hg,hc,ei⟩:=adg hm hs hp P.length (root m) ⟨by show 0<_;omega,dZ,aG _⟩ (by omega) (fun i hi=>by
    show ((dD m).getD i default).getD _ false=true
    have hg:=hp.get i (by rw[hp.len];exact hi)
    obtain ⟨b1,b2,b3,b4⟩:=fZ.1 hg
    rw[gD] at b4
    unfold dD
    rw[if_pos (eB.2 hm)]
    unfold mL
    rw[iG _ _ _ hi,aA,List.getElem?_replicate,if_pos (by omega)];rfl)
  have h2:=(hl t ht).2 hc
  split at h2
  · rw[adj hm hp hg.2.1 ei h2];exact hn
  · refine pk h2.1 ?_
    have h3:=h2.2
    unfold kR at h3 ⊢
    split at h3
    · cases h3
    split at h3
    · cases h3
    rename_i h4 h5
    rw[if_neg h4,if_neg h5]
    rw[Ft,gU] at h5
    exact SG hm hp _ hg.2.1 ei _ h5
theorem ac4 {m:aj} {P:List Nd} (hm:VM m) (hs:lN m P=true) (h:∀ s∈vs P (root m),s.2.2.contains (nd P s.1).cls=false∧((nd P s.1).cls = -1→(nd P s.1).dt.length=0∧(kR m s.2.1 (nd P s.1).eU).2=0)) :
    ∃ n,l9 m P=(n,true)∧∀ a,a≤1099511627776→(∀ s∈vs P (root m),(nd P s.1).cls = -1→a≤(kR m s.2.1 (nd P s.1).eU).1)→a≤n:=by
  have key:∀ (L:List eh) (b:Int),(∀ s∈L,s.2.2.contains (nd P s.1).cls=false∧((nd P s.1).cls = -1→(nd P s.1).dt.length=0∧(kR m s.2.1 (nd P s.1).eU).2=0)) →
      (kT P (jP m P) L b).2=true∧∀ a,a≤b→(∀ s∈L,(nd P s.1).cls = -1→a≤(kR m s.2.1 (nd P s.1).eU).1)→a≤(kT P (jP m P) L b).1:=by
    intro L
    induction L with
    | nil=>intro b _;exact⟨rfl,fun a h _=>h⟩
    | cons s L ih =>
      intro b h
      obtain ⟨h1,h2⟩:=h s (by simp)
      have adn:(jP m P b s).2=true:=by
        unfold jP
        by_cases hc:(nd P s.1).cls = -1
        · rw[if_neg (by omega),if_neg (by have:=(h2 hc).1;omega)]
          simp[(h2 hc).2]
        · rw[if_pos hc]
      rw[kT,h1,if_neg (by simp),if_pos adn]
      obtain ⟨i1,i2⟩:=ih (jP m P b s).1 fun t ht=>h t (by simp[ht])
      refine⟨i1,fun a ha hl=>i2 a ?_ fun t ht=>hl t (by simp[ht])⟩
      unfold jP
      by_cases hc:(nd P s.1).cls = -1
      · rw[if_neg (by omega),if_neg (by have:=(h2 hc).1;omega)]
        have:=hl s (by simp) hc
        show a≤min _ _
        omega
      · rw[if_pos hc];exact ha
  obtain ⟨k1,k2⟩:=key (vs P (root m)) 1099511627776 h
  refine⟨(kT P (jP m P) (vs P (root m)) 1099511627776).1,?_,k2⟩
  have hw:rV m P (jP m P) 1099511627776=kT P (jP m P) (vs P (root m)) 1099511627776:=if_pos ⟨eB.2 hm,hs⟩
  unfold l9
  rw[hw,if_pos k1]
def lp (l:List Mv):Nd:=⟨-1,[],l,[],[]⟩
theorem Iy {P:List Nd} (hd:Down P) {s:eh} (hs:s.1<P.length) (hk:(nd P s.1).kids=[]):vs P s=[s]:=by
  rw[zl hd hs]
  unfold qN iI
  rw[hk];rfl
theorem Uj {m:aj} (left:List (List Bool)):kR m left []=(nh m left (S0 m,T0 m),0):=rfl
abbrev mj:=List (Int × Int)
def ml (up:mj) (j:Nat):Int × Int:=up.getD j default
def IQ (n:Nat):mj:=List.replicate n (-1,0)
def UM (up:mj):Nat→Nat→mj
  | 0,_=>[]
  | f+1,k=>if 0≤(ml up k).1 then ml up k::UM up f (ml up k).1.toNat else []
def anc (up:mj) (k:Nat):mj:=UM up (k+1) k
def adp (P:List Nd) (c:Int) (l:mj):Bool:=l.any fun a=>(nd P a.1.toNat).cls == c
def EH (n i:Nat) (kids:List Int) (up:mj):Nat→Option mj
  | 0=>some up
  | o+1=>(EH n i kids up o).bind fun u=>if o8 n i (kids.getD o 0)=true∧(ml u (kids.getD o 0).toNat).1<0 then some (u.set (kids.getD o 0).toNat ((i:Int),(o:Int))) else none
def UN (m:aj) (P:List Nd) (i:Nat) (up:mj):Option mj :=
  if 0<i∧(ml up i).1<0 then none
  else if ni m (nd P i)=false then none
  else if (nd P i).cls = -1 then some up
  else if adp P (nd P i).cls (anc up i)=true then none
  else EH P.length i (nd P i).kids up (nd P i).kids.length
structure UI (P:List Nd) (i o:Nat) (up:mj):Prop where
  len:up.length=P.length
  low:∀ j,j<P.length→ml up j=(-1,0)∨∃ p q:Nat,ml up j=((p:Int),(q:Int))∧p<j∧q<(nd P p).kids.length∧(p<i∨p=i∧q<o)
  set:∀ p q,(p<i∨p=i∧q<o)→p<P.length→q<(nd P p).kids.length→∃ j,j<P.length∧p<j∧(nd P p).kids.getD q 0=(j:Int)∧ml up j=((p:Int),(q:Int))
  EI:∀ j:Nat,j<P.length→((iW (P.take i)++(nd P i).kids.take o).count (j:Int)=if 0≤(ml up j).1 then 1 else 0)
theorem UO (n j:Nat) (h:j<n):ml (IQ n) j=(-1,0):=by
  unfold ml IQ
  rw[aA,List.getElem?_replicate_of_lt h];rfl
theorem UI.zero (P:List Nd):UI P 0 0 (IQ P.length) where
  len:=tG
  low j hj:=.inl (UO _ _ hj)
  set p q h:=by omega
  EI j hj:=by rw[UO _ _ hj];simp[iW]
theorem EJ {up:mj} {k j:Nat} {x:Int × Int} (hk:k<up.length):ml (up.set k x) j=if k=j then x else ml up j:=by
  unfold ml
  rw[aA,b6]
  by_cases e:k=j
  · subst e;rw[if_pos rfl,if_pos hk,if_pos rfl];rfl
  · rw[if_neg e,if_neg e,aA]
theorem UI.yP {P:List Nd} {i o:Nat} {up:mj} (h:UI P i o up) (hi:i<P.length) (ho:o<(nd P i).kids.length)
    (hk:o8 P.length i ((nd P i).kids.getD o 0)=true) (hu:(ml up ((nd P i).kids.getD o 0).toNat).1<0) :
    UI P i (o+1) (up.set ((nd P i).kids.getD o 0).toNat ((i:Int),(o:Int))):=by
  unfold o8 at hk
  rw[decide_eq_true_eq] at hk
  have rI:(nd P i).kids.take (o+1)=(nd P i).kids.take o++[(nd P i).kids.getD o 0]:=iD ho
  generalize iX:(nd P i).kids.getD o 0=k at *
  obtain ⟨kn,rfl⟩ :∃kn:Nat,k=kn:=⟨k.toNat,by omega⟩
  rw[gD] at hu ⊢
  have cw:kn<up.length:=by rw[h.len];omega
  refine⟨by rw[List.length_set];exact h.len,fun j hj=>?_,fun p q sW hp hq=>?_,fun j hj=>?_⟩
  · rw[EJ cw]
    by_cases e:kn=j
    · subst e;rw[if_pos rfl]
      exact .inr ⟨i,o,rfl,by omega,ho,.inr ⟨rfl,by omega⟩⟩
    · rw[if_neg e]
      rcases h.low j hj with h1 | ⟨p,q,h1,h2,h3,h4⟩
      · exact .inl h1
      · exact .inr ⟨p,q,h1,h2,h3,by omega⟩
  · by_cases e:p=i∧q=o
    · obtain ⟨rfl,rfl⟩:=e
      exact⟨kn,by omega,by omega,iX,by rw[EJ cw,if_pos rfl]⟩
    · obtain ⟨j,h1,h2,h3,h4⟩:=h.set p q (by omega) hp hq
      refine⟨j,h1,h2,h3,?_⟩
      rw[EJ cw,if_neg ?_,h4]
      rintro rfl
      rw[h4] at hu
      dsimp only at hu
      omega
  · rw[rI,← List.append_assoc,List.count_append,h.EI j hj,EJ cw]
    by_cases e:kn=j
    · subst e;rw[if_neg (by omega),if_pos rfl,if_pos (by dsimp only;omega)];simp
    · have hb:((kn:Int) == (j:Int))=false:=by rw[beq_eq_false_iff_ne];omega
      rw[if_neg e,List.count_singleton,hb]
      rfl
theorem adq {P:List Nd} {i:Nat} (hi:i<P.length):P.take (i+1)=P.take i++[nd P i]:=iD hi
theorem UI.next {P:List Nd} {i:Nat} {up:mj} (h:UI P i (nd P i).kids.length up) (hi:i<P.length):UI P (i+1) 0 up where
  len:=h.len
  low j hj:=by
    rcases h.low j hj with h1 | ⟨p,q,h1,h2,h3,h4⟩
    · exact .inl h1
    · exact .inr ⟨p,q,h1,h2,h3,by omega⟩
  set p q sW hp hq:=h.set p q (by
    by_cases e:p=i
    · subst e;exact .inr ⟨rfl,hq⟩
    · omega) hp hq
  EI j hj:=by
    rw[List.take_zero,List.append_nil,adq hi,S8,← h.EI j hj,List.take_length]
theorem UI.kids {P:List Nd} {i:Nat} (hi:i<P.length) {up:mj} (h:UI P i 0 up):∀ o u,o≤(nd P i).kids.length→EH P.length i (nd P i).kids up o=some u→UI P i o u:=by
  intro o
  induction o with
  | zero=>intro u _ hu;cases hu;exact h
  | succ o ih =>
    intro u ho hu
    unfold EH at hu
    obtain ⟨v,hv,hu⟩:=Option.bind_eq_some_iff.1 hu
    by_cases hc:o8 P.length i ((nd P i).kids.getD o 0)=true∧(ml v ((nd P i).kids.getD o 0).toNat).1<0
    · rw[if_pos hc] at hu
      cases hu
      exact (ih v (by omega) hv).yP hi (by omega) hc.1 hc.2
    · rw[if_neg hc] at hu;cases hu
theorem adr {m:aj} {x:Nd} (h:ni m x=true) (hc:x.cls = -1):x.kids.length=0:=by
  unfold ni at h
  rw[if_pos hc,decide_eq_true_eq] at h
  exact h.1
theorem UI.node {m:aj} {P:List Nd} {i:Nat} (hi:i<P.length) {up u:mj} (h:UI P i 0 up) (hu:UN m P i up=some u):UI P (i+1) 0 u:=by
  unfold UN at hu
  split at hu
  · cases hu
  split at hu
  · cases hu
  rename_i h1 h2
  rw[Ft] at h2
  split at hu
  · rename_i h3
    cases hu
    have:=adr h2 h3
    refine UI.next ?_ hi
    rw[this];exact h
  split at hu
  · cases hu
  exact (UI.kids hi h _ _ (aG _) hu).next hi
theorem UI.lt {P:List Nd} {i o:Nat} {up:mj} (h:UI P i o up) {k:Nat} (hk:k<P.length) (h0:0≤(ml up k).1):(ml up k).1.toNat<k:=by
  rcases h.low k hk with h1 | ⟨p,q,h1,h2,h3,h4⟩
  · rw[h1] at h0;exact absurd h0 (by decide)
  · rw[h1];simpa using h2
end T

