import Derived.Test.YtkmfgcbdnijgeaaGreatX41
import Derived.Test.YtkmfgcbdnijgeaaGreatX30
import Derived.Test.YtkmfgcbdnijgeaaGreatX29
import Derived.Test.YtkmfgcbdnijgeaaGreatX33
set_option linter.unusedVariables false
set_option linter.unusedSimpArgs false
set_option linter.unnecessarySimpa false
set_option linter.unusedSectionVars false
set_option maxHeartbeats 64000000
set_option maxRecDepth 20000
open Go Go.Am Go.Proofs
open Nat (reduceEqDiff reduceAdd reduceLeDiff reduceMul)
open Int (reduceNeg reduceLE reduceToNat)
open Go Go.Am
namespace T
def chkS (m:Mdl) (P:List Nd) (b:Int) (s:St3):Int × Bool :=
  if (nd P s.1).cls≠-1 then (b,true)
  else if 0<(nd P s.1).grp.length then (b,crowdedB m (nd P s.1) s.2.1)
  else (min b (leafT m s.2.1 (nd P s.1).mvs).1,(leafT m s.2.1 (nd P s.1).mvs).2 == 0)
def chkV (m:Mdl) (P:List Nd):Int × Bool:=if (walkV m P (chkS m P) 1099511627776).2=true then ((walkV m P (chkS m P) 1099511627776).1,true) else (0,false)
theorem chk1_ok (m:Mdl) (P:List Nd) (hP:PB P) (hm:VM m) (b:Int) (s:St3) (hs:GoodS m P s) :
    Holds Tryz.prog 49 [.agg [.lit (.int .i64 s.1),.tree 1 (rowsOf eBs s.2.1)],.ptr 1 0 0,.ptr 0 0 0,.ptr 2 0 0] [.var (eMdl m),.var (ePf P),.var [.lit (.int .i64 b)]] (.lit (.bool (chkS m P b s).2)) [.var (eMdl m),.var (ePf P),.var [.lit (.int .i64 (chkS m P b s).1)]]:=by
  obtain ⟨i,left,ab⟩:=s
  have hi:i<P.length:=hs.1
  have hf:FitsP m left:=hs.2.1
  have hp0:=hP.nds
  have hnd:P.getD i default=nd P i:=rfl
  have hmem:=getD_mem (l:=P) (i:=i) (d:=default) hi
  have b2:=hP.mvs _ hmem
  have b3:=hP.grp _ hmem
  have b4:=hP.cells _ hmem
  have b5:=hP.cell _ hmem
  generalize hres:chkS m P b (i,left,ab)=res
  unfold chkS at hres
  rw[hnd] at b2 b3 b4 b5
  dsimp only at hres
  have hcr:=crowded_ok m (nd P i) left hm hf b3 b4 b5
  have hlf:=leaf_ok m left (nd P i).mvs hm hf b2
  generalize crowdedB m (nd P i) left=cw at *
  generalize leafT m left (nd P i).mvs=lt at *
  generalize hxx:nd P i=x at *
  obtain ⟨c,kids,mvs,grp,cells⟩:=x
  obtain ⟨v,e⟩:=lt
  dsimp only at *
  refine Holds.of_body' (fn:=Tryz.f49) 41 3 [.tmp 5] Tryz.func49 rfl rfl rfl rfl rfl (by simp) ?_
  by_cases hc:c = -1
  rotate_left
  · rw[if_pos hc] at hres
    ((repeat' (first|refine Vb (X3 @ePf.eq_1 @hnd @eNd.eq_1) ?_|(refine Xi ?_ ?_<;>try intro ht)|exact Xx|fail)))
    subst hres
    exact Xw false [0,1,2] @ePf.eq_1
  rw[if_neg (by omega)] at hres
  by_cases hg:0<grp.length
  · rw[if_pos hg] at hres
    ((repeat' (first|refine Vd (X3 @ePf.eq_1 @hnd @eNd.eq_1) hcr ?_|(refine Xi ?_ ?_<;>try intro ht)|exact Xx|fail)))
    subst hres
    exact Xw false [0,1,2] @ePf.eq_1
  rw[if_neg hg] at hres
  ((repeat' (first|refine Vd (X3 @ePf.eq_1 @hnd @eNd.eq_1) hlf ?_|(refine Xi ?_ ?_<;>try intro ht)|exact Xx|fail)))
  subst hres
  exact Xw false [0,1,2] @ePf.eq_1
theorem check_ok (m:Mdl) (P:List Nd) (hm:MB m) (hP:PB P):Holds Tryz.prog 22 [.agg (eMdl m),.agg (ePf P)] [] (.tup [.lit (.int .i64 (chkV m P).1),.lit (.bool (chkV m P).2)]) []:=by
  have hw:=walk_ok m P hm hP (fun _=>.var (eMdl m)) (fun _=>.var (ePf P)) (fun b:Int=>.var [.lit (.int .i64 b)]) [.ptr 1 0 0,.ptr 0 0 0,.ptr 2 0 0] 49 (chkS m P) (Inv:=fun _ _=>True)
    ⟨fun ρ h0 h1 h2 a=>⟨rfl,rfl,rfl⟩,fun ρ h0 h1 h2 v hv=>by
      simp only[List.mem_cons,List.not_mem_nil,or_false] at hv
      rcases hv with rfl | rfl | rfl<;>simp only[ren,h0,h1,h2],fun _ _ _ _ _=>trivial,fun hvm a s _ hs _=>chk1_ok m P hP hvm a s hs⟩ 1099511627776 (fun _ _=>trivial)
  generalize hres:chkV m P=res
  unfold chkV at hres
  generalize walkV m P (chkS m P) 1099511627776=r at *
  obtain ⟨b,ok⟩:=r
  dsimp only at hw hres
  refine Holds.of_body' (fn:=Tryz.f22) 15 0 [.tmp 4,.tmp 5] Tryz.func22 rfl rfl rfl rfl rfl (by simp) ?_
  ((refine Vb @ePf.eq_1 ?_)<;>try with_reducible intro K hK)
  refine callK_all hw (by simp) ?_
  cases ok
  · rw[if_neg (by simp)] at hres
    ((try revert hK K);(repeat' (first|refine Vb @Bool.not_false ?_|(refine Xi ?_ ?_<;>try intro ht)|exact Xx|fail)))
    subst hres
    exact RetOK_pure' rfl rfl
  · rw[if_pos rfl] at hres
    ((try revert hK K);(repeat' (first|refine Vb @Bool.not_true ?_|(refine Xi ?_ ?_<;>try intro ht)|exact Xx|fail)))
    subst hres
    exact RetOK_pure' rfl rfl
theorem runL_true {α:Type} {P:List Nd} {step:α→St3→α × Bool}:∀ {L:List St3} {a r:α},runL P step L a=(r,true)→∀ (J:α→Prop) (R:α→α→Prop),(∀ x,R x x)→(∀ x y z,R x y→R y z→R x z)→(∀ s∈L,∀ x,(step x s).2=true→R x (step x s).1) →
    ∀ s∈L,s.2.2.contains (nd P s.1).cls=false∧∃ x,(step x s).2=true∧R (step x s).1 r
  | [],a,r,h,J,R,h1,h2,h3,s,hs=>by simp at hs
  | t::L,a,r,h,J,R,h1,h2,h3,s,hs=>by
    rw[runL] at h
    split at h
    · cases h
    · rename_i hc
      split at h
      · rename_i hs2
        have ih:=runL_true h J R h1 h2 (fun u hu=>h3 u (by simp[hu]))
        rcases List.mem_cons.1 hs with e | hs
        · subst e
          refine⟨by simpa using hc,a,hs2,?_⟩
          have mono:∀ (L:List St3) (x y:α),(∀ u∈L,∀ x,(step x u).2=true→R x (step x u).1)→runL P step L x=(y,true)→R x y:=by
            intro L
            induction L with
            | nil=>intro x y _ h;rw[runL] at h;cases h;exact h1 _
            | cons u L ihL =>
              intro x y hm h
              rw[runL] at h
              split at h
              · cases h
              · split at h
                · rename_i hu;exact h2 _ _ _ (hm u (by simp) x hu) (ihL _ _ (fun v hv=>hm v (by simp[hv])) h)
                · cases h
          exact mono L _ _ (fun u hu=>h3 u (by simp[hu])) h
        · exact ih s hs
      · cases h
theorem chkV_iff {m:Mdl} {P:List Nd} {n:Int} (h:chkV m P=(n,true)):VM m∧shapedB m P=true∧runL P (chkS m P) (vs P (root m)) 1099511627776=(n,true):=by
  unfold chkV walkV at h
  by_cases h2:validV m=0∧shapedB m P=true
  · rw[if_pos h2] at h
    split at h
    · rename_i h1
      refine⟨valid_iff.1 h2.1,h2.2,?_⟩
      have e:(runL P (chkS m P) (vs P (root m)) 1099511627776).1=n:=congrArg Prod.fst h
      exact Prod.ext e h1
    · cases h
  · rw[if_neg h2] at h
    split at h
    · rename_i h1;cases h1
    · cases h
theorem chkS_mono {m:Mdl} {P:List Nd} (b:Int) (s:St3):(chkS m P b s).1≤b:=by
  unfold chkS
  split
  · exact Int.le_refl _
  split
  · exact Int.le_refl _
  · exact Int.min_le_left ..
theorem chk_leaf {m:Mdl} {P:List Nd} {n:Int} (h:runL P (chkS m P) (vs P (root m)) 1099511627776=(n,true)):n≤1099511627776∧∀ s∈vs P (root m),s.2.2.contains (nd P s.1).cls=false∧((nd P s.1).cls = -1→if 0<(nd P s.1).grp.length then crowdedB m (nd P s.1) s.2.1=true else n≤(leafT m s.2.1 (nd P s.1).mvs).1∧(leafT m s.2.1 (nd P s.1).mvs).2=0):=by
  have hmono:∀ (L:List St3) (a r:Int),runL P (chkS m P) L a=(r,true)→r≤a:=by
    intro L
    induction L with
    | nil=>intro a r h;rw[runL] at h;cases h;exact Int.le_refl _
    | cons s L ih =>
      intro a r h
      rw[runL] at h
      split at h
      · cases h
      · split at h
        · exact Int.le_trans (ih _ _ h) (chkS_mono a s)
        · cases h
  refine⟨hmono _ _ _ h,fun s hs=>?_⟩
  obtain ⟨h1,x,h2,h3⟩:=runL_true h (fun _=>True) (fun x y=>y≤x) (fun x=>Int.le_refl _) (fun x y z h1 h2=>Int.le_trans h2 h1) (fun s _ x _=>chkS_mono x s) s hs
  refine⟨h1,fun hc=>?_⟩
  unfold chkS at h2 h3
  rw[if_neg (by omega)] at h2 h3
  split
  · rename_i hg
    rw[if_pos hg] at h2
    exact h2
  · rename_i hg
    rw[if_neg hg] at h2 h3
    dsimp only at h2 h3
    exact⟨by omega,by simpa using h2⟩
theorem chk_of {m:Mdl} {P:List Nd} (hm:VM m) (hs:shapedB m P=true) (h:∀ s∈vs P (root m),s.2.2.contains (nd P s.1).cls=false∧((nd P s.1).cls = -1→(nd P s.1).grp.length=0∧(leafT m s.2.1 (nd P s.1).mvs).2=0)) :
    ∃ n,chkV m P=(n,true)∧∀ a,a≤1099511627776→(∀ s∈vs P (root m),(nd P s.1).cls = -1→a≤(leafT m s.2.1 (nd P s.1).mvs).1)→a≤n:=by
  have key:∀ (L:List St3) (b:Int),(∀ s∈L,s.2.2.contains (nd P s.1).cls=false∧((nd P s.1).cls = -1→(nd P s.1).grp.length=0∧(leafT m s.2.1 (nd P s.1).mvs).2=0)) →
      (runL P (chkS m P) L b).2=true∧∀ a,a≤b→(∀ s∈L,(nd P s.1).cls = -1→a≤(leafT m s.2.1 (nd P s.1).mvs).1)→a≤(runL P (chkS m P) L b).1:=by
    intro L
    induction L with
    | nil=>intro b _;exact⟨rfl,fun a h _=>h⟩
    | cons s L ih =>
      intro b h
      obtain ⟨h1,h2⟩:=h s (by simp)
      have hstep:(chkS m P b s).2=true:=by
        unfold chkS
        by_cases hc:(nd P s.1).cls = -1
        · rw[if_neg (by omega),if_neg (by have:=(h2 hc).1;omega)]
          simp[(h2 hc).2]
        · rw[if_pos hc]
      rw[runL,h1,if_neg (by simp),if_pos hstep]
      obtain ⟨i1,i2⟩:=ih (chkS m P b s).1 fun t ht=>h t (by simp[ht])
      refine⟨i1,fun a ha hl=>i2 a ?_ fun t ht=>hl t (by simp[ht])⟩
      unfold chkS
      by_cases hc:(nd P s.1).cls = -1
      · rw[if_neg (by omega),if_neg (by have:=(h2 hc).1;omega)]
        have:=hl s (by simp) hc
        show a≤min _ _
        omega
      · rw[if_pos hc];exact ha
  obtain ⟨k1,k2⟩:=key (vs P (root m)) 1099511627776 h
  refine⟨(runL P (chkS m P) (vs P (root m)) 1099511627776).1,?_,k2⟩
  have hw:walkV m P (chkS m P) 1099511627776=runL P (chkS m P) (vs P (root m)) 1099511627776:=if_pos ⟨valid_iff.2 hm,hs⟩
  unfold chkV
  rw[hw,if_pos k1]
def leafN (l:List Mv):Nd:=⟨-1,[],l,[],[]⟩
theorem vs_leaf {P:List Nd} (hd:Down P) {s:St3} (hs:s.1<P.length) (hk:(nd P s.1).kids=[]):vs P s=[s]:=by
  rw[vs_step hd hs]
  unfold kidsF kidsT
  rw[hk];rfl
theorem leaf_nil {m:Mdl} (left:List (List Bool)):leafT m left []=(valV m left (S0 m,T0 m),0):=rfl
abbrev UpL:=List (Int × Int)
def upG (up:UpL) (j:Nat):Int × Int:=up.getD j default
def up0 (n:Nat):UpL:=List.replicate n (-1,0)
def ancs (up:UpL):Nat→Nat→UpL
  | 0,_=>[]
  | f+1,k=>if 0≤(upG up k).1 then upG up k::ancs up f (upG up k).1.toNat else []
def anc (up:UpL) (k:Nat):UpL:=ancs up (k+1) k
def hitB (P:List Nd) (c:Int) (l:UpL):Bool:=l.any fun a=>(nd P a.1.toNat).cls == c
def kidN (n i:Nat) (kids:List Int) (up:UpL):Nat→Option UpL
  | 0=>some up
  | o+1=>(kidN n i kids up o).bind fun u=>if kidB n i (kids.getD o 0)=true∧(upG u (kids.getD o 0).toNat).1<0 then some (u.set (kids.getD o 0).toNat ((i:Int),(o:Int))) else none
def nodeU (m:Mdl) (P:List Nd) (i:Nat) (up:UpL):Option UpL :=
  if 0<i∧(upG up i).1<0 then none
  else if ndB m (nd P i)=false then none
  else if (nd P i).cls = -1 then some up
  else if hitB P (nd P i).cls (anc up i)=true then none
  else kidN P.length i (nd P i).kids up (nd P i).kids.length
def forU (m:Mdl) (P:List Nd):Nat→Option UpL
  | 0=>some (up0 P.length)
  | i+1=>(forU m P i).bind (nodeU m P i)
def formedV (m:Mdl) (P:List Nd):Option UpL:=if 1≤P.length∧P.length≤20000 then forU m P P.length else none
theorem kidN_none {n i:Nat} {kids:List Int} {up:UpL} {o:Nat} (h:kidN n i kids up o=none):∀ o',o≤o'→kidN n i kids up o'=none:=by
  intro o' ho
  induction o' with
  | zero =>
    obtain rfl:o=0:=by omega
    exact h
  | succ q ih =>
    by_cases e:o=q+1
    · subst e;exact h
    · have:=ih (by omega)
      show (kidN n i kids up q).bind _=none
      rw[this];rfl
theorem forU_none {m:Mdl} {P:List Nd} {o:Nat} (h:forU m P o=none):∀ o',o≤o'→forU m P o'=none:=by
  intro o' ho
  induction o' with
  | zero =>
    obtain rfl:o=0:=by omega
    exact h
  | succ q ih =>
    by_cases e:o=q+1
    · subst e;exact h
    · have:=ih (by omega)
      show (forU m P q).bind _=none
      rw[this];rfl
structure UI (P:List Nd) (i o:Nat) (up:UpL):Prop where
  len:up.length=P.length
  low:∀ j,j<P.length→upG up j=(-1,0)∨∃ p q:Nat,upG up j=((p:Int),(q:Int))∧p<j∧q<(nd P p).kids.length∧(p<i∨p=i∧q<o)
  set:∀ p q,(p<i∨p=i∧q<o)→p<P.length→q<(nd P p).kids.length→∃ j,j<P.length∧p<j∧(nd P p).kids.getD q 0=(j:Int)∧upG up j=((p:Int),(q:Int))
  cnt:∀ j:Nat,j<P.length→((allK (P.take i)++(nd P i).kids.take o).count (j:Int)=if 0≤(upG up j).1 then 1 else 0)
theorem up0_get (n j:Nat) (h:j<n):upG (up0 n) j=(-1,0):=by
  unfold upG up0
  rw[List.getD_eq_getElem?_getD,List.getElem?_replicate_of_lt h];rfl
theorem UI.zero (P:List Nd):UI P 0 0 (up0 P.length) where
  len:=List.length_replicate
  low j hj:=.inl (up0_get _ _ hj)
  set p q h:=by omega
  cnt j hj:=by rw[up0_get _ _ hj];simp[allK]
theorem upG_set {up:UpL} {k j:Nat} {x:Int × Int} (hk:k<up.length):upG (up.set k x) j=if k=j then x else upG up j:=by
  unfold upG
  rw[List.getD_eq_getElem?_getD,List.getElem?_set]
  by_cases e:k=j
  · subst e;rw[if_pos rfl,if_pos hk,if_pos rfl];rfl
  · rw[if_neg e,if_neg e,List.getD_eq_getElem?_getD]
theorem UI.kid {P:List Nd} {i o:Nat} {up:UpL} (h:UI P i o up) (hi:i<P.length) (ho:o<(nd P i).kids.length)
    (hk:kidB P.length i ((nd P i).kids.getD o 0)=true) (hu:(upG up ((nd P i).kids.getD o 0).toNat).1<0) :
    UI P i (o+1) (up.set ((nd P i).kids.getD o 0).toNat ((i:Int),(o:Int))):=by
  unfold kidB at hk
  rw[decide_eq_true_eq] at hk
  have htk:(nd P i).kids.take (o+1)=(nd P i).kids.take o++[(nd P i).kids.getD o 0]:=take_snoc ho
  generalize hkk:(nd P i).kids.getD o 0=k at *
  obtain ⟨kn,rfl⟩ :∃kn:Nat,k=kn:=⟨k.toNat,by omega⟩
  rw[Int.toNat_natCast] at hu ⊢
  have hkl:kn<up.length:=by rw[h.len];omega
  refine⟨by rw[List.length_set];exact h.len,fun j hj=>?_,fun p q hpq hp hq=>?_,fun j hj=>?_⟩
  · rw[upG_set hkl]
    by_cases e:kn=j
    · subst e;rw[if_pos rfl]
      exact .inr ⟨i,o,rfl,by omega,ho,.inr ⟨rfl,by omega⟩⟩
    · rw[if_neg e]
      rcases h.low j hj with h1 | ⟨p,q,h1,h2,h3,h4⟩
      · exact .inl h1
      · exact .inr ⟨p,q,h1,h2,h3,by omega⟩
  · by_cases e:p=i∧q=o
    · obtain ⟨rfl,rfl⟩:=e
      exact⟨kn,by omega,by omega,hkk,by rw[upG_set hkl,if_pos rfl]⟩
    · obtain ⟨j,h1,h2,h3,h4⟩:=h.set p q (by omega) hp hq
      refine⟨j,h1,h2,h3,?_⟩
      rw[upG_set hkl,if_neg ?_,h4]
      rintro rfl
      rw[h4] at hu
      dsimp only at hu
      omega
  · rw[htk,← List.append_assoc,List.count_append,h.cnt j hj,upG_set hkl]
    by_cases e:kn=j
    · subst e;rw[if_neg (by omega),if_pos rfl,if_pos (by dsimp only;omega)];simp
    · have hb:((kn:Int) == (j:Int))=false:=by rw[beq_eq_false_iff_ne];omega
      rw[if_neg e,List.count_singleton,hb]
      rfl
theorem nd_take {P:List Nd} {i:Nat} (hi:i<P.length):P.take (i+1)=P.take i++[nd P i]:=take_snoc hi
theorem UI.next {P:List Nd} {i:Nat} {up:UpL} (h:UI P i (nd P i).kids.length up) (hi:i<P.length):UI P (i+1) 0 up where
  len:=h.len
  low j hj:=by
    rcases h.low j hj with h1 | ⟨p,q,h1,h2,h3,h4⟩
    · exact .inl h1
    · exact .inr ⟨p,q,h1,h2,h3,by omega⟩
  set p q hpq hp hq:=h.set p q (by
    by_cases e:p=i
    · subst e;exact .inr ⟨rfl,hq⟩
    · omega) hp hq
  cnt j hj:=by
    rw[List.take_zero,List.append_nil,nd_take hi,allK_snoc,← h.cnt j hj,List.take_length]
theorem UI.kids {P:List Nd} {i:Nat} (hi:i<P.length) {up:UpL} (h:UI P i 0 up):∀ o u,o≤(nd P i).kids.length→kidN P.length i (nd P i).kids up o=some u→UI P i o u:=by
  intro o
  induction o with
  | zero=>intro u _ hu;cases hu;exact h
  | succ o ih =>
    intro u ho hu
    unfold kidN at hu
    obtain ⟨v,hv,hu⟩:=Option.bind_eq_some_iff.1 hu
    by_cases hc:kidB P.length i ((nd P i).kids.getD o 0)=true∧(upG v ((nd P i).kids.getD o 0).toNat).1<0
    · rw[if_pos hc] at hu
      cases hu
      exact (ih v (by omega) hv).kid hi (by omega) hc.1 hc.2
    · rw[if_neg hc] at hu;cases hu
theorem leaf_kids {m:Mdl} {x:Nd} (h:ndB m x=true) (hc:x.cls = -1):x.kids.length=0:=by
  unfold ndB at h
  rw[if_pos hc,decide_eq_true_eq] at h
  exact h.1
theorem UI.node {m:Mdl} {P:List Nd} {i:Nat} (hi:i<P.length) {up u:UpL} (h:UI P i 0 up) (hu:nodeU m P i up=some u):UI P (i+1) 0 u:=by
  unfold nodeU at hu
  split at hu
  · cases hu
  split at hu
  · cases hu
  rename_i h1 h2
  rw[Bool.not_eq_false] at h2
  split at hu
  · rename_i h3
    cases hu
    have:=leaf_kids h2 h3
    refine UI.next ?_ hi
    rw[this];exact h
  split at hu
  · cases hu
  exact (UI.kids hi h _ _ (Nat.le_refl _) hu).next hi
theorem forU_UI {m:Mdl} {P:List Nd}:∀ i u,i≤P.length→forU m P i=some u→UI P i 0 u:=by
  intro i
  induction i with
  | zero=>intro u _ hu;cases hu;exact UI.zero P
  | succ i ih =>
    intro u hi hu
    unfold forU at hu
    obtain ⟨v,hv,hu⟩:=Option.bind_eq_some_iff.1 hu
    exact (ih v (by omega) hv).node (by omega) hu
theorem UI.lt {P:List Nd} {i o:Nat} {up:UpL} (h:UI P i o up) {k:Nat} (hk:k<P.length) (h0:0≤(upG up k).1):(upG up k).1.toNat<k:=by
  rcases h.low k hk with h1 | ⟨p,q,h1,h2,h3,h4⟩
  · rw[h1] at h0;exact absurd h0 (by decide)
  · rw[h1];simpa using h2
theorem ancs_eq {P:List Nd} {i o:Nat} {up:UpL} (h:UI P i o up):∀ k,k<P.length→∀ f g,k+1≤f→k+1≤g→ancs up f k=ancs up g k:=by
  intro k
  induction k using Nat.strongRecOn with
  | _ k ih =>
    intro hk f g hf hg
    obtain ⟨f,rfl⟩ :∃f',f=f'+1:=⟨f - 1,by omega⟩
    obtain ⟨g,rfl⟩ :∃g',g=g'+1:=⟨g - 1,by omega⟩
    show (if 0≤(upG up k).1 then upG up k::ancs up f (upG up k).1.toNat else [])=(if 0≤(upG up k).1 then upG up k::ancs up g (upG up k).1.toNat else [])
    by_cases h0:0≤(upG up k).1
    · have hl:=h.lt hk h0
      rw[if_pos h0,if_pos h0,ih _ hl (by omega) f g (by omega) (by omega)]
    · rw[if_neg h0,if_neg h0]
theorem anc_step {P:List Nd} {i o:Nat} {up:UpL} (h:UI P i o up) {k:Nat} (hk:k<P.length) :
    anc up k=if 0≤(upG up k).1 then upG up k::anc up (upG up k).1.toNat else []:=by
  show (if 0≤(upG up k).1 then upG up k::ancs up k (upG up k).1.toNat else [])=_
  by_cases h0:0≤(upG up k).1
  · have hl:=h.lt hk h0
    rw[if_pos h0,if_pos h0]
    congr 1
    exact ancs_eq h _ (by omega) _ _ (by omega) (by omega)
  · rw[if_neg h0,if_neg h0]
theorem formed_cut {m:Mdl} {P:List Nd} {i:Nat} {up:UpL} (hi:i<P.length) (h:forU m P i=some up) (hn:nodeU m P i up=none):formedV m P=none:=by
  unfold formedV
  split
  · refine forU_none (o:=i+1) ?_ _ (by omega)
    show (forU m P i).bind _=none
    rw[h];exact hn
  · rfl
theorem kid_cut {n i:Nat} {kids:List Int} {up u:UpL} {o:Nat} (h:kidN n i kids up o=some u) (ho:o<kids.length) (hn:¬(kidB n i (kids.getD o 0)=true∧(upG u (kids.getD o 0).toNat).1<0)):kidN n i kids up kids.length=none:=by
  refine kidN_none (o:=o+1) ?_ _ (by omega)
  show (kidN n i kids up o).bind _=none
  rw[h]
  show (if _ then _ else _)=_
  rw[if_neg hn]
theorem kid_go {n i:Nat} {kids:List Int} {up u:UpL} {o:Nat} (h:kidN n i kids up o=some u) (hn:kidB n i (kids.getD o 0)=true∧(upG u (kids.getD o 0).toNat).1<0):kidN n i kids up (o+1)=some (u.set (kids.getD o 0).toNat ((i:Int),(o:Int))):=by
  show (kidN n i kids up o).bind _=_
  rw[h]
  show (if _ then _ else _)=_
  rw[if_pos hn]
end T

