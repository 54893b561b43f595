import Derived.Test.YtdipcmigdbnheaaGreatX27
import Derived.Test.YtdipcmigdbnheaaGreatX18
import Derived.Test.YtdipcmigdbnheaaGreatX30
import Derived.Test.YtdipcmigdbnheaaGreatX29
import Derived.Test.YtdipcmigdbnheaaGreatX12
import Derived.Test.YtdipcmigdbnheaaGreatX25
import Derived.Test.YtdipcmigdbnheaaGreatX15
import Derived.Test.YtdipcmigdbnheaaGreatX23
set_option linter.unusedVariables false
set_option linter.unusedSimpArgs false
set_option linter.unnecessarySimpa false
set_option linter.unusedSectionVars false
set_option maxHeartbeats 64000000
set_option maxRecDepth 20000
open Nat renaming zero_le→aH,not_lt_zero→qH,le_refl→aV,reduceBEq→zL,le_of_eq→L6,sub_self→iz,sub_zero→rV
open List renaming take_zero→lW,getElem_of_mem→lZ,length_take→eX,getD_eq_getElem?_getD→ay,getElem?_eq_getElem→bm,all_eq_true→eW,length_append→bU,append_assoc→dj,take_length→zK,length_drop→rT,map_drop→L4,mem_singleton→ee,flatMap_cons→pV,cons_append→fB,getElem?_map→bR,reverse_cons→Hg,getElem?_append_right→fA,map_take→Ha,take_of_length_le→dN,length_cons→dI,mem_cons→bW,set_append_right→uM,set_cons_succ→tj,set_cons_zero→mY,flatMap_append→po,mem_reverse→rY,mem_flatMap→xP,mem_map→bV,any_eq_true→kW,getElem_mem→pU,count_append→qJ,contains_iff_mem→pW,getD_cons_zero→fT,getD_cons_succ→ep
open Bool renaming and_eq_true→a7,eq_false_iff→zJ,true_and→gV,not_true→hU,false_or→lA
open Int renaming toNat_of_nonneg→mr,le_refl→c9,le_trans→vZ,toNat_natCast→dg
open Option renaming map_none→pX,getD_some→gw
open Go Go.Am Go.Proofs
open Nat (reduceEqDiff reduceAdd reduceLeDiff reduceMul)
open Int (reduceNeg reduceLE reduceToNat)
open Go Go.Am
namespace T
theorem acf (n:Int):ao Tryz.prog 169 [.lit (.int .i64 n)] [] (.lit (.bool (n != 1))) []:=by
  refine ao.aD (fn:=Tryz.f169) 5 0 [.tmp 2] Tryz.func169 rfl rfl rfl rfl rfl (by simp) ?_
  refine Vb X0 ?_
  exact aE rfl rfl
theorem acg (m:ae) (P:List Nd) (hm:VM m) (hP:PB P):ao Tryz.prog 125 [.agg (au m),.agg (aM P)] [] (.lit (.bool (iG m P))) []:=by
  have yK:=hP.Ay
  have nX:=hm.cls
  generalize aj:iG m P=res
  refine ao.aD (fn:=Tryz.f125) 136 0 [.tmp 4] Tryz.func125 rfl rfl rfl rfl rfl (by simp) ?_
  by_cases a5:1≤P.length∧P.length≤20000
  rotate_left
  · rw[QP a5] at aj
    subst aj
    ((repeat' (first|refine Vb @aM.eq_1 ?_|(refine V2 @aM.eq_1 ?_ ?_<;>try with_reducible intro hb)|(refine Xi ?_ ?_<;>try intro ht)|exact Xx|fail)))
    all_goals exact aE rfl rfl
  obtain ⟨l0,m0⟩:=a5
  ((repeat' (first|refine Vb @aM.eq_1 ?_|(refine V2 @aM.eq_1 ?_ ?_<;>try with_reducible intro hb)|(refine Xi ?_ ?_<;>try intro ht)|exact Xx|fail)))
  refine aG (fun i:Nat=>(⟨aw [(2,.ptr 0 0 0),(3,.ptr 1 0 0),(5,.ref 2 1 0 P.length),(25,.tree 5 (rowsOf aL P)),(26,.lit (.int .i64 P.length)),(27,.lit (.int .i64 i))],[.var (au m),.var (aM P),.arr 1 (ints (jc P.length (eQ (P.take i))))]⟩:St))
    (fun i=>i≤P.length∧∀ a,a<i→jM m P.length a (P.getD a default)=true) (fun i=>P.length - i) 0 ⟨aH _,fun a ha=>absurd ha (qH _)⟩ (by rw[lW];show aQ _ _ ⟨_,[_,_,.arr 1 (ints (jc P.length []))]⟩;rw[ach];exact Xv (X2 @aM.eq_1 @Ej)) ?_
  rintro i ⟨hi,fJ⟩ Ql ak aq
  by_cases ax:i<P.length
  · have cd:=az (l:=P) (i:=i) (d:=default) ax
    have b1:=hP.kids _ cd
    have b2:=hP.cX _ cd
    have b3:=hP.b5 _ cd
    have b4:=hP.cells _ cd
    have ef:=eU ax
    have Fi:∀ l,eQ (P.take (i+1))=eQ (P.take i)++l↔l=(P.getD i default).kids:=fun l=>by rw[ef,IU];exact⟨fun h=>(List.append_cancel_left h).symm,fun h=>by rw[h]⟩
    have lJ:=QQ (m:=m) ax
    have hlen:=QR (n:=0) hm (P.take i) fun y hy=>by
      obtain ⟨a,ha,rfl⟩:=lZ hy
      rw[eX] at ha
      have:=fJ a (by omega)
      unfold jM at this
      rw[a7,ay,bm (by omega)] at this
      simpa using this.1
    rw[eX] at hlen
    generalize bS:P.getD i default=x at *
    obtain ⟨c,kids,cX,b5,cells⟩:=x
    dsimp only at b1 b2 b3 b4 Fi
    have Fi:=(Fi _).2 rfl
    have bC:¬(lh m ⟨c,kids,cX,b5,cells⟩=true)→res=false:=fun h=>by
      rw[← aj]
      refine lJ ?_
      unfold jM
      rw[zJ.2 h,Bool.false_and]
    have yL:∀ j,j<kids.length→¬(kI P.length i (kids.getD j 0)=true)→res=false:=fun j hj h=>by
      rw[← aj]
      refine lJ ?_
      unfold jM
      have:kids.all (kI P.length i)=false:=by
        rw[zJ]
        intro h2
        rw[eW] at h2
        exact h (h2 _ (az hj))
      dsimp only
      rw[this,Bool.and_false]
    clear lJ
    generalize mM:m.cls.getD c.toNat default=wl at *
    have vf:0≤c∧c<m.cls.length→wl.length≤24:=fun h=>by rw[← mM];exact hm.opt _ (az (by omega))
    by_cases eR:lh m ⟨c,kids,cX,b5,cells⟩=true
    rotate_left
    · have hr:=bC eR
      unfold lh at eR
      dsimp only at eR
      rw[mM] at eR
      by_cases g6:c = -1
      · rw[if_pos g6,decide_eq_true_eq] at eR
        ((repeat' (first|refine Va (X3 @aM.eq_1 @bS @aL.eq_1) ?_|(refine V2 (X3 @aM.eq_1 @bS @aL.eq_1) ?_ ?_<;>try with_reducible intro hb)|(refine Xi ?_ ?_<;>try intro ht)|exact Xx|fail)))
        all_goals
          repeat (refine Xu ?_)
          ((repeat' (first|refine Vb X0 ?_|fail)))
          exact aE rfl (by rw[hr])
      · rw[if_neg g6,decide_eq_true_eq] at eR
        by_cases aC:0≤c∧c<m.cls.length
        · have vf:=vf aC
          ((repeat' (first|refine Va (X5 @aM.eq_1 @bS @aL.eq_1 @mM @bA.eq_1) ?_|(refine V2 (X5 @aM.eq_1 @bS @aL.eq_1 @mM @bA.eq_1) ?_ ?_<;>try with_reducible intro hb)|(refine Xi ?_ ?_<;>try intro ht)|exact Xx|fail)))
          all_goals
            repeat (refine Xu ?_)
            ((repeat' (first|refine Vb X0 ?_|fail)))
            exact aE rfl (by rw[hr])
        · ((repeat' (first|refine Va (X3 @aM.eq_1 @bS @aL.eq_1) ?_|(refine V2 (X3 @aM.eq_1 @bS @aL.eq_1) ?_ ?_<;>try with_reducible intro hb)|(refine Xi ?_ ?_<;>try intro ht)|exact Xx|fail)))
          all_goals
            repeat (refine Xu ?_)
            ((repeat' (first|refine Vb X0 ?_|fail)))
            exact aE rfl (by rw[hr])
    have Cr:=Ar hm eR
    have tZ:(∀ j,j<kids.length→kI P.length i (kids.getD j 0)=true)→jM m P.length i ⟨c,kids,cX,b5,cells⟩=true:=fun h=>by
      unfold jM
      rw[eR,gV,eW]
      intro k hk
      obtain ⟨j,hj,rfl⟩:=lZ hk
      have:=h j hj
      rwa [ay,bm hj] at this
    dsimp only at Cr
    repeat' (first|((fail_if_success (first|refine iV 7 ?_|refine iW 7 ?_));refine Xr (X3 @aM.eq_1 @bS @aL.eq_1) ?_;intro K hK)|(refine hK _ ?_;clear hK K)|(refine Xi ?_ ?_<;>try intro ht)|refine Xy ?_|refine Xd ?_ ?_|exact Xx|fail)
    (refine aci ?_);intro Q0 cy nT
    refine xV ⟨aw [(2,.ptr 0 0 0),(3,.ptr 1 0 0),(5,.ref 2 1 0 P.length),(6,.lit (.int .i64 i)),(7,.ptr 3 0 0),(25,.tree 5 (rowsOf aL P)),(26,.lit (.int .i64 P.length)),(27,.lit (.int .i64 i))],[.var (au m),.var (aM P),.arr 1 (ints (jc P.length (eQ (P.take i)))),.var (aL ⟨c,kids,cX,b5,cells⟩)]⟩ cy ?_ (fun key=>?_)
    rotate_left
    · (try clear cy)
      unfold lh at eR
      dsimp only at eR
      rw[mM] at eR
      by_cases g6:c = -1
      · rw[if_pos g6,decide_eq_true_eq] at eR
        ((repeat' (first|refine Va (X3 @aM.eq_1 @bS @aL.eq_1) ?_|(refine V2 (X3 @aM.eq_1 @bS @aL.eq_1) ?_ ?_<;>try with_reducible intro hb)|(refine Xi ?_ ?_<;>try intro ht)|exact Xx|fail)))
        all_goals
          refine key _ ?_
          exact Xv (X2 @aM.eq_1 @aL.eq_1)
      · rw[if_neg g6,decide_eq_true_eq] at eR
        have vf:=vf ⟨eR.1,eR.2.1⟩
        ((repeat' (first|refine Va (X5 @aM.eq_1 @bS @aL.eq_1 @mM @bA.eq_1) ?_|(refine V2 (X5 @aM.eq_1 @bS @aL.eq_1 @mM @bA.eq_1) ?_ ?_<;>try with_reducible intro hb)|(refine Xi ?_ ?_<;>try intro ht)|exact Xx|fail)))
        all_goals
          refine key _ ?_
          exact Xv (X2 @aM.eq_1 @aL.eq_1)
    (try clear cy;try clear nT)
    refine Va (X2 @aM.eq_1 @aL.eq_1) ?_
    refine aG (fun j:Nat=>(⟨aw [(2,.ptr 0 0 0),(3,.ptr 1 0 0),(5,.ref 2 1 0 P.length),(6,.lit (.int .i64 i)),(25,.tree 5 (rowsOf aL P)),(26,.lit (.int .i64 P.length)),(27,.lit (.int .i64 i)),(108,.tree 1 (ints kids)),(109,.lit (.int .i64 kids.length)),(110,.lit (.int .i64 j))],[.var (au m),.var (aM P),.arr 1 (ints (jc P.length (eQ (P.take i)++kids.take j)))]⟩:St))
      (fun j=>j≤kids.length∧∀ a,a<j→kI P.length i (kids.getD a 0)=true) (fun j=>kids.length - j) 0 ⟨aH _,fun a ha=>absurd ha (qH _)⟩ (by rw[lW,List.append_nil];exact Xs false [0,1,2] @aM.eq_1) ?_
    rintro j ⟨hj,QT⟩ cR ba bd
    by_cases cq:j<kids.length
    · have mN:=eU cq
      have jv:kids.getD j default=kids.getD j 0:=rfl
      have acj:=yL j cq
      rw[jv] at mN
      have wC:(eQ (P.take i)++kids.take j).length≤24 * P.length+24:=by rw[bU,eX];omega
      generalize jN:kids.getD j 0=k at *
      by_cases Cs:kI P.length i k=true
      rotate_left
      · have hr:=acj Cs
        unfold kI at Cs
        rw[decide_eq_true_eq] at Cs
        ((repeat' (first|refine Va (X2 @aM.eq_1 @jN) ?_|(refine V2 (X2 @aM.eq_1 @jN) ?_ ?_<;>try with_reducible intro hb)|(refine Xi ?_ ?_<;>try intro ht)|exact Xx|fail)))
        all_goals
          repeat (refine Xu ?_)
          ((repeat' (first|refine Vb X0 ?_|fail)))
          exact aE rfl (by rw[hr])
      have QU:=Cs
      unfold kI at QU
      rw[decide_eq_true_eq] at QU
      have nU:=ack (n:=P.length) (l:=eQ (P.take i)++kids.take j) (j:=k.toNat) (by omega)
      have b9:=yM P.length (eQ (P.take i)++kids.take j)
      have nf:=acm P.length (eQ (P.take i)++kids.take j) k.toNat (by omega)
      rw[mr (by omega),dj,← mN] at nf
      ((repeat' (first|refine Va (X3 @aM.eq_1 @jN @b9) ?_|(refine V2 (X3 @aM.eq_1 @jN @b9) ?_ ?_<;>try with_reducible intro hb)|(refine Xi ?_ ?_<;>try intro ht)|exact Xx|fail)))
      refine ba _ (j+1) ⟨by omega,fun a ha=>?_⟩ (by omega) (by rw[nf];exact Xv @aM.eq_1)
      by_cases e:a=j
      · subst e;rw[jN];exact Cs
      · exact QT a (by omega)
    · obtain rfl:j=kids.length:=by omega
      rw[zK,← Fi]
      ((repeat' (first|refine Va X0 ?_|(refine V2 X0 ?_ ?_<;>try with_reducible intro hb)|(refine Xi ?_ ?_<;>try intro ht)|exact Xx|fail)))
      refine bd _ _ rfl ?_
      clear ba bd cR
      repeat (refine Xu ?_)
      refine Va X0 ?_
      refine ak _ (i+1) ⟨by omega,fun a ha=>?_⟩ (by omega) (Xv @aM.eq_1)
      by_cases e:a=i
      · subst e;rw[bS];exact tZ QT
      · exact fJ a (by omega)
  · obtain rfl:i=P.length:=by omega
    rw[zK]
    have kJ:=Fj (m:=m) ⟨l0,m0⟩ fJ
    rw[aj] at kJ
    have IV:=QV ((jc P.length (eQ P)).drop 1) 169 [] [] (fun x=>x != 1) (by rw[rT,yM];omega) (fun x _=>acf x)
    have b9:=yM P.length (eQ P)
    have hdr:(ints (jc P.length (eQ P))).drop 1=ints ((jc P.length (eQ P)).drop 1):=by unfold ints;rw[L4]
    have vg:((jc P.length (eQ P)).drop 1).length=P.length - 1:=by rw[rT,yM]
    ((repeat' (first|refine Va X0 ?_|(refine Xi ?_ ?_<;>try intro ht)|exact Xx|fail)))
    refine aq _ _ rfl ?_;clear ak aq Ql
    repeat (refine Xu ?_)
    generalize jc P.length (eQ P)=pc at *
    refine dO (σ':=⟨aw [(5,.tree 1 (ints pc))],[]⟩) (by rw[← b9];exact Xs true [] X0) ?_
    ((repeat' (first|refine Vd (X4 @b9 @hdr @vg @pX.{0,0}) IV ?_|refine VD ?_ ?_|fail)))
    · intro _;trivial
    exact aE rfl (by rw[kJ])
structure aco (α:Type) (m:ae) (P:List Nd) (A B C:α→Ob) (bJ:List AV) (g:FuncId) (step:α→cW→α × Bool) (Inv:α→List cW→Prop):Prop where
  ra:∀ (ρ:Nat→Nat),ρ 0=0→ρ 1=1→ρ 2=2→∀ a,bD ρ (A a)=A a∧bD ρ (B a)=B a∧bD ρ (C a)=C a
  rc:∀ (ρ:Nat→Nat),ρ 0=0→ρ 1=1→ρ 2=2→∀ v∈bJ,aX ρ v=v
  inv:∀ a s L,vh m P s→Inv a (s::L)→Inv (step a s).1 L
  call:VM m→∀ a s L,vh m P s→Inv a (s::L)→ao Tryz.prog g (.agg [.lit (.int .i64 s.1),.tree 1 (rowsOf aK s.2.1)]::bJ) [A a,B a,C a] (.lit (.bool (step a s).2)) [A (step a s).1,B (step a s).1,C (step a s).1]
theorem IW {σ:St} {kp:Nat→Prop} {ρ:Nat→Nat} {snap:Bool}:∀ (l:List AV),(∀ v∈l,aX ρ v=v)→iK (aO σ kp ρ snap) l l
  | [],_=>trivial
  | v::l,h=>⟨.eq (h v (by simp)).symm,IW l fun x hx=>h x (by simp[hx])⟩
theorem acp {α:Type} (m:ae) (P:List Nd) (hm:MB m) (hP:PB P) (A B C:α→Ob) (bJ:List AV) (g:FuncId) (step:α→cW→α × Bool) {Inv:α→List cW→Prop} (hE:aco α m P A B C bJ g step Inv) (a:α) (hI:VM m→iG m P=true→Inv a (vs P (root m))) :
    ao Tryz.prog 74 [.agg (au m),.agg (aM P),.fn g bJ] [A a,B a,C a] (.lit (.bool (pD m P step a).2)) [A (pD m P step a).1,B (pD m P step a).1,C (pD m P step a).1]:=by
  have hv:=sI m hm
  have yK:=hP.Ay
  have oN:∀ n l a,bD (a9 n (0::1::2::l)) (A a)=A a:=fun n l a=>(hE.ra _ rfl rfl rfl a).1
  have oO:∀ n l a,bD (a9 n (0::1::2::l)) (B a)=B a:=fun n l a=>(hE.ra _ rfl rfl rfl a).2.1
  have oP:∀ n l a,bD (a9 n (0::1::2::l)) (C a)=C a:=fun n l a=>(hE.ra _ rfl rfl rfl a).2.2
  have Cd:∀ n l,aX (a9 n (0::1::2::l)) (.fn g bJ)=.fn g bJ:=fun n l=>by
    rw[aX]
    refine congrArg _ ?_
    have h:=hE.rc (a9 n (0::1::2::l)) rfl rfl rfl
    rw[uW]
    exact (List.map_congr_left h).trans (List.map_id bJ)
  have u3:∀ (σ:St) (kp:Nat→Prop) n l snap,aO σ kp (a9 n (0::1::2::l)) snap (.fn g bJ) (.fn g bJ):=fun σ kp n l snap=>.eq (Cd n l).symm
  generalize aj:pD m P step a=res
  unfold pD at aj
  refine ao.aD (fn:=Tryz.f74) 88 3 [.tmp 6] Tryz.func74 rfl rfl rfl rfl rfl (by simp) ?_
  by_cases Cu:dW m=0
  rotate_left
  · rw[if_neg (fun h=>Cu h.1)] at aj
    ((repeat' (first|refine Vd @aM.eq_1 hv ?_|(refine V2 @aM.eq_1 ?_ ?_<;>try with_reducible intro hb)|(refine Xi ?_ ?_<;>try intro ht)|exact Xx|fail)))
    subst aj
    exact Xw false [0,1,2] (X3 @oN @oO @oP)
  rw[Cu] at hv
  have cu:=iu.1 Cu
  have ve:=acg m P cu hP
  cases hs:iG m P
  · rw[hs] at ve aj
    rw[if_neg (by simp)] at aj
    ((repeat' (first|refine Vd (X3 @aM.eq_1 @bne_self_eq_false.{0} @Bool.not_false) (X2 hv ve) ?_|(refine Xi ?_ ?_<;>try intro ht)|exact Xx|fail)))
    subst aj
    exact Xw false [0,1,2] (X3 @oN @oO @oP)
  rw[hs] at ve aj
  rw[if_pos ⟨Cu,rfl⟩] at aj
  have sm:=acq m hm
  have QW:=Aw cu
  have uc:=sJ hs
  have wC:=sK hs
  clear Cu
  have hIn:=hI cu hs
  unfold root at aj hIn
  generalize cQ m=al at *
  ((repeat' (first|refine Vd (X3 @aM.eq_1 @bne_self_eq_false.{0} @hU) (X3 hv ve sm) ?_|(refine Xi ?_ ?_<;>try intro ht)|exact Xx|fail)))
  refine aG (fun z:List cW × List cW × α=>(⟨aw [(2,.fn g bJ),(3,.ptr 3 0 0),(4,.ptr 4 0 0),(7,.ref 5 3 0 z.1.length)],[A z.2.2,B z.2.2,C z.2.2,.var (au m),.var (aM P),.arr 3 (rowsOf lK (z.1.reverse++z.2.1))]⟩:St))
    (fun z=>(∀ s∈z.1,vh m P s)∧yN z.1∧Inv z.2.2 (z.1.flatMap (vs P))∧jd P step (z.1.flatMap (vs P)) z.2.2=res) (fun z=>(z.1.flatMap (vs P)).length) ([(0,al,[])],[],a) ⟨fun s hs=>by rw[ee] at hs;subst hs;exact⟨wC.1,QW,aV _⟩,⟨aH _,trivial⟩,by simpa using hIn,by simpa using aj⟩ (Xv @aM.eq_1) ?_
  clear aj QW hI hIn
  rintro ⟨T,J,a⟩ ⟨z9,jn,Fk,aj⟩ Ql ak aq
  dsimp only at z9 jn Fk aj ⊢
  cases T with
  | nil =>
    rw[List.flatMap_nil,jd] at aj
    ((repeat' (first|refine Va X0 ?_|(refine Xi ?_ ?_<;>try intro ht)|exact Xx|fail)))
    refine aq _ _ rfl ?_;clear ak aq Ql
    repeat (refine Xu ?_)
    refine Vb X0 ?_
    subst aj
    exact Xw false [0,1,2] (X3 @oN @oO @oP)
  | cons s T =>
    have ri:=z9 s (by simp)
    have hgT:∀ t∈T,vh m P t:=fun t ht=>z9 t (by simp[ht])
    have IX:=Av uc ri.1
    rw[pV,IX,fB] at Fk
    have QX:=hE.inv a s _ ri Fk
    rw[pV,IX,fB,jd] at aj
    have jx:(rowsOf lK ((s::T).reverse++J))[T.length]?=some (lK s):=by
      unfold rowsOf
      rw[bR,Hg,dj,fA (by simp)];simp
    have mN:(rowsOf lK ((s::T).reverse++J)).take T.length=rowsOf lK T.reverse:=by
      unfold rowsOf
      rw[← Ha,Hg,dj,List.take_append_of_le_length (by simp),dN (by simp)]
    have Fl:T.length+1≤((s::T).reverse++J).length:=by simp
    have IY:(((T.length+1:Nat):Int) - 1).toNat=T.length:=by omega
    have qg:=acs
    rw[dI]
    generalize Fm:(s::T).reverse++J=L at *
    obtain ⟨Cv,jn⟩:=jn
    obtain ⟨i,left,ab⟩:=s
    dsimp only at Cv
    have hi:i<P.length:=ri.1
    have dx:dK m left:=ri.2.1
    have gq:ab.length≤i:=ri.2.2
    have bC:P.getD i default=nd P i:=rfl
    have cd:=az (l:=P) (i:=i) (d:=default) hi
    have b1:=hP.kids _ cd
    have hdi:=uc i hi
    have Fo:=fun o=>ud (o:=o) uc ri.1
    have vj:=fun o=>QY (o:=o) uc ri
    have eR:=Az hs hi
    have Cw:∀ o,lI P (i,left,ab) o=(((nd P i).kids.getD o 0).toNat,bq left (nd P i).cls.toNat o,ab++[(nd P i).cls]):=fun o=>rfl
    have IZ:oM P (i,left,ab)=iv P (i,left,ab) (nd P i).kids.length:=rfl
    rw[bC] at b1 cd
    dsimp only at aj Fo vj
    generalize bS:nd P i=x at *
    obtain ⟨c,kids,cX,b5,cells⟩:=x
    dsimp only at b1 hdi Fo vj Cw IZ aj
    repeat' (first|((fail_if_success (first|refine iV 8 ?_|refine iW 8 ?_));refine Xr (X5 @jx @lK.eq_1 @IY @qg (X4 @aM.eq_1 @bC @aL.eq_1 @pX.{0,0})) ?_;intro K hK)|(refine hK _ ?_;clear hK K)|(refine Xi ?_ ?_<;>try intro ht)|refine Xy ?_|refine Xd ?_ ?_|exact Xx|fail)
    refine dO (aQ.Ap 8 6 (cells:=[.lit (.int .i64 i),.tree 1 (rowsOf aK left),qj ab]) (by rfl) (by simp only[Kc,simprocAttr]) (by
      intro v hv
      simp only[bW,List.not_mem_nil,or_false] at hv
      rcases hv with rfl | rfl | rfl
      · exact .inl ⟨_,rfl⟩
      · exact .inr ⟨_,_,rfl⟩
      · rcases QZ ab with ⟨y,h,_⟩ | h
        · exact .inl ⟨y,h⟩
        · exact .inr h)) ?_
    refine dO (aQ.Ap 9 7 (cells:=aL ⟨c,kids,cX,b5,cells⟩) (by rfl) (by simp only[Kc,simprocAttr]) (by simp[aL])) ?_
    refine dO (σ':=⟨aw [(2,.fn g bJ),(3,.ptr 3 0 0),(4,.ptr 4 0 0),(7,.ref 5 3 0 T.length),(8,.dz [.lit (.int .i64 i),.tree 1 (rowsOf aK left),qj ab]),(9,.dz (aL ⟨c,kids,cX,b5,cells⟩))],[A a,B a,C a,.var (au m),.var (aM P),.arr 3 (rowsOf lK L)]⟩) (by ((refine aQ.se [0,1,2,3,4,5] false (by simp only[Oc,simprocAttr,oN,oO,oP,aM]) ?_;simp only[Hr,↓reduceIte,reduceEqDiff,zL,reduceAdd,oN,oO,oP,aM];try (and_intros<;>first|exact .pure rfl|exact .eq rfl|exact .fz rfl (by simp only[Bc,Rc]))));(and_intros<;>first|exact u3 ..|exact .pure rfl|exact .eq rfl)) ?_
    have g6:ao Tryz.prog 122 [qj ab,.lit (.int .i64 c)] [] (.lit (.bool (ab.contains c))) []:=by
      have:=I0 ab c (by omega)
      cases ab with
      | nil=>exact ao.acv (pre:=[]) (post:=[.lit (.int .i64 c)]) this
      | cons x r=>exact this
    cases Q2:ab.contains c
    rotate_left
    · rw[Q2] at g6 aj
      rw[if_pos rfl] at aj
      ((refine Va @aL.eq_1 ?_)<;>try with_reducible intro K hK)
      refine bY g6 (Q3 _ _) rfl ?_
      ((try revert hK K);(repeat' (first|refine Va @aL.eq_1 ?_|(refine Xi ?_ ?_<;>try intro ht)|exact Xx|fail)))
      repeat (refine Xu ?_)
      refine Vb X0 ?_
      rw[← aj]
      exact Xw false [0,1,2] (X3 @oN @oO @oP)
    rw[Q2] at g6 aj
    rw[if_neg (by simp)] at aj
    have fe:=hE.call cu a (i,left,ab) _ ri Fk
    dsimp only at fe
    generalize dV:step a (i,left,ab)=sa at *
    obtain ⟨a2,b⟩:=sa
    dsimp only at fe aj QX
    ((refine Va @aL.eq_1 ?_)<;>try with_reducible intro K hK)
    refine bY g6 (Q3 _ _) rfl ?_
    cases b
    · rw[if_neg (by simp)] at aj
      ((try revert hK K);(refine Va @aL.eq_1 ?_)<;>try with_reducible intro K hK)
      refine ig [0,1,2] fe (by decide) ⟨by rw[oN];rfl,by rw[oO];rfl,by rw[oP];rfl,trivial⟩ ⟨.pure rfl,IW bJ (hE.rc _ rfl rfl rfl)⟩ ?_
      ((try revert hK K);(repeat' (first|refine Va (X4 @aL.eq_1 @oN @oO @oP) ?_|(refine Xi ?_ ?_<;>try intro ht)|exact Xx|fail)))
      repeat (refine Xu ?_)
      refine Vb X0 ?_
      rw[← aj]
      exact Xw false [0,1,2] (X3 @oN @oO @oP)
    rw[if_pos rfl] at aj
    ((try revert hK K);(refine Va @aL.eq_1 ?_)<;>try with_reducible intro K hK)
    refine ig [0,1,2] fe (by decide) ⟨by rw[oN];rfl,by rw[oO];rfl,by rw[oP];rfl,trivial⟩ ⟨.pure rfl,IW bJ (hE.rc _ rfl rfl rfl)⟩ ?_
    ((try revert hK K);(repeat' (first|refine Va (X4 @aL.eq_1 @oN @oO @oP) ?_|(refine Xi ?_ ?_<;>try intro ht)|exact Xx|fail)))
    have pE:0<kids.length→0≤c∧c<m.cls.length∧kids.length=(m.cls.getD c.toNat default).length:=fun h=>by
      unfold jM lh at eR
      dsimp only at eR
      rw[a7] at eR
      have h1:=eR.1
      split at h1
      · rw[decide_eq_true_eq] at h1;omega
      · rw[decide_eq_true_eq] at h1;exact⟨h1.1,h1.2.1,h1.2.2.1⟩
    have Cr:kids.length≤24:=by
      unfold jM at eR
      rw[a7] at eR
      exact Ar cu eR.1
    refine aG (fun z:Nat × List cW=>(⟨aw [(2,.fn g bJ),(3,.ptr 3 0 0),(4,.ptr 4 0 0),(7,.ref 5 3 0 (T.length+z.1)),(8,.dz [.lit (.int .i64 i),.tree 1 (rowsOf aK left),qj ab]),(9,.dz (aL ⟨c,kids,cX,b5,cells⟩)),(60,.tree 1 (ints kids)),(61,.lit (.int .i64 kids.length)),(62,.lit (.int .i64 z.1))],[A a2,B a2,C a2,.var (au m),.var (aM P),.arr 3 (rowsOf lK z.2)]⟩:St))
      (fun z=>z.1≤kids.length∧T.length+z.1≤z.2.length∧z.2.take (T.length+z.1)=T.reverse++iv P (i,left,ab) z.1) (fun z=>kids.length - z.1) (0,L) ⟨aH _,by dsimp only;omega,by
        dsimp only
        rw[← Fm,Nat.add_zero,Hg,dj,List.take_append_of_le_length (by simp),dN (by simp)]
        simp[iv]⟩ (Xv (X2 @aM.eq_1 @aL.eq_1)) ?_
    rintro ⟨o,L2⟩ ⟨ho,sL,I1⟩ cR ba bd
    dsimp only at ho sL I1 ⊢
    by_cases cp:o<kids.length
    · obtain ⟨c1,c2,c3⟩:=pE (by omega)
      obtain ⟨k1,k2,k3⟩:=Fo o cp
      have Cw:=Cw o
      have aiQ:(left.getD c.toNat default).length=kids.length:=by rw[c3];exact dx.2 c.toNat (by have:=dx.1;omega)
      have x9:=acw left c.toNat o (by have:=dx.1;omega) (by omega) (by have:=dx.1;have:=cu.cls;omega) (by omega)
      rw[mr c1] at x9
      have Cq:(rowsOf lK L2).take (T.length+o)=rowsOf lK (T.reverse++iv P (i,left,ab) o):=by unfold rowsOf;rw[← Ha,I1]
      have b9:(T.reverse++iv P (i,left,ab) o).length=T.length+o:=by simp[iv]
      generalize jN:kids.getD o 0=k at *
      generalize bq left c.toNat o=on at *
      by_cases Q4:ab=[]
      · subst Q4
        ((repeat' (first|refine Vc (X5 @aL.eq_1 @jN (X2 @qj.eq_1 @qj.eq_2) @Cq @b9) (X2 x9 acx) ?_|(refine Xi ?_ ?_<;>try intro ht)|exact Xx|fail)))
        have oQ:(rowsOf lK (T.reverse++iv P (i,left,[]) o)++[[AV.lit (.int .i64 k),.tree 1 (rowsOf aK on),.ref 7 1 0 1]])[T.length+o]?=some [AV.lit (.int .i64 k),.tree 1 (rowsOf aK on),.ref 7 1 0 1]:=by
          rw[fA (by simp[rowsOf,← b9])];simp[rowsOf,← b9]
        have Cy:rowsOf lK (T.reverse++iv P (i,left,[]) (o+1))=(rowsOf lK (T.reverse++iv P (i,left,[]) o)++[[AV.lit (.int .i64 k),.tree 1 (rowsOf aK on),.ref 7 1 0 1]]).set (T.length+o) [AV.lit (.int .i64 k),.tree 1 (rowsOf aK on),.tree 1 [[AV.lit (.int .i64 c)]]]:=by
          rw[uM _ _ (by simp[rowsOf,← b9]),Q5,Cw]
          have:(((k.toNat:Nat):Int))=k:=by omega
          simp[rowsOf,← b9,lK,qj,ints,this]
        have vn:(T.reverse++iv P (i,left,[]) (o+1)).length=T.length+(o+1):=by simp[iv]
        refine ba _ (o+1,T.reverse++iv P (i,left,[]) (o+1)) ⟨by dsimp only;omega,L6 vn.symm,dN (L6 vn)⟩ (by dsimp only;omega) ?_
        refine aQ.trans (aQ.I2 7 9 (T.length+o) 2 1 3 (rows:=[[AV.lit (.int .i64 c)]]) rfl oQ rfl rfl (by decide) (by simp) (by simp)) ?_
        simp only[tj,mY]
        rw[← Cy]
        ((refine aQ.se [0,1,2,3,4,9] false (by simp only[Oc,simprocAttr,oN,oO,oP,aM]) ?_;simp only[Hr,↓reduceIte,reduceEqDiff,zL,reduceAdd,oN,oO,oP,aM];try (and_intros<;>first|exact .pure rfl|exact .eq rfl|exact .fz rfl (by simp only[Bc,Rc]))))
        and_intros<;>first|exact u3 ..|exact .pure rfl|exact .eq rfl
      · have p9:0<ab.length:=by
          cases ab with
          | nil=>exact absurd rfl Q4
          | cons=>simp
        have Q6:∀ l:List Int,0<l.length→qj l=.tree 1 (ints l):=fun l h=>by
          cases l with
          | nil=>simp at h
          | cons=>rfl
        have AA:=Q6 ab p9
        have acy:=Q6 (ab++[c]) (by simp)
        have bL:=I3 ab p9 (by omega)
        have jm:(ints (ab++[c])).length=ab.length+1:=by simp[ints]
        have oQ:(rowsOf lK (T.reverse++iv P (i,left,ab) o)++[[AV.lit (.int .i64 k),.tree 1 (rowsOf aK on),.ref 8 1 0 (ab.length+1)]])[T.length+o]?=some [AV.lit (.int .i64 k),.tree 1 (rowsOf aK on),.ref 8 1 0 (ab.length+1)]:=by
          rw[fA (by simp[rowsOf,← b9])];simp[rowsOf,← b9]
        have Cy:rowsOf lK (T.reverse++iv P (i,left,ab) (o+1))=(rowsOf lK (T.reverse++iv P (i,left,ab) o)++[[AV.lit (.int .i64 k),.tree 1 (rowsOf aK on),.ref 8 1 0 (ab.length+1)]]).set (T.length+o) [AV.lit (.int .i64 k),.tree 1 (rowsOf aK on),.tree 1 (ints (ab++[c]))]:=by
          rw[uM _ _ (by simp[rowsOf,← b9]),Q5,Cw]
          have:(((k.toNat:Nat):Int))=k:=by omega
          simp[rowsOf,← b9,lK,acy,this]
        have vn:(T.reverse++iv P (i,left,ab) (o+1)).length=T.length+(o+1):=by simp[iv]
        repeat' (first|((fail_if_success (first|refine iV 13 ?_|refine iW 13 ?_));refine Xr (X3 @aL.eq_1 @jN @AA) ?_;intro K hK)|(refine hK _ ?_;clear hK K)|(refine Xi ?_ ?_<;>try intro ht)|refine Xy ?_|refine Xd ?_ ?_|exact Xx|fail)
        refine sj [4,6,8,11,14] (.take 0 (.take 1 (.take 2 (.take 3 (.take 4 (.take 5 (.take 6 (.take 7 (.take 8 (.take 9 (.take 10 (.take 11 (.both 12 (.take 13 (.take 14 (.take 15 (.take 16 (.take 17 (.take 18 (.take 19 (.take 20 .nil)))))))) 13 (.take 14 (.both 12 (.take 15 (.take 16 (.take 17 (.take 18 (.take 19 (.take 20 .nil)))))) 15 (.take 12 (.take 16 (.take 17 (.take 18 (.take 19 (.take 20 .nil))))))))))))))))))))) rfl (by decide) (by decide +kernel) ?_
        simp (disch:=omega) only[Ac,↓Pc,simprocAttr,Pw,↓Lq,aL,jN,AA]
        refine bZ x9 rfl rfl ?_
        simp (disch:=omega) only[Ac,↓Pc,simprocAttr,Pw,↓Lq,aL,jN,AA]
        repeat' (with_reducible refine And.intro ?_ ?_)
        all_goals try (refine ig [] bL (by decide) trivial ⟨.pure rfl,trivial⟩ ?_;simp (disch:=omega) only[Ac,↓Pc,simprocAttr,Pw,↓Lq,aL,jN,AA,iz,rV,Cq,b9,Ei])
        repeat' (first|with_reducible refine And.intro ?_ ?_|omega)
        all_goals
          repeat (refine Xu ?_)
          ((repeat' (first|refine Va X0 ?_|fail)))
        all_goals
          refine ba _ (o+1,T.reverse++iv P (i,left,ab) (o+1)) ⟨by dsimp only;omega,L6 vn.symm,dN (L6 vn)⟩ (by dsimp only;omega) ?_
          refine aQ.trans (aQ.I2 8 10 (T.length+o) 2 1 3 (rows:=ints (ab++[c])) rfl oQ rfl (by rw[jm];rfl) (by decide) (oB _) (pw _)) ?_
          simp only[tj,mY]
          rw[← Cy]
          ((refine aQ.se [0,1,2,3,4,10] false (by simp only[Oc,simprocAttr,oN,oO,oP,aM,AA]) ?_;simp only[Hr,↓reduceIte,reduceEqDiff,zL,reduceAdd,oN,oO,oP,aM,AA];try (and_intros<;>first|exact .pure rfl|exact .eq rfl|exact .fz rfl (by simp only[Bc,Rc]))))
          and_intros<;>first|exact u3 ..|exact .pure rfl|exact .eq rfl
    · obtain rfl:o=kids.length:=by omega
      ((repeat' (first|refine Va @aL.eq_1 ?_|(refine Xi ?_ ?_<;>try intro ht)|exact Xx|fail)))
      refine bd _ _ rfl ?_
      clear ba bd cR
      repeat (refine Xu ?_)
      ((skip))
      have eM:(iv P (i,left,ab) kids.length).length=kids.length:=by simp[iv]
      have hL3:T.reverse++iv P (i,left,ab) kids.length++L2.drop (T.length+kids.length)=L2:=by rw[← I1,List.take_append_drop]
      refine ak _ ((oM P (i,left,ab)).reverse++T,L2.drop (T.length+kids.length),a2) ⟨fun t ht=>?_,?_,by dsimp only;rw[po];exact QX,?_⟩ ?_ ?_
      · dsimp only at ht
        rw[List.mem_append] at ht
        rcases ht with ht | ht
        · obtain ⟨o,ho,rfl⟩:=tX (rY.1 ht)
          dsimp only at ho
          rw[bS] at ho
          exact vj o ho
        · exact hgT t ht
      · dsimp only
        refine yN.push jn Cv _ (fun t ht=>?_) (by rw[List.length_reverse,IZ,eM];exact Cr)
        obtain ⟨o,ho,rfl⟩:=tX (rY.1 ht)
        dsimp only at ho
        rw[bS] at ho
        exact (Fo o ho).1
      · dsimp only
        rw[po]
        exact aj
      · dsimp only
        rw[po,pV,IX,bU,bU,dI]
        omega
      · dsimp only
        rw[List.reverse_append,List.reverse_reverse,IZ,hL3,bU,List.length_reverse,eM,Nat.add_comm kids.length T.length]
        exact Xv @aM.eq_1
def gr (m:ae) (P:List Nd) (b:Int) (s:cW):Int × Bool :=
  if (nd P s.1).cls≠-1 then (b,true)
  else if 0<(nd P s.1).b5.length then (b,lL m (nd P s.1) s.2.1)
  else (min b (iw m s.2.1 (nd P s.1).cX).1,(iw m s.2.1 (nd P s.1).cX).2 == 0)
def kD (m:ae) (P:List Nd):Int × Bool:=if (pD m P (gr m P) 1099511627776).2=true then ((pD m P (gr m P) 1099511627776).1,true) else (0,false)
theorem Q7 {α:Type} {P:List Nd} {step:α→cW→α × Bool}:∀ {L:List cW} {a r:α},jd P step L a=(r,true)→∀ (J:α→Prop) (R:α→α→Prop),(∀ x,R x x)→(∀ x y z,R x y→R y z→R x z)→(∀ s∈L,∀ x,(step x s).2=true→R x (step x s).1) →
    ∀ s∈L,s.2.2.contains (nd P s.1).cls=false∧∃ x,(step x s).2=true∧R (step x s).1 r
  | [],a,r,h,J,R,h1,h2,h3,s,hs=>by simp at hs
  | t::L,a,r,h,J,R,h1,h2,h3,s,hs=>by
    rw[jd] at h
    split at h
    · cases h
    · rename_i hc
      split at h
      · rename_i m0
        have ih:=Q7 h J R h1 h2 (fun u hu=>h3 u (by simp[hu]))
        rcases bW.1 hs with e | hs
        · subst e
          refine⟨by simpa using hc,a,m0,?_⟩
          have mono:∀ (L:List cW) (x y:α),(∀ u∈L,∀ x,(step x u).2=true→R x (step x u).1)→jd P step L x=(y,true)→R x y:=by
            intro L
            induction L with
            | nil=>intro x y _ h;rw[jd] at h;cases h;exact h1 _
            | cons u L Cz =>
              intro x y hm h
              rw[jd] at h
              split at h
              · cases h
              · split at h
                · rename_i hu;exact h2 _ _ _ (hm u (by simp) x hu) (Cz _ _ (fun v hv=>hm v (by simp[hv])) h)
                · cases h
          exact mono L _ _ (fun u hu=>h3 u (by simp[hu])) h
        · exact ih s hs
      · cases h
theorem IP {m:ae} {P:List Nd} {n:Int} (h:kD m P=(n,true)):VM m∧iG m P=true∧jd P (gr m P) (vs P (root m)) 1099511627776=(n,true):=by
  unfold kD pD at h
  by_cases h2:dW m=0∧iG m P=true
  · rw[if_pos h2] at h
    split at h
    · rename_i h1
      refine⟨iu.1 h2.1,h2.2,?_⟩
      have e:(jd P (gr m P) (vs P (root m)) 1099511627776).1=n:=congrArg Prod.fst h
      exact Prod.ext e h1
    · cases h
  · rw[if_neg h2] at h
    split at h
    · rename_i h1;cases h1
    · cases h
theorem Q8 {m:ae} {P:List Nd} (b:Int) (s:cW):(gr m P b s).1≤b:=by
  unfold gr
  split
  · exact c9 _
  split
  · exact c9 _
  · exact Int.min_le_left ..
theorem IQ {m:ae} {P:List Nd} {n:Int} (h:jd P (gr m P) (vs P (root m)) 1099511627776=(n,true)):n≤1099511627776∧∀ s∈vs P (root m),s.2.2.contains (nd P s.1).cls=false∧((nd P s.1).cls = -1→if 0<(nd P s.1).b5.length then lL m (nd P s.1) s.2.1=true else n≤(iw m s.2.1 (nd P s.1).cX).1∧(iw m s.2.1 (nd P s.1).cX).2=0):=by
  have acA:∀ (L:List cW) (a r:Int),jd P (gr m P) L a=(r,true)→r≤a:=by
    intro L
    induction L with
    | nil=>intro a r h;rw[jd] at h;cases h;exact c9 _
    | cons s L ih =>
      intro a r h
      rw[jd] at h
      split at h
      · cases h
      · split at h
        · exact vZ (ih _ _ h) (Q8 a s)
        · cases h
  refine⟨acA _ _ _ h,fun s hs=>?_⟩
  obtain ⟨h1,x,h2,h3⟩:=Q7 h (fun _=>True) (fun x y=>y≤x) (fun x=>c9 _) (fun x y z h1 h2=>vZ h2 h1) (fun s _ x _=>Q8 x s) s hs
  refine⟨h1,fun hc=>?_⟩
  unfold gr at h2 h3
  rw[if_neg (by omega)] at h2 h3
  split
  · rename_i hg
    rw[if_pos hg] at h2
    exact h2
  · rename_i hg
    rw[if_neg hg] at h2 h3
    dsimp only at h2 h3
    exact⟨by omega,by simpa using h2⟩
theorem acB {m:ae} {P:List Nd} (hm:VM m) (hs:iG m P=true) {plan:List Int} (hp:FP m plan):∀ (f:Nat) (s:cW),vh m P s→P.length - s.1≤f→wQ m s.2.1 plan→∃ t∈vs P s,vh m P t∧(nd P t.1).cls = -1∧wQ m t.2.1 plan:=by
  have hd:=sJ hs
  intro f
  induction f with
  | zero=>intro s hg hf;have:=hg.1;omega
  | succ f ih =>
    intro s hg hf dE
    rw[Av hd hg.1]
    by_cases hc:(nd P s.1).cls = -1
    · exact⟨s,by simp,hg,hc,dE⟩
    · have hn:=Az hs hg.1
      unfold jM lh at hn
      rw[a7,if_neg hc,decide_eq_true_eq] at hn
      obtain ⟨⟨c1,c2,c3,_⟩,_⟩:=hn
      have b9:=hp.len
      have Q9:=hp.get (nd P s.1).cls.toNat (by omega)
      rw[mr c1] at Q9
      obtain ⟨o1,o2,o3,o4⟩:=cV.1 Q9
      have ho:(plan.getD (nd P s.1).cls.toNat 0).toNat<(nd P s.1).kids.length:=by omega
      have hk:=ud hd hg.1 ho
      have gB:=hg.2.1.1
      have a6:=hg.2.1.2 (nd P s.1).cls.toNat (by omega)
      obtain ⟨t,ht,h2⟩:=ih (lI P s (plan.getD (nd P s.1).cls.toNat 0).toNat) (QY hd hg ho) (by omega) (fun i hi=>by
        show ((bq s.2.1 (nd P s.1).cls.toNat (plan.getD (nd P s.1).cls.toNat 0).toNat).getD i default).getD _ false=true
        unfold bq
        by_cases e:(nd P s.1).cls.toNat=i
        · subst e
          rw[yJ _ _ _ (by omega)]
          unfold lG
          rw[ay,List.getElem?_set,if_pos rfl,if_pos (by rw[List.length_replicate,a6];omega)];rfl
        · rw[ay (l:=s.2.1.set _ _),List.getElem?_set_ne e,← ay]
          exact dE i hi)
      refine⟨t,List.mem_cons_of_mem _ (xP.2 ⟨_,?_,ht⟩),h2⟩
      rw[rY]
      exact bV.2 ⟨_,List.mem_range.2 ho,rfl⟩
theorem Ra:∀ (f:Nat→Int) (n i:Nat),(∀ j,j<n→0≤f j)→i<n→f i≤bw f n
  | f,0,i,_,h=>by omega
  | f,n+1,i,h0,h=>by
    rw[bw]
    have EA:∀ n,(∀ j,j<n→0≤f j)→0≤bw f n:=fun n=>by
      induction n with
      | zero=>intro _;exact c9 _
      | succ n ih=>intro h;rw[bw];have:=ih fun j hj=>h j (by omega);have:=h n (by omega);omega
    by_cases e:i=n
    · subst e;have:=EA i fun j hj=>h0 j (by omega);omega
    · have:=Ra f n i (fun j hj=>h0 j (by omega)) (by omega);have:=h0 n (by omega);omega
theorem Rb (f:Nat→Int) (n:Nat) (h:∀ j,j<n→0≤f j):0≤bw f n:=by
  induction n with
  | zero=>exact c9 _
  | succ n ih=>rw[bw];have:=ih fun j hj=>h j (by omega);have:=h n (by omega);omega
theorem acC {m:ae} (hm:VM m) {plan:List Int} (hp:FP m plan) {j:Nat} (hj:j<m.cls.length):0≤pF m plan j:=by
  have h0:=hp.get j (by rw[hp.len];exact hj)
  obtain ⟨b1,b2,b3,b4⟩:=cV.1 h0
  rw[dg] at b4
  have hl:=az (l:=m.cls) (i:=j) (d:=default) hj
  have ho:=az (l:=m.cls.getD j default) (i:=(plan.getD j 0).toNat) (d:=default) (by omega)
  have:=CC (hm.mf _ hl _ ho)
  unfold aS at this
  unfold pF;omega
theorem acD {m:ae} (hm:VM m) (plan:List Int) {i:Nat} (hi:i<m.ah.length):0≤mg m plan (m.ah.getD i default):=by
  have ca:=fY hm.pr _ (az (l:=m.ah) (i:=i) (d:=default) hi)
  have:=vo ca (plan.getD (m.ah.getD i default).fst.toNat 0) (plan.getD (m.ah.getD i default).snd.toNat 0)
  unfold aS at this
  unfold mg;omega
theorem acE {m:ae} (hm:VM m) (plan:List Int) {i:Nat} (hi:i<m.av.length):0≤j7 plan (m.av.getD i default):=by
  obtain ⟨q1,q2,q3,q4⟩:=ju (hm.ct _ (az (l:=m.av) (i:=i) (d:=default) hi))
  have:=wR (most:=(m.av.getD i default).most) (sum:=dX plan (m.av.getD i default).aA 0) (g7 q3)
  unfold aS at this
  unfold j7;omega
theorem acF {m:ae} (hm:VM m) {plan:List Int} (hp:FP m plan) {a b:Int} (h:pG m a (plan.getD a.toNat 0) b (plan.getD b.toNat 0)=true):gY (gZ m plan) 0=1099511627776:=by
  have hex :∃p∈m.ah,mg m plan p=1099511627776:=by
    unfold pG at h
    split at h
    · obtain ⟨p,hp,h⟩:=kW.1 h
      unfold rj at h
      rw[decide_eq_true_eq] at h
      exact⟨p,hp,by unfold mg;rw[h.1,h.2.1];exact h.2.2⟩
    · obtain ⟨p,hp,h⟩:=kW.1 h
      unfold rj at h
      rw[decide_eq_true_eq] at h
      exact⟨p,hp,by unfold mg;rw[h.1,h.2.1];exact h.2.2⟩
  obtain ⟨p,pH,he⟩:=hex
  obtain ⟨i,hi,rfl⟩:=lZ pH
  rw[IJ hm hp]
  have h1:=Rb (pF m plan) m.cls.length fun j hj=>acC hm hp hj
  have h2:=Ra (fun i=>mg m plan (m.ah.getD i default)) m.ah.length i (fun j hj=>acD hm plan hj) hi
  have h3:=Rb (fun i=>j7 plan (m.av.getD i default)) m.av.length fun j hj=>acE hm plan hj
  have e:m.ah.getD i default=m.ah[i]:=by rw[ay,bm hi];rfl
  rw[e,he] at h2
  omega
theorem Rd:∀ (n:Nat) (l:List Nat),l.Nodup→(∀ x∈l,x<n)→l.length≤n
  | 0,l,_,h=>by
    cases l with
    | nil=>simp
    | cons x l=>have:=h x (by simp);omega
  | n+1,l,hn,h=>by
    have h1:=Rd n (l.erase n) (hn.erase n) (fun x hx=>by
      have h2:=(hn.mem_erase_iff).1 hx
      have:=h x h2.2
      have:=h2.1
      omega)
    rw[List.length_erase] at h1
    split at h1<;>omega
theorem acG {n:Nat}:∀ (l:List Nat),l.length > n→(∀ x∈l,x<n)→∃ i j,i<j∧j<l.length∧l[i]?=l[j]?:=by
  intro l hl hx
  by_cases hn:l.Nodup
  · exfalso
    have h2:=Rd n l hn hx
    omega
  · unfold List.Nodup at hn
    rw[List.pairwise_iff_getElem] at hn
    simp only[Classical.not_forall,Decidable.not_not] at hn
    obtain ⟨i,j,hi,hj,wS,he⟩:=hn
    exact⟨i,j,wS,hj,by rw[bm hi,bm hj,he]⟩
theorem acH {m:ae} (hm:VM m) {plan:List Int} (hp:FP m plan) {x:Nd} {left:List (List Bool)} (hf:dK m left) (dE:wQ m left plan) (h:lL m x left=true):gY (gZ m plan) 0=1099511627776:=by
  unfold lL at h
  simp only[a7,decide_eq_true_eq] at h
  obtain ⟨⟨⟨h1,h2⟩,h3⟩,h4⟩:=h
  have I4:=Re h1
  rw[eW] at h3 h4
  have p6:∀ c∈x.b5,∃ i,i<x.cells.length∧(c,plan.getD c.toNat 0)∈x.cells.getD i default:=fun c hc=>by
    have oE:=I4 c hc
    have aZ:=h4 c hc
    unfold vp at aZ
    have b9:=hp.len
    have hg:=hp.get c.toNat (by omega)
    obtain ⟨b1,b2,b3,b4⟩:=cV.1 hg
    rw[dg] at b4
    have hr:=hf.2 c.toNat (by have:=hf.1;omega)
    have h5:=yO.1 aZ (plan.getD c.toNat 0).toNat (by omega)
    rw[dE c.toNat (by omega),hU,lA,kW] at h5
    obtain ⟨l,hl,h6⟩:=h5
    rw[kW] at h6
    obtain ⟨y,hy,h7⟩:=h6
    unfold nZ at h7
    rw[decide_eq_true_eq,mr b3] at h7
    obtain ⟨i,hi,rfl⟩:=lZ hl
    refine⟨i,hi,?_⟩
    rw[ay,bm hi,gw,← h7]
    exact hy
  have ej :∃f:Int→Nat,∀ c∈x.b5,f c<x.cells.length∧(c,plan.getD c.toNat 0)∈x.cells.getD (f c) default:=by
    classical
    refine⟨fun c=>if hc:c∈x.b5 then Classical.choose (p6 c hc) else 0,fun c hc=>?_⟩
    dsimp only
    rw[dif_pos hc]
    exact Classical.choose_spec (p6 c hc)
  obtain ⟨f,Fp⟩:=ej
  obtain ⟨i,j,wS,hj,he⟩:=acG (n:=x.cells.length) (x.b5.map f) (by simpa using h2) (fun y hy=>by
    obtain ⟨c,hc,rfl⟩:=bV.1 hy
    exact (Fp c hc).1)
  rw[List.length_map] at hj
  rw[bR,bR,bm (by omega),bm hj] at he
  simp only[Option.map_some,Option.some.injEq] at he
  have aT:∀ j,j<x.b5.length→∀ i,i<j→x.b5.getD i 0<x.b5.getD j 0:=by
    intro j
    induction j with
    | zero=>intro _ i hi;omega
    | succ j ih =>
      intro hj i hi
      have h5:=yO.1 h1 (j+1) hj
      rw[decide_eq_true_eq] at h5
      have h6:x.b5.getD j 0<x.b5.getD (j+1) 0:=by
        rcases h5.2.2 with h | h
        · omega
        · simpa using h
      by_cases e:i=j
      · subst e;exact h6
      · have:=ih (by omega) i (by omega);omega
  have b8:=aT j hj i wS
  rw[ay,ay,bm (by omega),bm hj,gw,gw] at b8
  have m1:=(Fp x.b5[i] (pU _)).2
  have m2:=(Fp x.b5[j] (pU _)).2
  rw[he] at m1
  have bL:=(Fp x.b5[j] (pU _)).1
  generalize x.b5[i]=a at *
  generalize x.b5[j]=b at *
  have h5:=h3 _ (az (d:=default) bL)
  generalize x.cells.getD (f b) default=l at *
  unfold vq at h5
  have key:∀ u v:Int × Int,u∈l→v∈l→u.1≠v.1→pG m u.1 u.2 v.1 v.2=true:=fun u v hu hv b8=>by
    obtain ⟨p,hp',rfl⟩:=lZ hu
    obtain ⟨q,Ao,rfl⟩:=lZ hv
    have one:∀ p q (hp:p<l.length) (hq:q<p),l[p].1≠l[q].1→pG m l[p].1 l[p].2 l[q].1 l[q].2=true:=fun p q hp hq b8=>by
      have h6:=yO.1 h5 p hp
      unfold wT at h6
      rw[a7,eW,ay,bm hp,gw] at h6
      have h7:=h6.2 l[q] (by rw[List.mem_take_iff_getElem];exact⟨q,by omega,rfl⟩)
      unfold ue at h7
      rw[decide_eq_false b8,lA] at h7
      exact h7
    rcases Nat.lt_trichotomy p q with h | h | h
    · rw[Rf b8];exact one q p Ao h (Ne.symm b8)
    · subst h;exact absurd rfl b8
    · exact one p q hp' h b8
  exact acF hm hp (key _ _ m1 m2 (by dsimp only;omega))
theorem abM {m:ae} {P:List Nd} {n:Int} (h:kD m P=(n,true)) {plan:List Int} (hp:FP m plan):n≤gY (gZ m plan) 0:=by
  obtain ⟨hm,hs,hr⟩:=IP h
  obtain ⟨hn,hl⟩:=IQ hr
  have hlen:=sK hs
  have dx:=Aw hm
  obtain ⟨t,ht,hg,hc,dE⟩:=acB hm hs hp P.length (root m) ⟨by show 0<_;omega,dx,aV _⟩ (by omega) (fun i hi=>by
    show ((cQ m).getD i default).getD _ false=true
    have hg:=hp.get i (by rw[hp.len];exact hi)
    obtain ⟨b1,b2,b3,b4⟩:=cV.1 hg
    rw[dg] at b4
    unfold cQ
    rw[if_pos (iu.2 hm)]
    unfold kG
    rw[kH _ _ _ hi,ay,List.getElem?_replicate,if_pos (by omega)];rfl)
  have h2:=(hl t ht).2 hc
  split at h2
  · rw[acH hm hp hg.2.1 dE h2];exact hn
  · refine vZ h2.1 ?_
    have h3:=h2.2
    unfold iw at h3 ⊢
    split at h3
    · cases h3
    split at h3
    · cases h3
    rename_i h4 h5
    rw[if_neg h4,if_neg h5]
    rw[Bool.not_eq_false,eW] at h5
    exact QF hm hp _ hg.2.1 dE _ h5
theorem acJ {m:ae} {P:List Nd} (hm:VM m) (hs:iG m P=true) (h:∀ s∈vs P (root m),s.2.2.contains (nd P s.1).cls=false∧((nd P s.1).cls = -1→(nd P s.1).b5.length=0∧(iw m s.2.1 (nd P s.1).cX).2=0)) :
    ∃ n,kD m P=(n,true)∧∀ a,a≤1099511627776→(∀ s∈vs P (root m),(nd P s.1).cls = -1→a≤(iw m s.2.1 (nd P s.1).cX).1)→a≤n:=by
  have key:∀ (L:List cW) (b:Int),(∀ s∈L,s.2.2.contains (nd P s.1).cls=false∧((nd P s.1).cls = -1→(nd P s.1).b5.length=0∧(iw m s.2.1 (nd P s.1).cX).2=0)) →
      (jd P (gr m P) L b).2=true∧∀ a,a≤b→(∀ s∈L,(nd P s.1).cls = -1→a≤(iw m s.2.1 (nd P s.1).cX).1)→a≤(jd P (gr m P) L b).1:=by
    intro L
    induction L with
    | nil=>intro b _;exact⟨rfl,fun a h _=>h⟩
    | cons s L ih =>
      intro b h
      obtain ⟨h1,h2⟩:=h s (by simp)
      have vr:(gr m P b s).2=true:=by
        unfold gr
        by_cases hc:(nd P s.1).cls = -1
        · rw[if_neg (by omega),if_neg (by have:=(h2 hc).1;omega)]
          simp[(h2 hc).2]
        · rw[if_pos hc]
      rw[jd,h1,if_neg (by simp),if_pos vr]
      obtain ⟨i1,i2⟩:=ih (gr m P b s).1 fun t ht=>h t (by simp[ht])
      refine⟨i1,fun a ha hl=>i2 a ?_ fun t ht=>hl t (by simp[ht])⟩
      unfold gr
      by_cases hc:(nd P s.1).cls = -1
      · rw[if_neg (by omega),if_neg (by have:=(h2 hc).1;omega)]
        have:=hl s (by simp) hc
        show a≤min _ _
        omega
      · rw[if_pos hc];exact ha
  obtain ⟨k1,k2⟩:=key (vs P (root m)) 1099511627776 h
  refine⟨(jd P (gr m P) (vs P (root m)) 1099511627776).1,?_,k2⟩
  have hw:pD m P (gr m P) 1099511627776=jd P (gr m P) (vs P (root m)) 1099511627776:=if_pos ⟨iu.2 hm,hs⟩
  unfold kD
  rw[hw,if_pos k1]
def lH (l:List Mv):Nd:=⟨-1,[],l,[],[]⟩
theorem IN {P:List Nd} (hd:Down P) {s:cW} (hs:s.1<P.length) (hk:(nd P s.1).kids=[]):vs P s=[s]:=by
  rw[Av hd hs]
  unfold oM iv
  rw[hk];rfl
theorem QB {m:ae} (left:List (List Bool)):iw m left []=(nr m left (S0 m,T0 m),0):=rfl
mutual
inductive ja (m:ae) (P:List Nd) (Q:List Int→Prop):Nat→Nat→List Int→Prop
  | leaf (lo:Nat) (ab:List Int) (l:List Mv) (h:nd P lo=lH l) (hl:l.length≤2000) (hv:∀ x∈l,lk m x=true) (ha:(-1:Int) ∉ ab) (hq:Q ab):ja m P Q lo (lo+1) ab
  | node (lo hi:Nat) (ab:List Int) (c:Nat) (ks:List Int) (h:nd P lo=⟨c,ks,[],[],[]⟩) (hc:c<m.cls.length) (ha:(c:Int) ∉ ab) (hk:ks.length=(m.cls.getD c default).length) (hs:jb m P Q (lo+1) hi (ab++[(c:Int)]) ks):ja m P Q lo hi ab
inductive jb (m:ae) (P:List Nd) (Q:List Int→Prop):Nat→Nat→List Int→List Int→Prop
  | nil (lo:Nat) (ab:List Int):jb m P Q lo lo ab []
  | cons (lo mid hi:Nat) (ab:List Int) (ks:List Int) (h:ja m P Q lo mid ab) (hs:jb m P Q mid hi ab ks):jb m P Q lo hi ab ((lo:Int)::ks)
end
theorem jb.snoc {m:ae} {P:List Nd} {Q:List Int→Prop} {mid hi:Nat} {ab:List Int} (h2:ja m P Q mid hi ab):∀ {ks:List Int} {lo:Nat},jb m P Q lo mid ab ks→jb m P Q lo hi ab (ks++[(mid:Int)])
  | [],lo,h=>by
    cases h
    exact .cons _ _ _ _ _ h2 (.nil _ _)
  | k::ks,lo,h=>by
    cases h with
    | cons _ ab8 _ _ _ h1 hs=>exact .cons _ _ _ _ _ h1 (jb.snoc h2 hs)
mutual
theorem ja.lt {m:ae} {P:List Nd} {Q:List Int→Prop} {lo hi:Nat} {ab:List Int}:ja m P Q lo hi ab→lo<hi
  | .leaf _ _ _ _ _ _ _ _=>Nat.lt_succ_self _
  | .node _ _ _ _ _ _ _ _ _ hs=>by have:=hs.le;omega
theorem jb.le {m:ae} {P:List Nd} {Q:List Int→Prop} {lo hi:Nat} {ab ks:List Int}:jb m P Q lo hi ab ks→lo≤hi
  | .nil _ _=>aV _
  | .cons _ _ _ _ _ h hs=>by have:=h.lt;have:=hs.le;omega
end
mutual
theorem ja.frame {m:ae} {P P':List Nd} {Q:List Int→Prop} {lo hi:Nat} {ab:List Int}:ja m P Q lo hi ab→(∀ i,lo≤i→i<hi→nd P' i=nd P i)→ja m P' Q lo hi ab
  | .leaf _ _ l h hl hv ha hq,hf=>.leaf _ _ l ((hf _ (aV _) (Nat.lt_succ_self _)).trans h) hl hv ha hq
  | .node _ _ _ c ks h hc ha hk hs,hf=>.node _ _ _ c ks ((hf _ (aV _) (by have:=hs.le;omega)).trans h) hc ha hk (hs.frame fun i h1 h2=>hf i (by omega) h2)
theorem jb.frame {m:ae} {P P':List Nd} {Q:List Int→Prop} {lo hi:Nat} {ab ks:List Int}:jb m P Q lo hi ab ks→(∀ i,lo≤i→i<hi→nd P' i=nd P i)→jb m P' Q lo hi ab ks
  | .nil _ _,_=>.nil _ _
  | .cons _ mid _ _ _ h hs,hf=>.cons _ _ _ _ _ (h.frame fun i h1 h2=>hf i h1 (by have:=hs.le;omega)) (hs.frame fun i h1 h2=>hf i (by have:=h.lt;omega) h2)
end
def rm (P:List Nd) (lo hi:Nat):List Int:=(List.range' lo (hi - lo)).flatMap fun i=>(nd P i).kids
theorem Rg (P:List Nd) {lo mid hi:Nat} (h1:lo≤mid) (h2:mid≤hi):rm P lo hi=rm P lo mid++rm P mid hi:=by
  unfold rm
  rw[← po]
  congr 1
  have:=List.range'_append (s:=lo) (m:=mid - lo) (n:=hi - mid) (step:=1)
  simp only[Nat.one_mul] at this
  rw[show lo+(mid - lo)=mid by omega,show mid - lo+(hi - mid)=hi - lo by omega] at this
  exact this.symm
theorem Rh (P:List Nd) (lo:Nat):rm P lo (lo+1)=(nd P lo).kids:=by
  unfold rm
  rw[show lo+1 - lo=1 by omega]
  simp
theorem acK (P:List Nd) (lo:Nat):rm P lo lo=[]:=by unfold rm;rw[iz];rfl
mutual
theorem ja.count {m:ae} {P:List Nd} {Q:List Int→Prop} {lo hi:Nat} {ab:List Int}:ja m P Q lo hi ab→∀ j:Nat,(rm P lo hi).count (j:Int)=if lo<j∧j<hi then 1 else 0
  | .leaf lo _ l h _ _ _ _,j=>by
    rw[Rh,h,if_neg (by omega)];rfl
  | .node lo hi _ c ks h _ _ _ hs,j=>by
    have hle:=hs.le
    rw[Rg P (Nat.le_succ lo) hle,Rh,h,qJ]
    have:=hs.count j
    dsimp only
    rw[this]
    by_cases h1:lo<j∧j<hi
    · rw[if_pos (by omega),if_pos h1]
    · rw[if_neg (by omega),if_neg h1]
theorem jb.count {m:ae} {P:List Nd} {Q:List Int→Prop} {lo hi:Nat} {ab ks:List Int}:jb m P Q lo hi ab ks→∀ j:Nat,ks.count (j:Int)+(rm P lo hi).count (j:Int)=if lo≤j∧j<hi then 1 else 0
  | .nil lo _,j=>by rw[acK,if_neg (by omega)];rfl
  | .cons lo mid hi _ ks h hs,j=>by
    have aT:=h.lt
    have hle:=hs.le
    rw[Rg P (Nat.le_of_lt aT) hle,qJ,List.count_cons]
    have h1:=h.count j
    have h2:=hs.count j
    have hb:((lo:Int) == (j:Int))=decide (lo=j):=by rw[Bool.eq_iff_iff,beq_iff_eq,decide_eq_true_eq];omega
    rw[h1,hb]
    by_cases e:lo=j
    · subst e
      rw[if_neg (by omega)] at h2
      simp only[decide_true,if_true]
      rw[if_neg (by omega),if_pos (by omega)]
      omega
    · simp only[decide_eq_false e,Bool.false_eq_true,if_false]
      by_cases h3:lo<j∧j<mid
      · rw[if_pos h3,if_pos (by omega)]
        rw[if_neg (by omega)] at h2
        omega
      · rw[if_neg h3]
        by_cases h4:mid≤j∧j<hi
        · rw[if_pos h4] at h2
          rw[if_pos (by omega)];omega
        · rw[if_neg h4] at h2
          rw[if_neg (by omega)];omega
end
mutual
theorem ja.yF {m:ae} {P:List Nd} {Q:List Int→Prop} {lo hi:Nat} {ab:List Int}:ja m P Q lo hi ab→∀ i,lo≤i→i<hi→lh m (nd P i)=true∧∀ k∈(nd P i).kids,(i:Int)<k∧k<hi
  | .leaf lo _ l h _ _ _ _,i,h1,h2=>by
    obtain rfl:i=lo:=by omega
    rw[h]
    exact⟨rfl,fun k hk=>by cases hk⟩
  | .node lo hi _ c ks h hc _ hk hs,i,h1,h2=>by
    by_cases e:i=lo
    · subst e
      rw[h]
      refine⟨?_,fun k jN=>?_⟩
      · unfold lh
        rw[if_neg (by show ¬((c:Int) = -1);omega),decide_eq_true_eq]
        exact⟨by show (0:Int)≤c;omega,by show (c:Int)<_;omega,by show ks.length=_;rw[dg];exact hk,rfl,rfl,rfl⟩
      · have:=hs.Ri k jN
        omega
    · exact hs.yF i (by omega) h2
theorem jb.yF {m:ae} {P:List Nd} {Q:List Int→Prop} {lo hi:Nat} {ab ks:List Int}:jb m P Q lo hi ab ks→∀ i,lo≤i→i<hi→lh m (nd P i)=true∧∀ k∈(nd P i).kids,(i:Int)<k∧k<hi
  | .nil lo _,i,h1,h2=>by omega
  | .cons lo mid hi _ ks h hs,i,h1,h2=>by
    have hle:=hs.le
    by_cases e:i<mid
    · obtain ⟨a,b⟩:=h.yF i h1 e
      exact⟨a,fun k hk=>by have:=b k hk;omega⟩
    · exact hs.yF i (by omega) h2
theorem jb.Ri {m:ae} {P:List Nd} {Q:List Int→Prop} {lo hi:Nat} {ab ks:List Int}:jb m P Q lo hi ab ks→∀ k∈ks,(lo:Int)≤k∧k<hi
  | .nil lo _,k,hk=>by cases hk
  | .cons lo mid hi _ ks h hs,k,hk=>by
    have aT:=h.lt
    have hle:=hs.le
    rcases bW.1 hk with rfl | hk
    · omega
    · have:=hs.Ri k hk;omega
end
mutual
theorem ja.flat {m:ae} {P:List Nd} {Q:List Int→Prop} {lo hi:Nat} {ab:List Int}:ja m P Q lo hi ab→∀ i,lo≤i→i<hi→(nd P i).cX.length≤2000∧(nd P i).b5=[]∧(nd P i).cells=[]
  | .leaf lo _ l h hl _ _ _,i,h1,h2=>by
    obtain rfl:i=lo:=by omega
    rw[h]
    exact⟨hl,rfl,rfl⟩
  | .node lo hi _ c ks h hc _ hk hs,i,h1,h2=>by
    by_cases e:i=lo
    · subst e
      rw[h]
      exact⟨aH _,rfl,rfl⟩
    · exact hs.flat i (by omega) h2
theorem jb.flat {m:ae} {P:List Nd} {Q:List Int→Prop} {lo hi:Nat} {ab ks:List Int}:jb m P Q lo hi ab ks→∀ i,lo≤i→i<hi→(nd P i).cX.length≤2000∧(nd P i).b5=[]∧(nd P i).cells=[]
  | .nil lo _,i,h1,h2=>by omega
  | .cons lo mid hi _ ks h hs,i,h1,h2=>by
    have hle:=hs.le
    by_cases e:i<mid
    · exact h.flat i h1 e
    · exact hs.flat i (by omega) h2
end
theorem acL (P:List Nd):rm P 0 P.length=eQ P:=by
  unfold rm eQ
  rw[rV,← List.range_eq_range']
  have:∀ n,n≤P.length→(List.range n).flatMap (fun i=>(nd P i).kids)=(P.take n).flatMap (·.kids):=by
    intro n
    induction n with
    | zero=>intro _;rfl
    | succ n ih =>
      intro hn
      rw[List.range_succ,po,ih (by omega),eU (by omega),po,List.flatMap_singleton,List.flatMap_singleton];rfl
  rw[this P.length (aV _),zK]
theorem ja.shaped {m:ae} {P:List Nd} {Q:List Int→Prop} (h:ja m P Q 0 P.length []) (hn:P.length≤20000):iG m P=true:=by
  have aT:=h.lt
  rw[Fj ⟨aT,hn⟩ (fun i hi=>by
    obtain ⟨a,b⟩:=h.yF i (aH _) hi
    show jM m P.length i (nd P i)=true
    unfold jM
    rw[a,gV,eW]
    intro k hk
    have:=b k hk
    unfold kI
    rw[decide_eq_true_eq];exact this)]
  rw[Bool.not_eq_true',List.any_eq_false]
  intro x hx
  unfold jc at hx
  rw[← L4] at hx
  obtain ⟨j,hj,rfl⟩:=bV.1 hx
  have tJ:1≤j∧j<P.length:=by
    obtain ⟨i,hi,rfl⟩:=lZ hj
    rw[rT,List.length_range] at hi
    rw[List.getElem_drop,List.getElem_range];omega
  have hc:=h.count j
  rw[acL,if_pos (by omega)] at hc
  rw[hc];decide
theorem acM {m:ae} {left:List (List Bool)} {l:List Mv} (hl:l.length≤2000) (hv:∀ x∈l,lk m x=true):iw m left l=(nr m left (je m l (S0 m,T0 m)),0):=by
  unfold iw
  rw[if_neg (by omega),if_neg (by rw[eW.2 hv];simp)]
mutual
theorem ja.CD {m:ae} {P:List Nd} {Q:List Int→Prop} (hd:Down P) {lo hi:Nat} {ab:List Int}:ja m P Q lo hi ab→hi≤P.length→∀ left,∀ t∈vs P (lo,left,ab),t.2.2.contains (nd P t.1).cls=false∧((nd P t.1).cls = -1→(nd P t.1).b5.length=0∧(iw m t.2.1 (nd P t.1).cX).2=0)
  | .leaf lo ab l h hl hv ha _,hh,left,t,ht=>by
    rw[IN hd (by show lo<_;omega) (by show (nd P lo).kids=[];rw[h];rfl),ee] at ht
    subst ht
    dsimp only
    rw[h]
    refine⟨?_,fun _=>⟨rfl,by show (iw m left l).2=0;rw[acM hl hv]⟩⟩
    show ab.contains (-1)=false
    rw[zJ]
    intro hc
    exact ha (pW.1 hc)
  | .node lo hi ab c ks h hc ha hk hs,hh,left,t,ht=>by
    have hle:=hs.le
    rw[Av hd (by show lo<_;omega),bW] at ht
    rcases ht with rfl | ht
    · dsimp only
      rw[h]
      refine⟨?_,fun h2=>absurd (show (c:Int) = -1 from h2) (by omega)⟩
      rw[zJ]
      intro hc
      exact ha (pW.1 hc)
    · obtain ⟨u,hu,ht⟩:=xP.1 ht
      obtain ⟨o,ho,rfl⟩:=tX (rY.1 hu)
      dsimp only at ho
      have oL:lI P (lo,left,ab) o=((ks.getD o 0).toNat,bq left c o,ab++[(c:Int)]):=by
        unfold lI
        dsimp only
        rw[h];rfl
      rw[oL] at ht
      rw[h] at ho
      exact hs.CD hd hh o ho _ t ht
theorem jb.CD {m:ae} {P:List Nd} {Q:List Int→Prop} (hd:Down P) {lo hi:Nat} {ab ks:List Int}:jb m P Q lo hi ab ks→hi≤P.length→∀ o,o<ks.length→∀ left,∀ t∈vs P ((ks.getD o 0).toNat,left,ab),t.2.2.contains (nd P t.1).cls=false∧((nd P t.1).cls = -1→(nd P t.1).b5.length=0∧(iw m t.2.1 (nd P t.1).cX).2=0)
  | .nil _ _,_,o,ho,_,_,_=>by cases ho
  | .cons lo mid hi ab ks h hs,hh,o,ho,left,t,ht=>by
    have hle:=hs.le
    cases o with
    | zero =>
      rw[fT,dg] at ht
      exact h.CD hd (by omega) left t ht
    | succ o =>
      rw[ep] at ht
      exact hs.CD hd hh o (by simpa using ho) left t ht
end
mutual
theorem ja.leaves {m:ae} {P:List Nd} {Q:List Int→Prop} (hd:Down P) {lo hi:Nat} {ab:List Int}:ja m P Q lo hi ab→hi≤P.length→∀ left,∀ t∈vs P (lo,left,ab),(nd P t.1).cls = -1→Q t.2.2
  | .leaf lo ab l h hl hv ha hq,hh,left,t,ht,_=>by
    rw[IN hd (by show lo<_;omega) (by show (nd P lo).kids=[];rw[h];rfl),ee] at ht
    subst ht
    exact hq
  | .node lo hi ab c ks h hc ha hk hs,hh,left,t,ht,bL=>by
    have hle:=hs.le
    rw[Av hd (by show lo<_;omega),bW] at ht
    rcases ht with rfl | ht
    · dsimp only at bL
      rw[h] at bL
      exact absurd (show (c:Int) = -1 from bL) (by omega)
    · obtain ⟨u,hu,ht⟩:=xP.1 ht
      obtain ⟨o,ho,rfl⟩:=tX (rY.1 hu)
      dsimp only at ho
      have oL:lI P (lo,left,ab) o=((ks.getD o 0).toNat,bq left c o,ab++[(c:Int)]):=by
        unfold lI
        dsimp only
        rw[h];rfl
      rw[oL] at ht
      rw[h] at ho
      exact hs.leaves hd hh o ho _ t ht bL
theorem jb.leaves {m:ae} {P:List Nd} {Q:List Int→Prop} (hd:Down P) {lo hi:Nat} {ab ks:List Int}:jb m P Q lo hi ab ks→hi≤P.length→∀ o,o<ks.length→∀ left,∀ t∈vs P ((ks.getD o 0).toNat,left,ab),(nd P t.1).cls = -1→Q t.2.2
  | .nil _ _,_,o,ho,_,_,_,_=>by cases ho
  | .cons lo mid hi ab ks h hs,hh,o,ho,left,t,ht,bL=>by
    have hle:=hs.le
    cases o with
    | zero =>
      rw[fT,dg] at ht
      exact h.leaves hd (by omega) left t ht bL
    | succ o =>
      rw[ep] at ht
      exact hs.leaves hd hh o (by simpa using ho) left t ht bL
end
theorem ja.dZ {m:ae} {P:List Nd} {Q:List Int→Prop} (hm:VM m) (h:ja m P Q 0 P.length []) (hn:P.length≤20000) :∃n,kD m P=(n,true)∧∀ a,a≤1099511627776→(∀ s∈vs P (root m),(nd P s.1).cls = -1→a≤(iw m s.2.1 (nd P s.1).cX).1)→a≤n:=by
  have hs:=h.shaped hn
  exact acJ hm hs fun s m0=>h.CD (sJ hs) (aV _) (cQ m) s m0
end T

