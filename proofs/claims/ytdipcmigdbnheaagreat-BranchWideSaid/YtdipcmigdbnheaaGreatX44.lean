import Derived.Test.YtdipcmigdbnheaaGreatX28
import Derived.Test.YtdipcmigdbnheaaGreatX18
import Derived.Test.YtdipcmigdbnheaaGreatX22
import Derived.Test.YtdipcmigdbnheaaGreatX29
set_option linter.unusedVariables false
set_option linter.unusedSimpArgs false
set_option linter.unnecessarySimpa false
set_option linter.unusedSectionVars false
set_option maxHeartbeats 64000000
set_option maxRecDepth 20000
open Bool renaming not_true→hU
open Nat renaming zero_le→aH,lt_or_ge→dG
open Int renaming toNat_natCast→dg,toNat_of_nonneg→mr
open List renaming drop_eq_nil_of_le→b6,getD_eq_getElem?_getD→ay,length_set→bF,eq_nil_of_length_eq_zero→qF
open Go Go.Am Go.Proofs
open Nat (reduceEqDiff reduceAdd reduceLeDiff reduceMul)
open Int (reduceNeg reduceLE reduceToNat)
open Go Go.Am
namespace T
theorem Qi (m:ae) (plan:List Int) (hb:MB m) (b9:plan.length<9223372036854775808):ao Tryz.prog 71 [.agg (au m),.tree 1 (ints plan)] [] (.lit (.int .i64 (mK m plan))) []:=by
  generalize aj:mK m plan=res
  unfold mK at aj
  refine ao.aD (fn:=Tryz.f71) 19 0 [.tmp 4] Tryz.func71 rfl rfl rfl rfl rfl (by simp) ?_
  repeat' (first|(refine Xq X0 ?_;intro K hK)|refine Xo X0 ?_|refine Xc (sI m hb) ?_|refine Xc (S4 m plan b9) ?_|refine Xc (I0 plan (-1) b9) ?_|(refine hK _ ?_;clear hK K)|(refine Xg X0 ?_ ?_<;>try intro hb)|(refine Xi ?_ ?_<;>try intro ht)|refine Xz ?_|(refine Xe ?_;first|refine aE rfl ?_|refine Xl ?_ ?_)|exact Xx|fail)
  all_goals (rw[← aj];first|(rw[if_pos (by assumption)];done)|(rw[if_neg (by omega),if_pos (by simp only[*,hU,Bool.not_false,Bool.true_or,Bool.or_true])];done)|(rw[if_neg (by omega),if_neg (by simp only[*,hU,Bool.or_false,Bool.false_eq_true,not_false_eq_true])];done))
theorem KY (m:ae) (plan:List Int) (hm:VM m) (hp:FP m plan):ao Tryz.prog 194 [.agg (au m),.tree 1 (ints plan)] [] (.agg (dL (iX m plan))) []:=by
  have me:=hm.cls
  have vB:=hm.ah
  have Ba:=hm.av
  have zg:=hm.mP
  have b9:=hp.len
  unfold iX
  generalize h1:AU m 0 plan (0,0)=o1
  generalize h2:AW m plan m.ah o1=o2
  generalize h3:AX plan m.av o2=o3
  refine ao.aD (fn:=Tryz.f194) 77 0 [.cell 4 252] Tryz.func194 rfl rfl rfl rfl rfl (by simp) ?_
  refine Vb X0 ?_
  refine aG (fun z:Nat × SC=>(⟨aw [(1,.tree 1 (ints plan)),(2,.ptr 0 0 0),(4,.ptr 1 0 0),(5,.ptr 2 0 0),(14,.tree 1 (ints plan)),(15,.lit (.int .i64 plan.length)),(16,.lit (.int .i64 z.1))],[.var (au m),.var (dL (0,0)),.var (dL z.2)]⟩:St))
    (fun z=>z.1≤plan.length∧SB z.2 (56 * z.1)∧AU m z.1 (plan.drop z.1) z.2=o1) (fun z=>plan.length - z.1) (0,(0,0)) ⟨aH _,SB.zero,h1⟩ (Xv @dL.eq_1) ?_
  rintro ⟨k,out⟩ ⟨hk,aC,hr⟩ Ql ak aq
  dsimp only at hk aC hr ⊢
  by_cases aF:k<plan.length
  · have hd:=b7 plan k 0 aF
    have gX:=hp.get k aF
    generalize aJ:plan.getD k 0=o at *
    rw[hd,AU] at hr
    obtain ⟨b1,b2,b3,b4⟩:=cV.1 gX
    have hl:=az (l:=m.cls) (i:=k) (d:=default) (by omega)
    generalize eV:m.cls.getD k default=l at *
    rw[dg,eV] at b4
    have zh:=az (l:=l) (i:=o.toNat) (d:=default) (by omega)
    have ej:=hm.mf l hl _ zh
    generalize lP:l.getD o.toNat default=op at *
    ((repeat' (first|refine Va (X3 @aJ @eV @lP) ?_|(refine Xi ?_ ?_<;>try intro ht)|exact Xx|fail)))
    generalize kJ:AT op.ch out=Dp at hr
    have bL:=AL zg.1 ej
    refine aG (fun z:Nat × SC=>(⟨aw [(1,.tree 1 (ints plan)),(2,.ptr 0 0 0),(4,.ptr 1 0 0),(5,.ptr 2 0 0),(14,.tree 1 (ints plan)),(15,.lit (.int .i64 plan.length)),(16,.lit (.int .i64 k)),(29,.tree 2 (rowsOf bP op.ch)),(30,.lit (.int .i64 op.ch.length)),(31,.lit (.int .i64 z.1))],[.var (au m),.var (dL (0,0)),.var (dL z.2)]⟩:St))
      (fun z=>z.1≤op.ch.length∧SB z.2 (56 * k+z.1)∧AT (op.ch.drop z.1) z.2=Dp) (fun z=>op.ch.length - z.1) (0,out) ⟨aH _,aC,kJ⟩ (Xv X0) ?_
    rintro ⟨j,pP⟩ ⟨hj,jo,bK⟩ cR ba bd
    dsimp only at hj jo bK ⊢
    by_cases cq:j<op.ch.length
    · have gT:=b7 op.ch j default cq
      have gJ:=vv ej _ (az (d:=default) cq)
      generalize lS:op.ch.getD j default=c at *
      rw[gT,AT] at bK
      have fe:=Ky pP _ c.2 1 (by omega) jo (CS gJ.2) (by omega)
      ((repeat' (first|refine Va @lS ?_|(refine Xi ?_ ?_<;>try intro ht)|exact Xx|fail))<;>try with_reducible intro K hK)
      (refine Xn [2] (fe) ?_;simp (disch:=omega) only[Ac,↓Pc,simprocAttr,lS])
      ((try revert hK K);(refine Va X0 ?_))
      refine ba _ (j+1,pI pP c.2 1) ⟨by dsimp only;omega,jo.add (CS gJ.2) (by omega),bK⟩ (by dsimp only;omega) ?_
      exact Xs false [0,1,2] @Kx
    · ((repeat' (first|refine Va X0 ?_|(refine Xi ?_ ?_<;>try intro ht)|exact Xx|fail)))
      rw[b6 (by omega),AT] at bK
      refine bd _ _ rfl ?_
      clear ba bd cR
      repeat (refine Xu ?_)
      refine Va X0 ?_
      exact ak _ (k+1,pP) ⟨by dsimp only;omega,jo.mono (by dsimp only;omega),by rw[← hr,← bK]⟩ (by dsimp only;omega) (Xv X0)
  · ((repeat' (first|refine Va X0 ?_|(refine Xi ?_ ?_<;>try intro ht)|exact Xx|fail)))
    rw[b6 (by omega),AU] at hr
    rw[← hr] at h2
    refine aq _ _ rfl ?_;clear ak aq Ql
    repeat (refine Xu ?_)
    refine Vb X0 ?_
    refine aG (fun z:Nat × SC=>(⟨aw [(1,.tree 1 (ints plan)),(2,.ptr 0 0 0),(4,.ptr 1 0 0),(5,.ptr 2 0 0),(41,.tree 4 (rowsOf bc m.ah)),(42,.lit (.int .i64 m.ah.length)),(43,.lit (.int .i64 z.1))],[.var (au m),.var (dL (0,0)),.var (dL z.2)]⟩:St))
      (fun z=>z.1≤m.ah.length∧SB z.2 (1344+z.1)∧AW m plan (m.ah.drop z.1) z.2=o2) (fun z=>m.ah.length - z.1) (0,out) ⟨aH _,aC.mono (by dsimp only;omega),h2⟩ (Xv X0) ?_
    clear hk aC aF h2 hr
    rintro ⟨k,out⟩ ⟨hk,aC,hr⟩ Ql ak aq
    dsimp only at hk aC hr ⊢
    by_cases aF:k<m.ah.length
    · have hd:=b7 m.ah k default aF
      have ca:=fY hm.pr _ (az (d:=default) aF)
      generalize aJ:m.ah.getD k default=p at *
      rw[hd,AW] at hr
      obtain ⟨q1,q2,q3,q4,q5⟩:=iY ca
      have g1:=hp.get p.fst.toNat (by omega)
      have g2:=hp.get p.snd.toNat (by omega)
      rw[mr (by omega)] at g1 g2
      have a1:=cV.1 g1
      have a2:=cV.1 g2
      generalize hx:plan.getD p.fst.toNat 0=x at *
      generalize hy:plan.getD p.snd.toNat 0=y at *
      have Bd:=afl m p x y ca hm.opt ⟨a1.2.2.1,a1.2.2.2⟩ ⟨a2.2.2.1,a2.2.2.2⟩
      have mS:=adk ca x y
      generalize Ku:jP m p x y=en at *
      have fe:=Ky out _ en 1 (by omega) aC mS (by omega)
      ((repeat' (first|refine Vc (X3 @aJ @hx @hy) Bd ?_|(refine Xi ?_ ?_<;>try intro ht)|exact Xx|fail))<;>try with_reducible intro K hK)
      (refine Xn [2] (fe) ?_;simp (disch:=omega) only[Ac,↓Pc,simprocAttr,aJ])
      ((try revert hK K);(refine Va X0 ?_))
      refine ak _ (k+1,pI out en 1) ⟨by dsimp only;omega,aC.add mS (by omega),hr⟩ (by dsimp only;omega) ?_
      exact Xs false [0,1,2] @Kx
    · ((repeat' (first|refine Va X0 ?_|(refine Xi ?_ ?_<;>try intro ht)|exact Xx|fail)))
      rw[b6 (by omega),AW] at hr
      rw[← hr] at h3
      refine aq _ _ rfl ?_;clear ak aq Ql
      repeat (refine Xu ?_)
      refine Vb X0 ?_
      refine aG (fun z:Nat × SC=>(⟨aw [(1,.tree 1 (ints plan)),(2,.ptr 0 0 0),(4,.ptr 1 0 0),(5,.ptr 2 0 0),(63,.tree 4 (rowsOf bu m.av)),(64,.lit (.int .i64 m.av.length)),(65,.lit (.int .i64 z.1))],[.var (au m),.var (dL (0,0)),.var (dL z.2)]⟩:St))
        (fun z=>z.1≤m.av.length∧SB z.2 (5344+z.1)∧AX plan (m.av.drop z.1) z.2=o3) (fun z=>m.av.length - z.1) (0,out) ⟨aH _,aC.mono (by dsimp only;omega),h3⟩ (Xv X0) ?_
      clear hk aC aF h3 hr
      rintro ⟨k,out⟩ ⟨hk,aC,hr⟩ Ql ak aq
      dsimp only at hk aC hr ⊢
      by_cases aF:k<m.av.length
      · have hd:=b7 m.av k default aF
        have mS:=hm.ct _ (az (d:=default) aF)
        generalize aJ:m.av.getD k default=c at *
        rw[hd,AX] at hr
        obtain ⟨q1,q2,q3,q4⟩:=ju mS
        have hlen:=uq hm q4
        have Dr:=CU (m:=m) (plan:=plan) (fun x hx=>(kF q4 x hx).2) 0
        have vG:=afk m plan c hm hp mS
        have XF:0≤xf plan c∧xf plan c≤1048576:=by unfold xf;omega
        generalize Wt:xf plan c=xo at *
        have fe:=Ky out _ c.bg xo (by omega) aC (CS q3) XF
        ((repeat' (first|refine Vc @aJ vG ?_|(refine Xi ?_ ?_<;>try intro ht)|exact Xx|fail))<;>try with_reducible intro K hK)
        (refine Xn [2] (fe) ?_;simp (disch:=omega) only[Ac,↓Pc,simprocAttr,aJ])
        ((try revert hK K);(refine Va X0 ?_))
        refine ak _ (k+1,pI out c.bg xo) ⟨by dsimp only;omega,aC.add (CS q3) XF,hr⟩ (by dsimp only;omega) ?_
        exact Xs false [0,1,2] @Kx
      · ((repeat' (first|refine Va X0 ?_|(refine Xi ?_ ?_<;>try intro ht)|exact Xx|fail)))
        rw[b6 (by omega),AX] at hr
        refine aq _ _ rfl ?_;clear ak aq Ql
        repeat (refine Xu ?_)
        refine Vb @dL.eq_1 ?_
        rw[← hr]
        simp (disch:=omega) only[Ac,↓Pc,simprocAttr,dL,ew]
        exact aE rfl rfl
abbrev BS:=SC × (Int × Int) × Bool
def gL (f:Int × Int):List AV:=[.lit (.int .i64 f.1),.lit (.int .i64 f.2)]
def Bi (m:ae) (plan:List Int) (c o:Nat) (z:BS):BS:=if nA (iX m (plan.set c o)) z.1=true then (iX m (plan.set c o),((c:Int),(o:Int)),true) else z
def s0 (m:ae) (plan:List Int) (c:Nat):Nat→List cB→BS→BS
  | _,[],z=>z
  | o,_::r,z=>s0 m plan c (o+1) r (Bi m plan c o z)
def uH (m:ae) (plan:List Int):Nat→List (List cB)→BS→BS
  | _,[],z=>z
  | c,l::r,z=>uH m plan (c+1) r (s0 m plan c 0 l z)
def jt (m:ae) (plan:List Int):BS:=uH m plan 0 m.cls (iX m plan,(0,0),false)
def vM (plan:List Int) (k j:Nat):List Int:=if j=0 then plan else plan.set k ((j:Int) - 1)
theorem XG (plan:List Int) (k j:Nat):(vM plan k j).length=plan.length:=by unfold vM;split<;>simp
theorem XH (plan:List Int) (k j:Nat) (x:Int):(vM plan k j).set k x=plan.set k x:=by unfold vM;split<;>simp
theorem af3 (plan:List Int) (k j:Nat):vM plan k (j+1)=plan.set k (j:Int):=by unfold vM;rw[if_neg (by omega)];congr 1;omega
theorem af4 (plan:List Int) (k:Nat):plan.set k (plan.getD k 0)=plan:=by
  rcases dG k plan.length with h | h
  · rw[ay,List.getElem?_eq_getElem h];simp
  · rw[List.set_eq_of_length_le h]
theorem FP.set {m:ae} {plan:List Int} (h:FP m plan) {k:Nat} {o:Int} (ho:ez m (k:Nat) o=true):FP m (plan.set k o):=by
  refine⟨by rw[bF];exact h.len,fun j hj=>?_⟩
  rw[bF] at hj
  by_cases e:k=j
  · subst e
    rw[ay,List.getElem?_set_self hj]
    exact ho
  · rw[ay,List.getElem?_set_ne e,← ay]
    exact h.get j hj
theorem af5 (m:ae) (plan:List Int) (hm:VM m) (hp:FP m plan) (h0:0<plan.length):ao Tryz.prog 163 [.agg (au m),.tree 1 (ints plan)] [] (.bM [.agg (gL (jt m plan).2.1),.lit (.bool (jt m plan).2.2)]) []:=by
  have me:=hm.cls
  have b9:=hp.len
  have bL:=I3 plan h0 (by omega)
  have pL:=KY m plan hm hp
  generalize aj:jt m plan=res
  unfold jt at aj
  refine ao.aD (fn:=Tryz.f163) 58 0 [.cell 4 180,.tmp 5] Tryz.func163 rfl rfl rfl rfl rfl (by simp) ?_
  ((refine Vd @dL.eq_1 pL ?_)<;>try with_reducible intro K hK)
  (refine Xn [] (bL) ?_;simp (disch:=omega) only[Ac,↓Pc,simprocAttr,dL])
  ((try revert hK K);(refine Vb @dL.eq_1 ?_))
  refine aG (fun z:Nat × BS=>(⟨aw [(1,.tree 1 (ints plan)),(2,.ptr 0 0 0),(4,.ptr 1 0 0),(6,.ptr 2 0 0),(7,.ptr 3 0 0),(8,.lit (.bool z.2.2.2)),(9,.ref 4 1 0 plan.length),(21,.tree 1 (rowsOf bA m.cls)),(22,.lit (.int .i64 m.cls.length)),(23,.lit (.int .i64 z.1))],[.var (au m),.var (gL (0,0)),.var (dL z.2.1),.var (gL z.2.2.1),.arr 1 (ints plan)]⟩:St))
    (fun z=>z.1≤m.cls.length∧uH m plan z.1 (m.cls.drop z.1) z.2=res) (fun z=>m.cls.length - z.1) (0,(iX m plan,(0,0),false)) ⟨aH _,aj⟩ (Xv (X2 @dL.eq_1 @gL.eq_1)) ?_
  rintro ⟨k,s,f,b⟩ ⟨hk,hr⟩ Ql ak aq
  dsimp only at hk hr ⊢
  by_cases aF:k<m.cls.length
  · have hd:=b7 m.cls k default aF
    have hl:=az (l:=m.cls) (i:=k) (d:=default) (by omega)
    have sW:=hm.opt _ hl
    generalize eV:m.cls.getD k default=l at *
    rw[hd,uH] at hr
    generalize kJ:s0 m plan k 0 l (s,f,b)=z2 at hr
    ((repeat' (first|refine Va (X3 @eV @dL.eq_1 @gL.eq_1) ?_|(refine Xi ?_ ?_<;>try intro ht)|exact Xx|fail)))
    refine aG (fun z:Nat × BS=>(⟨aw [(1,.tree 1 (ints plan)),(2,.ptr 0 0 0),(4,.ptr 1 0 0),(6,.ptr 2 0 0),(7,.ptr 3 0 0),(8,.lit (.bool z.2.2.2)),(9,.ref 4 1 0 plan.length),(21,.tree 1 (rowsOf bA m.cls)),(22,.lit (.int .i64 m.cls.length)),(23,.lit (.int .i64 k)),(10,.lit (.int .i64 k)),(29,.lit (.int .i64 l.length)),(30,.lit (.int .i64 z.1))],[.var (au m),.var (gL (0,0)),.var (dL z.2.1),.var (gL z.2.2.1),.arr 1 (ints (vM plan k z.1))]⟩:St))
      (fun z=>z.1≤l.length∧s0 m plan k z.1 (l.drop z.1) z.2=z2) (fun z=>l.length - z.1) (0,(s,f,b)) ⟨aH _,kJ⟩ (Xv (X2 @dL.eq_1 @gL.eq_1)) ?_
    rintro ⟨j,s,f,b⟩ ⟨hj,bK⟩ cR ba bd
    dsimp only at hj bK ⊢
    by_cases cq:j<l.length
    · have gT:=b7 l j default cq
      have lQ:ez m (k:Nat) (j:Int)=true:=by rw[cV,dg,eV];omega
      have qg:=KY m (plan.set k (j:Int)) hm (hp.set lQ)
      have vN:=afi (iX m (plan.set k (j:Int))) s
      rw[gT,s0] at bK
      unfold Bi at bK
      generalize iX m (plan.set k (j:Int))=s2 at *
      generalize pO:nA s2 s=lb at *
      have W8:=XG plan k j
      have z4:=XH plan k j (j:Int)
      have XI:=af3 plan k j
      generalize vM plan k j=nx at *
      ((repeat' (first|refine Va (X4 @z4 @ints_set @dL.eq_1 @gL.eq_1) ?_|(refine Xi ?_ ?_<;>try intro ht)|exact Xx|fail))<;>try with_reducible intro K hK)
      refine oz [] qg (by decide) trivial ⟨.pure rfl,aO.cI (rows:=ints (plan.set k (j:Int))) rfl (oB _) (by simp only[Bc,Rc,bF]) (by decide) (pw _),trivial⟩ rfl (by simp) ?_
      ((try revert hK K);(repeat' (first|refine Vc (X2 @dL.eq_1 @gL.eq_1) vN ?_|(refine Xi ?_ ?_<;>try intro ht)|fail)))
      · rw[if_pos (by assumption)] at bK
        exact ba _ (j+1,s2,((k:Int),(j:Int)),true) ⟨by dsimp only;omega,bK⟩ (by dsimp only;omega) (by dsimp only;rw[XI];exact Xs false [0,1,2,3,4] (X3 @dL.eq_1 @gL.eq_1 @au.eq_1))
      · rw[if_neg (by simp[*])] at bK
        exact ba _ (j+1,s,f,b) ⟨by dsimp only;omega,bK⟩ (by dsimp only;omega) (by dsimp only;rw[XI];exact Xs false [0,1,2,3,4] (X3 @dL.eq_1 @gL.eq_1 @au.eq_1))
    · ((repeat' (first|refine Va (X2 @dL.eq_1 @gL.eq_1) ?_|(refine Xi ?_ ?_<;>try intro ht)|exact Xx|fail)))
      rw[b6 (by omega),s0] at bK
      rw[← bK] at hr
      refine bd _ _ rfl ?_
      clear ba bd cR
      repeat (refine Xu ?_)
      have W8:=XG plan k j
      have z4:=XH plan k j (plan.getD k 0)
      rw[af4] at z4
      generalize vM plan k j=nx at *
      refine Va (X4 @z4 @ints_set @dL.eq_1 @gL.eq_1) ?_
      exact ak _ (k+1,s,f,b) ⟨by dsimp only;omega,hr⟩ (by dsimp only;omega) (Xv (X2 @dL.eq_1 @gL.eq_1))
  · ((repeat' (first|refine Va (X2 @dL.eq_1 @gL.eq_1) ?_|(refine Xi ?_ ?_<;>try intro ht)|exact Xx|fail)))
    rw[b6 (by omega),uH] at hr
    refine aq _ _ rfl ?_;clear ak aq Ql
    repeat (refine Xu ?_)
    refine Vb (X2 @dL.eq_1 @gL.eq_1) ?_
    simp (disch:=omega) only[Ac,↓Pc,simprocAttr,dL,gL,ew]
    rw[← hr]
    exact aE rfl rfl
theorem af6 (m:ae) (hm:VM m) (hp:FP m []):ao Tryz.prog 163 [.agg (au m),.tree 1 (ints [])] [] (.bM [.agg (gL (jt m []).2.1),.lit (.bool (jt m []).2.2)]) []:=by
  have b9:=hp.len
  have bL:=Qm [] (by decide)
  have pL:=KY m [] hm hp
  have lD:m.cls=[]:=qF (by simpa using b9.symm)
  have aj:jt m []=(iX m [],(0,0),false):=by unfold jt;rw[lD];rfl
  rw[aj]
  have ni:m.cls.length=0:=by rw[lD];rfl
  refine ao.aD (fn:=Tryz.f163) 58 0 [.cell 4 180,.tmp 5] Tryz.func163 rfl rfl rfl rfl rfl (by simp) ?_
  ((try revert hK K);(repeat' (first|refine Vd @dL.eq_1 (X2 pL bL) ?_|(refine V2 @dL.eq_1 ?_ ?_<;>try with_reducible intro hb)|(refine Xi ?_ ?_<;>try intro ht)|refine VD ?_ ?_|exact Xx|fail))<;>try with_reducible intro K hK)
  refine aG (fun z:Unit=>(⟨aw [(2,.ptr 0 0 0),(4,.ptr 1 0 0),(7,.ptr 3 0 0),(8,.lit (.bool false)),(21,.tree 1 (rowsOf bA m.cls)),(22,.lit (.int .i64 m.cls.length)),(23,.lit (.int .i64 0))],[.var (au m),.var (gL (0,0)),.var (dL (iX m [])),.var (gL (0,0))]⟩:St))
    (fun z=>True) (fun z=>0) () trivial (Xv (X2 @dL.eq_1 @gL.eq_1)) ?_
  rintro ⟨⟩ - Ql ak aq
  ((try revert hK K);(repeat' (first|refine Va (X3 @dL.eq_1 @gL.eq_1 @ni) ?_|(refine V2 (X3 @dL.eq_1 @gL.eq_1 @ni) ?_ ?_<;>try with_reducible intro hb)|(refine Xi ?_ ?_<;>try intro ht)|refine VD ?_ ?_|exact Xx|fail))<;>try with_reducible intro K hK)
  refine aq _ _ rfl ?_;clear ak aq Ql
  repeat (first|refine Xu ?_)
  ((try revert hK K);(repeat' (first|refine Vb (X2 @dL.eq_1 @gL.eq_1) ?_|(refine V2 (X2 @dL.eq_1 @gL.eq_1) ?_ ?_<;>try with_reducible intro hb)|(refine Xi ?_ ?_<;>try intro ht)|refine VD ?_ ?_|exact Xx|fail))<;>try with_reducible intro K hK)
  simp (disch:=omega) only[Ac,↓Pc,simprocAttr,dL,gL,ew]
  exact aE rfl rfl
theorem Qk (m:ae) (plan:List Int) (hm:VM m) (hp:FP m plan):ao Tryz.prog 163 [.agg (au m),.tree 1 (ints plan)] [] (.bM [.agg (gL (jt m plan).2.1),.lit (.bool (jt m plan).2.2)]) []:=by
  rcases Nat.eq_zero_or_pos plan.length with h | h
  · obtain rfl:=qF h
    exact af6 m hm hp
  · exact af5 m plan hm hp h
def Bj (m:ae) (z:BS):Prop:=z.2.2=true→ez m z.2.1.1 z.2.1.2=true
theorem XJ {m:ae} {plan:List Int} {c:Nat} (hc:c<m.cls.length):∀ (l:List cB) (o:Nat) (z:BS),o+l.length≤(m.cls.getD c default).length→Bj m z→Bj m (s0 m plan c o l z)
  | [],_,z,_,h=>h
  | x::r,o,z,hl,h=>by
    rw[s0]
    rw[List.length_cons] at hl
    refine XJ hc r (o+1) _ (by omega) ?_
    unfold Bi
    split
    · intro _
      rw[cV]
      dsimp only
      rw[dg]
      omega
    · exact h
theorem XK {m:ae} {plan:List Int}:∀ (l:List (List cB)) (c:Nat) (z:BS),m.cls.drop c=l→Bj m z→Bj m (uH m plan c l z)
  | [],_,z,_,h=>h
  | x::r,c,z,hl,h=>by
    rw[uH]
    have hc:c<m.cls.length:=by
      rcases dG c m.cls.length with h | h
      · exact h
      · rw[b6 h] at hl;simp at hl
    have hd:=b7 m.cls c default hc
    rw[hl] at hd
    obtain ⟨h1,h2⟩:=List.cons.inj hd
    refine XK r (c+1) _ h2.symm (XJ hc x 0 z (by rw[← h1];omega) h)
theorem XL (m:ae) (plan:List Int):Bj m (jt m plan):=XK m.cls 0 _ rfl (fun h=>by simp at h)
def ld (m:ae):Nat→List Int→Int→List Int × Int
  | 0,p,n=>(p,n)
  | k+1,p,n=>if (jt m p).2.2=true then ld m k (p.set (jt m p).2.1.1.toNat (jt m p).2.1.2) (n+1) else (p,n)
def nq (m:ae) (plan:List Int) (steps:Int):List Int × Int × Int :=
  if mK m plan≠0 then ([],0,mK m plan) else if steps<0∨65536<steps then ([],0,3) else ((ld m steps.toNat plan 0).1,(ld m steps.toNat plan 0).2,0)
theorem abP (m:ae) (plan:List Int) (steps:Int) (hb:MB m) (b9:0<plan.length∧plan.length<9223372036854775808):ao Tryz.prog 107 [.agg (au m),.tree 1 (ints plan),.lit (.int .i64 steps)] [] (.bM [.tree 1 (ints (nq m plan steps).1),.lit (.int .i64 (nq m plan steps).2.1),.lit (.int .i64 (nq m plan steps).2.2)]) []:=by
  generalize aj:nq m plan steps=res
  unfold nq at aj
  have hc:=Qi m plan hb b9.2
  by_cases hz:mK m plan=0
  rotate_left
  · rw[if_pos hz] at aj
    rw[← aj]
    generalize mK m plan=cv at *
    refine ao.aD (fn:=Tryz.f107) 51 0 [.tmp 6,.tmp 7,.tmp 8] Tryz.func107 rfl rfl rfl rfl rfl (by simp) ?_
    ((repeat' (first|refine Vd X0 hc ?_|(refine V2 X0 ?_ ?_<;>try with_reducible intro hb)|(refine Xi ?_ ?_<;>try intro ht)|exact Xx|fail)))
    all_goals first|(exfalso;omega)|skip
    exact dR [] true (by decide) trivial (by decide) (by decide) (tT aO.nil (.pure rfl) (.pure rfl))
  rw[if_neg (by omega)] at aj
  rw[hz] at hc
  obtain ⟨hm,hp⟩:=IG hz
  by_cases hs:steps<0∨65536<steps
  · rw[if_pos hs] at aj
    rw[← aj]
    refine ao.aD (fn:=Tryz.f107) 51 0 [.tmp 6,.tmp 7,.tmp 8] Tryz.func107 rfl rfl rfl rfl rfl (by simp) ?_
    ((repeat' (first|refine Vd X0 hc ?_|(refine V2 X0 ?_ ?_<;>try with_reducible intro hb)|(refine Xi ?_ ?_<;>try intro ht)|exact Xx|fail)))
    all_goals first|(exfalso;omega)|exact dR [] true (by decide) trivial (by decide) (by decide) (tT aO.nil (.pure rfl) (.pure rfl))
  rw[if_neg hs] at aj
  have me:=hm.cls
  have hlen:=hp.len
  have bL:=I3 plan b9.1 (by omega)
  refine ao.aD (fn:=Tryz.f107) 51 0 [.tmp 6,.tmp 7,.tmp 8] Tryz.func107 rfl rfl rfl rfl rfl (by simp) ?_
  ((repeat' (first|refine Vd X0 hc ?_|(refine V2 X0 ?_ ?_<;>try with_reducible intro hb)|(refine Xi ?_ ?_<;>try intro ht)|exact Xx|fail))<;>try with_reducible intro K hK)
  (refine Xn [] (bL) ?_;simp (disch:=omega) only[Ac,↓Pc,simprocAttr])
  ((try revert hK K);(refine Vb X0 ?_))
  refine aG (fun z:Nat × List Int=>(⟨aw [(2,.lit (.int .i64 steps)),(3,.ptr 0 0 0),(10,.ref 1 1 0 plan.length),(28,.lit (.int .i64 steps)),(29,.lit (.int .i64 z.1))],[.var (au m),.arr 1 (ints z.2)]⟩:St))
    (fun z=>(z.1:Int)≤steps∧FP m z.2∧((ld m (steps.toNat - z.1) z.2 z.1).1,(ld m (steps.toNat - z.1) z.2 z.1).2,0)=res) (fun z=>steps.toNat - z.1) (0,plan) ⟨by dsimp only;omega,hp,aj⟩ (Xv X0) ?_
  rintro ⟨n,p⟩ ⟨eh,mc,hr⟩ Ql ak aq
  dsimp only at eh mc hr ⊢
  have XM:p.length=plan.length:=by rw[mc.len,hlen]
  by_cases aF:(n:Int)<steps
  · obtain ⟨k,hk⟩ :∃k,steps.toNat - n=k+1:=⟨steps.toNat - n - 1,by omega⟩
    have lE:=Qk m p hm mc
    have yr:=XL m p
    rw[hk,ld] at hr
    unfold Bj at yr
    generalize jt m p=bv at *
    obtain ⟨bs,⟨f1,f2⟩,b⟩:=bv
    dsimp only at *
    cases b
    · rw[if_neg (by decide)] at hr
      ((repeat' (first|refine Va X0 ?_|(refine Xi ?_ ?_<;>try intro ht)|exact Xx|fail))<;>try with_reducible intro K hK)
      refine oz [] lE (by decide) trivial ⟨.pure rfl,aO.cI (rows:=ints p) rfl (oB _) (by simp only[Bc,Rc];omega) (by decide) (pw _),trivial⟩ rfl (by simp) ?_
      ((try revert hK K);(repeat' (first|refine Va (X2 @gL.eq_1 @ints_set) ?_|(refine Xi ?_ ?_<;>try intro ht)|exact Xx|fail)))
      repeat (refine Xu ?_)
      refine Vb X0 ?_
      rw[← hr]
      refine dR [] true (by decide) trivial (by decide) (by decide) (tT ?_ (.pure rfl) (.pure rfl))
      rw[← XM]
      first|exact .pure rfl|exact .eq rfl|exact .fz rfl (by simp only[Bc,Rc])
    · rw[if_pos rfl] at hr
      have lQ:=yr rfl
      obtain ⟨b1,b2,b3,b4⟩:=cV.1 lQ
      have af7:FP m (p.set f1.toNat f2):=mc.set (by rw[mr b1];exact lQ)
      ((repeat' (first|refine Va X0 ?_|(refine Xi ?_ ?_<;>try intro ht)|exact Xx|fail))<;>try with_reducible intro K hK)
      refine oz [] lE (by decide) trivial ⟨.pure rfl,aO.cI (rows:=ints p) rfl (oB _) (by simp only[Bc,Rc];omega) (by decide) (pw _),trivial⟩ rfl (by simp) ?_
      ((try revert hK K);(repeat' (first|refine Va (X2 @gL.eq_1 @ints_set) ?_|(refine Xi ?_ ?_<;>try intro ht)|exact Xx|fail)))
      refine ak _ (n+1,p.set f1.toNat f2) ⟨by dsimp only;omega,af7,?_⟩ (by dsimp only;omega) (Xs false [0,1] X0)
      dsimp only
      rw[show steps.toNat - (n+1)=k by omega,Int.natCast_add]
      exact hr
  · ((repeat' (first|refine Va X0 ?_|(refine Xi ?_ ?_<;>try intro ht)|exact Xx|fail)))
    have yA:steps.toNat - n=0:=by omega
    rw[yA,ld] at hr
    obtain rfl:steps=(n:Int):=by omega
    refine aq _ _ rfl ?_;clear ak aq Ql
    repeat (refine Xu ?_)
    refine Vb X0 ?_
    rw[← hr]
    refine dR [] true (by decide) trivial (by decide) (by decide) (tT ?_ (.pure rfl) (.pure rfl))
    rw[← XM]
    first|exact .pure rfl|exact .eq rfl|exact .fz rfl (by simp only[Bc,Rc])
theorem af8 {s t:SC}:nA s t=true↔s.1<t.1∨s.1=t.1∧s.2<t.2:=by unfold nA;rw[decide_eq_true_eq]
theorem XN {s t u:SC} (h:nA s t=true) (k:nA t u=true):nA s u=true:=by
  rw[af8] at *;omega
structure BG (m:ae) (p:List Int) (z:BS):Prop where
  no:z.2.2=false→z.1=iX m p
  yes:z.2.2=true→nA z.1 (iX m p)=true∧z.1=iX m (p.set z.2.1.1.toNat z.2.1.2)
theorem af9 {m:ae} {p:List Int} {c o:Nat} {z:BS} (h:BG m p z):BG m p (Bi m p c o z)∧((Bi m p c o z).2.2=false→z.2.2=false∧nA (iX m (p.set c o)) (iX m p)=false):=by
  unfold Bi
  by_cases hs:nA (iX m (p.set c o)) z.1=true
  · rw[if_pos hs]
    refine⟨⟨by simp,fun _=>⟨?_,by simp⟩⟩,by simp⟩
    cases hz:z.2.2 with
    | false=>rw[← h.no hz];exact hs
    | true=>exact XN hs (h.yes hz).1
  · rw[if_neg hs]
    refine⟨h,fun hz=>⟨hz,?_⟩⟩
    rw[← h.no hz]
    simpa using hs
theorem XO {m:ae} {p:List Int} {c:Nat}:∀ (l:List cB) (o:Nat) (z:BS),BG m p z→BG m p (s0 m p c o l z)∧((s0 m p c o l z).2.2=false→z.2.2=false∧∀ j,o≤j→j<o+l.length→nA (iX m (p.set c (j:Nat))) (iX m p)=false)
  | [],o,z,h=>⟨h,fun hz=>⟨hz,fun j h1 h2=>by simp at h2;omega⟩⟩
  | x::r,o,z,h=>by
    rw[s0]
    obtain ⟨h1,h2⟩:=af9 (c:=c) (o:=o) h
    obtain ⟨h3,h4⟩:=XO r (o+1) _ h1
    refine⟨h3,fun hz=>?_⟩
    obtain ⟨h5,h6⟩:=h4 hz
    obtain ⟨h7,h8⟩:=h2 h5
    refine⟨h7,fun j hj tJ=>?_⟩
    rcases dG o j with h9 | h9
    · exact h6 j (by omega) (by simp at tJ;omega)
    · obtain rfl:j=o:=by omega
      exact h8
theorem XP {m:ae} {p:List Int}:∀ (l:List (List cB)) (c:Nat) (z:BS),BG m p z→BG m p (uH m p c l z)∧((uH m p c l z).2.2=false→z.2.2=false∧∀ i,i<l.length→∀ j,j<(l.getD i default).length→nA (iX m (p.set (c+i) (j:Nat))) (iX m p)=false)
  | [],c,z,h=>⟨h,fun hz=>⟨hz,fun j h1=>by simp at h1⟩⟩
  | x::r,c,z,h=>by
    rw[uH]
    obtain ⟨h1,h2⟩:=XO (c:=c) x 0 z h
    obtain ⟨h3,h4⟩:=XP r (c+1) _ h1
    refine⟨h3,fun hz=>?_⟩
    obtain ⟨h5,h6⟩:=h4 hz
    obtain ⟨h7,h8⟩:=h2 h5
    refine⟨h7,fun i hi j hj=>?_⟩
    cases i with
    | zero=>exact h8 j (aH _) (by simpa using hj)
    | succ i =>
      rw[show c+(i+1)=c+1+i by omega]
      exact h6 i (by simpa using hi) j (by simpa using hj)
theorem af' (m:ae) (p:List Int):BG m p (jt m p)∧((jt m p).2.2=false→∀ i,i<m.cls.length→∀ j,j<(m.cls.getD i default).length→nA (iX m (p.set i (j:Nat))) (iX m p)=false):=by
  obtain ⟨h1,h2⟩:=XP (m:=m) (p:=p) m.cls 0 (iX m p,(0,0),false) ⟨fun _=>rfl,by simp⟩
  refine⟨h1,fun hz i hi j hj=>?_⟩
  have:=(h2 hz).2 i hi j hj
  rwa [Nat.zero_add] at this
theorem Qn {m:ae} (hm:VM m):∀ (k:Nat) (p:List Int) (n:Int),FP m p→FP m (ld m k p n).1∧n≤(ld m k p n).2∧(ld m k p n).2≤n+k ∧
    ((ld m k p n).2=n→(ld m k p n).1=p)∧(n<(ld m k p n).2→nA (iX m (ld m k p n).1) (iX m p)=true) ∧
    ((ld m k p n).2<n+k→(jt m (ld m k p n).1).2.2=false)
  | 0,p,n,h=>by
    rw[ld]
    exact⟨h,by dsimp only;omega,by dsimp only;omega,fun _=>rfl,fun h=>by dsimp only at h;omega,fun h=>by dsimp only at h;omega⟩
  | k+1,p,n,h=>by
    rw[ld]
    by_cases hb:(jt m p).2.2=true
    · rw[if_pos hb]
      have lQ:=XL m p hb
      obtain ⟨b1,b2,b3,b4⟩:=cV.1 lQ
      have mc:FP m (p.set (jt m p).2.1.1.toNat (jt m p).2.1.2):=h.set (by rw[mr b1];exact lQ)
      obtain ⟨q1,q2,q3,q4,q5,q6⟩:=Qn hm k _ (n+1) mc
      have za:=(af' m p).1.yes hb
      rw[za.2] at za
      refine⟨q1,by omega,by omega,fun he=>by omega,fun _=>?_,fun aT=>q6 (by omega)⟩
      by_cases he:(ld m k (p.set (jt m p).2.1.1.toNat (jt m p).2.1.2) (n+1)).2=n+1
      · rw[q4 he];exact za.1
      · exact XN (q5 (by omega)) za.1
    · rw[if_neg hb]
      refine⟨h,by dsimp only;omega,by dsimp only;omega,fun _=>rfl,fun h=>by dsimp only at h;omega,fun _=>?_⟩
      simpa using hb
end T

