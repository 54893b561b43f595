import Derived.Test.YtdipcmigdbnheaaGreatX17
import Derived.Test.YtdipcmigdbnheaaGreatX45
import Derived.Test.YtdipcmigdbnheaaGreatX22
set_option linter.unusedVariables false
set_option linter.unusedSimpArgs false
set_option linter.unnecessarySimpa false
set_option linter.unusedSectionVars false
set_option maxHeartbeats 64000000
set_option maxRecDepth 20000
open List renaming replicate→aW,replicate_zero→D7,drop_eq_nil_of_le→b6,length_set→bF,set_append_left→Hk,getD_eq_getElem?_getD→ay,getElem?_append_left→dH
open Nat renaming sub_self→iz,zero_le→aH,le_refl→aV,reduceBEq→zL
open Int renaming toNat_natCast→dg,toNat_of_nonneg→mr
open Go Go.Am Go.Proofs
open Nat (reduceEqDiff reduceAdd reduceLeDiff reduceMul)
open Int (reduceNeg reduceLE reduceToNat)
namespace T
theorem agi (c:Ct):ao Tryz.prog 201 [.agg (bu c)] [] (.lit (.bool (AE c))) []:=by
  refine ao.aD (fn:=Tryz.f201) 6 0 [.tmp 2] Tryz.func201 rfl rfl rfl rfl rfl (by simp) ?_
  refine Vb @bu.eq_1 ?_
  exact aE rfl rfl
theorem agC {n k:Nat} (h:k<n):ints ((aW k (-1:Int)++aW (n - k) 0).set k (-1))=ints (aW (k+1) (-1:Int)++aW (n - (k+1)) 0):=by
  congr 1
  rw[List.set_append_right _ _ (by simp),List.length_replicate,iz,show n - k=(n - (k+1))+1 by omega,List.replicate_succ,List.set_cons_zero,List.replicate_succ',List.append_assoc]
  rfl
theorem agq (m:ae) (hm:VM m):ao Tryz.prog 188 [.agg (au m)] [] (.ref 0 1 0 m.cls.length) [.arr 1 (ints (vw m))]:=by
  have nX:=hm.cls
  unfold vw
  refine ao.aD (fn:=Tryz.f188) 19 0 [.tmp 2] Tryz.func188 rfl rfl rfl rfl rfl (by simp) ?_
  refine Vb X0 ?_
  refine aG (fun k:Nat=>(⟨aw [(3,.ref 0 1 0 m.cls.length),(9,.ref 0 1 0 m.cls.length),(10,.lit (.int .i64 m.cls.length)),(11,.lit (.int .i64 k))],[.arr 1 (ints (aW k (-1:Int)++aW (m.cls.length - k) 0))]⟩:St)) (fun k=>k≤m.cls.length) (fun k=>m.cls.length - k) 0 (aH _) (Xs false [1] (X3 @Nat.sub_zero @D7.{0} @List.nil_append.{0})) ?_
  rintro k hk Ql ak aq
  by_cases aF:k<m.cls.length
  · have hs:=agC aF
    have hlen:(aW k (-1:Int)++aW (m.cls.length - k) 0).length=m.cls.length:=by simp;omega
    generalize aW k (-1:Int)++aW (m.cls.length - k) 0=xs at *
    ((repeat' (first|refine Va (X2 @ints_set @hlen) ?_|(refine Xi ?_ ?_<;>try intro ht)|exact Xx|fail)))
    exact ak _ (k+1) (by omega) (by omega) (by rw[← hs];exact Xv X0)
  · obtain rfl:k=m.cls.length:=by omega
    rw[iz,D7,List.append_nil]
    ((repeat' (first|refine Va X0 ?_|(refine Xi ?_ ?_<;>try intro ht)|exact Xx|fail)))
    refine aq _ _ rfl ?_;clear ak aq Ql
    repeat (refine Xu ?_)
    refine Vb X0 ?_
    exact Xw true [0] X0
theorem agD (m:ae) (plan:List Int) (c:Ct) (hm:VM m) (b9:plan.length=m.cls.length) (hc:fP m c=true):ao Tryz.prog 205 [.agg (bu c),.tree 1 (ints plan)] [] (.lit (.int .i64 (sM plan c))) []:=by
  obtain ⟨q1,q2,q3,q4⟩:=ju hc
  have hlen:=uq hm q4
  generalize aj:sM plan c=res
  unfold sM at aj
  generalize zi:dX plan c.aA 0=sum at *
  refine ao.aD (fn:=Tryz.f205) 33 0 [.tmp 4] Tryz.func205 rfl rfl rfl rfl rfl (by simp) ?_
  refine Vb X0 ?_
  refine aG (fun z:Nat × Int=>(⟨aw [(1,.tree 1 (ints plan)),(2,.ptr 0 0 0),(5,.lit (.int .i64 z.2)),(9,.tree 3 (rowsOf dF c.aA)),(10,.lit (.int .i64 c.aA.length)),(11,.lit (.int .i64 z.1))],[.var (bu c)]⟩:St))
    (fun z=>z.1≤c.aA.length∧0≤z.2∧z.2≤1000 * z.1∧dX plan (c.aA.drop z.1) z.2=sum) (fun z=>c.aA.length - z.1) (0,0) ⟨aH _,Int.le_refl _,by dsimp only;omega,zi⟩ (Xv X0) ?_
  rintro ⟨j,n⟩ ⟨hj,cy,eh,bK⟩ Ql ak aq
  dsimp only at hj cy eh bK ⊢
  by_cases cq:j<c.aA.length
  · have gT:=b7 c.aA j default cq
    have ns:=kF q4 _ (az (d:=default) cq)
    generalize lS:c.aA.getD j default=x at *
    rw[gT,dX] at bK
    obtain ⟨b1,b2,b3,b4⟩:=cV.1 ns.1
    have Kv:=ns.2
    generalize n8:plan.getD x.cls.toNat 0=px at *
    ((repeat' (first|refine Va (X2 @lS @n8) ?_|(refine Xi ?_ ?_<;>try intro ht)|exact Xx|fail)))
    · rw[if_pos (by assumption)] at bK
      exact ak _ (j+1,n+x.wt) ⟨by dsimp only;omega,by dsimp only;omega,by dsimp only;omega,bK⟩ (by dsimp only;omega) (Xs false [0] X0)
    · rw[if_neg (by assumption)] at bK
      exact ak _ (j+1,n) ⟨by dsimp only;omega,by dsimp only;omega,by dsimp only;omega,bK⟩ (by dsimp only;omega) (Xs false [0] X0)
  · ((repeat' (first|refine Va X0 ?_|(refine Xi ?_ ?_<;>try intro ht)|exact Xx|fail)))
    rw[b6 (by omega),dX] at bK
    rw[← bK] at aj
    refine aq _ _ rfl ?_;clear ak aq Ql
    repeat (refine Xu ?_)
    refine Vb X0 ?_
    exact aE rfl (by rw[aj])
theorem agE {n bg:Int} (hn:0≤n) (hp:fK bg=true):xp n bg=rp n bg:=by
  unfold fK at hp
  rw[decide_eq_true_eq] at hp
  unfold xp rp
  by_cases h0:n≤0
  · obtain rfl:n=0:=by omega
    rw[if_neg (by omega),if_pos (by omega),Int.zero_mul];rfl
  · rw[if_neg h0]
    by_cases hF:bg=1099511627776
    · rw[if_pos ⟨by omega,hF⟩,if_pos (by omega)]
    · rw[if_neg (by omega),if_neg (by omega)]
theorem agF (m:ae) (plan:List Int) (hm:VM m) (hp:PM m plan):ao Tryz.prog 202 [.agg (au m),.tree 1 (ints plan)] [] (.lit (.int .i64 (AB m plan))) []:=by
  have me:=hm.cls
  have vB:=hm.ah
  have Ba:=hm.av
  have b9:=hp.len
  have n9:∀ s d:Int,ao Tryz.prog 160 [.lit (.int .i64 (s+d))] [] (.lit (.int .i64 (cS s d))) []:=fun s d=>Gi (s+d)
  generalize aj:AB m plan=res
  unfold AB at aj
  generalize h1:vt m 0 plan 0=s1 at aj
  generalize h2:vu m plan m.ah s1=s2 at aj
  refine ao.aD (fn:=Tryz.f202) 100 0 [.tmp 4] Tryz.func202 rfl rfl rfl rfl rfl (by simp) ?_
  refine Vb X0 ?_
  refine aG (fun z:Nat × Int=>(⟨aw [(1,.tree 1 (ints plan)),(2,.ptr 0 0 0),(5,.lit (.int .i64 z.2)),(14,.tree 1 (ints plan)),(15,.lit (.int .i64 plan.length)),(16,.lit (.int .i64 z.1))],[.var (au m)]⟩:St))
    (fun z=>z.1≤plan.length∧aS z.2∧vt m z.1 (plan.drop z.1) z.2=s1) (fun z=>plan.length - z.1) (0,0) ⟨aH _,by unfold aS;decide,h1⟩ (Xv X0) ?_
  rintro ⟨k,s⟩ ⟨hk,hs,hr⟩ Ql ak aq
  dsimp only at hk hs hr ⊢
  by_cases aF:k<plan.length
  · have hd:=b7 plan k 0 aF
    have gX:=hp.get k aF
    generalize aJ:plan.getD k 0=o at *
    rw[hd,vt] at hr
    by_cases ho:o<0
    · rw[if_pos ho] at hr
      ((repeat' (first|refine Va @aJ ?_|(refine Xi ?_ ?_<;>try intro ht)|exact Xx|fail)))
      exact ak _ (k+1,s) ⟨by dsimp only;omega,hs,hr⟩ (by dsimp only;omega) (Xv X0)
    · rw[if_neg ho] at hr
      obtain ⟨b1,b2,b3,b4⟩:=cV.1 (gX.resolve_left (by omega))
      have hl:=az (l:=m.cls) (i:=k) (d:=default) (by omega)
      have agG:=Rs hm k o.toNat
      generalize eV:m.cls.getD k default=l at *
      rw[dg,eV] at b4
      have zh:=az (l:=l) (i:=o.toNat) (d:=default) (by omega)
      have ej:=hm.mf l hl _ zh
      generalize lP:l.getD o.toNat default=op at *
      generalize kJ:CG op.ch s=s' at hr
      have bL:=AL hm.mP.1 ej
      have Xj:=hm.mP.2
      ((repeat' (first|refine Va (X3 @aJ @eV @lP) ?_|(refine Xi ?_ ?_<;>try intro ht)|exact Xx|fail)))
      refine aG (fun z:Nat × Int=>(⟨aw [(1,.tree 1 (ints plan)),(2,.ptr 0 0 0),(5,.lit (.int .i64 z.2)),(14,.tree 1 (ints plan)),(15,.lit (.int .i64 plan.length)),(16,.lit (.int .i64 k)),(31,.tree 2 (rowsOf bP op.ch)),(32,.lit (.int .i64 op.ch.length)),(33,.lit (.int .i64 z.1))],[.var (au m)]⟩:St))
        (fun z=>z.1≤op.ch.length∧aS z.2∧CG (op.ch.drop z.1) z.2=s') (fun z=>op.ch.length - z.1) (0,s) ⟨aH _,hs,kJ⟩ (Xv X0) ?_
      rintro ⟨j,n⟩ ⟨hj,hn,bK⟩ cR ba bd
      dsimp only at hj hn bK ⊢
      by_cases cq:j<op.ch.length
      · have gT:=b7 op.ch j default cq
        have gJ:=agG _ (az (d:=default) cq)
        generalize lS:op.ch.getD j default=c at *
        rw[gT] at bK
        have dE:=oT hn (g7 gJ.2)
        have fe:=n9 n c.2
        have hci:=g7 gJ.2
        have cy:=hn
        unfold aS at cy hci
        ((repeat' (first|refine Vc (X2 @lS @bP.eq_1) fe ?_|(refine Xi ?_ ?_<;>try intro ht)|exact Xx|fail)))
        exact ba _ (j+1,cS n c.2) ⟨by dsimp only;omega,dE,bK⟩ (by dsimp only;omega) (Xs false [0] X0)
      · ((repeat' (first|refine Va X0 ?_|(refine Xi ?_ ?_<;>try intro ht)|exact Xx|fail)))
        rw[b6 (by omega)] at bK
        obtain rfl:n=s':=bK
        refine bd _ _ rfl ?_
        clear ba bd
        repeat (refine Xu ?_)
        refine Va X0 ?_
        exact ak _ (k+1,n) ⟨by dsimp only;omega,hn,hr⟩ (by dsimp only;omega) (Xv X0)
  · rw[b6 (by omega),vt] at hr
    subst hr
    ((repeat' (first|refine Va X0 ?_|(refine Xi ?_ ?_<;>try intro ht)|exact Xx|fail)))
    refine aq _ _ rfl ?_;clear ak aq Ql
    repeat (refine Xu ?_)
    clear aF hk h1
    refine Vb X0 ?_
    refine aG (fun z:Nat × Int=>(⟨aw [(1,.tree 1 (ints plan)),(2,.ptr 0 0 0),(5,.lit (.int .i64 z.2)),(45,.tree 4 (rowsOf bc m.ah)),(46,.lit (.int .i64 m.ah.length)),(47,.lit (.int .i64 z.1))],[.var (au m)]⟩:St))
      (fun z=>z.1≤m.ah.length∧aS z.2∧vu m plan (m.ah.drop z.1) z.2=s2) (fun z=>m.ah.length - z.1) (0,s) ⟨aH _,hs,h2⟩ (Xv X0) ?_
    clear hs h2 s
    rintro ⟨k,s⟩ ⟨hk,hs,hr⟩ Ql ak aq
    dsimp only at hk hs hr ⊢
    by_cases aF:k<m.ah.length
    · have hd:=b7 m.ah k default aF
      have ca:=fY hm.pr _ (az (d:=default) aF)
      generalize aJ:m.ah.getD k default=p at *
      rw[hd,vu] at hr
      obtain ⟨q1,q2,q3,q4,q5⟩:=iY ca
      have g1:=hp.get p.fst.toNat (by omega)
      have g2:=hp.get p.snd.toNat (by omega)
      rw[mr (by omega)] at g1 g2
      have rJ:=vo ca (plan.getD p.fst.toNat 0) (plan.getD p.snd.toNat 0)
      have fe:=WC m p (plan.getD p.fst.toNat 0) (plan.getD p.snd.toNat 0) ca hm.opt
      generalize hx:plan.getD p.fst.toNat 0=x at *
      generalize hy:plan.getD p.snd.toNat 0=y at *
      by_cases jZ:0≤x∧0≤y
      · rw[if_pos jZ] at hr
        have a1:=(cV.1 (g1.resolve_left (by omega)))
        have a2:=(cV.1 (g2.resolve_left (by omega)))
        have fe:=fe ⟨a1.2.2.1,a1.2.2.2⟩ ⟨a2.2.2.1,a2.2.2.2⟩
        generalize jP m p x y=e at *
        have mT:=n9 s e
        have dE:=oT hs rJ
        have pL:=hs
        unfold aS at pL rJ
        ((repeat' (first|refine Vc (X3 @aJ @hx @hy) (X2 fe mT) ?_|(refine V2 (X3 @aJ @hx @hy) ?_ ?_<;>try with_reducible intro hb)|(refine Xi ?_ ?_<;>try intro ht)|exact Xx|fail)))
        exact ak _ (k+1,cS s e) ⟨by dsimp only;omega,dE,hr⟩ (by dsimp only;omega) (Xs false [0] X0)
      · rw[if_neg jZ] at hr
        ((repeat' (first|refine Va (X3 @aJ @hx @hy) ?_|(refine V2 (X3 @aJ @hx @hy) ?_ ?_<;>try with_reducible intro hb)|(refine Xi ?_ ?_<;>try intro ht)|exact Xx|fail)))
        all_goals exact ak _ (k+1,s) ⟨by dsimp only;omega,hs,hr⟩ (by dsimp only;omega) (Xs false [0] X0)
    · rw[b6 (by omega),vu] at hr
      subst hr
      ((repeat' (first|refine Va X0 ?_|(refine V2 X0 ?_ ?_<;>try with_reducible intro hb)|(refine Xi ?_ ?_<;>try intro ht)|exact Xx|fail)))
      refine aq _ _ rfl ?_;clear ak aq Ql
      repeat (refine Xu ?_)
      clear aF hk
      refine Vb X0 ?_
      refine aG (fun z:Nat × Int=>(⟨aw [(1,.tree 1 (ints plan)),(2,.ptr 0 0 0),(5,.lit (.int .i64 z.2)),(83,.tree 4 (rowsOf bu m.av)),(84,.lit (.int .i64 m.av.length)),(85,.lit (.int .i64 z.1))],[.var (au m)]⟩:St))
        (fun z=>z.1≤m.av.length∧aS z.2∧wU plan (m.av.drop z.1) z.2=res) (fun z=>m.av.length - z.1) (0,s) ⟨aH _,hs,aj⟩ (Xv X0) ?_
      clear hs aj s
      rintro ⟨k,s⟩ ⟨hk,hs,hr⟩ Ql ak aq
      dsimp only at hk hs hr ⊢
      by_cases aF:k<m.av.length
      · have hd:=b7 m.av k default aF
        have mS:=hm.ct _ (az (d:=default) aF)
        generalize aJ:m.av.getD k default=c at *
        rw[hd,wU] at hr
        obtain ⟨q1,q2,q3,q4⟩:=ju mS
        have vG:=agD m plan c hm b9 mS
        have hlen:=uq hm q4
        have Dr:=CU (m:=m) (plan:=plan) (fun x hx=>(kF q4 x hx).2) 0
        have jC:=Rq (plan:=plan) q3
        have Le:=wR (most:=c.most) (sum:=dX plan c.aA 0) (g7 q3)
        rw[← jC] at Le
        have xw:0≤sM plan c∧sM plan c≤1048576:=by unfold sM;omega
        have uP:=WA (sM plan c) c.bg xw q3
        rw[agE xw.1 q3] at uP
        generalize sM plan c=n at *
        generalize rp n c.bg=t at *
        have mT:=n9 s t
        have dE:=oT hs Le
        have pL:=hs
        unfold aS at pL Le
        ((repeat' (first|refine Vc @aJ (X3 vG uP mT) ?_|(refine Xi ?_ ?_<;>try intro ht)|exact Xx|fail)))
        exact ak _ (k+1,cS s t) ⟨by dsimp only;omega,dE,hr⟩ (by dsimp only;omega) (Xs false [0] X0)
      · rw[b6 (by omega),wU] at hr
        subst hr
        ((repeat' (first|refine Va X0 ?_|(refine Xi ?_ ?_<;>try intro ht)|exact Xx|fail)))
        refine aq _ _ rfl ?_;clear ak aq Ql
        repeat (refine Xu ?_)
        refine Vb X0 ?_
        exact aE rfl rfl
theorem Yj:∀ (l:List Int) (n:Int),(∀ x∈l,aS x)→aS n→aS (gY l n)
  | [],_,_,h=>h
  | x::r,n,hl,h=>Yj r _ (fun y hy=>hl y (by simp[hy])) (oT h (hl x (by simp)))
theorem agI {m:ae} (hm:VM m) (plan:List Int):aS (rq m plan):=Yj _ _ (AD hm plan).2 (by unfold aS;decide)
theorem Yg (m:ae) (plan:List Int) (c i:Int) (hm:VM m) (hp:PM m plan) (hc:0≤c) (ho:ez m c i=true) :
    ao Tryz.prog 190 [.agg (au m),.ref 0 1 0 plan.length,.lit (.int .i64 c),.lit (.int .i64 i)] [.arr 1 (ints plan)] (.lit (.int .i64 (rq m (plan.set c.toNat i)))) [.arr 1 (ints plan)]:=by
  have hb:=cV.1 ho
  have b9:=hp.len
  have pH:PM m (plan.set c.toNat i):=Ru hp (.inr (by rw[mr hc];exact ho))
  have uf:=agF m _ hm pH
  rw[acT hm,show gY (gZ m (plan.set c.toNat i)) 0=rq m (plan.set c.toNat i) from rfl] at uf
  generalize hold:plan.getD c.toNat 0=kz
  have agJ:(plan.set c.toNat i).set c.toNat kz=plan:=by rw[List.set_set];exact Yk (by omega) hold
  generalize rq m (plan.set c.toNat i)=aU at *
  refine ao.aD (fn:=Tryz.f190) 27 1 [.tmp 8] Tryz.func190 rfl rfl rfl rfl rfl (by simp) ?_
  ((refine Vb (X2 @hold @ints_set) ?_)<;>try with_reducible intro K hK)
  refine oz [] uf (by decide) trivial ⟨.pure rfl,aO.cI (rows:=ints (plan.set c.toNat i)) rfl (oB _) (by simp only[Bc,Rc,bF]) (by decide) (pw _),trivial⟩ rfl (by simp) ?_
  have hlen:(plan.set c.toNat i).length=plan.length:=bF
  generalize plan.set c.toNat i=p2 at *
  ((try revert hK K);(refine Vb (X2 @ints_set @agJ) ?_))
  exact Xw true [0] X0
theorem agz (m:ae) (plan:List Int) (c:Int) (hm:VM m) (hp:PM m plan) (hc:0≤c∧c<m.cls.length) :
    ao Tryz.prog 193 [.agg (au m),.ref 0 1 0 plan.length,.lit (.int .i64 c)] [.arr 1 (ints plan)] (.bM []) [.arr 1 (ints (plan.set c.toNat (kK m plan c.toNat)))]:=by
  have b9:=hp.len
  have bL:=hm.cls
  have sW:=hm.opt _ (az (l:=m.cls) (i:=c.toNat) (d:=default) (by omega))
  have Dr:∀ k:Nat,aS (ry m plan c.toNat k):=fun k=>agI hm _
  have hw:∀ k:Nat,k<(m.cls.getD c.toNat default).length→_:=fun k hk=>Yg m plan c k hm hp hc.1 (cV.2 ⟨hc.1,hc.2,by omega,by omega⟩)
  generalize aj:kK m plan c.toNat=res
  unfold kK at aj
  have K9:∀ k:Nat,rq m (plan.set c.toNat (k:Int))=ry m plan c.toNat k:=fun _=>rfl
  simp only[K9] at hw
  generalize ry m plan c.toNat=f at *
  generalize eV:m.cls.getD c.toNat default=l at *
  refine ao.aD (fn:=Tryz.f193) 34 1 [] Tryz.func193 rfl rfl rfl rfl rfl (by simp) ?_
  refine Vb @eV ?_
  refine aG (fun z:Nat × Int × Int=>(⟨aw [(1,.ref 0 1 0 plan.length),(2,.lit (.int .i64 c)),(3,.ptr 1 0 0),(6,.lit (.int .i64 z.2.1)),(7,.lit (.int .i64 z.2.2)),(15,.lit (.int .i64 l.length)),(16,.lit (.int .i64 z.1))],[.arr 1 (ints plan),.var (au m)]⟩:St))
    (fun z=>z.1≤l.length∧aS z.2.1∧ql f (l.length - z.1) z.1 z.2.1 z.2.2=res) (fun z=>l.length - z.1) (0,1099511627776,-1) ⟨aH _,by unfold aS;decide,aj⟩ (Xv X0) ?_
  rintro ⟨k,s,b⟩ ⟨hk,hs,hr⟩ Ql ak aq
  dsimp only at hk hs hr ⊢
  by_cases aF:k<l.length
  · rw[show l.length - k=(l.length - (k+1))+1 by omega,ql] at hr
    have hw:=hw k aF
    have rM:=Dr k
    generalize f k=n at *
    ((repeat' (first|refine Va X0 ?_|(refine Xi ?_ ?_<;>try intro ht)|exact Xx|fail))<;>try with_reducible intro K hK)
    (refine Xn [0] (hw) ?_;simp (disch:=omega) only[Ac,↓Pc,simprocAttr])
    ((try revert hK K);(repeat' (first|refine Va X0 ?_|(refine Xi ?_ ?_<;>try intro ht)|fail)))
    · rw[if_pos (by assumption)] at hr
      exact ak _ (k+1,n,(k:Int)) ⟨by dsimp only;omega,rM,hr⟩ (by dsimp only;omega) (Xv X0)
    · rw[if_neg (by omega)] at hr
      exact ak _ (k+1,s,b) ⟨by dsimp only;omega,hs,hr⟩ (by dsimp only;omega) (Xv X0)
  · rw[show l.length - k=0 by omega,ql] at hr
    subst hr
    ((repeat' (first|refine Va X0 ?_|(refine Xi ?_ ?_<;>try intro ht)|exact Xx|fail)))
    refine aq _ _ rfl ?_;clear ak aq Ql
    repeat (refine Xu ?_)
    refine Vb @ints_set ?_
    exact Xw true [0] X0
def cZ (x:It):List AV:=[.lit (.int .i64 x.cls),.lit (.int .i64 x.opt),.lit (.int .i64 x.bx)]
instance:Row cZ 3:=⟨fun _=>rfl,fun _=>wD rfl⟩
def zr {α:Type} [Inhabited α] (lt:α→α→Bool):Nat→List α→Nat→Nat→Nat
  | 0,_,i,_=>i
  | f+1,l,i,n=>if n≤2 * i+1 then i else if lt (l.getD (gv lt l i n) default) (l.getD i default)=true then zr lt f (gf l i (gv lt l i n)) (gv lt l i n) n else i
theorem Ya (L:List It) (i:Nat) (x:It):(rowsOf cZ L).set i [.lit (.int .i64 x.cls),.lit (.int .i64 x.opt),.lit (.int .i64 x.bx)]=rowsOf cZ (L.set i x):=by
  unfold rowsOf
  rw[List.map_set];rfl
theorem Yl (M:Nat) (rows:List (List AV)):ao Tryz.prog 224 [.ref 0 3 0 M] [.arr 3 rows] (.lit (.int .i64 M)) [.arr 3 rows]:=by
  refine ao.aD (fn:=Tryz.f224) 5 1 [.tmp 2] Tryz.func224 rfl rfl rfl rfl rfl (by simp) ?_
  refine Vb X0 ?_
  exact fW rfl (aV _) rfl
theorem Ym (M:Nat) (L:List It) (i j:Nat) (hi:i<M) (hj:j<M) (hM:M≤L.length):ao Tryz.prog 226 [.ref 0 3 0 M,.lit (.int .i64 i),.lit (.int .i64 j)] [.arr 3 (rowsOf cZ L)] (.bM []) [.arr 3 (rowsOf cZ (gf L i j))]:=by
  unfold gf
  have kZ:(L.set i (L.getD j default)).length=L.length:=bF
  refine ao.aD (fn:=Tryz.f226) 20 1 [] Tryz.func226 rfl rfl rfl rfl rfl (by simp) ?_
  refine Vb (X2 @cZ.eq_1 @Ya) ?_
  exact fW rfl (aV _) rfl
theorem Yn (M:Nat) (L:List It) (i j:Nat) (hi:i<M) (hj:j<M) (hM:M≤L.length):ao Tryz.prog 225 [.ref 0 3 0 M,.lit (.int .i64 i),.lit (.int .i64 j)] [.arr 3 (rowsOf cZ L)] (.lit (.bool (cF (L.getD i default) (L.getD j default)))) [.arr 3 (rowsOf cZ L)]:=by
  unfold cF
  have hor:=JU [jg (L.getD i default).opt (L.getD j default).opt,jg (L.getD j default).bx (L.getD i default).bx,jg (L.getD i default).cls (L.getD j default).cls] (by simp)
  generalize nB [jg (L.getD i default).opt (L.getD j default).opt,jg (L.getD j default).bx (L.getD i default).bx,jg (L.getD i default).cls (L.getD j default).cls]=res at *
  generalize hx:L.getD i default=x at *
  generalize hy:L.getD j default=y at *
  have c1:=C3 x.opt y.opt
  have c2:=C3 y.bx x.bx
  have c3:=C3 x.cls y.cls
  refine ao.aD (fn:=Tryz.f225) 35 1 [.tmp 6] Tryz.func225 rfl rfl rfl rfl rfl (by simp) ?_
  refine Vb X0 ?_
  refine VB ?_;intro Q hn he
  refine xV ⟨aw [(7,.ptr 1 0 0),(8,.ptr 2 0 0)],[.arr 3 (rowsOf cZ L),.var (cZ x),.var (cZ y)]⟩ hn ?_ (fun key=>?_)
  rotate_left
  · refine sj [] (.take 0 (.take 1 (.take 2 (.take 3 (.take 4 (.take 5 (.take 6 (.three 7 (.both 8 (.take 9 (.take 10 (.take 11 .nil))) 9 (.take 8 (.take 10 (.take 11 .nil)))) 8 (.both 7 (.take 9 (.take 10 (.take 11 .nil))) 9 (.both 7 (.take 10 (.take 11 .nil)) 10 (.take 7 (.take 11 .nil)))) 9 (.both 7 (.take 8 (.take 10 (.take 11 .nil))) 8 (.both 7 (.take 10 (.take 11 .nil)) 10 (.take 7 (.take 11 .nil)))))))))))) rfl (by decide) (by decide +kernel) ?_
    simp (disch:=omega) only[Ac,↓Pc,simprocAttr,Pw,cZ,hx,hy]
    repeat' (first|with_reducible refine And.intro ?_ ?_|omega)
    all_goals
      refine key _ ?_
      first|((refine aQ.aw _ _ rfl ?_;simp only[Tc,↓reduceIte,reduceEqDiff,zL,reduceAdd,cZ];try trivial);done)|((refine aQ.se [0,1,2] false (by simp only[Oc,simprocAttr,cZ]) ?_;simp only[Hr,↓reduceIte,reduceEqDiff,zL,reduceAdd,cZ];try (and_intros<;>first|exact .pure rfl|exact .eq rfl|exact .fz rfl (by simp only[Bc,Rc])));done)|((refine aQ.se [0,2,1] false (by simp only[Oc,simprocAttr,cZ]) ?_;simp only[Hr,↓reduceIte,reduceEqDiff,zL,reduceAdd,cZ];try (and_intros<;>first|exact .pure rfl|exact .eq rfl|exact .fz rfl (by simp only[Bc,Rc])));done)
  (try clear hn;try clear he)
  ((refine Vd @cZ.eq_1 (X3 c1 c2 c3) ?_)<;>try with_reducible intro K hK)
  (refine Xf [] (hor) ?_;simp (disch:=omega) only[Ac,↓Pc,simprocAttr])
  ((try revert hK K);(refine Vb @cZ.eq_1 ?_))
  exact Xw true [0] X0
theorem agL (k:Nat) (L:List It) (hk:k<L.length) (hL:L.length<1000):ao Tryz.prog 227 [.ptr 0 0 0] [.var [.ref 1 3 0 (k+1)],.arr 3 (rowsOf cZ L)] (.er 245 (.agg (cZ (L.getD k default)))) [.var [.ref 1 3 0 k],.arr 3 (rowsOf cZ L)]:=by
  generalize hx:L.getD k default=x
  have e1:((k+1:Nat):Int) - 1=(k:Nat):=by omega
  refine ao.aD (fn:=Tryz.f227) 23 2 [.tmp 2] Tryz.func227 rfl rfl rfl rfl rfl (by simp) ?_
  refine Vb (X5 @e1 @hx @cZ.eq_1 @Option.map_none.{0,0} (X3 @Option.map_some.{0,0} @implies_true.{0} @dg)) ?_
  exact Xw true [0,1] X0
theorem Yo (M n i0 f0:Nat) (L:List It) (hn:n≤M) (hM:M≤L.length) (hL:L.length<1000) (hi0:i0<1000) (hf0:n≤f0+i0) :
    ao Tryz.prog 203 [.er 248 (.ptr 0 0 0),.lit (.int .i64 i0),.lit (.int .i64 n)] [.var [.ref 1 3 0 M],.arr 3 (rowsOf cZ L)]
      (.lit (.bool (decide (i0<zr cF f0 L i0 n)))) [.var [.ref 1 3 0 M],.arr 3 (rowsOf cZ (gR cF f0 L i0 n))]:=by
  generalize nj:zr cF f0 L i0 n=ix
  generalize fF:gR cF f0 L i0 n=R
  refine ao.aD (fn:=Tryz.f203) 48 2 [.tmp 6] Tryz.func203 rfl rfl rfl rfl rfl (by simp) ?_
  refine Vb X0 ?_
  refine aG (fun z:Nat × List It × Nat=>(⟨aw [(0,.er 248 (.ptr 0 0 0)),(1,.lit (.int .i64 i0)),(2,.lit (.int .i64 n)),(7,.lit (.int .i64 z.2.2))],[.var [.ref 1 3 0 M],.arr 3 (rowsOf cZ z.2.1)]⟩:St))
    (fun z=>n≤z.1+z.2.2∧z.2.1.length=L.length∧z.2.2<1000∧zr cF z.1 z.2.1 z.2.2 n=ix∧gR cF z.1 z.2.1 z.2.2 n=R) (fun z=>z.1) (f0,L,i0) ⟨hf0,rfl,hi0,nj,fF⟩ (Xv X0) ?_
  rintro ⟨f,l,i⟩ ⟨hf,hl,hi,hJ,bX⟩ Ql ak aq
  dsimp only at hf hl hi hJ bX ⊢
  obtain ⟨j1,Cb⟩ :∃j1:Nat,j1=2 * i+1:=⟨_,rfl⟩
  have e1:2 * (i:Int)+1=(j1:Nat):=by omega
  have e2:(j1:Int)+1=((j1+1:Nat):Int):=by omega
  by_cases h1:n≤2 * i+1
  · have hd:zr cF f l i n=i∧gR cF f l i n=l:=by
      cases f with
      | zero=>exact⟨rfl,rfl⟩
      | succ f=>exact⟨by rw[zr,if_pos h1],by rw[gR,if_pos h1]⟩
    rw[hd.1] at hJ
    rw[hd.2] at bX
    ((repeat' (first|refine Va @e1 ?_|(refine V2 @e1 ?_ ?_<;>try with_reducible intro hb)|(refine Xi ?_ ?_<;>try intro ht)|exact Xx|fail)))
    all_goals
      refine aq _ _ rfl ?_;clear ak aq Ql
      repeat (refine Xu ?_)
      refine Vb X0 ?_
      rw[← hJ,← bX]
      exact fW rfl (aV _) (by simp)
  · obtain ⟨f,rfl⟩ :∃g,f=g+1:=⟨f - 1,by omega⟩
    rw[zr,if_neg h1] at hJ
    rw[gR,if_neg h1] at bX
    have bG:=C1 (lt:=cF) (l:=l) h1
    have fl:=SS (lt:=cF) (l:=l) (i:=i) (n:=n)
    have jv:gv cF l i n=if j1+1<n∧cF (l.getD (j1+1) default) (l.getD j1 default)=true then j1+1 else j1:=by rw[Cb];rfl
    have vN:j1+1<n→_:=fun h=>Yn M l (j1+1) j1 (by omega) (by omega) (by omega)
    have Bk:=Yn M l (gv cF l i n) i (by omega) (by omega) (by omega)
    have zs:=Ym M l i (gv cF l i n) (by omega) (by omega) (by omega)
    generalize cF (l.getD (j1+1) default) (l.getD j1 default)=b at *
    have tail:True:=trivial
    by_cases h3:j1+1<n
    · have vN:=vN h3
      cases b
      · rw[if_neg (by simp)] at jv
        ((repeat' (first|refine Va (X2 @e1 @e2) ?_|(refine V2 (X2 @e1 @e2) ?_ ?_<;>try with_reducible intro hb)|(refine Xi ?_ ?_<;>try intro ht)|exact Xx|fail))<;>try with_reducible intro K hK)
        (refine Xn [1] (vN) ?_;simp (disch:=omega) only[Ac,↓Pc,simprocAttr])
        repeat' (first|(refine hK _ ?_;clear hK K)|(refine Xi ?_ ?_<;>try intro ht)|refine Xy ?_|exact Xx|fail)
        refine dO (σ':=⟨aw [(0,.er 248 (.ptr 0 0 0)),(1,.lit (.int .i64 i0)),(2,.lit (.int .i64 n)),(7,.lit (.int .i64 i)),(9,.lit (.int .i64 (gv cF l i n:Nat)))],[.var [.ref 1 3 0 M],.arr 3 (rowsOf cZ l)]⟩) (by rw[jv];exact Xv X0) ?_
        clear vN jv e1 e2 tail
        generalize gv cF l i n=kd at *
        generalize cF (l.getD kd default) (l.getD i default)=c at *
        cases c
        · rw[if_neg (by simp)] at hJ bX
          ((refine Va X0 ?_)<;>try with_reducible intro K hK)
          (refine Xn [1] (Bk) ?_;simp (disch:=omega) only[Ac,↓Pc,simprocAttr])
          ((try revert hK K);(repeat' (first|refine Va X0 ?_|(refine Xi ?_ ?_<;>try intro ht)|exact Xx|fail)))
          refine aq _ _ rfl ?_;clear ak aq Ql
          repeat (refine Xu ?_)
          refine Vb X0 ?_
          rw[← hJ,← bX]
          exact fW rfl (aV _) (by simp)
        · rw[if_pos rfl] at hJ bX
          ((refine Va X0 ?_)<;>try with_reducible intro K hK)
          (refine Xn [1] (Bk) ?_;simp (disch:=omega) only[Ac,↓Pc,simprocAttr])
          ((try revert hK K);(repeat' (first|refine Va X0 ?_|(refine Xi ?_ ?_<;>try intro ht)|exact Xx|fail))<;>try with_reducible intro K hK)
          (refine Xn [1] (zs) ?_;simp (disch:=omega) only[Ac,↓Pc,simprocAttr])
          ((try revert hK K);(refine Va X0 ?_))
          exact ak _ (f,gf l i kd,kd) ⟨by dsimp only;omega,by dsimp only;rw[rG];exact hl,by dsimp only;omega,hJ,bX⟩ (by dsimp only;omega) (Xv X0)
      · rw[if_pos ⟨h3,rfl⟩] at jv
        ((repeat' (first|refine Va (X2 @e1 @e2) ?_|(refine V2 (X2 @e1 @e2) ?_ ?_<;>try with_reducible intro hb)|(refine Xi ?_ ?_<;>try intro ht)|exact Xx|fail))<;>try with_reducible intro K hK)
        (refine Xn [1] (vN) ?_;simp (disch:=omega) only[Ac,↓Pc,simprocAttr])
        repeat' (first|((fail_if_success (first|refine iV 8 ?_|refine iW 8 ?_));refine Xr (X2 @e1 @e2) ?_;intro K hK)|(refine hK _ ?_;clear hK K)|(refine Xi ?_ ?_<;>try intro ht)|refine Xy ?_|exact Xx|fail)
        refine dO (σ':=⟨aw [(0,.er 248 (.ptr 0 0 0)),(1,.lit (.int .i64 i0)),(2,.lit (.int .i64 n)),(7,.lit (.int .i64 i)),(9,.lit (.int .i64 (gv cF l i n:Nat)))],[.var [.ref 1 3 0 M],.arr 3 (rowsOf cZ l)]⟩) (by rw[jv];exact Xv X0) ?_
        clear vN jv e1 e2 tail
        generalize gv cF l i n=kd at *
        generalize cF (l.getD kd default) (l.getD i default)=c at *
        cases c
        · rw[if_neg (by simp)] at hJ bX
          ((refine Va X0 ?_)<;>try with_reducible intro K hK)
          (refine Xn [1] (Bk) ?_;simp (disch:=omega) only[Ac,↓Pc,simprocAttr])
          ((try revert hK K);(repeat' (first|refine Va X0 ?_|(refine Xi ?_ ?_<;>try intro ht)|exact Xx|fail)))
          refine aq _ _ rfl ?_;clear ak aq Ql
          repeat (refine Xu ?_)
          refine Vb X0 ?_
          rw[← hJ,← bX]
          exact fW rfl (aV _) (by simp)
        · rw[if_pos rfl] at hJ bX
          ((refine Va X0 ?_)<;>try with_reducible intro K hK)
          (refine Xn [1] (Bk) ?_;simp (disch:=omega) only[Ac,↓Pc,simprocAttr])
          ((try revert hK K);(repeat' (first|refine Va X0 ?_|(refine Xi ?_ ?_<;>try intro ht)|exact Xx|fail))<;>try with_reducible intro K hK)
          (refine Xn [1] (zs) ?_;simp (disch:=omega) only[Ac,↓Pc,simprocAttr])
          ((try revert hK K);(refine Va X0 ?_))
          exact ak _ (f,gf l i kd,kd) ⟨by dsimp only;omega,by dsimp only;rw[rG];exact hl,by dsimp only;omega,hJ,bX⟩ (by dsimp only;omega) (Xv X0)
    · rw[if_neg (fun h=>h3 h.1)] at jv
      repeat' (first|((fail_if_success (first|refine iV 8 ?_|refine iW 8 ?_));refine Xr (X2 @e1 @e2) ?_;intro K hK)|(refine hK _ ?_;clear hK K)|(refine Xg (X2 @e1 @e2) ?_ ?_<;>try intro hb)|(refine Xi ?_ ?_<;>try intro ht)|refine Xy ?_|refine Xd ?_ ?_|exact Xx|fail)
      refine dO (σ':=⟨aw [(0,.er 248 (.ptr 0 0 0)),(1,.lit (.int .i64 i0)),(2,.lit (.int .i64 n)),(7,.lit (.int .i64 i)),(9,.lit (.int .i64 (gv cF l i n:Nat)))],[.var [.ref 1 3 0 M],.arr 3 (rowsOf cZ l)]⟩) (by rw[jv];exact Xv X0) ?_
      clear vN jv e1 e2 tail
      generalize gv cF l i n=kd at *
      generalize cF (l.getD kd default) (l.getD i default)=c at *
      cases c
      · rw[if_neg (by simp)] at hJ bX
        ((refine Va X0 ?_)<;>try with_reducible intro K hK)
        (refine Xn [1] (Bk) ?_;simp (disch:=omega) only[Ac,↓Pc,simprocAttr])
        ((try revert hK K);(repeat' (first|refine Va X0 ?_|(refine Xi ?_ ?_<;>try intro ht)|exact Xx|fail)))
        refine aq _ _ rfl ?_;clear ak aq Ql
        repeat (refine Xu ?_)
        refine Vb X0 ?_
        rw[← hJ,← bX]
        exact fW rfl (aV _) (by simp)
      · rw[if_pos rfl] at hJ bX
        ((refine Va X0 ?_)<;>try with_reducible intro K hK)
        (refine Xn [1] (Bk) ?_;simp (disch:=omega) only[Ac,↓Pc,simprocAttr])
        ((try revert hK K);(repeat' (first|refine Va X0 ?_|(refine Xi ?_ ?_<;>try intro ht)|exact Xx|fail))<;>try with_reducible intro K hK)
        (refine Xn [1] (zs) ?_;simp (disch:=omega) only[Ac,↓Pc,simprocAttr])
        ((try revert hK K);(refine Va X0 ?_))
        exact ak _ (f,gf l i kd,kd) ⟨by dsimp only;omega,by dsimp only;rw[rG];exact hl,by dsimp only;omega,hJ,bX⟩ (by dsimp only;omega) (Xv X0)
theorem agx (M:Nat) (L:List It) (hM:M≤L.length) (hL:L.length<1000) :
    ao Tryz.prog 191 [.er 248 (.ptr 0 0 0)] [.var [.ref 1 3 0 M],.arr 3 (rowsOf cZ L)] (.bM []) [.var [.ref 1 3 0 M],.arr 3 (rowsOf cZ (kM cF (M / 2) L M))]:=by
  generalize nj:kM cF (M / 2) L M=R
  have hlen:=Yl M (rowsOf cZ L)
  have e1:(M:Int).tdiv 2=((M / 2:Nat):Int):=by rw[Int.tdiv_eq_ediv_of_nonneg (by omega)];omega
  have e2:(M:Int) / 2=((M / 2:Nat):Int):=by omega
  refine ao.aD (fn:=Tryz.f191) 17 2 [] Tryz.func191 rfl rfl rfl rfl rfl (by simp) ?_
  ((refine Vb X0 ?_)<;>try with_reducible intro K hK)
  (refine Xn [1] (hlen) ?_;simp (disch:=omega) only[Ac,↓Pc,simprocAttr])
  ((try revert hK K);(refine Vb (X2 @e1 @e2) ?_))
  refine aG (fun z:Nat × List It=>(⟨aw [(0,.er 248 (.ptr 0 0 0)),(2,.lit (.int .i64 M)),(3,.lit (.int .i64 ((z.1:Int) - 1)))],[.var [.ref 1 3 0 M],.arr 3 (rowsOf cZ z.2)]⟩:St))
    (fun z=>z.1≤M∧z.2.length=L.length∧kM cF z.1 z.2 M=R) (fun z=>z.1) (M / 2,L) ⟨by dsimp only;omega,rfl,nj⟩ (Xv X0) ?_
  rintro ⟨k,l⟩ ⟨hk,hl,hr⟩ Ql ak aq
  dsimp only at hk hl hr ⊢
  cases k with
  | zero =>
    rw[kM] at hr
    ((repeat' (first|refine Va X0 ?_|(refine Xi ?_ ?_<;>try intro ht)|exact Xx|fail)))
    refine aq _ _ rfl ?_;clear ak aq Ql
    repeat (refine Xu ?_)
    refine Vb X0 ?_
    all_goals first|exact fW rfl (aV _) rfl|(rw[← hr];exact fW rfl (aV _) rfl)
  | succ k =>
    rw[kM] at hr
    have e3:((k+1:Nat):Int) - 1=(k:Nat):=by omega
    have hd:=Yo M M k M l (aV _) (by omega) (by omega) (by omega) (by omega)
    have vg:=A5 (lt:=cF) M l k M (by omega)
    generalize gR cF M l k M=l2 at *
    ((repeat' (first|refine Va @e3 ?_|(refine Xi ?_ ?_<;>try intro ht)|exact Xx|fail))<;>try with_reducible intro K hK)
    (refine Xn [0,1] (hd) ?_;simp (disch:=omega) only[Ac,↓Pc,simprocAttr])
    ((try revert hK K);(refine Va @e3 ?_))
    exact ak _ (k,l2) ⟨by dsimp only;omega,by dsimp only;omega,hr⟩ (by dsimp only;omega) (Xv X0)
theorem agy (k f0:Nat) (L:List It) (hk:k<L.length) (hL:L.length<1000) (hf0:k≤f0) :
    ao Tryz.prog 192 [.er 248 (.ptr 0 0 0)] [.var [.ref 1 3 0 (k+1)],.arr 3 (rowsOf cZ L)]
      (.er 245 (.agg (cZ ((gR cF f0 (gf L 0 k) 0 k).getD k default)))) [.var [.ref 1 3 0 k],.arr 3 (rowsOf cZ (gR cF f0 (gf L 0 k) 0 k))]:=by
  have hlen:=Yl (k+1) (rowsOf cZ L)
  have e1:((k+1:Nat):Int) - 1=(k:Nat):=by omega
  have l8:=rG L 0 k
  have zs:=Ym (k+1) L 0 k (by omega) (by omega) (by omega)
  have hd:=Yo (k+1) k 0 f0 (gf L 0 k) (by omega) (by omega) (by omega) (by omega) (by omega)
  have vg:=A5 (lt:=cF) f0 (gf L 0 k) 0 k (by omega)
  have hp:=agL k (gR cF f0 (gf L 0 k) 0 k) (by omega) (by omega)
  generalize gR cF f0 (gf L 0 k) 0 k=R at *
  generalize gf L 0 k=S at *
  refine ao.aD (fn:=Tryz.f192) 15 2 [.tmp 2] Tryz.func192 rfl rfl rfl rfl rfl (by simp) ?_
  ((refine Vb X0 ?_)<;>try with_reducible intro K hK)
  (refine Xn [1] (hlen) ?_;simp (disch:=omega) only[Ac,↓Pc,simprocAttr])
  ((try revert hK K);(refine Vb @e1 ?_)<;>try with_reducible intro K hK)
  (refine Xn [1] (zs) ?_;simp (disch:=omega) only[Ac,↓Pc,simprocAttr])
  ((try revert hK K);(refine Vb X0 ?_)<;>try with_reducible intro K hK)
  (refine Xn [0,1] (hd) ?_;simp (disch:=omega) only[Ac,↓Pc,simprocAttr])
  ((try revert hK K);(refine Vb X0 ?_)<;>try with_reducible intro K hK)
  (refine Xn [0,1] (hp) ?_;simp (disch:=omega) only[Ac,↓Pc,simprocAttr])
  ((try revert hK K);(refine Vb X0 ?_))
  exact fW rfl (aV _) rfl
theorem Yi {l t:List It} {i j:Nat} (hi:i<l.length) (hj:j<l.length):gf (l++t) i j=gf l i j++t:=by
  unfold gf
  rw[Hk _ _ hi,Hk _ _ (by simpa using hj)]
  simp only[ay,dH hi,dH hj]
theorem Lb:∀ (f:Nat) (l t:List It) (i n:Nat),n≤l.length→gR cF f (l++t) i n=gR cF f l i n++t
  | 0,l,t,i,n,h=>rfl
  | f+1,l,t,i,n,h=>by
    rw[gR,gR]
    by_cases h1:n≤2 * i+1
    · rw[if_pos h1,if_pos h1]
    · have bG:=C1 (lt:=cF) (l:=l) h1
      have hg:∀ k,k<n→(l++t).getD k default=l.getD k default:=fun k hk=>by
        rw[ay,dH (by omega),← ay]
      have agN:gv cF (l++t) i n=gv cF l i n:=by
        unfold gv
        by_cases h2:2 * i+2<n
        · rw[hg _ h2,hg _ (by omega)]
        · rw[if_neg (fun h=>h2 h.1),if_neg (fun h=>h2 h.1)]
      rw[if_neg h1,if_neg h1,agN,hg _ bG,hg i (by omega),Yi (by omega) (by omega),Lb f _ t _ _ (by rw[rG];exact h)]
      split<;>rfl
theorem Yh:∀ (k:Nat) (l t:List It) (n:Nat),n≤l.length→kM cF k (l++t) n=kM cF k l n++t
  | 0,l,t,n,h=>rfl
  | k+1,l,t,n,h=>by
    rw[kM,kM,Lb _ _ _ _ _ h,Yh k _ t n (by rw[A5 _ _ _ _ h];exact h)]
end T

