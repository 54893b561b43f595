import Derived.Test.YtdipcmigdbnheaaGreatX36
set_option linter.all false
set_option maxHeartbeats 0
set_option maxRecDepth 20000
open Nat renaming zero_le→aI
open List renaming drop_eq_nil_of_le→cR,take_length→rB,range→aW
open Go Go.Am Go.Proofs
namespace T
def UT(m:aj)(hm:VM m)(l:List Int)(hl:pf m l):∃pa b tn,ao Tryz.prog 66 [.agg (aq m),.tree 1 (ints l)] [] (.bJ [.agg [pa,aaC (vf (bN m l)),aaC b,tn],aaC (pT (bN m l))]) [] /\
  gL pa=true/\gL tn=true/\cO pa=true/\cO tn=true/\(∀ ρ,bC ρ pa=pa)/\(∀ ρ,bC ρ tn=tn):=by
 have h:=UE m hm l hl;generalize bN m l=r at *;unfold EE at h;unfold vf;by_cases he:pT r=0
 ·rw[if_pos he]at h ⊢;exact⟨_,_,_,h,zn rfl,rfl,EF _,rfl,EG _,λ_=>rfl⟩
 ·rw[if_neg he]at h ⊢;exact⟨_,_,_,h,rfl,rfl,rfl,rfl,λ_=>rfl,λ_=>rfl⟩
def UG(m:aj)(hm:VM m):ao Tryz.prog 65 [.agg (aq m)] [] (.bJ [.tree 1 (ints (ly m).1),aaC (ly m).2]) []:=by
 have dF:=agz m hm;have rU:=Md hm;obtain⟨pa,b,tn,mT,n1,n2,s1,s2,r1,r2⟩:=UT m hm (gY m) rU;generalize ak:ly m=res;unfold ly at ak;have fX:=rU.1;generalize pT (bN m (gY m))=e0 at *;generalize vf (bN m (gY m))=t0 at *;refine ao.aD 55 0 [.tmp 2,.tmp 3] Tryz.func65 ?_;repeat'(first|((fail_if_success (first|refine eT 2 ?_|refine eU 2 ?_));refine Xq X0 ?_;intro K hK)|refine Xo X0 ?_|refine Xc (dF) ?_|(refine hK _ ?_;clear hK K)|refine Xy ?_|fail)
 ((refine Va X0 ?_)<;>try with_reducible intro K hK)
 (refine Xn [] (mT) ?_;simp(disch:=omega)only[Ac,↓Pc,simprocAttr,r1,r2])
 by_cases he:e0=0;rotate_left
 ·rw[if_pos he]at ak;subst ak;((try revert hK K);(repeat'(first|refine Vb (X5 @s1 @s2 @r1 @r2 @bne_self_eq_false.{0}) ?_|(refine V2 (X5 @s1 @s2 @r1 @r2 @bne_self_eq_false.{0}) ?_ ?_<;>try with_reducible intro hb)|(refine Xi ?_ ?_<;>try intro ht)|refine VD ?_ ?_|exact Xx|fail)))
  all_goals try(rw[s1,s2];rfl)
  all_goals exact cZ [] true Px trivial Px Px (aJ.lq aJ.nil (.pure rfl))
 rw[if_neg GC]at ak;by_cases ht:t0<1099511627776
 ·rw[if_pos ht]at ak;subst ak he;((try revert hK K);(repeat'(first|refine Vb (X5 @s1 @s2 @r1 @r2 @bne_self_eq_false.{0}) ?_|(refine Xi ?_ ?_<;>try intro ht)|refine VD ?_ ?_|exact Xx|fail)))
  all_goals try(rw[s1,s2];rfl)
  all_goals exact cZ [] true Px trivial Px Px (aJ.lq aJ.nil (.pure rfl))
 rw[if_neg ht]at ak;subst he;((try revert hK K);(repeat'(first|refine Vc (X5 @s1 @s2 @r1 @r2 @bne_self_eq_false.{0}) dF ?_|(refine Xi ?_ ?_<;>try intro ht)|refine VD ?_ ?_|exact Xx|fail)))
 all_goals try(rw[s1,s2];rfl)
 refine bY (aF.mR 1 0 (cells:=aq m) aau (by simp only[Kc,simprocAttr]) (by simp[aq])) ?_;clear dF mT n1 n2 s1 s2 r1 r2 ht;generalize hA:gY m=A at *;refine aM (λz:Nat×List Int=>(⟨aw [(1,.cq (aq m)),(4,.tree 1 (ints z.2)),(30,.tree 1 (ints A)),(31,aaC A.length),(32,aaC z.1)],[]⟩:St))
  (λz=>z.1<=A.length/\pf m z.2/\AN m (A.drop z.1) z.2=res) (λz=>A.length-z.1) (0,A) ⟨aI _,rU,ak⟩ (Xs false [] X0) ?_
 rintro⟨i,l⟩⟨hi,hl,hr⟩Ql an ar;dsimp only at hi hl hr ⊢;by_cases hi':i<A.length
 ·have hd:=cP A i 0 hi';rw[hd,AN]at hr;have hw:=LV l (A.getD i 0) hl.1;have ve:=hl.cd (A.getD i 0);obtain⟨pa,b,tn,mT,n1,n2,s1,s2,r1,r2⟩:=UT m hm _ ve;generalize aS:A.getD i 0=n at *;generalize cd l n=lw at *;generalize pT (bN m lw)=e0 at *;generalize vf (bN m lw)=t0 at *;repeat'(first|((fail_if_success (first|refine eT 10 ?_|refine eU 10 ?_));refine Xr @aS ?_;intro K hK)|(refine hK _ ?_;clear hK K)|(refine Xi ?_ ?_<;>try intro ht)|refine Xy ?_|refine Xd ?_ ?_|exact Xx|fail)
  refine kv [0,3,4] (.take 0 (.take 1 (.take 2 (.take 3 (.take 4 (.take 5 (.take 6 (.take 7 (.take 8 (.take 9 (.take 10 .nil))))))))))) rfl Px (by decide +kernel) ?_;simp(disch:=omega)only[Ac,↓Pc,simprocAttr,Pw,↓Lq,aq];refine bZ hw rfl rfl ?_;simp(disch:=omega)only[Ac,↓Pc,simprocAttr,Pw,↓Lq,aq];refine bZ mT rfl (by simp[gL,ju,n1,n2]) ?_;simp(disch:=omega)only[Ac,↓Pc,simprocAttr,Pw,↓Lq,aq,s1,s2];repeat(refine Xu ?_)
  by_cases he:e0=0;rotate_left
  ·rw[if_pos he]at hr;((repeat'(first|refine Va @aS ?_|(refine Xi ?_ ?_<;>try intro ht)|exact Xx|fail)))
   repeat(refine Xu ?_)
   refine Vb X0 ?_;subst hr;exact cZ [] true Px trivial Px Px (aJ.lq aJ.nil (.pure rfl))
  subst he;rw[if_neg GF]at hr;by_cases ht:t0=1099511627776
  ·rw[if_pos ht]at hr;((repeat'(first|refine Vc @bne_self_eq_false.{0} hw ?_|(refine Xi ?_ ?_<;>try intro ht)|exact Xx|fail)))
   exact an _ (i+1,lw) ⟨PA,ve,hr⟩ PA (Xs false [] X0)
  ·rw[if_neg ht]at hr;((repeat'(first|refine Va @bne_self_eq_false.{0} ?_|(refine Xi ?_ ?_<;>try intro ht)|exact Xx|fail)))
   exact an _ (i+1,l) ⟨PA,hl,hr⟩ PA (Xs false [] X0)
 ·rw[cR GC,AN]at hr;((repeat'(first|refine Va X0 ?_|(refine Xi ?_ ?_<;>try intro ht)|exact Xx|fail)))
  refine ar _ _ rfl ?_;clear an ar Ql;repeat(refine Xu ?_)
  refine Vb X0 ?_;subst hr;exact aE rfl rfl
def af'(m:aj)(hm:MB m):ao Tryz.prog 29 [.agg (aq m)] [] (.bJ [.tree 1 (ints (kc m).1),aaC (kc m).2]) []:=by
 have h1:=tV m hm;by_cases hv:df m=0;rotate_left
 ·rw[show kc m=([],df m) by unfold kc;rw[if_pos hv]];generalize df m=e at *;refine ao.aD 14 0 [.tmp 2,.tmp 3] Tryz.func29 ?_;((repeat'(first|refine Vd X0 h1 ?_|(refine Xi ?_ ?_<;>try intro ht)|exact Xx|fail)))
  exact cZ [] true Px trivial Px Px (aJ.lq aJ.nil (.pure rfl))
 ·have h2:=UG m (eK.1 hv);rw[show kc m=ly m by unfold kc;rw[if_neg GC]];rw[hv]at h1;generalize ly m=rd at *;refine ao.aD 14 0 [.tmp 2,.tmp 3] Tryz.func29 ?_;((repeat'(first|refine Vd @bne_self_eq_false.{0} (X2 h1 h2) ?_|(refine Xi ?_ ?_<;>try intro ht)|exact Xx|fail)))
  all_goals exact aE rfl rfl
def UU(l:List Int)(x n:Int):cd (l++[x]) n=if x=n then cd l n else cd l n++[x]:=by
 unfold cd;rw[List.filter_append];by_cases h:x=n
 ·rw[if_pos h];simp[h]
 ·rw[if_neg h];simp[h]
def L9(m:aj)(hm:VM m)(l:List Int)(hl:pf m l)(b:Int):ao Tryz.prog 68 [.agg (aq m),.tree 1 (ints l),aaC b] [] (.tree 1 (aX (il m.rules (cd l b)))) []:=by
 have hr:=hm.jq;have mj:=hl.2;have e7:=hl.1;refine ao.aD 31 0 [.tmp 6] Tryz.func68 ?_;refine Va X0 ?_;refine aM (λz:Nat=>(⟨aw [(1,.tree 1 (ints l)),(2,aaC b),(7,.ref 1 1 0 m.rules.toNat),(8,aaC z)],[.var (aq m),.arr 1 (aX (il m.rules (cd (l.take z) b)))]⟩:St)) (λz=>z<=l.length) (λz=>l.length-z) 0 (aI _) (by rw[List.take_zero,show cd [] b=[] from rfl,UW];exact Xv @aq.eq_1) ?_;intro k hk Ql an ar;have cI:=Cp m.rules (cd (l.take k) b);by_cases aK:k<l.length
 ·have hx:=mj _ (ay (l:=l) (d:=0) aK);have cN:l.take (k+1)=l.take k++[l.getD k 0]:=eG aK;have iy:=UX (xs:=cd (l.take k) b) hx.1 hx.2;have vg:=UU (l.take k) (l.getD k 0) b;rw[<- cN]at vg;generalize aS:l.getD k 0=x at *;by_cases hb:x=b
  ·rw[if_pos hb]at vg;((repeat'(first|refine Va @aS ?_|(refine Xi ?_ ?_<;>try intro ht)|exact Xx|fail)))
   all_goals try(exfalso;simp_all;done)
   all_goals exact an _ (k+1) GC GC (by rw[vg];exact Xv @aq.eq_1)
  ·rw[if_neg hb]at vg;rw[<- vg]at iy;generalize il m.rules (cd (l.take k) b)=bs at *;((repeat'(first|refine Va (X3 @aS @cI @iy) ?_|(refine Xi ?_ ?_<;>try intro ht)|exact Xx|fail)))
   all_goals try(exfalso;simp_all;done)
   all_goals try omega
   all_goals exact an _ (k+1) GC GC (Xv @aq.eq_1)
 ·obtain rfl:k=l.length:=GC;rw[rB]at cI ⊢;((repeat'(first|refine Va X0 ?_|(refine Xi ?_ ?_<;>try intro ht)|exact Xx|fail)))
  refine ar _ _ rfl ?_;clear an ar Ql;repeat(refine Xu ?_)
  generalize il m.rules (cd l b)=bs at *;refine Vb X0 ?_;exact cZ [] true Px trivial Px Px (aJ.cC (rows:=aX bs) rfl (DQ _) (by rw[yS,cI]) (iK Px) (Hb _))
def Ma(m:aj)(hm:VM m)(l:List Int):ao Tryz.prog 38 [.agg (aq m),.tree 1 (aX (il m.rules l))] [] (.bJ [.agg (aq (bN m l)),aaC 0]) []:=by
 have hr:=hm.jq;have h:=agA m (il m.rules l) hm.mb (by rw[Cp];omega);rw[show tW m (il m.rules l)=(iZ m (il m.rules l),0) by unfold tW;rw[if_neg (by rw[eK.2 hm];simp),if_neg (by rw[Cp];omega)]]at h;exact h
def agB(m:aj)(hm:VM m)(l:List Int)(hl:pf m l)(b:Int):ao Tryz.prog 37 [.agg (aq m),.tree 1 (ints l),aaC b] [] (.lit (.bool (jW m (cd l b)))) []:=by
 have h1:=L9 m hm l hl b;have h2:=Ma m hm (cd l b);have pd:=xQ hm (cd l b);have h3:=agC _ pd;unfold jW;generalize il m.rules (cd l b)=kb at *;generalize bN m (cd l b)=r at *;generalize fO r r.cls.length []=bf at *;refine ao.aD 27 0 [.tmp 6] Tryz.func37 ?_;repeat'(first|((fail_if_success (first|refine eT 1 ?_|refine eU 1 ?_));refine Xr X0 ?_;intro K hK)|(refine hK _ ?_;clear hK K)|refine Xy ?_|fail)
 refine bY (aF.mR 3 0 (cells:=aq m) aau (by simp only[Kc,simprocAttr]) (by simp[aq])) ?_;refine bY (σ':=⟨aw [(1,.tree 1 (ints l)),(2,aaC b),(3,.cq (aq m)),(6,.lit (.bool false))],[]⟩) (Xs false [] X0) ?_;refine kv [0,1,4,5] (.take 0 (.take 1 (.take 2 (.take 3 (.take 4 (.take 5 (.take 6 (.take 7 (.take 8 (.take 9 (.take 10 (.take 11 .nil)))))))))))) rfl Px (by decide +kernel) ?_;simp(disch:=omega)only[Ac,↓Pc,simprocAttr,Pw,↓Lq,aq];refine bZ h1 rfl rfl ?_;simp(disch:=omega)only[Ac,↓Pc,simprocAttr,Pw,↓Lq,aq];refine bZ h2 rfl rfl ?_;simp(disch:=omega)only[Ac,↓Pc,simprocAttr,Pw,↓Lq,aq];repeat(refine Xu ?_)
 refine Vd X0 h3 ?_;exact aE rfl rfl
def af6(m:aj)(hm:VM m):ao Tryz.prog 30 [.agg (aq m)] [] (.bJ [.tree 1 (ints (wv m).1),aaC (wv m).2]) []:=by
 have hv:=wx m hm.mb;rw[eK.2 hm]at hv;have hr:=hm.jq;have rU:=Md hm;have UY:=λl (hl:pf m l) b=>agB m hm l hl b;generalize ak:wv m=res;unfold wv at ak;refine ao.aD 60 0 [.tmp 2,.tmp 3] Tryz.func30 ?_;((repeat'(first|refine Vc X0 hv ?_|(refine Xi ?_ ?_<;>try intro ht)|exact Xx|fail)))
 refine bY (aF.nil 5 1 (by simp only[Kc,simprocAttr]) Px) ?_;refine aM (λz:Nat=>(⟨aw [(1,.ptr 0 0 0),(5,.ref 1 1 0 ((aW z).map λ(i:Nat)=>(i:Int)).length),(6,aaC z)],[.var (aq m),.arr 1 (ints ((aW z).map λ(i:Nat)=>(i:Int)))]⟩:St)) (λz=>(z:Int)<=m.rules) (λz=>m.rules.toNat-z) 0 GC (Xv @aq.eq_1) ?_;intro k hk Ql an ar;have cI:((aW k).map λ(i:Nat)=>(i:Int)).length=k:=GF;have lp:((aW (k+1)).map λ(i:Nat)=>(i:Int))=((aW k).map λ(i:Nat)=>(i:Int))++[(k:Int)]:=by rw[List.range_succ,List.map_append];rfl
 by_cases aK:(k:Int)<m.rules
 ·generalize hY:((aW k).map λ(i:Nat)=>(i:Int))=Y at *;((repeat'(first|refine Va X0 ?_|(refine Xi ?_ ?_<;>try intro ht)|exact Xx|fail)))
  all_goals try omega
  exact an _ (k+1) GC GC (by rw[lp];exact Xs false [0,3] @aq.eq_1)
 obtain rfl:k=m.rules.toNat:=GC;have fX:((aW m.rules.toNat).map λ(i:Nat)=>(i:Int))=gY m:=rfl;rw[fX]at cI ⊢;clear lp fX hk;((repeat'(first|refine Va X0 ?_|(refine Xi ?_ ?_<;>try intro ht)|exact Xx|fail)))
 refine ar _ _ rfl ?_;clear an ar Ql;repeat(refine Xu ?_)
 generalize hA:gY m=A at *;refine bY (aF.Kr 5 1 1 (rows:=ints A) rfl (by rw[lI];simp only[Kc,simprocAttr]) (rH _) (sL _)) ?_;refine bY (aF.mR 1 0 (cells:=aq m) aau (by simp only[Kc,simprocAttr]) (by simp[aq])) ?_;refine bY (σ':=⟨aw [(1,.cq (aq m)),(5,.tree 1 (ints A))],[]⟩) (Xs false [] X0) ?_;have rV:=UY A rU (-1);cases hb:jW m (cd A (-1));rotate_left
 ·rw[hb]at rV;rw[if_pos hb]at ak;subst ak;((repeat'(first|refine Vd X0 rV ?_|(refine Xi ?_ ?_<;>try intro ht)|exact Xx|fail)))
  exact cZ [] true Px trivial Px Px (aJ.lq aJ.nil (.pure rfl))
 rw[hb]at rV;rw[if_neg (by rw[hb];simp)]at ak;((repeat'(first|refine Vc @aq.eq_1 rV ?_|(refine Xi ?_ ?_<;>try intro ht)|exact Xx|fail)))
 clear rV hb;have hAd:∀ i:Nat,(i:Int)<m.rules->A.drop i=(i:Int)::A.drop (i+1):=λi hi=>by
  have h1:i<A.length:=GC;rw[cP A i 0 h1,<- hA];unfold gY;congr 1;rw[List.getD_eq_getElem?_getD,List.getElem?_map,List.getElem?_range GC];rfl
 refine aM (λz:Nat×List Int=>(⟨aw [(1,.cq (aq m)),(5,.tree 1 (ints z.2)),(7,aaC z.1)],[]⟩:St))
  (λz=>(z.1:Int)<=m.rules/\pf m z.2/\(sX m (A.drop z.1) z.2,(0:Int))=res) (λz=>m.rules.toNat-z.1) (0,A) ⟨GC,rU,ak⟩ (Xv @aq.eq_1) ?_
 rintro⟨i,l⟩⟨hi,hl,rL⟩Ql an ar;dsimp only at hi hl rL ⊢;by_cases hi':(i:Int)<m.rules
 ·rw[hAd i hi',sX]at rL;have xT:=UY l hl (i:Int);have ve:=hl.cd (i:Int);have xU:=hl.1;cases hb:jW m (cd l (i:Int));rotate_left
  ·rw[hb]at xT;rw[if_pos hb]at rL;((repeat'(first|refine Vc @aq.eq_1 xT ?_|(refine Xi ?_ ?_<;>try intro ht)|exact Xx|fail)))
   exact an _ (i+1,l) ⟨PA,hl,rL⟩ PA (Xv @aq.eq_1)
  rw[hb]at xT;rw[if_neg (by rw[hb];simp)]at rL;((repeat'(first|refine Vc @aq.eq_1 xT ?_|(refine Xi ?_ ?_<;>try intro ht)|exact Xx|fail)))
  refine bY (aF.nil 8 1 (by simp only[Kc,simprocAttr]) Px) ?_;refine aM (λz:Nat=>(⟨aw [(1,.cq (aq m)),(5,.tree 1 (ints l)),(7,aaC i),(8,.ref 0 1 0 (cd (l.take z) i).length),(9,aaC z)],[.arr 1 (ints (cd (l.take z) i))]⟩:St)) (λz=>z<=l.length) (λz=>l.length-z) 0 (aI _) (Xv @aq.eq_1) ?_;intro k hk cJ ba bd;by_cases aK:k<l.length
  ·have vg:=UU (l.take k) (l.getD k 0) i;rw[<- show l.take (k+1)=l.take k++[l.getD k 0] from eG aK]at vg;have xV:(cd (l.take k) i).length<=1000:=by
    refine Nat.le_trans (List.length_filter_le _ _) ?_;rw[List.length_take];omega
   generalize aS:l.getD k 0=x at *;generalize cd (l.take k) i=w at *;by_cases hx:x=i
   ·rw[if_pos hx]at vg;((repeat'(first|refine Va @aS ?_|(refine Xi ?_ ?_<;>try intro ht)|exact Xx|fail)))
    all_goals try(exfalso;simp_all;done)
    all_goals exact ba _ (k+1) GC GC (by rw[vg];exact Xv @aq.eq_1)
   ·rw[if_neg hx]at vg;((repeat'(first|refine Va @aS ?_|(refine Xi ?_ ?_<;>try intro ht)|exact Xx|fail)))
    all_goals try(exfalso;simp_all;done)
    all_goals try omega
    all_goals exact ba _ (k+1) GC GC (by rw[vg];exact Xs false [2] X0)
  ·obtain rfl:k=l.length:=GC;rw[rB];((repeat'(first|refine Va X0 ?_|(refine Xi ?_ ?_<;>try intro ht)|exact Xx|fail)))
   refine bd _ _ rfl ?_;clear ba bd;repeat(refine Xu ?_)
   refine bY (aF.Kr 8 0 1 (rows:=ints (cd l i)) rfl (by rw[lI];simp only[Kc,simprocAttr]) (rH _) (sL _)) ?_;refine Va X0 ?_;exact an _ (i+1,cd l i) ⟨PA,ve,rL⟩ PA (Xs false [] X0)
 ·rw[cR GC,sX]at rL;((repeat'(first|refine Va @aq.eq_1 ?_|(refine Xi ?_ ?_<;>try intro ht)|exact Xx|fail)))
  refine ar _ _ rfl ?_;clear an ar Ql;repeat(refine Xu ?_)
  refine Vb X0 ?_;subst rL;exact aE rfl rfl
end T

