import Derived.Test.YtdipcmigdbnheaaGreatX29
import Derived.Test.YtdipcmigdbnheaaGreatX32
import Derived.Test.YtdipcmigdbnheaaGreatX34
import Derived.Test.YtdipcmigdbnheaaGreatX25
import Derived.Test.YtdipcmigdbnheaaGreatX35
set_option linter.all false
set_option maxHeartbeats 0
set_option maxRecDepth 20000
open Nat renaming le_refl→aN
open List renaming mem_append→cH,ext_getElem?→kq,getElem?_eq_none→dW,range→aW
open Go Go.Am Go.Proofs
namespace T
def EG(s:DS)(ρ:Nat->Nat):bC ρ (eP (.lit (.slice none 0 0)) 1099511627776 s)=eP (.lit (.slice none 0 0)) 1099511627776 s:=by unfold eP;split<;>rfl
def EF(s:DS):cO (eP (.lit (.slice none 0 0)) 1099511627776 s)=true:=by unfold eP;split<;>rfl
def agE(m:aj)(hm:VM m)(hw:(bW (aU m)).whole=true):ao Tryz.prog 18 [.agg (aq m)] [] (.bJ [xW (bW (aU m)),aaC 0]) []:=by
 have h1:=UZ m hm;have h2:=U0 (aU m) (wA hm) hw;have ja:=EG (bW (aU m));have mP:=EF (bW (aU m));have rW:=zn (pv:=.lit (.slice none 0 0)) (t0:=1099511627776) (s:=bW (aU m)) rfl;unfold xW at *;generalize eP (.lit (.slice none 0 0)) 1099511627776 (bW (aU m))=pa at *;generalize bW (aU m)=s at *;generalize aU m=b at *;refine ao.aD 19 0 [.cell 2 41,.tmp 3] Tryz.func18 ?_;((repeat'(first|refine Vd @bne_self_eq_false.{0} h1 ?_|(refine Xi ?_ ?_<;>try intro ht)|exact Xx|fail))<;>try with_reducible intro K hK)
 (refine Xn [] (h2) ?_;simp(disch:=omega)only[Ac,↓Pc,simprocAttr,ja])
 ((try revert hK K);(refine Vb (X2 @mP @ja) ?_))
 all_goals
  simp(disch:=omega)only[Ac,↓Pc,simprocAttr,rowOf];exact aE (by simp[gL,ju,rW]) rfl
def agF(m:aj)(hm:VM m)(hw:(bW (aU m)).whole=false):ao Tryz.prog 18 [.agg (aq m)] [] (.bJ [AO,aaC 61]) []:=by
 have h1:=UZ m hm;have h2:=U1 (aU m) (wA hm) hw;unfold AO at *;generalize aU m=b at *;refine ao.aD 19 0 [.cell 2 41,.tmp 3] Tryz.func18 ?_;((repeat'(first|refine Vd @bne_self_eq_false.{0} (X2 h1 h2) ?_|(refine Xi ?_ ?_<;>try intro ht)|exact Xx|fail)))
 all_goals
  simp(disch:=omega)only[Ac,↓Pc,simprocAttr,rowOf];exact aE rfl rfl
def agG(x n:Int):ao Tryz.prog 111 ([aaC x]++[.cq [aaC n]]) [] (.lit (.bool (x==n))) []:=by
 simp only[List.cons_append,List.nil_append];refine ao.aD 7 0 [.tmp 3] Tryz.func111 ?_;refine Vb X0 ?_;exact aE rfl rfl
def agH(g:FuncId)(bj:List AV):ao Tryz.prog 109 [.tree 1 [],.fn g bj] [] (.tree 1 []) []:=by
 have eh:=U2 [] g bj [] (λ_=>true) Px (λx hx=>by cases hx);rw[show dG (λ_:Int=>true) 0 [] = -1 from rfl,show ints []=[] from rfl]at eh;refine ao.aD 42 0 [.tmp 4] Tryz.func109 ?_;((refine Va X0 ?_)<;>try with_reducible intro K hK)
 refine ig eh (aN _) ?_;simp(disch:=omega)only[Ac,↓Pc,simprocAttr];((try revert hK K);(repeat'(first|refine Vb X0 ?_|(refine Xi ?_ ?_<;>try intro ht)|exact Xx|fail)))
 exact aE rfl rfl
def LV(l:List Int)(n:Int)(hl:l.length<=1000):ao Tryz.prog 67 [.tree 1 (ints l),aaC n] [] (.tree 1 (ints (cd l n))) []:=by
 refine ao.aD 9 0 [.tmp 4] Tryz.func67 ?_;repeat'(first|((fail_if_success (first|refine eT 1 ?_|refine eU 1 ?_));refine Xr X0 ?_;intro K hK)|(refine hK _ ?_;clear hK K)|refine Xy ?_|fail)
 refine bY (aF.mR 3 0 (cells:=[aaC n]) aau (by simp only[Kc,simprocAttr]) GF) ?_;refine bY (σ':=⟨aw [(0,.tree 1 (ints l)),(3,.cq [aaC n])],[]⟩) (Xs false [] X0) ?_;rcases Nat.eq_zero_or_pos l.length with h0|h0
 ·obtain rfl:=List.eq_nil_of_length_eq_zero h0;have hc:=agI;have hd:=agH 111 [.cq [aaC n]];rw[show cd [] n=[] from rfl,show ints []=[] from rfl];((refine Vc X0 hc ?_)<;>try with_reducible intro K hK)
  refine jn [] hd Px trivial ⟨.pure rfl,.pure rfl,trivial⟩ ?_;simp(disch:=omega)only[Ac,↓Pc,simprocAttr];((try revert hK K);(refine Vb X0 ?_))
  exact aE rfl rfl
 ·have hc:=agJ l h0 GC;have hd:=agK l [] 111 [.cq [aaC n]] (λx=>x==n) [.arr 1 (ints l)] 0 (by rw[List.append_nil];rfl) (λrow hr=>by cases hr) GC rfl (λx _=>agG x n);refine pe 3 Px _ rfl ?_;intro K hK;simp(disch:=omega)only[Ac,↓Pc,simprocAttr,List.take,List.drop];(refine Xn [] (hc) ?_;simp(disch:=omega)only[Ac,↓Pc,simprocAttr])
  refine⟨rfl,(show lP Tryz.prog 109 [.ref 0 1 0 l.length,.fn 111 [.cq [aaC n]]] (some 8) _ _ from ?_)⟩;refine rP hd ?_;rintro r ob⟨rfl,vh,rX,bk,nT⟩;refine⟨vh.1,?_⟩;have fZ:=(List.getElem?_eq_some_iff.1 bk).1;simp(disch:=omega)only[Ac,↓Pc,simprocAttr];refine hK _ ?_;clear hK K;repeat(refine Xu ?_)
  refine Vb X0 ?_;refine cZ [] true Px trivial Px Px (.snap _ _ rfl ?_);show cL _ _ (.tree 1 (rowsOf jF (cd l n))) (.ref 0 1 0 (cd l n).length);have hO:iP 1 ob 0 ob.length (.ref 0 1 0 (cd l n).length) (rowsOf jF (cd l n)):=.inr ⟨0,rX,by rw[b8],aN _,fZ,bk,λrow hr=>by
   rcases cH.1 hr with h|h
   ·exact gr _ row h
   ·exact nT row h⟩
  exact iP.cC hO (λi _ _=>iK GF) (kW _)
def UX{R:Int}{xs:List Int}{n:Int}(h0:0<=n)(h1:n<R):(il R xs).set n.toNat true=il R (xs++[n]):=by
 apply kq;intro i;unfold il;rw[List.getElem?_set];by_cases hi:i<R.toNat
 ·rw[sY _ hi,sY _ hi];by_cases e:n.toNat=i
  ·rw[if_pos e,if_pos (by simpa using by omega)];congr 1;rw[eq_comm,List.contains_eq_mem,decide_eq_true_eq,cH];right;simp;omega
  ·rw[if_neg e];congr 1;rw[List.contains_eq_mem,List.contains_eq_mem,decide_eq_decide,cH];constructor
   ·exact .inl
   ·rintro(h|h)
    ·exact h
    ·simp at h;omega
 ·rw[dW (l:=(aW R.toNat).map λ(i:Nat)=>(xs++[n]).contains (i:Int)) (by simpa using hi)];split
  ·rename_i e;rw[if_neg aar]
  ·exact dW (by simpa using hi)
def UW(R:Int):il R []=List.replicate R.toNat false:=by
 unfold il;apply kq;intro i;rw[List.getElem?_replicate];split
 ·rename_i h;rw[sY _ h];rfl
 ·rename_i h;exact dW (by simpa using h)
def Me(m:aj)(hm:VM m)(l:List Int)(hl:pf m l):ao Tryz.prog 70 [.tree 1 (ints l),.agg (aq m)] [] (.tree 1 (aX (il m.rules l))) []:=by
 have hr:=hm.jq;have mj:=hl.2;have e7:=hl.1;refine ao.aD 22 0 [.tmp 4] Tryz.func70 ?_;refine Va X0 ?_;refine aM (λz:Nat=>(⟨aw [(5,.ref 1 1 0 m.rules.toNat),(11,.tree 1 (ints l)),(12,aaC l.length),(13,aaC z)],[.var (aq m),.arr 1 (aX (il m.rules (l.take z)))]⟩:St)) (λz=>z<=l.length) (λz=>l.length-z) 0 (Nat.zero_le _) (by rw[List.take_zero,UW];exact Xv @aq.eq_1) ?_;intro k hk Ql an ar;have cI:=Cp m.rules (l.take k);by_cases aK:k<l.length
 ·have hx:=mj _ (ay (l:=l) (d:=0) aK);have cN:l.take (k+1)=l.take k++[l.getD k 0]:=eG aK;have iy:=UX (xs:=l.take k) hx.1 hx.2;rw[<- cN]at iy;generalize aS:l.getD k 0=x at *;generalize il m.rules (l.take k)=bs at *;((repeat'(first|refine Va (X3 @aS @cI @iy) ?_|(refine Xi ?_ ?_<;>try intro ht)|exact Xx|fail)))
  all_goals try omega
  exact an _ (k+1) GC GC (Xv @aq.eq_1)
 ·obtain rfl:k=l.length:=GC;rw[List.take_length]at cI ⊢;((repeat'(first|refine Va X0 ?_|(refine Xi ?_ ?_<;>try intro ht)|exact Xx|fail)))
  refine ar _ _ rfl ?_;clear an ar Ql;repeat(refine Xu ?_)
  generalize il m.rules l=bs at *;refine Vb X0 ?_;exact cZ [] true Px trivial Px Px (aJ.cC (rows:=aX bs) rfl (DQ _) (by rw[yS,cI]) (iK Px) (Hb _))
def agz(m:aj)(hm:VM m):ao Tryz.prog 108 [.agg (aq m)] [] (.tree 1 (ints (gY m))) []:=by
 have hr:=hm.jq;unfold gY;refine ao.aD 17 0 [.tmp 2] Tryz.func108 ?_;refine Va X0 ?_;refine aM (λz:Nat=>(⟨aw [(3,.ref 1 1 0 ((aW z).map λ(i:Nat)=>(i:Int)).length),(7,aaC m.rules),(8,aaC z)],[.var (aq m),.arr 1 (ints ((aW z).map λ(i:Nat)=>(i:Int)))]⟩:St)) (λz=>(z:Int)<=m.rules) (λz=>m.rules.toNat-z) 0 GC (Xv @aq.eq_1) ?_;intro k hk Ql an ar;have cI:((aW k).map λ(i:Nat)=>(i:Int)).length=k:=GF;have lp:((aW (k+1)).map λ(i:Nat)=>(i:Int))=((aW k).map λ(i:Nat)=>(i:Int))++[(k:Int)]:=by rw[List.range_succ,List.map_append];rfl
 by_cases aK:(k:Int)<m.rules
 ·generalize hY:((aW k).map λ(i:Nat)=>(i:Int))=Y at *;((repeat'(first|refine Va X0 ?_|(refine Xi ?_ ?_<;>try intro ht)|exact Xx|fail)))
  all_goals try omega
  exact an _ (k+1) GC GC (by rw[lp];exact Xs false [0,3] @aq.eq_1)
 ·obtain rfl:k=m.rules.toNat:=GC;generalize ((aW m.rules.toNat).map λ(i:Nat)=>(i:Int))=Y at *;((repeat'(first|refine Va X0 ?_|(refine Xi ?_ ?_<;>try intro ht)|exact Xx|fail)))
  refine ar _ _ rfl ?_;clear an ar Ql;repeat(refine Xu ?_)
  refine Vb X0 ?_;exact cZ [] true Px trivial Px Px (aJ.cC (rows:=ints Y) rfl (rH _) (by rw[lI]) (iK Px) (sL _))
def xQ{m:aj}(hm:VM m)(l:List Int):VM (bN m l):=vd hm _
def Mf(m:aj)(hm:VM m)(l:List Int):ao Tryz.prog 69 [.agg (aq m),.tree 1 (aX (il m.rules l))] [] (.bJ [.agg (aq (bN m l)),aaC 0]) []:=by
 have hr:=hm.jq;have h:=agL m (il m.rules l) hm.mb (by rw[Cp];omega);rw[show tW m (il m.rules l)=(iZ m (il m.rules l),0) by unfold tW;rw[if_neg (by rw[eK.2 hm];simp),if_neg (by rw[Cp];omega)]]at h;exact h
def EE(r:aj):AV:=if pT r=0 then xW (tryD r) else AO
def agM{r:aj}{q:List Int}(h:FP (aU r) q):FP r q:=⟨by rw[<- rY r];exact h.len,λj hj=>by rw[<- EM r];exact h.get j hj⟩
def agN{r:aj}(hr:VM r):rZ r (bW r).plan (bW r).bA:=(Cq hr (spl:=20000) Px (p0:=[]) (t0:=1099511627776) (.inl ⟨rfl,rfl⟩)).1
def UE(m:aj)(hm:VM m)(l:List Int)(hl:pf m l):ao Tryz.prog 66 [.agg (aq m),.tree 1 (ints l)] [] (.bJ [EE (bN m l),aaC (pT (bN m l))]) []:=by
 have h1:=Me m hm l hl;have h2:=Mf m hm l;have pd:=xQ hm l;generalize ak:EE (bN m l)=res;generalize sZ:pT (bN m l)=ree;generalize il m.rules l=kb at *;generalize bN m l=r at *;refine ao.aD 53 0 [.cell 4 41,.tmp 5] Tryz.func66 ?_;repeat'(first|((fail_if_success (first|refine eT 1 ?_|refine eU 1 ?_));refine Xr X0 ?_;intro K hK)|(refine hK _ ?_;clear hK K)|refine Xy ?_|fail)
 refine bY (aF.mR 2 0 (cells:=aq m) aau (by simp only[Kc,simprocAttr]) (by simp[aq])) ?_;refine bY (σ':=⟨aw [(1,.tree 1 (ints l)),(2,.cq (aq m)),(4,.ptr 0 0 0),(5,aaC 0)],[.var [.lit (.slice none 0 0),aaC 0,aaC 0,.lit (.slice none 0 0)]]⟩) (Xs false [1] X0) ?_;refine kv [0,2,3,4] (.take 0 (.take 1 (.take 2 (.take 3 (.take 4 (.take 5 (.take 6 (.take 7 (.take 8 (.take 9 (.take 10 .nil))))))))))) rfl Px (by decide +kernel) ?_;simp(disch:=omega)only[Ac,↓Pc,simprocAttr,Pw,↓Lq,aq];refine bZ h1 rfl rfl ?_;simp(disch:=omega)only[Ac,↓Pc,simprocAttr,Pw,↓Lq,aq];refine bZ h2 rfl rfl ?_;simp(disch:=omega)only[Ac,↓Pc,simprocAttr,Pw,↓Lq,aq];repeat(refine Xu ?_)
 clear h1 h2;refine bY (σ':=⟨aw [(4,.ptr 0 0 0),(6,.ptr 1 0 0),(7,aaC 0)],[.var [.lit (.slice none 0 0),aaC 0,aaC 0,.lit (.slice none 0 0)],.var (aq r)]⟩) (Xs false [0,1] @aq.eq_1) ?_;unfold EE at ak;unfold pT at ak sZ;cases hw:(bW (aU r)).whole
 ·rw[if_pos hw]at ak sZ;rw[if_neg Px]at ak;have h3:=agF r pd hw;unfold AO at *;((repeat'(first|refine Vd @bne_self_eq_false.{0} h3 ?_|(refine Xi ?_ ?_<;>try intro ht)|exact Xx|fail)))
  all_goals
   simp(disch:=omega)only[Ac,↓Pc,simprocAttr,rowOf];subst ak sZ;exact aE rfl rfl
 have nT:¬ (bW (aU r)).whole=false:=by rw[hw];simp
 rw[if_neg nT]at ak sZ;have h3:=agE r pd hw;have ja:=EG (bW (aU r));have mP:=EF (bW (aU r));have rW:=zn (pv:=.lit (.slice none 0 0)) (t0:=1099511627776) (s:=bW (aU r)) rfl;have vj:=agN (wA pd);unfold tryD at ak;unfold xW at h3;by_cases ht:(bW (aU r)).bA=1099511627776
 ·have hT:zs r:=.inl ht;simp only[if_pos hT,↓reduceIte]at ak sZ;unfold xW at ak;generalize eP (.lit (.slice none 0 0)) 1099511627776 (bW (aU r))=pa at *;clear hT;generalize bW (aU r)=s at *;((repeat'(first|refine Va @bne_self_eq_false.{0} ?_|(refine Xi ?_ ?_<;>try intro ht)|exact Xx|fail))<;>try with_reducible intro K hK)
  (refine Xn [] (h3) ?_;simp(disch:=omega)only[Ac,↓Pc,simprocAttr,ja])
  ((try revert hK K);(repeat'(first|refine Vb (X3 @mP @ja @bne_self_eq_false.{0}) ?_|(refine Xi ?_ ?_<;>try intro ht)|exact Xx|fail)))
  all_goals
   simp(disch:=omega)only[Ac,↓Pc,simprocAttr,rowOf];subst ak sZ;exact aE (by simp[gL,ju,rW]) rfl
 obtain⟨xX,U3,br⟩:=vj.resolve_left (λh=>ht h.2);have dZ:=agM xX;have H3:eP (.lit (.slice none 0 0)) 1099511627776 (bW (aU r))=.tree 1 (ints (bW (aU r)).plan):=by unfold eP;rw[if_pos br]
 have cm:=pd.cls;have h4:=U4 r (bW (aU r)).plan pd.mb (by rw[dZ.len];omega);rw[H8 pd dZ.pm]at h4;dsimp only at h4;rw[H3]at h3;by_cases jv:iz r (bW (aU r)).plan<1099511627776
 ·have hT:zs r:=.inr jv;simp only[if_pos hT,↓reduceIte]at ak sZ;unfold xW at ak;rw[H3]at ak;unfold iz at jv;clear hT vj xX U3 ja mP rW;generalize jX (jr r (bW (aU r)).plan) 0=tt at *;generalize jr r (bW (aU r)).plan=rl at *;generalize bW (aU r)=s at *;((repeat'(first|refine Vd @bne_self_eq_false.{0} (X2 h3 h4) ?_|(refine Xi ?_ ?_<;>try intro ht)|exact Xx|fail)))
  all_goals
   simp(disch:=omega)only[Ac,↓Pc,simprocAttr,rowOf];subst ak sZ;exact aE rfl rfl
 ·have hT:¬ zs r:=λh=>h.elim ht jv;simp only[if_neg hT]at ak sZ;unfold iz at jv;clear hT vj xX U3 ja mP rW;cases H9:(bW r).whole
  ·have h5:=U1 r pd H9;simp only[if_pos H9]at ak sZ;rw[if_neg Px]at ak;unfold AO at *;generalize jX (jr r (bW (aU r)).plan) 0=tt at *;generalize jr r (bW (aU r)).plan=rl at *;generalize bW (aU r)=s at *;((repeat'(first|refine Vd @bne_self_eq_false.{0} (X3 h3 h4 h5) ?_|(refine Xi ?_ ?_<;>try intro ht)|exact Xx|fail)))
   all_goals
    simp(disch:=omega)only[Ac,↓Pc,simprocAttr,rowOf];subst ak sZ;exact aE rfl rfl
  ·have h5:=U0 r pd H9;have hw3:¬ (bW r).whole=false:=by rw[H9];simp
   simp only[if_neg hw3,↓reduceIte]at ak sZ;have ja:=EG (bW r);have mP:=EF (bW r);have rW:=zn (pv:=.lit (.slice none 0 0)) (t0:=1099511627776) (s:=bW r) rfl;unfold xW at ak h5;generalize eP (.lit (.slice none 0 0)) 1099511627776 (bW r)=pa at *;generalize jX (jr r (bW (aU r)).plan) 0=tt at *;generalize jr r (bW (aU r)).plan=rl at *;generalize bW (aU r)=s at *;generalize bW r=s2 at *;((repeat'(first|refine Vc @bne_self_eq_false.{0} (X2 h3 h4) ?_|(refine Xi ?_ ?_<;>try intro ht)|exact Xx|fail))<;>try with_reducible intro K hK)
   (refine Xn [] (h5) ?_;simp(disch:=omega)only[Ac,↓Pc,simprocAttr,ja])
   ((try revert hK K);(refine Vb (X2 @mP @ja) ?_))
   all_goals
    simp(disch:=omega)only[Ac,↓Pc,simprocAttr,rowOf];subst ak sZ;exact aE (by simp[gL,ju,rW]) rfl
end T

