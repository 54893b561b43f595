import Derived.Test.YtdipcmigdbnheaaGreatX14
set_option linter.all false
set_option maxHeartbeats 0
set_option maxRecDepth 20000
open Nat renaming zero_le→aQ,not_lt_zero→vK
open List renaming take_zero→pC,getElem_of_mem→rT,length_take→iL,getD_eq_getElem?_getD→aA,getElem?_eq_getElem→bT,all_eq_true→gz,take_length→um,length_drop→vF
open Bool renaming eq_false_iff→BF
open Go Go.Am Go.Proofs
namespace T
def acL(n:Int):an Tryz.prog 169 [aa3 n] [] (.lit (.bool (n != 1))) []:=by
 refine an.aF 5 0 [.tmp 2] Tryz.func169 ?_;refine Vb X0 ?_;exact aO rfl rfl
def acG(m:aj)(P:List Nd)(hm:VM m)(hP:PB P):an Tryz.prog 125 [.agg (av m),.agg (cA P)] [] (.lit (.bool (lx m P))) []:=by
 have C4:=hP.wF;have tE:=hm.cls;generalize ao:lx m P=res;refine an.aF 136 0 [.tmp 4] Tryz.func125 ?_;by_cases a6:1<=P.length/\P.length<=20000;rotate_left
 ·rw[Sm a6]at ao;subst ao;((repeat'(first|refine Vb @cA.eq_1 ?_|(refine V2 @cA.eq_1 ?_ ?_<;>try with_reducible intro hb)|(refine Xi ?_ ?_<;>try intro ht)|exact Xx|fail)))
  all_goals exact aO rfl rfl
 obtain⟨kf,jc⟩:=a6;((repeat'(first|refine Vb @cA.eq_1 ?_|(refine V2 @cA.eq_1 ?_ ?_<;>try with_reducible intro hb)|(refine Xi ?_ ?_<;>try intro ht)|exact Xx|fail)))
 refine aW (λi:Nat=>(⟨ax [(2,.ptr 0 0 0),(3,.ptr 1 0 0),(5,.ref 2 1 0 P.length),(25,.tree 5 (rowsOf cN P)),(26,aa3 P.length),(27,aa3 i)],[.var (av m),.var (cA P),.arr 1 (ints (jG P.length (iJ (P.take i))))]⟩:St))
  (λi=>i<=P.length/\∀ a,a<i->lv m P.length a (P.getD a default)=true) (λi=>P.length-i) 0 ⟨aQ _,λa ha=>absurd ha (vK _)⟩ (by rw[pC];show aB _ _ ⟨_,[_,_,.arr 1 (ints (jG P.length []))]⟩;rw[abc];exact Xv (X2 @cA.eq_1 @BZ)) ?_
 rintro i⟨hi,jQ⟩Ql aq au;by_cases hi':i<P.length
 ·have cR:=aC (l:=P) (i:=i) (d:=default) hi';have b1:=hP.kids _ cR;have b2:=hP.eI _ cR;have b3:=hP.dh _ cR;have b4:=hP.cells _ cR;have ey:=iB hi';have Ec:∀ l,iJ (P.take (i+1))=iJ (P.take i)++l↔l=(P.getD i default).kids:=λl=>by rw[ey,Sk];exact⟨λh=>(List.append_cancel_left h).symm,λh=>by rw[h]⟩
  have wZ:=Sl (m:=m) hi';have hlen:=Sj (n:=0) hm (P.take i) λy hy=>by
   obtain⟨a,ha,rfl⟩:=rT hy;rw[iL]at ha;have:=jQ a I6;unfold lv at this;rw[Bool.and_eq_true,aA,bT I6]at this;simpa using this.1
  rw[iL]at hlen;generalize bG:P.getD i default=x at *;obtain⟨c,kids,eI,dh,cells⟩:=x;dsimp only at b1 b2 b3 b4 Ec;have Ec:=(Ec _).2 rfl;have cu:¬(mT m ⟨c,kids,eI,dh,cells⟩=true)->res=false:=λh=>by
   rw[<- ao];refine wZ ?_;unfold lv;rw[BF.2 h,Bool.false_and]
  have sC:∀ j,j<kids.length->¬(oI P.length i (kids.getD j 0)=true)->res=false:=λj hj h=>by
   rw[<- ao];refine wZ ?_;unfold lv;have:kids.all (oI P.length i)=false:=by
    rw[BF];intro h2;rw[gz]at h2;exact h (h2 _ (aC hj))
   dsimp only;rw[this,Bool.and_false]
  clear wZ;generalize w7:m.cls.getD c.toNat default=wl at *;have Ed:0<=c/\c<m.cls.length->wl.length<=24:=λh=>by rw[<- w7];exact hm.opt _ (aC I6)
  by_cases jV:mT m ⟨c,kids,eI,dh,cells⟩=true;rotate_left
  ·have hr:=cu jV;unfold mT at jV;dsimp only at jV;rw[w7]at jV;by_cases jx:c = -1
   ·rw[if_pos jx,decide_eq_true_eq]at jV;((repeat'(first|refine Va (X3 @cA.eq_1 @bG @cN.eq_1) ?_|(refine V2 (X3 @cA.eq_1 @bG @cN.eq_1) ?_ ?_<;>try with_reducible intro hb)|(refine Xi ?_ ?_<;>try intro ht)|exact Xx|fail)))
    all_goals
     repeat(refine Xu ?_)
     ((repeat'(first|refine Vb X0 ?_|fail)))
     exact aO rfl (by rw[hr])
   ·rw[if_neg jx,decide_eq_true_eq]at jV;by_cases aR:0<=c/\c<m.cls.length
    ·have Ed:=Ed aR;((repeat'(first|refine Va (X5 @cA.eq_1 @bG @cN.eq_1 @w7 @bD.eq_1) ?_|(refine V2 (X5 @cA.eq_1 @bG @cN.eq_1 @w7 @bD.eq_1) ?_ ?_<;>try with_reducible intro hb)|(refine Xi ?_ ?_<;>try intro ht)|exact Xx|fail)))
     all_goals
      repeat(refine Xu ?_)
      ((repeat'(first|refine Vb X0 ?_|fail)))
      exact aO rfl (by rw[hr])
    ·((repeat'(first|refine Va (X3 @cA.eq_1 @bG @cN.eq_1) ?_|(refine V2 (X3 @cA.eq_1 @bG @cN.eq_1) ?_ ?_<;>try with_reducible intro hb)|(refine Xi ?_ ?_<;>try intro ht)|exact Xx|fail)))
     all_goals
      repeat(refine Xu ?_)
      ((repeat'(first|refine Vb X0 ?_|fail)))
      exact aO rfl (by rw[hr])
  have Ih:=DH hm jV;have acM:(∀ j,j<kids.length->oI P.length i (kids.getD j 0)=true)->lv m P.length i ⟨c,kids,eI,dh,cells⟩=true:=λh=>by
   unfold lv;rw[jV,Bool.true_and,gz];intro k hk;obtain⟨j,hj,rfl⟩:=rT hk;have:=h j hj;rwa [aA,bT hj]at this
  dsimp only at Ih;repeat'(first|((fail_if_success (first|refine eG 7 ?_|refine eH 7 ?_));refine Xr (X3 @cA.eq_1 @bG @cN.eq_1) ?_;intro K hK)|(refine hK _ ?_;clear hK K)|(refine Xi ?_ ?_<;>try intro ht)|refine Xy ?_|refine Xd ?_ ?_|exact Xx|fail)
  (refine ZT ?_);intro Q0 e9 od
  refine B2 ⟨ax [(2,.ptr 0 0 0),(3,.ptr 1 0 0),(5,.ref 2 1 0 P.length),(6,aa3 i),(7,.ptr 3 0 0),(25,.tree 5 (rowsOf cN P)),(26,aa3 P.length),(27,aa3 i)],[.var (av m),.var (cA P),.arr 1 (ints (jG P.length (iJ (P.take i)))),.var (cN ⟨c,kids,eI,dh,cells⟩)]⟩ e9 ?_ (λkey=>?_);rotate_left
  ·(try clear e9)
   unfold mT at jV;dsimp only at jV;rw[w7]at jV;by_cases jx:c = -1
   ·rw[if_pos jx,decide_eq_true_eq]at jV;((repeat'(first|refine Va (X3 @cA.eq_1 @bG @cN.eq_1) ?_|(refine V2 (X3 @cA.eq_1 @bG @cN.eq_1) ?_ ?_<;>try with_reducible intro hb)|(refine Xi ?_ ?_<;>try intro ht)|exact Xx|fail)))
    all_goals
     refine key _ ?_;exact Xv (X2 @cA.eq_1 @cN.eq_1)
   ·rw[if_neg jx,decide_eq_true_eq]at jV;have Ed:=Ed ⟨jV.1,jV.2.1⟩;((repeat'(first|refine Va (X5 @cA.eq_1 @bG @cN.eq_1 @w7 @bD.eq_1) ?_|(refine V2 (X5 @cA.eq_1 @bG @cN.eq_1 @w7 @bD.eq_1) ?_ ?_<;>try with_reducible intro hb)|(refine Xi ?_ ?_<;>try intro ht)|exact Xx|fail)))
    all_goals
     refine key _ ?_;exact Xv (X2 @cA.eq_1 @cN.eq_1)
  (try clear e9;try clear od)
  refine Va (X2 @cA.eq_1 @cN.eq_1) ?_;refine aW (λj:Nat=>(⟨ax [(2,.ptr 0 0 0),(3,.ptr 1 0 0),(5,.ref 2 1 0 P.length),(6,aa3 i),(25,.tree 5 (rowsOf cN P)),(26,aa3 P.length),(27,aa3 i),(108,.tree 1 (ints kids)),(109,aa3 kids.length),(110,aa3 j)],[.var (av m),.var (cA P),.arr 1 (ints (jG P.length (iJ (P.take i)++kids.take j)))]⟩:St))
   (λj=>j<=kids.length/\∀ a,a<j->oI P.length i (kids.getD a 0)=true) (λj=>kids.length-j) 0 ⟨aQ _,λa ha=>absurd ha (vK _)⟩ (by rw[pC,List.append_nil];exact Xs false [0,1,2] @cA.eq_1) ?_
  rintro j⟨hj,Ue⟩eR bX bQ;by_cases dG:j<kids.length
  ·have ua:=iB dG;have hkd:kids.getD j default=kids.getD j 0:=rfl;have acO:=sC j dG;rw[hkd]at ua;have si:(iJ (P.take i)++kids.take j).length<=24*P.length+24:=by rw[List.length_append,iL];omega
   generalize iK:kids.getD j 0=k at *;by_cases A8:oI P.length i k=true;rotate_left
   ·have hr:=acO A8;unfold oI at A8;rw[decide_eq_true_eq]at A8;((repeat'(first|refine Va (X2 @cA.eq_1 @iK) ?_|(refine V2 (X2 @cA.eq_1 @iK) ?_ ?_<;>try with_reducible intro hb)|(refine Xi ?_ ?_<;>try intro ht)|exact Xx|fail)))
    all_goals
     repeat(refine Xu ?_)
     ((repeat'(first|refine Vb X0 ?_|fail)))
     exact aO rfl (by rw[hr])
   have Uf:=A8;unfold oI at Uf;rw[decide_eq_true_eq]at Uf;have Lt:=abd (n:=P.length) (l:=iJ (P.take i)++kids.take j) (j:=k.toNat) I6;have cE:=DG P.length (iJ (P.take i)++kids.take j);have n8:=abb P.length (iJ (P.take i)++kids.take j) k.toNat I6;rw[Int.toNat_of_nonneg I6,List.append_assoc,<- ua]at n8;((repeat'(first|refine Va (X3 @cA.eq_1 @iK @cE) ?_|(refine V2 (X3 @cA.eq_1 @iK @cE) ?_ ?_<;>try with_reducible intro hb)|(refine Xi ?_ ?_<;>try intro ht)|exact Xx|fail)))
   refine bX _ (j+1) ⟨I6,λa ha=>?_⟩ I6 (by rw[n8];exact Xv @cA.eq_1);by_cases e:a=j
   ·subst e;rw[iK];exact A8
   ·exact Ue a I6
  ·obtain rfl:j=kids.length:=I6;rw[um,<- Ec];((repeat'(first|refine Va X0 ?_|(refine V2 X0 ?_ ?_<;>try with_reducible intro hb)|(refine Xi ?_ ?_<;>try intro ht)|exact Xx|fail)))
   refine bQ _ _ rfl ?_;clear bX bQ eR;repeat(refine Xu ?_)
   refine Va X0 ?_;refine aq _ (i+1) ⟨I6,λa ha=>?_⟩ I6 (Xv @cA.eq_1);by_cases e:a=i
   ·subst e;rw[bG];exact acM Ue
   ·exact jQ a I6
 ·obtain rfl:i=P.length:=I6;rw[um];have mg:=Sn (m:=m) ⟨kf,jc⟩ jQ;rw[ao]at mg;have Ij:=Rg ((jG P.length (iJ P)).drop 1) 169 [] [] (λx=>x != 1) (by rw[vF,DG];omega) (λx _=>acL x);have cE:=DG P.length (iJ P);have mW:(ints (jG P.length (iJ P))).drop 1=ints ((jG P.length (iJ P)).drop 1):=by unfold ints;rw[List.map_drop]
  have wX:((jG P.length (iJ P)).drop 1).length=P.length-1:=by rw[vF,DG]
  ((repeat'(first|refine Va X0 ?_|(refine Xi ?_ ?_<;>try intro ht)|exact Xx|fail)))
  refine au _ _ rfl ?_;clear aq au Ql;repeat(refine Xu ?_)
  generalize jG P.length (iJ P)=pc at *;refine bP (σ':=⟨ax [(5,.tree 1 (ints pc))],[]⟩) (by rw[<- cE];exact Xs true [] X0) ?_;((repeat'(first|refine Vd (X4 @cE @mW @wX @Option.map_none.{0,0}) Ij ?_|refine VD ?_ ?_|fail)))
  ·intro _;trivial
  exact aO rfl (by rw[mg])
end T

