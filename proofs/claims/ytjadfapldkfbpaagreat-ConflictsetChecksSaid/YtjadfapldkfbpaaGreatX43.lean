import Derived.Test.YtjadfapldkfbpaaGreatX42
import Derived.Test.YtjadfapldkfbpaaGreatX37
set_option linter.all false
set_option maxHeartbeats 0
set_option maxRecDepth 20000
open Option renaming getD_none→G8,getD_some→k9,map_some→fE
open Bool renaming not_false→jP,not_true→iZ
open Int renaming min_eq_left→KC
open Go Go.Am Go.Proofs
namespace T
def ami{m:ah}{P:List Nd}:∀ (l:eh) (x:List (List Bool)),fD m x->fD m (qa P l x):=by
 intro l
 induction l with
 |nil=>exact λx h=>h
 |cons a l ih=>exact λx h=>ih _ (FN h (Jf _ _ _))
def amj {m:ah} {P:List Nd} {up:eh} {i:Nat} (h:vL m P up i=none):∀ j,i<=j->vL m P up j=none:=by
  intro j hj
  induction j with
  | zero => obtain rfl : i = 0 := by omega
            exact h
  | succ q ih =>
    by_cases e:i=q+1
    · subst e;exact h
    · rw[acV,ih G3];rfl
def Dx(m:ah)(P:List Nd):Int×Bool:=if ek m=0 then jt m P else(0,false)
def ahK(m:ah)(P:List Nd)(hm:MB m)(hP:PB P)(sk:∀ x left,x∈P->VM m->fD m left->an Tryz.prog 81 [.agg (ao m),.agg (az x),.tree 1 (rowsOf aT left)] [] (.lit (.bool (mG m x left))) []):
  an Tryz.prog 34 [.agg (ao m),.agg (aU P)] [] (.bH [aaa (Dx m P).1,.lit (.bool (Dx m P).2)]) []:=by
 have x7:=hP.sU;have h1:=Bf m hm;generalize aj:Dx m P=res;unfold Dx at aj;refine an.aC 68 0 [.tmp 4,.tmp 5] Tryz.func34 ?_;by_cases hv:ek m=0;rotate_left
 ·rw[if_neg hv]at aj;subst aj;generalize ek m=e at *;((repeat'(first|refine Vd @aU.eq_1 h1 ?_|(refine Xi ?_ ?_<;>try intro ht)|exact Xx|fail)))
  exact aE rfl rfl
 rw[if_pos hv]at aj;rw[hv]at h1;have bP:=iu.1 hv;have h2:=amk m P bP hP;unfold jt at aj;unfold aU at h2;cases hf:nY m P with
 |none =>
  rw[hf]at aj h2;simp only[Option.isSome_none,Option.isSome_some,G8,k9]at h2;dsimp only at aj;subst aj;((repeat'(first|refine Vd (X4 @aU.eq_1 @bne_self_eq_false.{0} @jP @iZ) (X2 h1 h2) ?_|(refine Xi ?_ ?_<;>try intro ht)|exact Xx|fail)))
  all_goals exact aE rfl rfl
 |some up =>
  rw[hf]at aj h2;simp only[Option.isSome_none,Option.isSome_some,G8,k9]at h2;dsimp only at aj;have hlen:=(wY (Dy hf)).2;((repeat'(first|refine Vc (X4 @aU.eq_1 @bne_self_eq_false.{0} @jP @iZ) (X2 h1 h2) ?_|(refine Xi ?_ ?_<;>try intro ht)|exact Xx|fail)))
  refine aO (λz:Nat×Int=>(⟨au [(2,.ptr 0 0 0),(3,.ptr 1 0 0),(6,.tree 2 (rowsOf aK up)),(8,aaa z.2),(9,aaa z.1)],[.var (ao m),.var (aU P)]⟩:St))
   (λz=>z.1<=P.length/\vL m P up z.1=some z.2/\z.2<=1099511627776) (λz=>P.length-z.1) (0,1099511627776) ⟨Nat.zero_le _,rfl,Int.le_refl _⟩ (Xv @aU.eq_1) ?_
  rintro⟨i,b⟩⟨hi,nJ,nI⟩Ql ak ar;dsimp only at hi nJ nI ⊢;by_cases hi':i<P.length;rotate_left
  ·obtain rfl:i=P.length:=G3;rw[nJ]at aj;dsimp only at aj;((repeat'(first|refine Va @aU.eq_1 ?_|(refine Xi ?_ ?_<;>try intro ht)|exact Xx|fail)))
   refine ar _ _ rfl ?_;clear ak ar Ql;repeat(refine Xu ?_)
   subst aj;refine Vb X0 ?_;exact aE rfl rfl
  have bJ:=aB (l:=P) (i:=i) (d:=default) hi';have b2:=hP.cR _ bJ;have b3:=hP.bh _ bJ;have zD:=aml m P up i hm bP hP hf hi';have hJ:fD m (vM m P up i):=ami _ _ (C7 bP);have Dz:=sk _ (vM m P up i) bJ bP hJ;have nZ:=acV m P up i;rw[nJ]at nZ;have nZ:vL m P up (i+1)=(xj m (nd P i) (vM m P up i)).map (min b):=nZ;have iJ:vL m P up (i+1)=none->res=(0,false):=λh=>by
   rw[<- aj,amj h _ G3]
  unfold nd at nZ;unfold aU at zD;generalize dI:vM m P up i=left at *;have hval:=ajx m left (P.getD i default).cR hm (alF bP hJ) b2;have hvt:CR m left (P.getD i default).cR=jL m left (P.getD i default).cR:=by
   unfold CR IT;rw[if_neg (by rw[if_neg (by rw[hv];simp),if_pos hJ];simp)]
  rw[hvt]at hval;generalize aS:P.getD i default=x at *;have qz:∀ n,xj m x left=some n->n<=1099511627776->True:=λ_ _ _=>trivial;unfold xj at nZ;generalize ln:mG m x left=cr at *;obtain⟨c,kids,cR,bh,cells⟩:=x;dsimp only at b2 b3 hval nZ hvt;generalize jL m left cR=lt at *;unfold az at Dz;dsimp only at Dz;by_cases eK:c = -1;rotate_left
  ·rw[if_pos eK,fE,KC nI]at nZ;((repeat'(first|refine Va (X3 @aU.eq_1 @aS @az.eq_1) ?_|(refine Xi ?_ ?_<;>try intro ht)|exact Xx|fail)))
   all_goals exact ak _ (i+1,b) ⟨Kw,nZ,nI⟩ Kw (Xs false [0,1] @aU.eq_1)
  rw[if_neg (λh=>h eK)]at nZ;by_cases hg:0<bh.length
  ·rw[if_pos hg]at nZ;cases cr
   ·have hr:=iJ nZ;subst hr;((repeat'(first|refine Vc (X5 @aU.eq_1 @aS @az.eq_1 @jP @iZ) (X2 zD Dz) ?_|(refine Xi ?_ ?_<;>try intro ht)|exact Xx|fail)))
    all_goals
     repeat(refine Xu ?_)
     refine Vb X0 ?_;exact aE rfl rfl
   ·rw[if_pos rfl,fE,KC nI]at nZ;((repeat'(first|refine Vc (X5 @aU.eq_1 @aS @az.eq_1 @jP @iZ) (X2 zD Dz) ?_|(refine Xi ?_ ?_<;>try intro ht)|exact Xx|fail)))
    all_goals exact ak _ (i+1,b) ⟨Kw,nZ,nI⟩ Kw (Xs false [0,1] @aU.eq_1)
  ·rw[if_neg hg]at nZ;obtain⟨l1,l2⟩:=lt;dsimp only at nZ hval;by_cases hz:l2=0
   ·rw[if_pos hz,fE]at nZ;subst hz;((repeat'(first|refine Vc (X5 @aU.eq_1 @aS @az.eq_1 @jP (X2 @iZ @bne_self_eq_false.{0})) (X2 zD hval) ?_|(refine Xi ?_ ?_<;>try intro ht)|exact Xx|fail)))
    all_goals exact ak _ (i+1,min b l1) ⟨Kw,nZ,Kw⟩ Kw (Xs false [0,1] @aU.eq_1)
   ·rw[if_neg hz]at nZ;have hr:=iJ nZ;subst hr;((repeat'(first|refine Vc (X5 @aU.eq_1 @aS @az.eq_1 @jP @iZ) (X2 zD hval) ?_|(refine Xi ?_ ?_<;>try intro ht)|exact Xx|fail)))
    all_goals
     repeat(refine Xu ?_)
     refine Vb X0 ?_;exact aE rfl rfl
def ahM(m:ah)(P:List Nd):Dx m P=lY m P:=by
 unfold Dx;by_cases hv:ek m=0
 ·rw[if_pos hv,amm (iu.1 hv)]
 ·rw[if_neg hv];have hw:sj m P (iN m P) 1099511627776=(1099511627776,false):=if_neg λh=>hv h.1;unfold lY;rw[hw,if_neg G9]
end T

