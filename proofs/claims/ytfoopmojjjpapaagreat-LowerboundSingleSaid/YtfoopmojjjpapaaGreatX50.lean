import Derived.Test.YtfoopmojjjpapaaGreatX49
import Derived.Test.YtfoopmojjjpapaaGreatX43
set_option linter.all false
set_option maxHeartbeats 0
set_option maxRecDepth 20000
open Option renaming getD_none→GH,getD_some→lV,map_some→eH
open Bool renaming not_false→kB,not_true→iN
open Int renaming min_eq_left→Kr
open Go Go.Am Go.Proofs
namespace T
def anK{m:ah}{P:List Nd}:∀ (l:dH) (x:List (List Bool)),dh m x->dh m (p7 P l x):=by
 intro l
 induction l with
 |nil=>exact λx h=>h
 |cons a l ih=>exact λx h=>ih _ (HX h (Mk _ _ _))
def anL {m:ah} {P:List Nd} {up:dH} {i:Nat} (h:wm m P up i=none):∀ j,i<=j->wm m P up j=none:=by
  intro j hj
  induction j with
  | zero => obtain rfl : i = 0 := by omega
            exact h
  | succ q ih =>
    by_cases e:i=q+1
    · subst e;exact h
    · rw[ad6,ih GK];rfl
def DH(m:ah)(P:List Nd):Int×Bool:=if iR m=0 then iZ m P else(0,false)
def SQ(m:ah)(P:List Nd)(hm:MB m)(hP:PB P)(BF:∀ x left,x∈P->VM m->dh m left->Holds Tryz.prog 54 [.agg (an m),.agg (aB x),.tree 1 (rowsOf aC left)] [] (.lit (.bool (mh m x left))) []):
  Holds Tryz.prog 27 [.agg (an m),.agg (aJ P)] [] (.bD [Qf (DH m P).1,.lit (.bool (DH m P).2)]) []:=by
 have xp:=hP.C6;have h1:=Ez m hm;generalize au:DH m P=res;unfold DH at au;refine Holds.aM 68 0 [.tmp 4,.tmp 5] Tryz.func27 ?_;by_cases hv:iR m=0;rotate_left
 ·rw[if_neg hv]at au;subst au;generalize iR m=e at *;((repeat'(first|refine Vd @aJ.eq_1 h1 ?_|(refine Xi ?_ ?_<;>try intro ht)|exact Xx|fail)))
  exact aO rfl rfl
 rw[if_pos hv]at au;rw[hv]at h1;have cP:=nu.1 hv;have h2:=anM m P cP hP;unfold iZ at au;unfold aJ at h2;cases hf:nJ m P with
 |none =>
  rw[hf]at au h2;simp only[Option.isSome_none,Option.isSome_some,GH,lV]at h2;dsimp only at au;subst au;((repeat'(first|refine Vd (X4 @aJ.eq_1 @bne_self_eq_false.{0} @kB @iN) (X2 h1 h2) ?_|(refine Xi ?_ ?_<;>try intro ht)|exact Xx|fail)))
  all_goals exact aO rfl rfl
 |some up =>
  rw[hf]at au h2;simp only[Option.isSome_none,Option.isSome_some,GH,lV]at h2;dsimp only at au;have hlen:=(xy (DI hf)).2;((repeat'(first|refine Vc (X4 @aJ.eq_1 @bne_self_eq_false.{0} @kB @iN) (X2 h1 h2) ?_|(refine Xi ?_ ?_<;>try intro ht)|exact Xx|fail)))
  refine aR (λz:Nat×Int=>(⟨ao [(2,.ptr 0 0 0),(3,.ptr 1 0 0),(6,.tree 2 (rowsOf bd up)),(8,Qf z.2),(9,Qf z.1)],[.var (an m),.var (aJ P)]⟩:St))
   (λz=>z.1<=P.length/\wm m P up z.1=some z.2/\z.2<=1099511627776) (λz=>P.length-z.1) (0,1099511627776) ⟨Nat.zero_le _,rfl,Int.le_refl _⟩ (Xv @aJ.eq_1) ?_
  rintro⟨i,b⟩⟨hi,lL,fN⟩Ql ak aq;dsimp only at hi lL fN ⊢;by_cases ar:i<P.length;rotate_left
  ·obtain rfl:i=P.length:=GK;rw[lL]at au;dsimp only at au;((repeat'(first|refine Va @aJ.eq_1 ?_|(refine Xi ?_ ?_<;>try intro ht)|exact Xx|fail)))
   refine aq _ _ rfl ?_;clear ak aq Ql;repeat(refine Xu ?_)
   subst au;refine Vb X0 ?_;exact aO rfl rfl
  have bR:=aF (l:=P) (i:=i) (d:=default) ar;have b2:=hP.c9 _ bR;have b3:=hP.a7 _ bR;have vU:=anN m P up i hm cP hP hf ar;have kG:dh m (wo m P up i):=anK _ _ (Ey cP);have DJ:=BF _ (wo m P up i) bR cP kG;have nK:=ad6 m P up i;rw[lL]at nK;have nK:wm m P up (i+1)=(xR m (nd P i) (wo m P up i)).map (min b):=nK;have ig:wm m P up (i+1)=none->res=(0,false):=λh=>by
   rw[<- au,anL h _ GK]
  unfold nd at nK;unfold aJ at vU;generalize ij:wo m P up i=left at *;have hval:=Tf m left (P.getD i default).c9 hm (Te cP kG) b2;have hvt:b8 m left (P.getD i default).c9=gH m left (P.getD i default).c9:=by
   unfold b8 lg;rw[if_neg (by rw[if_neg (by rw[hv];simp),if_pos kG];simp)]
  rw[hvt]at hval;generalize bZ:P.getD i default=x at *;have ki:∀ n,xR m x left=some n->n<=1099511627776->True:=λ_ _ _=>trivial;unfold xR at nK;generalize sM:mh m x left=cr at *;obtain⟨c,kids,c9,a7,cells⟩:=x;dsimp only at b2 b3 hval nK hvt;generalize gH m left c9=lt at *;unfold aB at DJ;dsimp only at DJ;by_cases fj:c = -1;rotate_left
  ·rw[if_pos fj,eH,Kr fN]at nK;((repeat'(first|refine Va (X3 @aJ.eq_1 @bZ @aB.eq_1) ?_|(refine Xi ?_ ?_<;>try intro ht)|exact Xx|fail)))
   all_goals exact ak _ (i+1,b) ⟨PW,nK,fN⟩ PW (Xs false [0,1] @aJ.eq_1)
  rw[if_neg (λh=>h fj)]at nK;by_cases hg:0<a7.length
  ·rw[if_pos hg]at nK;cases cr
   ·have hr:=ig nK;subst hr;((repeat'(first|refine Vc (X5 @aJ.eq_1 @bZ @aB.eq_1 @kB @iN) (X2 vU DJ) ?_|(refine Xi ?_ ?_<;>try intro ht)|exact Xx|fail)))
    all_goals
     repeat(refine Xu ?_)
     refine Vb X0 ?_;exact aO rfl rfl
   ·rw[if_pos rfl,eH,Kr fN]at nK;((repeat'(first|refine Vc (X5 @aJ.eq_1 @bZ @aB.eq_1 @kB @iN) (X2 vU DJ) ?_|(refine Xi ?_ ?_<;>try intro ht)|exact Xx|fail)))
    all_goals exact ak _ (i+1,b) ⟨PW,nK,fN⟩ PW (Xs false [0,1] @aJ.eq_1)
  ·rw[if_neg hg]at nK;obtain⟨l1,l2⟩:=lt;dsimp only at nK hval;by_cases hz:l2=0
   ·rw[if_pos hz,eH]at nK;subst hz;((repeat'(first|refine Vc (X5 @aJ.eq_1 @bZ @aB.eq_1 @kB (X2 @iN @bne_self_eq_false.{0})) (X2 vU hval) ?_|(refine Xi ?_ ?_<;>try intro ht)|exact Xx|fail)))
    all_goals exact ak _ (i+1,min b l1) ⟨PW,nK,PW⟩ PW (Xs false [0,1] @aJ.eq_1)
   ·rw[if_neg hz]at nK;have hr:=ig nK;subst hr;((repeat'(first|refine Vc (X5 @aJ.eq_1 @bZ @aB.eq_1 @kB @iN) (X2 vU hval) ?_|(refine Xi ?_ ?_<;>try intro ht)|exact Xx|fail)))
    all_goals
     repeat(refine Xu ?_)
     refine Vb X0 ?_;exact aO rfl rfl
def SS(m:ah)(P:List Nd):DH m P=nA m P:=by
 unfold DH;by_cases hv:iR m=0
 ·rw[if_pos hv,anO (nu.1 hv)]
 ·rw[if_neg hv];have hw:pI m P (gy m P) 1099511627776=(1099511627776,false):=if_neg λh=>hv h.1;unfold nA;rw[hw,if_neg GM]
end T

