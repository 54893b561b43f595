import Derived.Test.YtfoopmojjjpapaaGreatX45
import Derived.Test.YtfoopmojjjpapaaGreatX40
set_option linter.all false
set_option maxHeartbeats 0
set_option maxRecDepth 20000
open Option renaming getD_none→He,getD_some→lR,map_some→fc
open Bool renaming not_false→kP,not_true→iH
open Int renaming min_eq_left→KY
open Go Go.Am Go.Proofs
namespace T
def aoC{m:ah}{P:List Nd}:∀ (l:dK) (x:List (List Bool)),cK m x->cK m (qD P l x):=by
 intro l
 induction l with
 |nil=>exact λx h=>h
 |cons a l ih=>exact λx h=>ih _ (Ch h (D1 _ _ _))
def aoD {m:ah} {P:List Nd} {up:dK} {i:Nat} (h:wQ m P up i=none):∀ j,i<=j->wQ m P up j=none:=by
  intro j hj
  induction j with
  | zero => obtain rfl : i = 0 := by omega
            exact h
  | succ q ih =>
    by_cases e:i=q+1
    · subst e;exact h
    · rw[aeS,ih Ey];rfl
def Ej(m:ah)(P:List Nd):Int×Bool:=if gv m=0 then jo m P else(0,false)
def U5(m:ah)(P:List Nd)(hm:MB m)(hP:PB P)(Dw:∀ x left,x∈P->VM m->cK m left->Holds Tryz.prog 54 [.agg (ao m),.agg (ax x),.tree 1 (rowsOf aA left)] [] (.lit (.bool (ma m x left))) []):
  Holds Tryz.prog 27 [.agg (ao m),.agg (aJ P)] [] (.bC [QM (Ej m P).1,.lit (.bool (Ej m P).2)]) []:=by
 have uW:=hP.z';have h1:=Fk m hm;generalize an:Ej m P=res;unfold Ej at an;refine Holds.aM 68 0 [.tmp 4,.tmp 5] Tryz.func27 ?_;by_cases hv:gv m=0;rotate_left
 ·rw[if_neg hv]at an;subst an;generalize gv m=e at *;((repeat'(first|refine Vd @aJ.eq_1 h1 ?_|(refine Xi ?_ ?_<;>try intro ht)|exact Xx|fail)))
  exact aN rfl rfl
 rw[if_pos hv]at an;rw[hv]at h1;have b8:=kf.1 hv;have h2:=aoE m P b8 hP;unfold jo at an;unfold aJ at h2;cases hf:nZ m P with
 |none =>
  rw[hf]at an h2;simp only[Option.isSome_none,Option.isSome_some,He,lR]at h2;dsimp only at an;subst an;((repeat'(first|refine Vd (X4 @aJ.eq_1 @bne_self_eq_false.{0} @kP @iH) (X2 h1 h2) ?_|(refine Xi ?_ ?_<;>try intro ht)|exact Xx|fail)))
  all_goals exact aN rfl rfl
 |some up =>
  rw[hf]at an h2;simp only[Option.isSome_none,Option.isSome_some,He,lR]at h2;dsimp only at an;have hlen:=(ye (Ek hf)).2;((repeat'(first|refine Vc (X4 @aJ.eq_1 @bne_self_eq_false.{0} @kP @iH) (X2 h1 h2) ?_|(refine Xi ?_ ?_<;>try intro ht)|exact Xx|fail)))
  refine aQ (λz:Nat×Int=>(⟨ar [(2,.ptr 0 0 0),(3,.ptr 1 0 0),(6,.tree 2 (rowsOf bf up)),(8,QM z.2),(9,QM z.1)],[.var (ao m),.var (aJ P)]⟩:St))
   (λz=>z.1<=P.length/\wQ m P up z.1=some z.2/\z.2<=1099511627776) (λz=>P.length-z.1) (0,1099511627776) ⟨Nat.zero_le _,rfl,Int.le_refl _⟩ (Xv @aJ.eq_1) ?_
  rintro⟨i,b⟩⟨hi,l9,fN⟩Ql ak aq;dsimp only at hi l9 fN ⊢;by_cases au:i<P.length;rotate_left
  ·obtain rfl:i=P.length:=Ey;rw[l9]at an;dsimp only at an;((repeat'(first|refine Va @aJ.eq_1 ?_|(refine Xi ?_ ?_<;>try intro ht)|exact Xx|fail)))
   refine aq _ _ rfl ?_;clear ak aq Ql;repeat(refine Xu ?_)
   subst an;refine Vb X0 ?_;exact aN rfl rfl
  have bR:=aF (l:=P) (i:=i) (d:=default) au;have b2:=hP.df _ bR;have b3:=hP.a8 _ bR;have wM:=aoF m P up i hm b8 hP hf au;have lB:cK m (wR m P up i):=aoC _ _ (D5 b8);have El:=Dw _ (wR m P up i) bR b8 lB;have lj:=aeS m P up i;rw[l9]at lj;have lj:wQ m P up (i+1)=(yq m (nd P i) (wR m P up i)).map (min b):=lj;have iF:wQ m P up (i+1)=none->res=(0,false):=λh=>by
   rw[<- an,aoD h _ Ey]
  unfold nd at lj;unfold aJ at wM;generalize eY:wR m P up i=left at *;have hval:=U8 m left (P.getD i default).df hm (al3 b8 lB) b2;have hvt:cp m left (P.getD i default).df=gZ m left (P.getD i default).df:=by
   unfold cp kj;rw[if_neg (by rw[if_neg (by rw[hv];simp),if_pos lB];simp)]
  rw[hvt]at hval;generalize cd:P.getD i default=x at *;have jT:∀ n,yq m x left=some n->n<=1099511627776->True:=λ_ _ _=>trivial;unfold yq at lj;generalize qO:ma m x left=cr at *;obtain⟨c,kids,df,a8,cells⟩:=x;dsimp only at b2 b3 hval lj hvt;generalize gZ m left df=lt at *;unfold ax at El;dsimp only at El;by_cases eL:c = -1;rotate_left
  ·rw[if_pos eL,fc,KY fN]at lj;((repeat'(first|refine Va (X3 @aJ.eq_1 @cd @ax.eq_1) ?_|(refine Xi ?_ ?_<;>try intro ht)|exact Xx|fail)))
   all_goals exact ak _ (i+1,b) ⟨Hi,lj,fN⟩ Hi (Xs false [0,1] @aJ.eq_1)
  rw[if_neg (λh=>h eL)]at lj;by_cases hg:0<a8.length
  ·rw[if_pos hg]at lj;cases cr
   ·have hr:=iF lj;subst hr;((repeat'(first|refine Vc (X5 @aJ.eq_1 @cd @ax.eq_1 @kP @iH) (X2 wM El) ?_|(refine Xi ?_ ?_<;>try intro ht)|exact Xx|fail)))
    all_goals
     repeat(refine Xu ?_)
     refine Vb X0 ?_;exact aN rfl rfl
   ·rw[if_pos rfl,fc,KY fN]at lj;((repeat'(first|refine Vc (X5 @aJ.eq_1 @cd @ax.eq_1 @kP @iH) (X2 wM El) ?_|(refine Xi ?_ ?_<;>try intro ht)|exact Xx|fail)))
    all_goals exact ak _ (i+1,b) ⟨Hi,lj,fN⟩ Hi (Xs false [0,1] @aJ.eq_1)
  ·rw[if_neg hg]at lj;obtain⟨l1,l2⟩:=lt;dsimp only at lj hval;by_cases hz:l2=0
   ·rw[if_pos hz,fc]at lj;subst hz;((repeat'(first|refine Vc (X5 @aJ.eq_1 @cd @ax.eq_1 @kP (X2 @iH @bne_self_eq_false.{0})) (X2 wM hval) ?_|(refine Xi ?_ ?_<;>try intro ht)|exact Xx|fail)))
    all_goals exact ak _ (i+1,min b l1) ⟨Hi,lj,Hi⟩ Hi (Xs false [0,1] @aJ.eq_1)
   ·rw[if_neg hz]at lj;have hr:=iF lj;subst hr;((repeat'(first|refine Vc (X5 @aJ.eq_1 @cd @ax.eq_1 @kP @iH) (X2 wM hval) ?_|(refine Xi ?_ ?_<;>try intro ht)|exact Xx|fail)))
    all_goals
     repeat(refine Xu ?_)
     refine Vb X0 ?_;exact aN rfl rfl
def U7(m:ah)(P:List Nd):Ej m P=mh m P:=by
 unfold Ej;by_cases hv:gv m=0
 ·rw[if_pos hv,aoG (kf.1 hv)]
 ·rw[if_neg hv];have hw:qu m P (gP m P) 1099511627776=(1099511627776,false):=if_neg λh=>hv h.1;unfold mh;rw[hw,if_neg G9]
end T

