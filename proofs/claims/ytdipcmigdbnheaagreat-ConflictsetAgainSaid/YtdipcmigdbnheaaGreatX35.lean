import Derived.Test.YtdipcmigdbnheaaGreatX34
import Derived.Test.YtdipcmigdbnheaaGreatX29
import Derived.KernelRfl
set_option linter.all false
set_option maxHeartbeats 0
set_option maxRecDepth 20000
open Nat renaming zero_le→aQ
open List renaming replicate→b6,map_nil→lX,nil_append→da
open Go Go.Am Go.Proofs
namespace T
def Zh(l:List Bool)(hl:l.length<1000000):an Tryz.prog 161 [.tree 1 (aY l),.lit (.bool true)] [] (aa3 (p8 l 0)) []:=by
 generalize ao:p8 l 0=res;refine an.aF 19 0 [.tmp 4] Tryz.func161 ?_;refine Vb X0 ?_;refine aW (λk:Nat=>(⟨ax [(0,.tree 1 (aY l)),(1,.lit (.bool true)),(7,aa3 l.length),(8,aa3 k)],[]⟩:St)) (λk=>k<=l.length/\p8 (l.drop k) k=res) (λk=>l.length-k) 0 ⟨aQ _,ao⟩ (Xv X0) ?_;rintro k⟨hk,hr⟩Ql aq au;by_cases aJ:k<l.length
 ·have hd:=cS l k false aJ;generalize gJ:l.getD k false=b at *;rw[hd,p8]at hr;cases b
  ·rw[if_neg Jd]at hr;((repeat'(first|refine Va @gJ ?_|(refine Xi ?_ ?_<;>try intro ht)|exact Xx|fail)))
   all_goals try(exfalso;simp_all;done)
   all_goals exact aq _ (k+1) ⟨I6,hr⟩ I6 (Xv X0)
  ·rw[if_pos rfl]at hr;((repeat'(first|refine Va @gJ ?_|(refine Xi ?_ ?_<;>try intro ht)|exact Xx|fail)))
   all_goals try(exfalso;simp_all;done)
   all_goals
    repeat(refine Xu ?_)
    refine Vb X0 ?_;exact aO rfl (by rw[hr])
 ·((repeat'(first|refine Va X0 ?_|(refine Xi ?_ ?_<;>try intro ht)|exact Xx|fail)))
  rw[List.drop_eq_nil_of_le I6,p8]at hr;refine au _ _ rfl ?_;clear aq au Ql;repeat(refine Xu ?_)
  refine Vb X0 ?_;exact aO rfl (by rw[hr])
def Zi{left:List (List Bool)}{i:Nat}(h:i<left.length):(ints (iD (left.take i)++b6 (left.length-i) 0)).set i [aa3 (p8 (left.getD i default) 0)]=ints (iD (left.take (i+1))++b6 (left.length-(i+1)) 0):=by
 rw[iB h,show left.length-i=(left.length-(i+1))+1 by omega,List.replicate_succ];unfold iD ints;rw[<- List.map_set];congr 1;rw[List.map_append,List.set_append_right _ _ aaZ];simp only[List.length_map,List.length_take,Nat.min_eq_left (Nat.le_of_lt h),Nat.sub_self,List.set_cons_zero,List.map_cons,lX,List.append_assoc,List.cons_append,da]
def Zj(left:List (List Bool))(hl:left.length<=24)(hw:∀ l∈left,l.length<=24):an Tryz.prog 105 [.tree 1 (rowsOf bd left)] [] (.ref 0 1 0 left.length) [.arr 1 (ints (iD left))]:=by
 refine an.aF 23 0 [.tmp 2] Tryz.func105 ?_;refine Vb X0 ?_;refine aW (λk:Nat=>(⟨ax [(3,.ref 0 1 0 left.length),(9,.tree 1 (rowsOf bd left)),(10,aa3 left.length),(11,aa3 k)],[.arr 1 (ints (iD (left.take k)++b6 (left.length-k) 0))]⟩:St)) (λk=>k<=left.length) (λk=>left.length-k) 0 (aQ _) (by rw[List.take_zero];unfold iD;simp only[lX,da,Nat.sub_zero];exact Xs false [0] @BZ) ?_;rintro k hk Ql aq au;by_cases aJ:k<left.length
 ·have hm:=hw _ (aC (d:=default) aJ);have gx:=Zh (left.getD k default) I6;have gr:=Zi aJ;have hlen:(ints (iD (left.take k)++b6 (left.length-k) 0)).length=left.length:=by unfold iD ints;simp;omega
  have Zk:(ints (iD (left.take k)++b6 (left.length-k) 0))[k]?=some [aa3 0]:=by
   unfold iD ints;rw[List.getElem?_map,List.getElem?_append_right aaZ,List.getElem?_replicate,if_pos aaZ];rfl
  generalize hA:ints (iD (left.take k)++b6 (left.length-k) 0)=A at *;generalize bG:left.getD k default=row at *;generalize p8 row 0=x at *;((repeat'(first|refine Vc (X4 @bG @bd.eq_1 @hlen @Zk) gx ?_|(refine Xi ?_ ?_<;>try intro ht)|exact Xx|fail)))
  all_goals exact aq _ (k+1) I6 I6 (by rw[<- gr];exact Xv X0)
 ·((repeat'(first|refine Va X0 ?_|(refine Xi ?_ ?_<;>try intro ht)|exact Xx|fail)))
  refine au _ _ rfl ?_;clear aq au Ql;repeat(refine Xu ?_)
  rw[List.take_of_length_le I6,show left.length-k=0 by omega,List.replicate_zero,List.append_nil];refine Vb X0 ?_;exact Xw false [0] X0
end T

