import Derived.Test.YtdipcmigdbnheaaGreatX13
import Derived.Test.YtdipcmigdbnheaaGreatX17
set_option linter.all false
set_option maxHeartbeats 0
set_option maxRecDepth 20000
open Go Go.Am Go.Proofs
namespace T
def SP(x:Int):an Tryz.prog 174 [aa3 x] [] (.agg (bx (ga x))) []:=by
 refine an.aF 7 0 [.cell 2 230] Tryz.func174 ?_;refine Vb X0 ?_;simp(disch:=omega)only[Ac,↓Pc,simprocAttr,bx,ga,dK];exact aO rfl rfl
def SQ(l:List Nm)(iT:l.length<9223372036854775808):an Tryz.prog 177 [.tree 2 (rowsOf bx l)] [] (.agg (bx (qf l))) []:=by
 refine an.aF 30 0 [.cell 2 230] Tryz.func177 ?_;refine Vb X0 ?_;refine aW (λi:Nat=>(⟨ax [(2,.ptr 0 0 0),(3,.ptr 1 0 0),(7,.tree 2 (rowsOf bx l)),(8,aa3 l.length),(9,aa3 i)],[.var [aa3 0,.lit (.bool false)],.var (bx (qf (l.take i)))]⟩:St)) (λi=>i<=l.length) (λi=>l.length-i) 0 (Nat.zero_le _) (Xv @List.take_zero.{0}) ?_;rintro i hi Ql aq au;by_cases hi':i<l.length
 ·have h1:=iB hi';have h3:=abj (l.take i) (l.getD i default);rw[<- h1]at h3;generalize qf (l.take i)=b at *;generalize cG:l.getD i default=p at *;unfold yH at h3;obtain⟨b1,b2⟩:=b;obtain⟨p1,p2⟩:=p;dsimp only at h3 ⊢;unfold bx;dsimp only;by_cases bq:p1<b1;all_goals
   cases p2<;>cases b2
  all_goals
   simp[bq]at h3;((repeat'(first|refine Va (X2 @cG @bx.eq_1) ?_|(refine Xi ?_ ?_<;>try intro ht)|exact Xx|fail)))
   all_goals
    refine aq _ (i+1) I6 I6 ?_;simp only[h3];exact Xs false [0,1] @bx.eq_1
 ·((repeat'(first|refine Va @bx.eq_1 ?_|(refine V2 @bx.eq_1 ?_ ?_<;>try with_reducible intro hb)|(refine Xi ?_ ?_<;>try intro ht)|exact Xx|fail)))
  refine au _ _ rfl ?_;clear aq au Ql;repeat(refine Xu ?_)
  rw[List.take_of_length_le I6];refine Vb @bx.eq_1 ?_;simp(disch:=omega)only[Ac,↓Pc,simprocAttr,bx,dK];exact aO rfl rfl
end T

