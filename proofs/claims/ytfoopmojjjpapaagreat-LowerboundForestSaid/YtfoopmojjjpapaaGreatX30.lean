import Derived.Test.YtfoopmojjjpapaaGreatX26
set_option linter.all false
set_option maxHeartbeats 0
set_option maxRecDepth 20000
open Nat renaming zero_le→aS,sub_self→iq
open List renaming replicate→aI,replicate_zero→yX,length_replicate→mL
open Go Go.Am Go.Proofs
namespace T
def afQ(m:aj)(hm:MB m):Holds Tryz.prog 12 [.agg (ay m)] [] (.tree 1 (rowsOf aE (dR m))) []:=by
 have h1:=Nc m hm;have xf:=hm.cls;generalize au:dR m=res;unfold dR at au;refine Holds.aQ 38 0 [.tmp 2] Tryz.func12 ?_;by_cases hv:j6 m=0;rotate_left
 ·rw[if_neg hv]at au;rw[<- au];generalize j6 m=e at *;((try revert hK K);(repeat'(first|refine Vd X0 h1 ?_|(refine V2 X0 ?_ ?_<;>try with_reducible intro hb)|(refine Xi ?_ ?_<;>try intro ht)|refine VD ?_ ?_|exact Xx|fail))<;>try with_reducible intro K hK)
  all_goals try(exfalso;omega)
  exact xS [] true Fs trivial Fs Fs cC.nil
 rw[if_pos hv]at au;rw[hv]at h1;have cf:=oB.1 hv;have s8:=cf.cls;((try revert hK K);(repeat'(first|refine Vd @bne_self_eq_false.{0} h1 ?_|(refine V2 @bne_self_eq_false.{0} ?_ ?_<;>try with_reducible intro hb)|(refine Xi ?_ ?_<;>try intro ht)|refine VD ?_ ?_|exact Xx|fail))<;>try with_reducible intro K hK)
 refine bd (λz:Nat×List (List Bool)=>(⟨ar [(1,.ptr 0 0 0),(3,.ref 1 1 0 z.2.length),(4,OJ z.1)],[.var (ay m),.arr 1 (rowsOf aE z.2)]⟩:St))
  (λz=>z.1<=m.cls.length/\z.2=(dy m).take z.1) (λz=>m.cls.length-z.1) (0,[]) ⟨aS _,rfl⟩ ?_ ?_
 ·refine aH.trans (aH.nil 3 1 (by simp only[Kc,simprocAttr]) Fs) ?_;exact Xv X0
 rintro⟨i,xs⟩⟨hi,dN⟩Ql ao ax;dsimp only at hi dN ⊢;have kO:(dy m).length=m.cls.length:=by simp[dy]
 by_cases aq:i<m.cls.length
 ·have sV:xs.length=i:=by rw[dN,List.length_take];omega
  have fP:(dy m).take (i+1)=xs++[aI (m.cls.getD i default).length true]:=by
   rw[eQ CZ,<- dN];unfold dy;rw[gn _ _ _ aq]
  have vL:=cf.opt _ (aF (d:=default) aq);generalize bf:m.cls.getD i default=c at *;((try revert hK K);(repeat'(first|refine Va (X2 @bf @bm.eq_1) ?_|(refine V2 (X2 @bf @bm.eq_1) ?_ ?_<;>try with_reducible intro hb)|(refine Xi ?_ ?_<;>try intro ht)|refine VD ?_ ?_|exact Xx|fail))<;>try with_reducible intro K hK)
  refine bd (λk:Nat=>(⟨ar [(1,.ptr 0 0 0),(3,.ref 1 1 0 xs.length),(4,OJ i),(5,.ref 2 1 0 c.length),(6,OJ k)],[.var (ay m),.arr 1 (rowsOf aE xs),.arr 1 (br (aI k true++aI (c.length-k) false))]⟩:St))
   (λk=>k<=c.length) (λk=>c.length-k) 0 (aS _) (by simp only[Nat.sub_zero,yX,List.nil_append];exact Xv X0) ?_
  rintro k hk du bE bG;have cr:(aI k true++aI (c.length-k) false).length=c.length:=Jo;by_cases bc:k<c.length
  ·have iT:(aI k true++aI (c.length-k) false).set k true=aI (k+1) true++aI (c.length-(k+1)) false:=by
    rw[List.set_append_right _ _ Fl,mL,iq,show c.length-k=(c.length-(k+1))+1 by omega,List.replicate_succ,List.set_cons_zero,List.replicate_succ',List.append_assoc];rfl
   ((try revert hK K);(repeat'(first|refine Va (X2 @cr @r9) ?_|(refine V2 (X2 @cr @r9) ?_ ?_<;>try with_reducible intro hb)|(refine Xi ?_ ?_<;>try intro ht)|refine VD ?_ ?_|exact Xx|fail))<;>try with_reducible intro K hK)
   rw[iT];exact bE _ (k+1) CZ CZ (Xv X0)
  ·obtain rfl:k=c.length:=CZ;((try revert hK K);(repeat'(first|refine Va X0 ?_|(refine V2 X0 ?_ ?_<;>try with_reducible intro hb)|(refine Xi ?_ ?_<;>try intro ht)|refine VD ?_ ?_|exact Xx|fail))<;>try with_reducible intro K hK)
   refine bG _ _ rfl ?_;clear bE bG du;repeat(first|refine Xu ?_)
   rw[iq,yX,List.append_nil]at *;refine df (σ':=⟨ar [(1,.ptr 0 0 0),(3,.ref 1 1 0 xs.length),(4,OJ i),(5,.tree 1 (br (aI c.length true)))],[.var (ay m),.arr 1 (rowsOf aE xs)]⟩) (Xs true [0,1] @mL.{0}) ?_;((try revert hK K);(repeat'(first|refine Va @NO ?_|(refine V2 @NO ?_ ?_<;>try with_reducible intro hb)|(refine Xi ?_ ?_<;>try intro ht)|refine VD ?_ ?_|exact Xx|fail))<;>try with_reducible intro K hK)
   refine ao _ (i+1,xs++[aI c.length true]) ⟨Ji,fP.symm⟩ Ji ?_;exact Xs false [0,3] X0
 ·rw[List.take_of_length_le CZ]at dN;((try revert hK K);(repeat'(first|refine Va X0 ?_|(refine V2 X0 ?_ ?_<;>try with_reducible intro hb)|(refine Xi ?_ ?_<;>try intro ht)|refine VD ?_ ?_|exact Xx|fail))<;>try with_reducible intro K hK)
  refine ax _ _ rfl ?_;clear ao ax Ql;repeat(first|refine Xu ?_)
  ((try revert hK K);(repeat'(first|refine Vb X0 ?_|(refine V2 X0 ?_ ?_<;>try with_reducible intro hb)|(refine Xi ?_ ?_<;>try intro ht)|refine VD ?_ ?_|exact Xx|fail))<;>try with_reducible intro K hK)
  rw[dN,au];exact Xw true [] X0
def o0:dq:=⟨0,0,0,0,0,[]⟩
def m1:aj:=⟨[[o0,o0],[o0,o0]],[⟨0,1,0,[0,2,4,3]⟩],[],1⟩
end T

