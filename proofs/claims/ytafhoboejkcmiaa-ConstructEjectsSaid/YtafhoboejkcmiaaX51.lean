import Derived.Test.YtafhoboejkcmiaaX46
import Derived.Test.YtafhoboejkcmiaaX49
import Derived.Test.YtafhoboejkcmiaaX50
set_option linter.unusedVariables false
set_option linter.unusedSimpArgs false
set_option linter.unnecessarySimpa false
set_option linter.unusedSectionVars false
set_option maxHeartbeats 64000000
set_option maxRecDepth 20000
open Go Go.Am Go.Proofs
open Nat (reduceEqDiff reduceAdd reduceLeDiff reduceMul)
open Int (reduceNeg reduceLE reduceToNat)
namespace T
theorem ejRef_len (m:Mdl) (cl o:Int):∀ (f c:Nat) (nx:List Int),(ejRef m cl o f c nx).length=nx.length
  | 0,_,_=>rfl
  | f+1,c,nx=>by rw[ejRef,ejRef_len m cl o f];split<;>simp
theorem ejCts_len (n:Nat) (cl:Int):∀ (l:List Ct) (nx r:List Int),ejCts n cl l nx=some r→r.length=nx.length
  | [],nx,r,h=>by cases h;rfl
  | c::l,nx,r,h=>by
    rw[ejCts] at h
    cases h1:ejOne n c cl (nnL nx+1) nx with
    | none=>rw[h1] at h;cases h
    | some x =>
      rw[h1] at h
      rw[ejCts_len n cl l x r h,ejOne_len _ _ _ h1]
theorem goneL_len:∀ (i:Nat) (plan nx:List Int),(goneL i plan nx).length≤plan.length
  | _,[],_=>Nat.le_refl _
  | i,o::r,nx=>by
    rw[goneL]
    have:=goneL_len (i+1) r nx
    split<;>simp only[List.length_cons]<;>omega
theorem ejT_len (m:Mdl) (plan:List Int) (cl o:Int):(ejT m plan cl o).1.length≤plan.length∧(ejT m plan cl o).2.1.length≤plan.length:=by
  unfold ejT
  split
  · exact⟨Nat.zero_le _,Nat.zero_le _⟩
  split
  · exact⟨Nat.zero_le _,Nat.zero_le _⟩
  split
  · exact⟨Nat.zero_le _,Nat.zero_le _⟩
  cases h:ejV m plan cl o with
  | none=>exact⟨Nat.zero_le _,Nat.zero_le _⟩
  | some r =>
    unfold ejV at h
    split at h
    · rw[Option.map_eq_some_iff] at h
      obtain ⟨nx,h1,rfl⟩:=h
      refine⟨?_,goneL_len _ _ _⟩
      dsimp only
      rw[ejCts_len _ _ _ _ _ h1,ejRef_len,List.length_set]
      exact Nat.le_refl _
    · cases h
def eP6 (p:Int × Int):List AV:=[.lit (.int .i64 p.1),.lit (.int .i64 p.2)]
instance:Row eP6 2:=⟨fun _=>rfl,fun x v hv=>by
  simp only[eP6,List.mem_cons,List.not_mem_nil,or_false] at hv
  rcases hv with rfl | rfl<;>exact .inl ⟨_,rfl,rfl⟩⟩
theorem ejects_law (tape raw:List Int) (cc oo:Int) (hraw:raw.length<9223372036854775808):Holds Try.prog 4 [.tree 1 (ints tape),.tree 1 (ints raw),.lit (.int .i64 cc),.lit (.int .i64 oo)] [] (.lit (.bool true)) []:=by
  refine Holds.of_body' (fn:=Try.f4) 99 0 [.tmp 8] Try.func4 rfl rfl rfl rfl rfl (by simp) ?_
  repeat' (first|((fail_if_success (first|refine W_at 3 ?_|refine W_atE 3 ?_));refine Xq X0 ?_;intro K hK)|refine Xo X0 ?_|refine Xc (light_ok _) ?_|refine Xc (awake26_ok) ?_|(refine hK _ ?_;clear hK K)|(refine Xg X0 ?_ ?_<;>try intro hb)|(refine Xi ?_ ?_<;>try intro ht)|refine XY ?_|refine Xd ?_ ?_|exact Xx|fail)
  · exact RetOK_pure' rfl rfl
  have hL:tape.length<1000000:=by omega
  repeat' (first|((fail_if_success (first|refine W_at 4 ?_|refine W_atE 4 ?_));refine Xr X0 ?_;intro K hK)|refine Xo X0 ?_|(refine hK _ ?_;clear hK K)|(refine Xg X0 ?_ ?_<;>try intro hb)|(refine Xi ?_ ?_<;>try intro ht)|refine Xy ?_|refine Xd ?_ ?_|exact Xx|fail)
  (refine Xn [] (roll_ok tape) ?_;simp (disch:=omega) only[Ac,↓Pc,simprocAttr])
  repeat' (first|((fail_if_success (first|refine W_at 4 ?_|refine W_atE 4 ?_));refine Xr X0 ?_;intro K hK)|refine Xo X0 ?_|(refine hK _ ?_;clear hK K)|(refine Xg X0 ?_ ?_<;>try intro hb)|(refine Xi ?_ ?_<;>try intro ht)|refine Xy ?_|refine Xd ?_ ?_|exact Xx|fail)
  refine W_turn (σ':=⟨slots [(1,.tree 1 (ints raw)),(2,.lit (.int .i64 cc)),(3,.lit (.int .i64 oo)),(9,.ptr 0 0 0)],[dice tape 0]⟩) (by unfold dice;exact Xv X0) ?_
  have hsome:=some26_ok tape 0 (Nat.zero_le _) hL
  refine W_region_ce 1 (by decide) _ rfl ?_
  intro K hK
  simp (disch:=omega) only[Ac,↓Pc,simprocAttr,List.take,List.drop]
  refine⟨rfl,(show callKR Try.prog 10 [.ptr 0 0 0] (some 28) _ _ from ?_)⟩
  refine callKR_sel [0] hsome (by decide) ⟨rfl,trivial⟩ ⟨.eq rfl,trivial⟩ ?_
  rintro r os ⟨m,k,hm,hk,rfl,rfl⟩
  unfold dice
  simp (disch:=omega) only[Ac,↓Pc,simprocAttr]
  refine hK _ ?_;clear hK K
  repeat (first|refine Xu ?_)
  have hmb:=hm.mb
  have h1:=planG_ok m hm.few hm.opt tape k false hk hL
  have hl1:=plF_len (L:=tape) (b:=false) m.cls k []
  generalize planF tape false m.cls k []=pf1 at *
  obtain ⟨p1,k1⟩:=pf1
  dsimp only at *
  have hfew:=hm.few
  rw[List.length_nil,Nat.zero_add] at hl1
  unfold dice at h1
  ((try revert hK K);(repeat' (first|refine Va X0 ?_|(refine V2 X0 ?_ ?_<;>try with_reducible intro hb)|(refine Xi ?_ ?_<;>try intro ht)|refine VD ?_ ?_|exact Xx|fail))<;>try with_reducible intro K hK)
  (refine Xn [0] (h1) ?_;simp (disch:=omega) only[Ac,↓Pc,simprocAttr])
  ((try revert hK K);(repeat' (first|refine Va X0 ?_|(refine V2 X0 ?_ ?_<;>try with_reducible intro hb)|(refine Xi ?_ ?_<;>try intro ht)|refine VD ?_ ?_|exact Xx|fail))<;>try with_reducible intro K hK)
  refine W_turn (σ':=⟨slots [(2,.lit (.int .i64 cc)),(3,.lit (.int .i64 oo)),(10,.ptr 0 0 0),(33,.tree 1 (intss [raw,p1])),(34,.lit (.int .i64 2)),(35,.lit (.int .i64 0))],[.var (eMdl m)]⟩) (Xs true [1] X0) ?_
  clear h1
  ((try revert hK K);(repeat' (first|refine Va X0 ?_|(refine V2 X0 ?_ ?_<;>try with_reducible intro hb)|(refine Xi ?_ ?_<;>try intro ht)|refine VD ?_ ?_|exact Xx|fail))<;>try with_reducible intro K hK)
  refine W_loopS (fun i:Nat=>(⟨slots [(2,.lit (.int .i64 cc)),(3,.lit (.int .i64 oo)),(10,.ptr 0 0 0),(33,.tree 1 (intss [raw,p1])),(34,.lit (.int .i64 2)),(35,.lit (.int .i64 i))],[.var (eMdl m)]⟩:St)) (fun i=>i≤2) (fun i=>2 - i) 0 (Nat.zero_le _) (Xv X0) ?_
  rintro i hi Ql hnl hel
  by_cases hi':i<2
  · have hpl:([raw,p1].getD i []).length<9223372036854775808:=by
      have:i=0∨i=1:=by omega
      rcases this with rfl | rfl
      · exact hraw
      · show p1.length<_;omega
    generalize hps:[raw,p1]=ps at *
    have hpsl:ps.length=2:=by rw[← hps];rfl
    generalize hpp:ps.getD i []=p at *
    have hmd1:=mod_ok cc m.cls.length (by unfold In64;omega)
    generalize modI cc m.cls.length=c3 at *
    ((try revert hK K);(repeat' (first|refine Vc @hpp hmd1 ?_|(refine V2 @hpp ?_ ?_<;>try with_reducible intro hb)|(refine Xi ?_ ?_<;>try intro ht)|refine VD ?_ ?_|exact Xx|fail))<;>try with_reducible intro K hK)
    generalize andI cc 3=c2
    generalize andI oo 3=o2
    refine W_turn (σ':=⟨slots [(2,.lit (.int .i64 cc)),(3,.lit (.int .i64 oo)),(10,.ptr 0 0 0),(33,.tree 1 (intss ps)),(34,.lit (.int .i64 2)),(35,.lit (.int .i64 i)),(12,.tree 1 (ints p)),(53,.tree 2 (rowsOf eP6 [(cc,oo),(c2,o2),(c3,0)])),(54,.lit (.int .i64 3)),(55,.lit (.int .i64 0))],[.var (eMdl m)]⟩) (Xs true [0] X0) ?_
    generalize hqs:[(cc,oo),(c2,o2),(c3,0)]=qs
    have hqsl:qs.length=3:=by rw[← hqs];rfl
    ((try revert hK K);(repeat' (first|refine Va X0 ?_|(refine V2 X0 ?_ ?_<;>try with_reducible intro hb)|(refine Xi ?_ ?_<;>try intro ht)|refine VD ?_ ?_|exact Xx|fail))<;>try with_reducible intro K hK)
    refine W_loopS (fun j:Nat=>(⟨slots [(2,.lit (.int .i64 cc)),(3,.lit (.int .i64 oo)),(10,.ptr 0 0 0),(33,.tree 1 (intss ps)),(34,.lit (.int .i64 2)),(35,.lit (.int .i64 i)),(12,.tree 1 (ints p)),(53,.tree 2 (rowsOf eP6 qs)),(54,.lit (.int .i64 3)),(55,.lit (.int .i64 j))],[.var (eMdl m)]⟩:St)) (fun j=>j≤3) (fun j=>3 - j) 0 (Nat.zero_le _) (Xv X0) ?_
    rintro j hj Ql2 hnl2 hel2
    by_cases hj':j<3
    · generalize hqq:qs.getD j default=q at *
      have h1:=Eject_ok m p q.1 q.2 hmb hpl
      have h2:=rEject_ok m p q.1 q.2 hmb hpl
      have hlen:=ejT_len m p q.1 q.2
      generalize ejT m p q.1 q.2=dv at *
      have h3:=same_ok dv.1 dv.1 (by omega)
      have h4:=same_ok dv.2.1 dv.2.1 (by omega)
      rw[decide_eq_true rfl] at h3 h4
      ((try revert hK K);(repeat' (first|refine Vc (X5 @hqq @eP6.eq_1 @bne_self_eq_false.{0} @decide_true (X2 @Bool.not_true @beq_self_eq_true.{0})) (X4 h1 h2 h3 h4) ?_|(refine V2 (X5 @hqq @eP6.eq_1 @bne_self_eq_false.{0} @decide_true (X2 @Bool.not_true @beq_self_eq_true.{0})) ?_ ?_<;>try with_reducible intro hb)|(refine Xi ?_ ?_<;>try intro ht)|refine VD ?_ ?_|exact Xx|fail))<;>try with_reducible intro K hK)
      exact hnl2 _ (j+1) (by omega) (by omega) (Xs false [0] X0)
    · ((try revert hK K);(repeat' (first|refine Va X0 ?_|(refine V2 X0 ?_ ?_<;>try with_reducible intro hb)|(refine Xi ?_ ?_<;>try intro ht)|refine VD ?_ ?_|exact Xx|fail))<;>try with_reducible intro K hK)
      refine hel2 _ _ rfl ?_
      clear hnl2 hel2 Ql2
      repeat (first|refine Xu ?_)
      ((try revert hK K);(repeat' (first|refine Va X0 ?_|(refine V2 X0 ?_ ?_<;>try with_reducible intro hb)|(refine Xi ?_ ?_<;>try intro ht)|refine VD ?_ ?_|exact Xx|fail))<;>try with_reducible intro K hK)
      exact hnl _ (i+1) (by omega) (by omega) (Xv X0)
  · ((try revert hK K);(repeat' (first|refine Va X0 ?_|(refine V2 X0 ?_ ?_<;>try with_reducible intro hb)|(refine Xi ?_ ?_<;>try intro ht)|refine VD ?_ ?_|exact Xx|fail))<;>try with_reducible intro K hK)
    refine hel _ _ rfl ?_;clear hnl hel Ql
    repeat (first|refine Xu ?_)
    ((try revert hK K);(repeat' (first|refine Vd X0 awake26_ok ?_|(refine V2 X0 ?_ ?_<;>try with_reducible intro hb)|(refine Xi ?_ ?_<;>try intro ht)|refine VD ?_ ?_|exact Xx|fail))<;>try with_reducible intro K hK)
    exact RetOK_pure' rfl rfl
end T

