import Derived.Test.YtibijngmebpmmaaGreatMB
import Derived.Test.YtibijngmebpmmaaGreatCA
set_option linter.unusedVariables false
set_option linter.unusedSimpArgs false
set_option linter.unnecessarySimpa false
open Go Go.Am Go.Proofs
open Nat (reduceEqDiff reduceAdd reduceLeDiff reduceMul)
open Int (reduceNeg reduceLE reduceToNat)
set_option maxRecDepth 20000
namespace T
theorem LG.mono {m:Mdl} {B C:Int} {g:Lg} (h:LG m B g) (hc:B≤C):LG m C g:=⟨h.s,h.t,h.sl,h.tl,fun r hr=>(h.sb r hr).mono hc,fun r hr=>(h.tb r hr).mono hc⟩
set_option maxHeartbeats 16000000 in
theorem leaf_ok (m:Mdl) (left:List (List Bool)) (l:List Mv) (hm:VM m) (hf:FitsP m left) (hl:l.length<9223372036854775808):Holds Tryz.prog 26 [.agg (eMdl m),.tree 1 (rowsOf eBs left),.tree 4 (rowsOf eMv l)] [] (.tup [.lit (.int .i64 (leafT m left l).1),.lit (.int .i64 (leafT m left l).2)]) []:=by
  generalize hres:leafT m left l=res
  unfold leafT at hres
  refine Holds.of_body' (fn:=Tryz.f26) 33 0 [.tmp 6,.tmp 7] Tryz.func26 rfl rfl rfl rfl rfl (by simp) ?_
  by_cases hlen:2000<l.length
  · rw[if_pos hlen] at hres
    subst hres
    repeat' (first|(refine Xr X0 ?_;intro K hK)|refine Xo X0 ?_|(refine hK _ ?_;clear hK K)|(refine Xg X0 ?_ ?_<;>try intro hb)|(refine Xi ?_ ?_<;>try intro ht)|refine Xz ?_|refine Xh ?_|refine Xe ?_|refine Xd ?_ ?_|omega|with_reducible rfl|exact trivial)
    all_goals try (exfalso;omega)
    all_goals exact RetOK_pure' rfl rfl
  rw[if_neg hlen] at hres
  repeat' (first|((fail_if_success (first|refine W_at 3 ?_|refine W_atE 3 ?_));refine Xr X0 ?_;intro K hK)|refine Xo X0 ?_|(refine hK _ ?_;clear hK K)|(refine Xg X0 ?_ ?_<;>try intro hb)|(refine Xi ?_ ?_<;>try intro ht)|refine Xz ?_|refine Xh ?_|refine Xe ?_|refine Xd ?_ ?_|omega|with_reducible rfl|exact trivial)
  all_goals try (exfalso;omega)
  refine W_region_ce 1 (by decide) _ rfl ?_
  intro K hK
  simp (disch:=omega) only[Ac,↓Pc,simprocAttr,List.take,List.drop]
  refine⟨rfl,(show callKR Tryz.prog 46 [.agg (eMdl m)] (some 15) _ _ from ?_)⟩
  refine callKR_all (open_ok hm [.var (eMdl m)]) ?_
  rintro r os ⟨gi,ai,bi,D,E,rfl,hLO,hkp⟩
  refine⟨hkp.len,?_⟩
  have f0:=hkp 0 _ rfl
  simp (disch:=omega) only[Ac,↓Pc,simprocAttr,List.drop]
  refine hK _ ?_;clear hK K
  repeat (first|refine Xu ?_)
  repeat' (first|(refine Xr X0 ?_;intro K hK)|refine Xo X0 ?_|(refine hK _ ?_;clear hK K)|(refine Xg X0 ?_ ?_<;>try intro hb)|(refine Xi ?_ ?_<;>try intro ht)|refine Xz ?_|refine Xe ?_|refine Xd ?_ ?_|omega|with_reducible rfl|exact trivial)
  refine W_loopS (fun z:Nat × List Ob=>(⟨slots [(1,.tree 1 (rowsOf eBs left)),(8,.ptr gi 0 0),(16,.tree 4 (rowsOf eMv l)),(17,.lit (.int .i64 l.length)),(18,.lit (.int .i64 z.1))],z.2⟩:St))
    (fun z=>z.1≤l.length∧LO eNm (GB m gi ai bi D E) D E (mvsL m (l.take z.1) (S0 m,T0 m)).1 (mvsL m (l.take z.1) (S0 m,T0 m)).2 z.2∧∀ x∈l.take z.1,mvB m x=true)
    (fun z=>l.length - z.1) (0,os) ⟨Nat.zero_le _,hLO,by simp⟩ (Xv X0) ?_
  clear hLO hkp f0
  rintro ⟨i,ob⟩ ⟨hi,hLO,hall⟩ Ql hnl hel
  dsimp only at hi hLO hall ⊢
  have hlg:=(mvsL_lg hm (l.take i) hall)
  rw[List.length_take,Nat.min_eq_left hi] at hlg
  by_cases hi':i<l.length
  · have hts:mvsL m (l.take (i+1)) (S0 m,T0 m)=mvS m (l.getD i default) (mvsL m (l.take i) (S0 m,T0 m)):=by rw[take_snoc hi',mvsL_snoc]
    have htk:=take_snoc hi'
    have hmem:=getD_mem (d:=default) hi'
    generalize mvsL m (l.take i) (S0 m,T0 m)=g at *
    generalize hxx:l.getD i default=x at *
    have hval:=validM_ok hm (hLO.app [.var (eMv x)]) hlg x
    have hob0:ob.length<(ob++[Ob.var (eMv x)]).length:=by simp
    have hvx:(ob++[Ob.var (eMv x)])[ob.length]?=some (.var (eMv x)):=oL0 _ _ _
    repeat' (first|((fail_if_success (first|refine W_at 7 ?_|refine W_atE 7 ?_));refine Xr (X3 @hxx @eMv.eq_1 @Oc2) ?_;intro K hK)|refine Xo (X3 @hxx @eMv.eq_1 @Oc2) ?_|(refine hK _ ?_;clear hK K)|(refine Xg (X3 @hxx @eMv.eq_1 @Oc2) ?_ ?_<;>try intro hb)|(refine Xi ?_ ?_<;>try intro ht)|refine Xz ?_|refine Xe ?_|refine Xd ?_ ?_|omega|with_reducible rfl|exact trivial)
    all_goals try (exfalso;omega)
    refine W_region_ce 2 (by decide) _ rfl ?_
    intro K hK
    simp (disch:=omega) only[Ac,↓Pc,simprocAttr,List.take,List.drop,Oc2]
    refine⟨rfl,(show callKR Tryz.prog 47 [.ptr gi 0 0,.agg (eMv x)] (some 24) _ _ from ?_)⟩
    refine callKR_all hval ?_
    rintro r ob2 ⟨rfl,lx,rfl⟩
    refine⟨by simp,?_⟩
    simp (disch:=omega) only[Ac,↓Pc,simprocAttr,List.drop]
    refine hK _ ?_;clear hK K
    repeat (first|refine Xu ?_)
    by_cases hx:mvB m x=true
    · rw[hx]
      have hmv:=move_ok hm (hLO.app (.var (eMv x)::lx)) (B:=1099511627776+268435456 * 25 * i) (by omega) hlg x hx
      have evx:=oLo hvx
      repeat' (first|((fail_if_success (first|refine W_at 9 ?_|refine W_atE 9 ?_));refine Xr @Bool.not_true ?_;intro K hK)|refine Xo @Bool.not_true ?_|(refine hK _ ?_;clear hK K)|(refine Xg @Bool.not_true ?_ ?_<;>try intro hb)|(refine Xi ?_ ?_<;>try intro ht)|refine Xz ?_|refine Xe ?_|refine Xd ?_ ?_|omega|with_reducible rfl|exact trivial)
      all_goals try (exfalso;omega)
      refine W_region_ce 2 (by decide) _ rfl ?_
      intro K hK
      simp (disch:=omega) only[Ac,↓Pc,simprocAttr,List.take,List.drop,Oc2,eMv,List.append_assoc]
      refine⟨rfl,(show callKR Tryz.prog 48 [.ptr gi 0 0,.agg (eMv x)] (some 28) _ _ from ?_)⟩
      refine callKR_all hmv ?_
      rintro r ob3 ⟨rfl,hL3,hln⟩
      refine⟨hln,?_⟩
      simp (disch:=omega) only[Ac,↓Pc,simprocAttr,List.drop]
      refine hK _ ?_;clear hK K
      repeat (first|refine Xu ?_)
      repeat' (first|(refine Xr X0 ?_;intro K hK)|refine Xo X0 ?_|(refine hK _ ?_;clear hK K)|(refine Xg X0 ?_ ?_<;>try intro hb)|(refine Xi ?_ ?_<;>try intro ht)|refine Xz ?_|refine Xe ?_|refine Xd ?_ ?_|omega|with_reducible rfl|exact trivial)
      refine hnl _ (i+1,ob3) ⟨by dsimp only;omega,by rw[hts];exact hL3,fun y hy=>by
        dsimp only at hy
        rw[htk] at hy
        rcases List.mem_append.1 hy with hy | hy
        · exact hall y hy
        · simp only[List.mem_singleton] at hy;subst hy;exact hx⟩ (by dsimp only;omega) ?_
      exact Xv X0
    · have hx':mvB m x=false:=by simpa using hx
      rw[hx']
      rw[if_pos (by rw[List.all_eq_false];exact⟨x,hmem,hx⟩)] at hres
      repeat' (first|(refine Xr @Bool.not_false ?_;intro K hK)|refine Xo @Bool.not_false ?_|(refine hK _ ?_;clear hK K)|(refine Xg @Bool.not_false ?_ ?_<;>try intro hb)|(refine Xi ?_ ?_<;>try intro ht)|refine Xz ?_|refine Xe ?_|refine Xd ?_ ?_|omega|with_reducible rfl|exact trivial)
      all_goals try (exfalso;omega)
      repeat (first|refine Xu ?_|(refine hel2 _ _ rfl ?_;clear hnl2 hel2;try clear Ql2)|(refine hel3 _ _ rfl ?_;clear hnl3 hel3;try clear Ql3)|(refine hel4 _ _ rfl ?_;clear hnl4 hel4;try clear Ql4))
      repeat' (first|(refine Xr X0 ?_;intro K hK)|refine Xo X0 ?_|(refine hK _ ?_;clear hK K)|(refine Xg X0 ?_ ?_<;>try intro hb)|(refine Xi ?_ ?_<;>try intro ht)|refine Xz ?_|refine Xh ?_|refine Xe ?_|refine Xd ?_ ?_|omega|with_reducible rfl|exact trivial)
      exact RetOK_pure' rfl (by rw[← hres])
  · rw[List.take_of_length_le (by omega)] at hLO hlg hall
    rw[if_neg (by rw[Bool.not_eq_false];exact List.all_eq_true.2 hall)] at hres
    generalize mvsL m l (S0 m,T0 m)=g at *
    obtain ⟨g1,g2⟩:=g
    dsimp only at hLO
    have hval:=valueM_ok hm hLO (hlg.mono (by unfold BIG;omega)) hf
    repeat' (first|(refine Xr X0 ?_;intro K hK)|refine Xo X0 ?_|(refine hK _ ?_;clear hK K)|(refine Xg X0 ?_ ?_<;>try intro hb)|(refine Xi ?_ ?_<;>try intro ht)|refine Xz ?_|refine Xe ?_|refine Xd ?_ ?_|omega|with_reducible rfl|exact trivial)
    refine hel _ _ rfl ?_;clear hnl hel Ql
    repeat (first|refine Xu ?_)
    repeat' (first|((fail_if_success (first|refine W_at 11 ?_|refine W_atE 11 ?_));refine Xr X0 ?_;intro K hK)|refine Xo X0 ?_|(refine hK _ ?_;clear hK K)|(refine Xg X0 ?_ ?_<;>try intro hb)|(refine Xi ?_ ?_<;>try intro ht)|refine Xz ?_|refine Xe ?_|refine Xd ?_ ?_|omega|with_reducible rfl|exact trivial)
    refine W_region_ce 2 (by decide) _ rfl ?_
    intro K hK
    simp (disch:=omega) only[Ac,↓Pc,simprocAttr,List.take,List.drop]
    refine⟨rfl,(show callKR Tryz.prog 49 [.ptr gi 0 0,.tree 1 (rowsOf eBs left)] (some 32) _ _ from ?_)⟩
    refine callKR_all hval ?_
    rintro r ob3 ⟨rfl,hln⟩
    refine⟨hln,?_⟩
    simp (disch:=omega) only[Ac,↓Pc,simprocAttr,List.drop]
    refine hK _ ?_;clear hK K
    repeat (first|refine Xu ?_)
    subst hres
    repeat' (first|(refine Xr X0 ?_;intro K hK)|refine Xo X0 ?_|(refine hK _ ?_;clear hK K)|(refine Xg X0 ?_ ?_<;>try intro hb)|(refine Xi ?_ ?_<;>try intro ht)|refine Xz ?_|refine Xh ?_|refine Xe ?_|refine Xd ?_ ?_|omega|with_reducible rfl|exact trivial)
    exact RetOK_pure' rfl rfl
end T
open Go Go.Am Go.Proofs
open Nat (reduceEqDiff reduceAdd reduceLeDiff reduceMul)
open Int (reduceNeg reduceLE reduceToNat)
set_option maxRecDepth 20000
namespace T
theorem u64min:IntKind.u64.min=0:=rfl
theorem u64max:IntKind.u64.max=18446744073709551615:=rfl
theorem u64bits:IntKind.u64.bits=64:=rfl
theorem p32:(2:Int) ^ (32:Nat)=4294967296:=rfl
theorem wrapU {n:Int} (h:0≤n∧n≤18446744073709551615):IntKind.u64.wrap n=n:=wrap_in h
theorem wrapI {n:Int} (h : -9223372036854775808≤n∧n≤9223372036854775807):IntKind.i64.wrap n=n:=wrap_in h
theorem andU {a:Int} (h:0≤a∧a≤18446744073709551615):andK .u64 a 4294967295=a % 4294967296:=by
  unfold andK
  have e:(BitVec.ofInt IntKind.u64.bits a &&& BitVec.ofInt IntKind.u64.bits 4294967295).toNat=a.toNat % 4294967296:=by
    rw[BitVec.toNat_and,BitVec.toNat_ofInt,BitVec.toNat_ofInt]
    have h1:(a % ((2 ^ IntKind.u64.bits:Nat):Int)).toNat=a.toNat:=by rw[Int.emod_eq_of_lt h.1 (by show a<18446744073709551616;omega)]
    have h2:((4294967295:Int) % ((2 ^ IntKind.u64.bits:Nat):Int)).toNat=2 ^ 32 - 1:=by decide
    rw[h1,h2,Nat.and_two_pow_sub_one_eq_mod]
  rw[e]
  rw[wrap_in (by simp only[u64min,u64max];omega)]
  omega
theorem unI:Tryz.prog.underlying 3=some (.int .i64):=by kernel_rfl
theorem unU:Tryz.prog.underlying 162=some (.int .u64):=by kernel_rfl
theorem mul64_ok (y:Int) (hy:0≤y∧y≤9223372036854775807):Holds Tryz.prog 109 [.lit (.int .u64 1),.lit (.int .u64 y)] [] (.tup [.lit (.int .u64 0),.lit (.int .u64 y)]) []:=by
  refine Holds.of_body' (fn:=Tryz.f109) 51 0 [.tmp 4,.tmp 5] Tryz.func109 rfl rfl rfl rfl rfl (by simp) ?_
  repeat' (first|(refine Xr (X5 @u64min @u64max @u64bits @p32 (X3 @andU @Int.one_mul @Int.zero_mul)) ?_;intro K hK)|refine Xo (X5 @u64min @u64max @u64bits @p32 (X3 @andU @Int.one_mul @Int.zero_mul)) ?_|(refine hK _ ?_;clear hK K)|(refine Xg (X5 @u64min @u64max @u64bits @p32 (X3 @andU @Int.one_mul @Int.zero_mul)) ?_ ?_<;>try intro hb)|(refine Xi ?_ ?_<;>try intro ht)|refine Xz ?_|refine Xh ?_|refine Xe ?_|refine Xd ?_ ?_|omega|with_reducible rfl|exact trivial)
  refine RetOK_pure' rfl ?_
  congr 3
  all_goals first|rfl|(congr 2;omega)
theorem mul_ok (y:Int) (hy:0≤y∧y≤9223372036854775807):Holds Tryz.prog 102 [.lit (.int .u64 1),.lit (.int .u64 y)] [] (.tup [.lit (.int .u64 0),.lit (.int .u64 y)]) []:=by
  refine Holds.of_body' (fn:=Tryz.f102) 30 0 [.tmp 4,.tmp 5] Tryz.func102 rfl rfl rfl rfl rfl (by simp) ?_
  repeat' (first|(refine Xq (X2 @u64min @u64max) ?_;intro K hK)|refine Xo (X2 @u64min @u64max) ?_|refine Xc (mul64_ok y hy) ?_|(refine hK _ ?_;clear hK K)|(refine Xg (X2 @u64min @u64max) ?_ ?_<;>try intro hb)|(refine Xi ?_ ?_<;>try intro ht)|refine Xz ?_|refine Xh ?_|refine Xe ?_|refine Xd ?_ ?_|omega|with_reducible rfl|exact trivial)
  exact RetOK_pure' rfl rfl
end T
open Go Go.Am Go.Proofs
open Nat (reduceEqDiff reduceAdd reduceLeDiff reduceMul)
open Int (reduceNeg reduceLE reduceToNat)
set_option maxRecDepth 20000
namespace T
def eBl (b:Bool):List AV:=[.lit (.bool b)]
instance:Row eBl 1:=⟨fun _=>rfl,fun b v hv=>by
  simp only[eBl,List.mem_singleton] at hv;subst hv;exact .inl ⟨_,rfl,rfl⟩⟩
theorem eBl_bools (xs:List Bool):rowsOf eBl xs=bools xs:=by simp[rowsOf,eBl,bools]
def repB (n i:Nat) (s:Bool):List Bool:=List.replicate i s++List.replicate (n - i) false
theorem repB_take {n i j:Nat} {s:Bool} (h:j≤i):(rowsOf eBl (repB n i s)).take j=rowsOf eBl (List.replicate j s):=by
  unfold repB rowsOf
  rw[← List.map_take,List.take_append_of_le_length (by simp;omega),List.take_replicate,Nat.min_eq_left h]
theorem repB_copy {n i j:Nat} {s:Bool} (h:i+j≤n) (hj:j≤i):rowsOf eBl (List.replicate i s)++List.take j (rowsOf eBl (List.replicate i s))++List.drop (i+j) (rowsOf eBl (repB n i s))=rowsOf eBl (repB n (i+j) s):=by
  unfold repB rowsOf
  rw[← List.map_take,← List.map_drop,← List.map_append,← List.map_append,List.take_replicate,Nat.min_eq_left hj,List.drop_append,List.drop_eq_nil_of_le (by simp),List.drop_replicate,List.nil_append,List.replicate_append_replicate]
  congr 3
  simp;omega
theorem repB_len {n i:Nat} {s:Bool} (h:i≤n):(repB n i s).length=n:=by simp[repB];omega
theorem repeatB_ok (s:Bool) (n:Nat) (hn:n≤1048576):Holds Tryz.prog 76 [.tree 1 [eBl s],.lit (.int .i64 (n:Nat))] [] (.ref 0 1 0 n) [.arr 1 (rowsOf eBl (List.replicate n s))]:=by
  have hm:=mul_ok n (by omega)
  refine Holds.of_body' (fn:=Tryz.f76) 48 0 [.tmp 4] Tryz.func76 rfl rfl rfl rfl rfl (by simp) ?_
  repeat' (first|(refine Xq (X5 @u64min @u64max @unI @unU (X4 @wrapU @wrapI @Option.isSome_some.{0} @row_scal)) ?_;intro K hK)|refine Xo (X5 @u64min @u64max @unI @unU (X4 @wrapU @wrapI @Option.isSome_some.{0} @row_scal)) ?_|refine Xc (hm) ?_|(refine hK _ ?_;clear hK K)|(refine Xg (X5 @u64min @u64max @unI @unU (X4 @wrapU @wrapI @Option.isSome_some.{0} @row_scal)) ?_ ?_<;>try intro hb)|(refine Xi ?_ ?_<;>try intro ht)|refine Xz ?_|refine Xe ?_|refine Xd ?_ ?_|omega|with_reducible rfl|exact trivial)
  have e0:List.take (min 1 n) [eBl s]++List.drop (min 1 n) (List.replicate n [AV.lit (Value.bool false)])=rowsOf eBl (repB n (min 1 n) s):=by
    unfold repB rowsOf
    rw[List.drop_replicate]
    rcases Nat.eq_zero_or_pos n with h | h
    · subst h;rfl
    · rw[Nat.min_eq_left h,List.map_append,List.map_replicate,List.map_replicate];rfl
  have e0':List.take (min 1 n) [eBl s]++List.drop (min 1 n) (bools (List.replicate n false))=rowsOf eBl (repB n (min 1 n) s):=by
    rw[← e0];simp[bools]
  first|rw[e0]|rw[e0']
  refine W_loopS (fun i:Nat=>(⟨slots [(7,.ref 0 1 0 n),(8,.lit (.int .i64 i))],[.arr 1 (rowsOf eBl (repB n i s))]⟩:St)) (fun i=>i≤n∧(i=0→n=0)) (fun i=>n - i) (min 1 n) ⟨by omega,by omega⟩ (Xv X0) ?_
  rintro i ⟨hi,hr⟩ Ql hnl hel
  by_cases hi':i<n
  · have e1:i+min i (n - i)≤n:=by omega
    have hl:=repB_len (s:=s) hi
    have hrt:=fun n s=>repB_take (n:=n) (s:=s) (Nat.le_refl i)
    repeat' (first|(refine Xr (X5 @Option.map_none.{0,0} @List.drop_zero.{0} @hrt @rows_length (X3 @List.length_replicate.{0} @rows_scal @hl)) ?_;intro K hK)|refine Xo (X5 @Option.map_none.{0,0} @List.drop_zero.{0} @hrt @rows_length (X3 @List.length_replicate.{0} @rows_scal @hl)) ?_|(refine hK _ ?_;clear hK K)|(refine Xg (X5 @Option.map_none.{0,0} @List.drop_zero.{0} @hrt @rows_length (X3 @List.length_replicate.{0} @rows_scal @hl)) ?_ ?_<;>try intro hb)|(refine Xi ?_ ?_<;>try intro ht)|refine Xz ?_|refine Xe ?_|refine Xd ?_ ?_|omega|with_reducible rfl|exact trivial)
    rw[repB_copy e1 (Nat.min_le_left _ _)]
    exact hnl _ (i+min i (n - i)) ⟨by omega,by omega⟩ (by omega) (Xv X0)
  · obtain rfl:i=n:=by omega
    repeat' (first|(refine Xr X0 ?_;intro K hK)|refine Xo X0 ?_|(refine hK _ ?_;clear hK K)|(refine Xg X0 ?_ ?_<;>try intro hb)|(refine Xi ?_ ?_<;>try intro ht)|refine Xz ?_|refine Xe ?_|refine Xd ?_ ?_|omega|with_reducible rfl|exact trivial)
    refine hel _ _ rfl ?_;clear hnl hel Ql
    repeat (first|refine Xu ?_)
    repeat' (first|(refine Xr X0 ?_;intro K hK)|refine Xo X0 ?_|(refine hK _ ?_;clear hK K)|(refine Xg X0 ?_ ?_<;>try intro hb)|(refine Xi ?_ ?_<;>try intro ht)|refine Xz ?_|refine Xh ?_|refine Xe ?_|refine Xd ?_ ?_|omega|with_reducible rfl|exact trivial)
    have e2:repB i i s=List.replicate i s:=by simp[repB]
    rw[e2]
    exact Xw false [0] X0
def allV (m:Mdl):List (List Bool):=m.cls.map fun l=>List.replicate l.length true
def allT (m:Mdl):List (List Bool):=if validV m=0 then allV m else []
theorem eBs_app (xs:List (List Bool)) (b:List Bool):rowsOf eBs xs++[[AV.tree 1 (bools b)]]=rowsOf eBs (xs++[b]):=by simp[rowsOf,eBs]
set_option maxHeartbeats 4000000 in
theorem all_ok (m:Mdl) (hm:MB m):Holds Tryz.prog 37 [.agg (eMdl m)] [] (.tree 1 (rowsOf eBs (allT m))) []:=by
  have h1:=valid_ok m hm
  have hm1:=hm.cls
  generalize hres:allT m=res
  unfold allT at hres
  refine Holds.of_body' (fn:=Tryz.f37) 25 0 [.tmp 2] Tryz.func37 rfl rfl rfl rfl rfl (by simp) ?_
  by_cases hv:validV m=0
  rotate_left
  · rw[if_neg hv] at hres
    rw[← hres]
    generalize validV m=e at *
    repeat' (first|(refine Xq X0 ?_;intro K hK)|refine Xo X0 ?_|refine Xc (h1) ?_|(refine hK _ ?_;clear hK K)|(refine Xg X0 ?_ ?_<;>try intro hb)|(refine Xi ?_ ?_<;>try intro ht)|refine Xz ?_|refine Xh ?_|refine Xe ?_|refine Xd ?_ ?_|omega|with_reducible rfl|exact trivial)
    all_goals try (exfalso;omega)
    exact RetOK_sel [] true (by decide) trivial (by decide) (by decide) ArgR.nil
  rw[if_pos hv] at hres
  rw[hv] at h1
  have hvm:=valid_iff.1 hv
  have hc24:=hvm.cls
  repeat' (first|(refine Xq @bne_self_eq_false.{0} ?_;intro K hK)|refine Xo @bne_self_eq_false.{0} ?_|refine Xc (h1) ?_|(refine hK _ ?_;clear hK K)|(refine Xg @bne_self_eq_false.{0} ?_ ?_<;>try intro hb)|(refine Xi ?_ ?_<;>try intro ht)|refine Xz ?_|refine Xh ?_|refine Xe ?_|refine Xd ?_ ?_|omega|with_reducible rfl|exact trivial)
  refine W_loopS (fun z:Nat × List (List Bool)=>(⟨slots [(1,.ptr 0 0 0),(3,.ref 1 1 0 z.2.length),(10,.tree 1 (rowsOf eCls m.cls)),(11,.lit (.int .i64 m.cls.length)),(12,.lit (.int .i64 z.1))],[.var (eMdl m),.arr 1 (rowsOf eBs z.2)]⟩:St))
    (fun z=>z.1≤m.cls.length∧z.2=(allV m).take z.1) (fun z=>m.cls.length - z.1) (0,[]) ⟨Nat.zero_le _,rfl⟩ ?_ ?_
  · refine Turns.trans (Turns.nil 3 1 (by simp only[Kc,simprocAttr]) (by decide)) ?_
    exact Xv X0
  rintro ⟨i,xs⟩ ⟨hi,hxs⟩ Ql hnl hel
  dsimp only at hi hxs ⊢
  have hal:(allV m).length=m.cls.length:=by simp[allV]
  by_cases hi':i<m.cls.length
  · have hxl:xs.length=i:=by rw[hxs,List.length_take];omega
    have hts:(allV m).take (i+1)=xs++[List.replicate (m.cls.getD i default).length true]:=by
      rw[take_snoc (by omega),← hxs];unfold allV;rw[map_getD _ _ _ hi']
    have hl24:=hvm.opt _ (getD_mem (d:=default) hi')
    generalize hcc:m.cls.getD i default=c at *
    have hrep:=repeatB_ok true c.length (by omega)
    repeat' (first|((fail_if_success (first|refine W_at 7 ?_|refine W_atE 7 ?_));refine Xr (X2 @hcc @eCls.eq_1) ?_;intro K hK)|refine Xo (X2 @hcc @eCls.eq_1) ?_|(refine hK _ ?_;clear hK K)|(refine Xg (X2 @hcc @eCls.eq_1) ?_ ?_<;>try intro hb)|(refine Xi ?_ ?_<;>try intro ht)|refine Xz ?_|refine Xe ?_|refine Xd ?_ ?_|omega|with_reducible rfl|exact trivial)
    all_goals try (exfalso;omega)
    refine W_region_te 5 (by decide) ?_
    intro K K1 hK hK1
    simp (disch:=omega) only[Ac,↓Pc,simprocAttr,List.take]
    repeat' (first|with_reducible refine And.intro ?_ ?_|omega|with_reducible rfl)
    refine callK_snap [] hrep (by decide) trivial ⟨ArgR.fz (rows:=rowsOf eBl [true]) rfl rfl (by simp),.pure rfl,trivial⟩ rfl (by simp[flatO,eBl,rowsOf,flat]) ?_
    simp (disch:=omega) only[Ac,↓Pc,simprocAttr]
    refine hK1 _ ⟨slots [(1,.ptr 0 0 0),(3,.ref 1 1 0 xs.length),(10,.tree 1 (rowsOf eCls m.cls)),(11,.lit (.int .i64 m.cls.length)),(12,.lit (.int .i64 i)),(16,.ref 1 1 0 xs.length),(20,.tree 1 (bools (List.replicate c.length true)))],[.var (eMdl m),.arr 1 (rowsOf eBs xs)]⟩ ?_ ?_
    · rw[← eBl_bools]
      exact Xs true [0,1] X0
    clear hK1 K1
    simp (disch:=omega) only[Ac,↓Pc,simprocAttr,List.drop,eBs_app]
    repeat' (first|with_reducible refine And.intro ?_ ?_|omega|with_reducible rfl)
    refine hK _ ?_;clear hK K
    repeat (first|refine Xu ?_)
    repeat' (first|(refine Xr X0 ?_;intro K hK)|refine Xo X0 ?_|(refine hK _ ?_;clear hK K)|(refine Xg X0 ?_ ?_<;>try intro hb)|(refine Xi ?_ ?_<;>try intro ht)|refine Xz ?_|refine Xe ?_|refine Xd ?_ ?_|omega|with_reducible rfl|exact trivial)
    refine hnl _ (i+1,xs++[List.replicate c.length true]) ⟨by dsimp only;omega,hts.symm⟩ (by dsimp only;omega) ?_
    exact Xs false [0,3] X0
  · rw[List.take_of_length_le (by omega)] at hxs
    repeat' (first|(refine Xr X0 ?_;intro K hK)|refine Xo X0 ?_|(refine hK _ ?_;clear hK K)|(refine Xg X0 ?_ ?_<;>try intro hb)|(refine Xi ?_ ?_<;>try intro ht)|refine Xz ?_|refine Xe ?_|refine Xd ?_ ?_|omega|with_reducible rfl|exact trivial)
    refine hel _ _ rfl ?_;clear hnl hel Ql
    repeat (first|refine Xu ?_)
    repeat' (first|(refine Xr X0 ?_;intro K hK)|refine Xo X0 ?_|(refine hK _ ?_;clear hK K)|(refine Xg X0 ?_ ?_<;>try intro hb)|(refine Xi ?_ ?_<;>try intro ht)|refine Xz ?_|refine Xh ?_|refine Xe ?_|refine Xd ?_ ?_|omega|with_reducible rfl|exact trivial)
    rw[hxs,hres]
    exact Xw true [] X0
end T

