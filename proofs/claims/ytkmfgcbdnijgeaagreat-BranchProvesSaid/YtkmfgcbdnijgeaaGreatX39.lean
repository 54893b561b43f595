import Derived.Test.YtkmfgcbdnijgeaaGreatX15
import Derived.Test.YtkmfgcbdnijgeaaGreatX08
import Derived.Test.YtkmfgcbdnijgeaaGreatX38
import Derived.Test.YtkmfgcbdnijgeaaGreatX27
import Derived.Test.YtkmfgcbdnijgeaaGreatX18
import Derived.Test.YtkmfgcbdnijgeaaGreatX30
import Derived.Test.YtkmfgcbdnijgeaaGreatX29
import Derived.Test.YtkmfgcbdnijgeaaGreatX06
set_option linter.unusedVariables false
set_option linter.unusedSimpArgs false
set_option linter.unnecessarySimpa false
set_option linter.unusedSectionVars false
set_option maxHeartbeats 64000000
set_option maxRecDepth 20000
open Go Go.Am Go.Proofs
open Nat (reduceEqDiff reduceAdd reduceLeDiff reduceMul)
open Int (reduceNeg reduceLE reduceToNat)
namespace T
def prN:List (List Opt)→Int
  | []=>1
  | l::r=>l.length * prN r
theorem prN_pos:∀ (cls:List (List Opt)),(∀ l∈cls,1≤l.length)→1≤prN cls
  | [],_=>Int.le_refl _
  | l::r,h=>by
    have h1:=h l (by simp)
    have h2:=prN_pos r fun x hx=>h x (by simp[hx])
    rw[prN]
    have:(1:Int) * 1≤l.length * prN r:=Int.mul_le_mul (by omega) h2 (by omega) (by omega)
    omega
theorem casesN_ok (m:Mdl) (hm:VM m) (hsome:∀ l∈m.cls,1≤l.length) (hb:prN m.cls≤9999):Holds Tryz.prog 23 [.agg (eMdl m)] [] (.lit (.int .i64 (prN m.cls))) []:=by
  have hc24:=hm.cls
  have hpos:=prN_pos m.cls hsome
  generalize hres:prN m.cls=res at *
  refine Holds.of_body' (fn:=Tryz.f23) 26 0 [.tmp 2] Tryz.func23 rfl rfl rfl rfl rfl (by simp) ?_
  refine Vb X0 ?_
  refine W_loopS (fun z:Nat × Int=>(⟨slots [(1,.ptr 0 0 0),(3,.lit (.int .i64 z.2)),(4,.lit (.int .i64 z.1))],[.var (eMdl m)]⟩:St)) (fun z=>z.1≤m.cls.length∧1≤z.2∧z.2 * prN (m.cls.drop z.1)=res) (fun z=>m.cls.length - z.1) (0,1) ⟨Nat.zero_le _,by decide,by rw[List.drop_zero,hres];exact Int.one_mul _⟩ (Xv X0) ?_
  rintro ⟨i,n⟩ ⟨hi,hn1,hr⟩ Ql hnl hel
  dsimp only at hi hn1 hr ⊢
  have hrest:=prN_pos (m.cls.drop i) fun x hx=>hsome x (List.mem_of_mem_drop hx)
  have hnle:n≤res:=by
    rw[← hr]
    have:n * 1≤n * prN (m.cls.drop i):=Int.mul_le_mul_of_nonneg_left hrest (by omega)
    omega
  by_cases hi':i<m.cls.length
  · have hl24:=hm.opt _ (getD_mem (l:=m.cls) (i:=i) (d:=default) hi')
    have hl1:=hsome _ (getD_mem (l:=m.cls) (i:=i) (d:=default) hi')
    rw[getD_drop0 m.cls i default hi',prN,← Int.mul_assoc] at hr
    have hrest2:=prN_pos (m.cls.drop (i+1)) fun x hx=>hsome x (List.mem_of_mem_drop hx)
    generalize hcc:m.cls.getD i default=c at *
    have hm1:n * 1≤n * (c.length:Int):=Int.mul_le_mul_of_nonneg_left (by omega) (by omega)
    have hm2:n * (c.length:Int)≤10000 * 24:=Int.mul_le_mul (by omega) (by omega) (by omega) (by omega)
    generalize hnc:n * (c.length:Int)=nc at *
    ((repeat' (first|refine Va (X3 @hcc @eCls.eq_1 @hnc) ?_|(refine V2 (X3 @hcc @eCls.eq_1 @hnc) ?_ ?_<;>try with_reducible intro hb)|(refine Xi ?_ ?_<;>try intro ht)|exact Xx|fail)))
    exact hnl _ (i+1,nc) ⟨by dsimp only;omega,by dsimp only;omega,hr⟩ (by dsimp only;omega) (Xv X0)
  · rw[List.drop_eq_nil_of_le (by omega),prN,Int.mul_one] at hr
    ((repeat' (first|refine Va X0 ?_|(refine V2 X0 ?_ ?_<;>try with_reducible intro hb)|(refine Xi ?_ ?_<;>try intro ht)|exact Xx|fail)))
    all_goals
      refine hel _ _ rfl ?_;clear hnl hel Ql
      repeat (refine Xu ?_)
      refine Vb X0 ?_
      exact RetOK_pure' rfl (by rw[← hr,Int.min_eq_left (by omega)])
theorem prN_leW {w:Nat}:∀ (cls:List (List Opt)) (k:Nat),1≤w→cls.length≤k→(∀ l∈cls,1≤l.length∧l.length≤w)→prN cls≤(w:Int) ^ k
  | [],k,hw,_,_=>by
    rw[prN]
    have:(0:Int)<(w:Int) ^ k:=Int.pow_pos (by omega)
    omega
  | l::r,0,_,hk,_=>by simp at hk
  | l::r,k+1,hw,hk,h=>by
    have h1:=h l (by simp)
    have h2:=prN_leW r k hw (by simpa using hk) fun x hx=>h x (by simp[hx])
    have h3:=prN_pos r fun x hx=>(h x (by simp[hx])).1
    rw[prN,Int.pow_succ,Int.mul_comm ((w:Int) ^ k)]
    exact Int.mul_le_mul (by omega) h2 (by omega) (by omega)
def caseF:List (List Opt)→Int→List Int
  | [],_=>[]
  | l::r,n=>modI n l.length::caseF r (n / l.length)
theorem caseF_len:∀ (cls:List (List Opt)) (n:Int),(caseF cls n).length=cls.length
  | [],_=>rfl
  | l::r,n=>by rw[caseF,List.length_cons,caseF_len r,List.length_cons]
theorem caseF_get:∀ (cls:List (List Opt)) (n:Int),(∀ l∈cls,1≤l.length)→∀ j,j<cls.length→0≤(caseF cls n).getD j 0∧(caseF cls n).getD j 0<(cls.getD j default).length
  | [],_,_,j,h=>by simp at h
  | l::r,n,hs,0,_=>by
    rw[caseF,List.getD_cons_zero,List.getD_cons_zero]
    have:=hs l (by simp)
    exact modI_range _ _ (by omega)
  | l::r,n,hs,j+1,h=>by
    rw[caseF,List.getD_cons_succ,List.getD_cons_succ]
    exact caseF_get r _ (fun x hx=>hs x (by simp[hx])) j (by simpa using h)
theorem caseF_fp {m:Mdl} (hsome:∀ l∈m.cls,1≤l.length) (n:Int):FP m (caseF m.cls n):=⟨caseF_len _ _,fun j hj=>by
  rw[caseF_len] at hj
  have:=caseF_get m.cls n hsome j hj
  exact optB_iff.2 ⟨by omega,by omega,this.1,by rw[Int.toNat_natCast];exact this.2⟩⟩
theorem caseF_ok (m:Mdl) (hm:VM m) (hsome:∀ l∈m.cls,1≤l.length) (n:Int) (hn0:0≤n) (hn9:n≤10000):Holds Tryz.prog 25 [.agg (eMdl m),.lit (.int .i64 n)] [] (.tree 1 (ints (caseF m.cls n))) []:=by
  have hc24:=hm.cls
  generalize hres:caseF m.cls n=res
  refine Holds.of_body' (fn:=Tryz.f25) 32 0 [.tmp 4] Tryz.func25 rfl rfl rfl rfl rfl (by simp) ?_
  refine Vb X0 ?_
  refine W_loopS (fun z:Nat × Int × List Int=>(⟨slots [(1,.lit (.int .i64 z.2.1)),(2,.ptr 0 0 0),(5,.ref 1 1 0 z.2.2.length),(6,.lit (.int .i64 z.1))],[.var (eMdl m),.arr 1 (ints z.2.2)]⟩:St))
    (fun z=>z.1≤m.cls.length∧(0≤z.2.1∧z.2.1≤10000)∧z.2.2.length=z.1∧z.2.2++caseF (m.cls.drop z.1) z.2.1=res) (fun z=>m.cls.length - z.1) (0,n,[]) ⟨Nat.zero_le _,⟨hn0,hn9⟩,rfl,hres⟩ ?_ ?_
  · refine Turns.trans (Turns.nil 5 1 (by simp only[Kc,simprocAttr]) (by decide)) ?_
    exact Xv X0
  (try clear hn0;clear hn9 hres n)
  rintro ⟨i,n,plan⟩ ⟨hi,⟨hn0,hn9⟩,hpl,hr⟩ Ql hnl hel
  dsimp only at hi hn0 hn9 hpl hr ⊢
  by_cases hi':i<m.cls.length
  · have hl24:=hm.opt _ (getD_mem (l:=m.cls) (i:=i) (d:=default) hi')
    have hl1:=hsome _ (getD_mem (l:=m.cls) (i:=i) (d:=default) hi')
    rw[getD_drop0 m.cls i default hi',caseF] at hr
    generalize hcc:m.cls.getD i default=c at *
    have hmod:=mod_ok n (c.length:Int) (by unfold In64;omega)
    generalize modI n (c.length:Int)=x at *
    have hq0:0≤n / (c.length:Int):=Int.ediv_nonneg hn0 (by omega)
    have hq1:n / (c.length:Int)≤n:=Int.ediv_le_self _ hn0
    generalize hqq:n / (c.length:Int)=q at *
    have hmx:max (c.length:Int) 1=c.length:=by omega
    ((repeat' (first|refine Vc (X5 @hcc @eCls.eq_1 @hqq @hmx @ints_app1) hmod ?_|(refine Xi ?_ ?_<;>try intro ht)|exact Xx|fail)))
    refine hnl _ (i+1,q,plan++[x]) ⟨by dsimp only;omega,⟨hq0,by dsimp only;omega⟩,by simp;omega,by dsimp only;rw[List.append_assoc];exact hr⟩ (by dsimp only;omega) ?_
    exact Xs false [0,3] X0
  · rw[List.drop_eq_nil_of_le (by omega),caseF,List.append_nil] at hr
    ((repeat' (first|refine Va X0 ?_|(refine Xi ?_ ?_<;>try intro ht)|exact Xx|fail)))
    refine hel _ _ rfl ?_;clear hnl hel Ql
    repeat (refine Xu ?_)
    refine Vb X0 ?_
    rw[← hr]
    exact Xw true [] X0
theorem bb_fits2 {m:Mdl} {x:List (List Bool)} (hm:VM m) (h:FitsP m x):BB x:=by
  have hc:=hm.cls
  refine⟨by have:=h.1;omega,fun r hr=>?_⟩
  obtain ⟨i,hi,rfl⟩:=List.getElem_of_mem hr
  have h2:=h.2 i hi
  have h3:=hm.opt _ (getD_mem (l:=m.cls) (i:=i) (d:=default) (by have:=h.1;omega))
  rw[List.getD_eq_getElem?_getD,List.getElem?_eq_getElem hi,Option.getD_some] at h2
  omega
structure FW (m:Mdl):Prop where
  vm:VM m
  few:m.cls.length≤4
  opt:∀ l∈m.cls,l.length≤4
theorem FW.cap {m:Mdl} (h:FW m):capQ m m.cls.length≤8000 :=
  Nat.le_trans (capQ_le h.opt _ (Nat.le_refl _)) (Nat.le_trans (Nat.pow_le_pow_right (by decide) h.few) (by decide))
theorem MM.fw {m:Mdl} {a b:Nat} (h:MM m a b) (ha:a≤4) (hb:b≤4):FW m:=⟨h.vm,Nat.le_trans h.few ha,fun l hl=>Nat.le_trans (h.some l hl).2 hb⟩
theorem FW.without {m:Mdl} (h:FW m) {c:Int} (hc:0≤c):FW (withoutM m c):=⟨without_vm h.vm hc,by unfold withoutM;simpa using h.few,fun l hl=>by
  rcases List.mem_or_eq_of_mem_set hl with h1 | h1
  · exact h.opt l h1
  · rw[h1];exact Nat.zero_le _⟩
theorem few_ok (L:List Int) (k:Nat) (hk:k≤L.length) (hL:L.length<1000000) :
    HoldsR Tryz.prog 21 [.ptr 0 0 0] [dice L k] (fun r os=>∃ m k',FW m∧k'≤L.length∧r=.agg (eMdl m)∧os=[dice L k']):=by
  have hmod:=model_ok L k 4 4 hk hL (by decide) (by decide) (by decide)
  unfold dice at *
  refine HoldsR.of_body' (fn:=Tryz.f21) 117 1 [.cell 2 31] Tryz.func21 rfl rfl rfl rfl rfl (by simp) ?_
  repeat' (first|((fail_if_success (first|refine W_at 1 ?_|refine W_atE 1 ?_));refine Xr X0 ?_;intro K hK)|(refine hK _ ?_;clear hK K)|refine Xy ?_|fail)
  refine W_region_ce 1 (by decide) _ rfl ?_
  intro K hK
  simp (disch:=omega) only[Ac,↓Pc,simprocAttr,List.take,List.drop]
  refine⟨rfl,(show callKR Tryz.prog 33 [.ptr 0 0 0,.lit (.int .i64 (4:Nat)),.lit (.int .i64 (4:Nat))] (some 11) _ _ from ?_)⟩
  refine callKR_sel [0] hmod (by decide) ⟨rfl,trivial⟩ ⟨.eq rfl,.pure rfl,.pure rfl,trivial⟩ ?_
  rintro r os ⟨m,k1,hm,hk1,rfl,rfl⟩
  clear hmod hk
  have hfw:=hm.fw (Nat.le_refl 4) (Nat.le_refl 4)
  have hpr:prN m.cls≤256:=Int.le_trans (prN_leW (w:=4) m.cls 4 (by decide) hm.few hm.some) (by decide)
  have hcs:=casesN_ok m hm.vm (fun l hl=>(hm.some l hl).1) (by omega)
  generalize prN m.cls=pn at *
  simp (disch:=omega) only[Ac,↓Pc,simprocAttr]
  refine hK _ ?_
  clear hK K
  repeat (refine Xu ?_)
  have hone:=one_ok L k1 12 (by unfold In64;omega) (by omega) hk1 hL
  have hk2:=nextA_le hk1
  refine Va X0 ?_
  refine W_loopS (fun _:Unit=>(⟨slots [(0,.ptr 0 0 0),(2,.ptr 1 0 0),(3,.ptr 2 0 0)],[.var [.tree 1 (ints L),.lit (.int .i64 k1)],.var [.lit (.slice none 0 0),.lit (.slice none 0 0),.lit (.slice none 0 0),.lit (.int .i64 0)],.var (eMdl m)]⟩:St)) (fun _=>True) (fun _=>0) () trivial (Xv X0) ?_
  rintro _ _ Ql hnl hel
  ((repeat' (first|refine Vc X0 hcs ?_|(refine Xi ?_ ?_<;>try intro ht)|exact Xx|fail)))
  refine hel _ _ rfl ?_;clear hnl hel Ql
  repeat (refine Xu ?_)
  clear hcs hpr
  have hend:∀ (env:Nat→AV) (m:Mdl) (k':Nat) (x:Ob),FW m→k'≤L.length→env 2=.ptr 1 0 0→retR Tryz.prog 1 [.cell 2 31] (fun r os=>∃ m k',FW m∧k'≤L.length∧r=.agg (eMdl m)∧os=[.var [.tree 1 (ints L),.lit (.int .i64 k')]]) .ret ⟨env,[.var [.tree 1 (ints L),.lit (.int .i64 k')],.var (eMdl m),x]⟩:=by
    intro env m k' x hom hk' he2
    unfold retR
    simp only[resW,retV,he2]
    simp (disch:=omega) only[Ac,↓Pc,simprocAttr,he2]
    refine⟨_,_,⟨m,k',hom,hk',rfl,rfl⟩,?_⟩
    exact Xw true [0] X0
  ((repeat' (first|refine Va X0 ?_|(refine V2 X0 ?_ ?_<;>try with_reducible intro hb)|(refine Xi ?_ ?_<;>try intro ht)|exact Xx|fail))<;>try with_reducible intro K hK)
  rotate_left
  · exact hend _ m k1 _ hfw hk1 (by simp only[Kc,simprocAttr])
  have hc0:0<m.cls.length:=by omega
  have hnx:=next_ok L (nextA L k1) (m.cls.length:Int) (by unfold In64;have:=hm.vm.cls;omega) hk2 hL
  have hnr:=nextV_range (L:=L) (k:=nextA L k1) (n:=(m.cls.length:Int)) (by omega)
  have hwo:=without_ok m hm.vm (nextV L (nextA L k1) (m.cls.length:Int)) hnr
  have hwf:=hfw.without hnr.1
  have hk3:=nextA_le hk2
  unfold dice at *
  generalize oneV L k1 12=bo at *
  generalize nextV L (nextA L k1) (m.cls.length:Int)=v at *
  generalize nextA L (nextA L k1)=k3 at *
  generalize nextA L k1=k2 at *
  generalize withoutM m v=mw at *
  (refine Xn [0] (hone) ?_;simp (disch:=omega) only[Ac,↓Pc,simprocAttr])
  ((try revert hK K);(repeat' (first|refine Va X0 ?_|(refine Xi ?_ ?_<;>try intro ht)|fail))<;>try with_reducible intro K hK)
  · (refine Xn [0] (hnx) ?_;simp (disch:=omega) only[Ac,↓Pc,simprocAttr])
    ((try revert hK K);(refine Vc X0 hwo ?_))
    exact hend _ mw k3 _ hwf hk3 (by simp only[Kc,simprocAttr])
  · exact hend _ m k2 _ hfw hk2 (by simp only[Kc,simprocAttr])
theorem someB_ok (L:List Int) (k:Nat) (hk:k≤L.length) (hL:L.length<1000000) :
    HoldsR Tryz.prog 11 [.ptr 0 0 0] [dice L k] (fun r os=>∃ m k',OM m∧k'≤L.length∧r=.agg (eMdl m)∧os=[dice L k']):=by
  have hone:=one_ok L k 8 (by unfold In64;omega) (by omega) hk hL
  have hk2:=nextA_le hk
  generalize oneV L k 8=bo at *
  generalize nextA L k=k2 at *
  clear hk
  unfold dice at *
  refine HoldsR.of_body' (fn:=Tryz.f11) 11 1 [.cell 2 31] Tryz.func11 rfl rfl rfl rfl rfl (by simp) ?_
  ((refine Va X0 ?_)<;>try with_reducible intro K hK)
  (refine Xn [0] (hone) ?_;simp (disch:=omega) only[Ac,↓Pc,simprocAttr])
  have hend:∀ (env:Nat→AV) (m:Mdl) (k':Nat),OM m→k'≤L.length→env 2=.ptr 1 0 0→retR Tryz.prog 1 [.cell 2 31] (fun r os=>∃ m k',OM m∧k'≤L.length∧r=.agg (eMdl m)∧os=[.var [.tree 1 (ints L),.lit (.int .i64 k')]]) .ret ⟨env,[.var [.tree 1 (ints L),.lit (.int .i64 k')],.var (eMdl m)]⟩:=by
    intro env m k' hom hk' he2
    unfold retR
    simp only[resW,retV,he2]
    simp (disch:=omega) only[Ac,↓Pc,simprocAttr,he2]
    refine⟨_,_,⟨m,k',hom,hk',rfl,rfl⟩,?_⟩
    exact Xw true [0] X0
  repeat' (first|(refine hK _ ?_;clear hK K)|(refine Xi ?_ ?_<;>try intro ht)|refine Xy ?_|fail)
  · have hmod:=model_ok L k2 3 3 hk2 hL (by decide) (by decide) (by decide)
    unfold dice at hmod
    refine W_region_cce 2 0 (by decide) _ _ rfl rfl ?_
    intro K hK
    simp (disch:=omega) only[Ac,↓Pc,simprocAttr,List.take,List.drop]
    refine⟨rfl,(show callKR Tryz.prog 33 [.ptr 0 0 0,.lit (.int .i64 (3:Nat)),.lit (.int .i64 (3:Nat))] (some 7) _ _ from ?_)⟩
    refine callKR_sel [0] hmod (by decide) ⟨rfl,trivial⟩ ⟨.eq rfl,.pure rfl,.pure rfl,trivial⟩ ?_
    rintro r os ⟨m,k,hm,hk,rfl,rfl⟩
    have hodd:=odd_ok L k m hm.vm hk hL
    unfold dice at hodd
    simp (disch:=omega) only[Ac,↓Pc,simprocAttr]
    refine⟨rfl,(show callKR Tryz.prog 32 [.ptr 0 0 0,.agg (eMdl m)] (some 8) _ _ from ?_)⟩
    refine callKR_sel [0] hodd (by decide) ⟨rfl,trivial⟩ ⟨.eq rfl,.pure rfl,trivial⟩ ?_
    rintro r os ⟨m,k,hm,hk,rfl,rfl⟩
    simp (disch:=omega) only[Ac,↓Pc,simprocAttr]
    refine hK _ ?_;clear hK K
    refine Va X0 ?_
    exact hend _ m k hm hk (by simp only[Kc,simprocAttr])
  · have hfew:=few_ok L k2 hk2 hL
    unfold dice at hfew
    refine W_region_ce 1 (by decide) _ rfl ?_
    intro K hK
    simp (disch:=omega) only[Ac,↓Pc,simprocAttr,List.take,List.drop]
    refine⟨rfl,(show callKR Tryz.prog 21 [.ptr 0 0 0] (some 10) _ _ from ?_)⟩
    refine callKR_sel [0] hfew (by decide) ⟨rfl,trivial⟩ ⟨.eq rfl,trivial⟩ ?_
    rintro r os ⟨m,k,hm,hk,rfl,rfl⟩
    simp (disch:=omega) only[Ac,↓Pc,simprocAttr]
    refine hK _ ?_;clear hK K
    refine Va X0 ?_
    exact hend _ m k hm.vm.om hk (by simp only[Kc,simprocAttr])
end T

