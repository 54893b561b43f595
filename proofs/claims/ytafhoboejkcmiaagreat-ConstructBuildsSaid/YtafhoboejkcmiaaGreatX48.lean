import Derived.Test.YtafhoboejkcmiaaGreatX42
import Derived.Test.YtafhoboejkcmiaaGreatX25
import Derived.Test.YtafhoboejkcmiaaGreatX29
import Derived.Test.YtafhoboejkcmiaaGreatX13
import Derived.Test.YtafhoboejkcmiaaGreatX34
import Derived.Test.YtafhoboejkcmiaaGreatX22
set_option linter.unusedVariables false
set_option linter.unusedSimpArgs false
set_option linter.unnecessarySimpa false
set_option linter.unusedSectionVars false
set_option maxHeartbeats 64000000
set_option maxRecDepth 20000
open Go Go.Am Go.Proofs
open Nat (reduceEqDiff reduceAdd reduceLeDiff reduceMul)
open Int (reduceNeg reduceLE reduceToNat)
namespace T
theorem ejRef_pm {m:Mdl} {cl o:Int}:∀ (f c:Nat) (nx:List Int),PM m nx→PM m (ejRef m cl o f c nx)
  | 0,_,_,h=>h
  | f+1,c,nx,h=>by
    rw[ejRef]
    refine ejRef_pm f _ _ ?_
    split
    · exact pm_set h (.inl rfl)
    · exact h
theorem ejOne_pm {m:Mdl} {n:Nat} {c:Ct} {cl:Int}:∀ (f:Nat) (nx r:List Int),ejOne n c cl f nx=some r→PM m nx→PM m r
  | 0,nx,r,h,hp=>by cases h;exact hp
  | f+1,nx,r,h,hp=>by
    rw[ejOne] at h
    split at h
    · split at h
      · cases h
      · exact ejOne_pm f _ r h (pm_set hp (.inl rfl))
    · cases h;exact hp
theorem ejCts_pm {m:Mdl} {n:Nat} {cl:Int}:∀ (l:List Ct) (nx r:List Int),ejCts n cl l nx=some r→PM m nx→PM m r
  | [],nx,r,h,hp=>by cases h;exact hp
  | c::l,nx,r,h,hp=>by
    rw[ejCts] at h
    cases h1:ejOne n c cl (nnL nx+1) nx with
    | none=>rw[h1] at h;cases h
    | some x =>
      rw[h1] at h
      exact ejCts_pm l x r h (ejOne_pm _ _ _ h1 hp)
theorem goneL_mem:∀ (plan nx:List Int) (i:Nat),(goneL i plan nx).length≤plan.length∧∀ g∈goneL i plan nx,(i:Int)≤g∧g<i+plan.length
  | [],_,_=>⟨Nat.le_refl _,by simp[goneL]⟩
  | o::r,nx,i=>by
    obtain ⟨h1,h2⟩:=goneL_mem r nx (i+1)
    rw[goneL]
    split
    · refine⟨by simp only[List.length_cons];omega,fun g hg=>?_⟩
      rcases List.mem_cons.1 hg with rfl | hg
      · simp only[List.length_cons];omega
      · have:=h2 g hg;simp only[List.length_cons];omega
    · refine⟨by simp only[List.length_cons];omega,fun g hg=>?_⟩
      have:=h2 g hg;simp only[List.length_cons];omega
theorem ejV_pm {m:Mdl} {plan:List Int} {cl o:Int} (hp:PM m plan) (ho:optB m cl o=true) {r:List Int × List Int} (h:ejV m plan cl o=some r):PM m r.1∧r.2.length≤plan.length∧∀ g∈r.2,0≤g∧g<m.cls.length:=by
  have hb:=optB_iff.1 ho
  unfold ejV at h
  split at h
  · rw[Option.map_eq_some_iff] at h
    obtain ⟨nx,h1,rfl⟩:=h
    have hpm0:PM m (plan.set cl.toNat o):=pm_set hp (.inr (by rw[Int.toNat_of_nonneg hb.1];exact ho))
    obtain ⟨h2,h3⟩:=goneL_mem plan nx 0
    refine⟨ejCts_pm _ _ _ h1 (ejRef_pm _ _ _ hpm0),h2,fun g hg=>?_⟩
    have:=h3 g hg
    have:=hp.len
    omega
  · cases h
theorem getA_setA (l:List Int) (v:AV) (L:List (List Int × AV)):getA l (Am.setA l v L)=some v:=by
  have key:∀ (L:List (List Int × AV)) (i:Nat),findA l L i=none→findA l (L++[(l,v)]) i=some (i+L.length):=by
    intro L
    induction L with
    | nil=>intro i _;simp[findA]
    | cons p r ih =>
      intro i h
      rw[findA] at h
      split at h
      · cases h
      · rename_i hp
        rw[List.cons_append,findA,if_neg hp,ih (i+1) h,List.length_cons]
        congr 1;omega
  have key2:∀ (L:List (List Int × AV)) (i q:Nat),findA l L i=some (i+q)→findA l (L.set q (l,v)) i=some (i+q):=by
    intro L
    induction L with
    | nil=>intro i q h;cases h
    | cons p r ih =>
      intro i q h
      rw[findA] at h
      split at h
      · rename_i hp
        have:q=0:=by simp at h;omega
        subst this
        rw[List.set_cons_zero,findA,if_pos rfl];rfl
      · rename_i hp
        cases q with
        | zero =>
          have:=(findA_some h).1
          omega
        | succ q =>
          rw[List.set_cons_succ,findA,if_neg hp,ih (i+1) q (by rw[h];congr 1;omega)]
          congr 1;omega
  unfold getA Am.setA
  cases h:findA l L 0 with
  | none =>
    dsimp only
    rw[key L 0 h]
    simp
  | some q =>
    obtain ⟨_,w,hw⟩:=findA_some h
    rw[Nat.sub_zero] at hw
    have hq:=(List.getElem?_eq_some_iff.1 hw).1
    dsimp only
    have:=key2 L 0 q (by rw[h,Nat.zero_add])
    rw[Nat.zero_add] at this
    rw[this]
    simp[hq]
theorem getA_setA_ne {l k:List Int} (hk:k≠l) (v:AV) (L:List (List Int × AV)):getA k (Am.setA l v L)=getA k L:=by
  have key:∀ (L:List (List Int × AV)) (i:Nat),findA k (L++[(l,v)]) i=findA k L i:=by
    intro L
    induction L with
    | nil=>intro i;simp[findA,Ne.symm hk]
    | cons p r ih=>intro i;rw[List.cons_append,findA,findA,ih]
  have key2:∀ (L:List (List Int × AV)) (i q:Nat) (w:AV),L[q]?=some (l,w)→findA k (L.set q (l,v)) i=findA k L i:=by
    intro L
    induction L with
    | nil=>intro i q w h;cases h
    | cons p r ih =>
      intro i q w h
      cases q with
      | zero =>
        simp only[List.getElem?_cons_zero,Option.some.injEq] at h
        subst h
        rw[List.set_cons_zero,findA,findA,if_neg (Ne.symm hk)]
      | succ q=>rw[List.set_cons_succ,findA,findA,ih (i+1) q w (by simpa using h)]
  unfold getA Am.setA
  cases h:findA l L 0 with
  | none =>
    dsimp only
    rw[key]
    cases hf:findA k L 0 with
    | none=>rfl
    | some j =>
      obtain ⟨_,w,hw⟩:=findA_some hf
      rw[Nat.sub_zero] at hw
      have hj:=(List.getElem?_eq_some_iff.1 hw).1
      simp only[Option.bind_some]
      rw[List.getElem?_append_left hj]
  | some q =>
    obtain ⟨_,w,hw⟩:=findA_some h
    rw[Nat.sub_zero] at hw
    dsimp only
    rw[key2 L 0 q w hw]
    cases hf:findA k L 0 with
    | none=>rfl
    | some j =>
      obtain ⟨_,x,hx⟩:=findA_some hf
      rw[Nat.sub_zero] at hx
      have hjq:q≠j:=fun e=>by
        subst e
        rw[hw] at hx
        simp only[Option.some.injEq,Prod.mk.injEq] at hx
        exact hk hx.1.symm
      simp only[Option.bind_some]
      rw[List.getElem?_set_ne hjq]
def TR (M:List (List Int × AV)) (u:Int→Int→Int):Prop:=∀ a b,(getA [a,b] M).getD (.lit (.int .i64 0))=.lit (.int .i64 (u a b))
theorem TR.nil:TR [] (fun _ _=>0):=fun _ _=>rfl
theorem TR.inc {M:List (List Int × AV)} {u:Int→Int→Int} (h:TR M u) (c o:Int):TR (Am.setA [c,o] (.lit (.int .i64 (u c o+1))) M) (incU u c o):=fun a b=>by
  unfold incU
  by_cases e:a=c∧b=o
  · rw[if_pos e,e.1,e.2,getA_setA];rfl
  · rw[if_neg e,getA_setA_ne (by simpa using e)]
    exact h a b
theorem Holds.frz1 {P:Program} {f:FuncId} {args:List AV} {xs:List Int} (h:Holds P f args [] (.ref 0 1 0 xs.length) [.arr 1 (ints xs)]):Holds P f args [] (.tree 1 (ints xs)) []:=by
  refine h.turn ?_
  have e:∀ x:AV,(fun k=>[x].getD k AV.undef)=slots [(0,x)]:=fun x=>by
    funext k
    cases k<;>rfl
  rw[e (.tree 1 (ints xs))]
  refine Turns.sel [] true _ _ (by decide) trivial (by decide) (by decide) ⟨?_,trivial⟩
  exact ArgR.frz rfl (ints_wid _) (by rw[ints_length]) (not_kept (by decide)) (ints_frz _)
theorem missing_ok (plan:List Int) (hl:plan.length<1000000):Holds Tryz.prog 34 [.tree 1 (ints plan)] [] (.lit (.int .i64 (missV plan))) []:=by
  generalize hres:missV plan=res
  refine Holds.of_body' (fn:=Tryz.f34) 18 0 [.tmp 2] Tryz.func34 rfl rfl rfl rfl rfl (by simp) ?_
  ((try revert hK K);(repeat' (first|refine Vb X0 ?_|(refine V2 X0 ?_ ?_<;>try with_reducible intro hb)|(refine Xi ?_ ?_<;>try intro ht)|refine VD ?_ ?_|exact Xx|fail))<;>try with_reducible intro K hK)
  refine W_loopS (fun z:Nat × Int=>(⟨slots [(3,.lit (.int .i64 z.2)),(6,.tree 1 (ints plan)),(7,.lit (.int .i64 plan.length)),(8,.lit (.int .i64 z.1))],[]⟩:St)) (fun z=>z.1≤plan.length∧0≤z.2∧z.2≤z.1∧z.2+missV (plan.drop z.1)=res) (fun z=>plan.length - z.1) (0,0) ⟨Nat.zero_le _,Int.le_refl _,Int.le_refl _,by rw[List.drop_zero,hres];exact Int.zero_add _⟩ (Xv X0) ?_
  rintro ⟨k,n⟩ ⟨hk,hn0,hn1,hr⟩ Ql hnl hel
  dsimp only at hk hn0 hn1 hr ⊢
  by_cases hk':k<plan.length
  · rw[getD_drop0 plan k 0 hk'] at hr
    unfold missV at hr
    rw[List.countP_cons] at hr
    generalize hx:plan.getD k 0=x at *
    by_cases hneg:x<0
    · rw[if_pos (decide_eq_true hneg)] at hr
      ((try revert hK K);(repeat' (first|refine Va @hx ?_|(refine V2 @hx ?_ ?_<;>try with_reducible intro hb)|(refine Xi ?_ ?_<;>try intro ht)|refine VD ?_ ?_|exact Xx|fail))<;>try with_reducible intro K hK)
      all_goals try (exfalso;omega)
      exact hnl _ (k+1,n+1) ⟨by dsimp only;omega,by dsimp only;omega,by dsimp only;omega,by unfold missV;dsimp only;omega⟩ (by dsimp only;omega) (Xv X0)
    · rw[if_neg (by simpa using hneg)] at hr
      ((try revert hK K);(repeat' (first|refine Va @hx ?_|(refine V2 @hx ?_ ?_<;>try with_reducible intro hb)|(refine Xi ?_ ?_<;>try intro ht)|refine VD ?_ ?_|exact Xx|fail))<;>try with_reducible intro K hK)
      all_goals try (exfalso;omega)
      exact hnl _ (k+1,n) ⟨by dsimp only;omega,by dsimp only;omega,by dsimp only;omega,by unfold missV;dsimp only;omega⟩ (by dsimp only;omega) (Xv X0)
  · rw[List.drop_eq_nil_of_le (by omega)] at hr
    have:n=res:=by rw[← hr];simp[missV]
    subst this
    ((try revert hK K);(repeat' (first|refine Va X0 ?_|(refine V2 X0 ?_ ?_<;>try with_reducible intro hb)|(refine Xi ?_ ?_<;>try intro ht)|refine VD ?_ ?_|exact Xx|fail))<;>try with_reducible intro K hK)
    refine hel _ _ rfl ?_;clear hnl hel Ql
    repeat (first|refine Xu ?_)
    ((try revert hK K);(repeat' (first|refine Vb X0 ?_|(refine V2 X0 ?_ ?_<;>try with_reducible intro hb)|(refine Xi ?_ ?_<;>try intro ht)|refine VD ?_ ?_|exact Xx|fail))<;>try with_reducible intro K hK)
    exact RetOK_pure' rfl rfl
def bC (m:Mdl) (plan:List Int) (n:Nat):List AV:=[.tree 1 (rowsOf eCls m.cls),.tree 4 (rowsOf ePr m.prs),.tree 4 (rowsOf eCt m.cts),.lit (.int .i64 m.rules),.tree 1 (ints plan),.ref 1 1 0 n,.mref 2]
theorem bNext_ok (m:Mdl) (plan:List Int) (aside:List Bool) (M:List (List Int × AV)) (hl:plan.length<1000000) (ha:aside.length=plan.length) :
    Holds Tryz.prog 32 [.ptr 0 0 0] [.var (bC m plan aside.length),.arr 1 (bools aside),.mp 2 M] (.lit (.int .i64 (nextC plan aside 0))) [.var (bC m plan aside.length),.arr 1 (bools aside),.mp 2 M]:=by
  generalize hres:nextC plan aside 0=res
  unfold bC
  refine Holds.of_body' (fn:=Tryz.f32) 29 3 [.tmp 2] Tryz.func32 rfl rfl rfl rfl rfl (by simp) ?_
  ((try revert hK K);(repeat' (first|refine Vb X0 ?_|(refine V2 X0 ?_ ?_<;>try with_reducible intro hb)|(refine Xi ?_ ?_<;>try intro ht)|refine VD ?_ ?_|exact Xx|fail))<;>try with_reducible intro K hK)
  refine W_loopS (fun k:Nat=>(⟨slots [(0,.ptr 0 0 0),(8,.tree 1 (ints plan)),(9,.lit (.int .i64 plan.length)),(10,.lit (.int .i64 k))],[.var (bC m plan aside.length),.arr 1 (bools aside),.mp 2 M]⟩:St)) (fun k=>k≤plan.length∧nextC (plan.drop k) aside k=res) (fun k=>plan.length - k) 0 ⟨Nat.zero_le _,hres⟩ (by unfold bC;exact Xv X0) ?_
  unfold bC
  rintro k ⟨hk,hr⟩ Ql hnl hel
  by_cases hk':k<plan.length
  · rw[getD_drop0 plan k 0 hk',nextC] at hr
    generalize hx:plan.getD k 0=x at *
    generalize hy:aside.getD k false=y at *
    by_cases hc:x<0∧y=false
    · rw[if_pos hc] at hr
      ((try revert hK K);(repeat' (first|refine Va (X2 @hx @hy) ?_|(refine V2 (X2 @hx @hy) ?_ ?_<;>try with_reducible intro hb)|(refine Xi ?_ ?_<;>try intro ht)|refine VD ?_ ?_|exact Xx|fail))<;>try with_reducible intro K hK)
      all_goals try (exfalso;omega)
      all_goals try (exfalso;simp_all;done)
      all_goals
        repeat (first|refine Xu ?_|(refine hel2 _ _ rfl ?_;clear hnl2 hel2;try clear Ql2)|(refine hel3 _ _ rfl ?_;clear hnl3 hel3;try clear Ql3)|(refine hel4 _ _ rfl ?_;clear hnl4 hel4;try clear Ql4))
        ((try revert hK K);(repeat' (first|refine Vb X0 ?_|(refine V2 X0 ?_ ?_<;>try with_reducible intro hb)|(refine Xi ?_ ?_<;>try intro ht)|refine VD ?_ ?_|exact Xx|fail))<;>try with_reducible intro K hK)
        rw[← hr]
        exact RetOK_all rfl (Nat.le_refl _) rfl
    · rw[if_neg hc] at hr
      ((try revert hK K);(repeat' (first|refine Va (X2 @hx @hy) ?_|(refine V2 (X2 @hx @hy) ?_ ?_<;>try with_reducible intro hb)|(refine Xi ?_ ?_<;>try intro ht)|refine VD ?_ ?_|exact Xx|fail))<;>try with_reducible intro K hK)
      all_goals try (exfalso;omega)
      all_goals try (exfalso;refine hc ⟨?_,?_⟩<;>first|omega|assumption|(simp_all;done))
      all_goals exact hnl _ (k+1) ⟨by omega,hr⟩ (by omega) (Xv X0)
  · rw[List.drop_eq_nil_of_le (by omega),nextC] at hr
    ((try revert hK K);(repeat' (first|refine Va X0 ?_|(refine V2 X0 ?_ ?_<;>try with_reducible intro hb)|(refine Xi ?_ ?_<;>try intro ht)|refine VD ?_ ?_|exact Xx|fail))<;>try with_reducible intro K hK)
    refine hel _ _ rfl ?_;clear hnl hel Ql
    repeat (first|refine Xu ?_)
    ((try revert hK K);(repeat' (first|refine Vb X0 ?_|(refine V2 X0 ?_ ?_<;>try with_reducible intro hb)|(refine Xi ?_ ?_<;>try intro ht)|refine VD ?_ ?_|exact Xx|fail))<;>try with_reducible intro K hK)
    rw[← hr]
    exact RetOK_all rfl (Nat.le_refl _) rfl
theorem bldOut_len (m:Mdl):∀ (l nx:List Int),(bldOut m l nx).length=nx.length
  | [],_=>rfl
  | g::r,nx=>by rw[bldOut,bldOut_len m r,List.length_set]
theorem bldOut_pm {m:Mdl}:∀ (l nx:List Int),(∀ g∈l,0≤g∧g<m.cls.length)→PM m nx→PM m (bldOut m l nx)
  | [],_,_,h=>h
  | g::r,nx,hg,h=>by
    rw[bldOut]
    have:=hg g (by simp)
    exact bldOut_pm r _ (fun x hx=>hg x (by simp[hx])) (plcM_pm h (by omega))
def ML (M:List (List Int × AV)):Prop:=∀ p∈M,∃ x:Int,p.2=.lit (.int .i64 x)
theorem ML.ren {M:List (List Int × AV)} (h:ML M) (ρ:Nat→Nat):renO ρ (.mp 2 M)=.mp 2 M:=by
  have e:M.map (fun p=>(p.1,Am.ren ρ p.2))=M:=by
    conv=>rhs;rw[← List.map_id M]
    refine List.map_congr_left fun p hp=>?_
    obtain ⟨x,hx⟩:=h p hp
    show (p.1,Am.ren ρ p.2)=p
    rw[hx,ren_lit_e,← hx]
  simp only[renO,e]
theorem ML.setA {M:List (List Int × AV)} (h:ML M) (l:List Int) (x:Int):ML (Am.setA l (.lit (.int .i64 x)) M):=fun p hp=>by
  unfold Am.setA at hp
  split at hp
  · rcases List.mem_or_eq_of_mem_set hp with hp | rfl
    · exact h p hp
    · exact⟨x,rfl⟩
  · rcases List.mem_append.1 hp with hp | hp
    · exact h p hp
    · rw[List.mem_singleton.1 hp];exact⟨x,rfl⟩
def bRes (m:Mdl) (plan:List Int) (aside:List Bool) (M:List (List Int × AV)) (u:Int→Int→Int) (cl:Int):List Ob :=
  let pk:=bldPick m plan u cl (m.cls.getD cl.toNat default).length 0 (-1,0,0)
  if pk.1<0 then [.var (bC m plan aside.length),.arr 1 (bools (aside.set cl.toNat true)),.mp 2 M]
  else [.var (bC m (bldOut m ((ejV m plan cl pk.1).getD ([],[])).2 ((ejV m plan cl pk.1).getD ([],[])).1) aside.length),.arr 1 (bools aside),.mp 2 (Am.setA [cl,pk.1] (.lit (.int .i64 (u cl pk.1+1))) M)]
theorem bRound_ok (m:Mdl) (hm:VM m) (plan:List Int) (hp:PM m plan) (aside:List Bool) (ha:aside.length=plan.length) (M:List (List Int × AV)) (u:Int→Int→Int) (hTR:TR M u) (hML:ML M) (hu:∀ a b,0≤u a b∧u a b≤100000) (cl:Int) (hcl:0≤cl∧cl<m.cls.length) :
    Holds Tryz.prog 33 [.ptr 0 0 0,.lit (.int .i64 cl)] [.var (bC m plan aside.length),.arr 1 (bools aside),.mp 2 M] (.tup []) (bRes m plan aside M u cl):=by
  have hpl:=hp.len
  have hMr:=hML.ren
  have hc24:=hm.cls
  have hl24:=hm.opt _ (getD_mem (l:=m.cls) (i:=cl.toNat) (d:=default) (by omega))
  have hopt:∀ k:Nat,k<(m.cls.getD cl.toNat default).length→optB m cl k=true:=fun k hk=>optB_iff.2 ⟨hcl.1,hcl.2,by omega,by omega⟩
  generalize hres:bRes m plan aside M u cl=res
  unfold bRes at hres
  generalize hll:m.cls.getD cl.toNat default=l at *
  generalize hpk:bldPick m plan u cl l.length 0 (-1,0,0)=pk at *
  obtain ⟨p1,p2,p3⟩:=pk
  dsimp only at hres
  unfold bC
  refine Holds.of_body' (fn:=Tryz.f33) 137 3 [] Tryz.func33 rfl rfl rfl rfl rfl (by simp) ?_
  ((try revert hK K);(repeat' (first|refine Vb @hll ?_|(refine V2 @hll ?_ ?_<;>try with_reducible intro hb)|(refine Xi ?_ ?_<;>try intro ht)|refine VD ?_ ?_|exact Xx|fail))<;>try with_reducible intro K hK)
  refine W_loopS (fun z:Nat × Int × Int × Int=>(⟨slots [(0,.ptr 0 0 0),(1,.lit (.int .i64 cl)),(4,.lit (.int .i64 z.2.1)),(5,.lit (.int .i64 z.2.2.1)),(6,.lit (.int .i64 z.2.2.2)),(25,.tree 6 (rowsOf eOpt l)),(26,.lit (.int .i64 l.length)),(27,.lit (.int .i64 z.1))],[.var (bC m plan aside.length),.arr 1 (bools aside),.mp 2 M]⟩:St))
    (fun z=>z.1≤l.length∧(z.2.1 = -1∨(0≤z.2.1∧z.2.1<l.length∧(ejV m plan cl z.2.1).isSome=true))∧(0≤z.2.2.1∧z.2.2.1≤200000)∧bldPick m plan u cl (l.length - z.1) z.1 z.2=(p1,p2,p3)) (fun z=>l.length - z.1) (0,-1,0,0)
    ⟨Nat.zero_le _,.inl rfl,⟨by decide,by decide⟩,hpk⟩ (by unfold bC;exact Xv X0) ?_
  clear hpk
  unfold bC
  rintro ⟨k,b,fee,cost⟩ ⟨hk,hbk,hfee,hr⟩ Ql hnl hel
  dsimp only at hk hbk hfee hr ⊢
  by_cases hk':k<l.length
  · rw[show l.length - k=(l.length - (k+1))+1 by omega,bldPick] at hr
    have hob:=hopt k hk'
    have hej:=eject_ok m hm plan hp cl k hob
    have hejp:=fun r h=>ejV_pm (r:=r) hp hob h
    have hlk:=hTR cl k
    have huk:=hu cl k
    generalize hejv:ejV m plan cl (k:Int)=e at *
    generalize u cl k=uk at *
    cases e with
    | none =>
      unfold ejR ejOb at hej
      dsimp only at hr
      ((try revert hK K);(repeat' (first|refine Va X0 ?_|(refine V2 X0 ?_ ?_<;>try with_reducible intro hb)|(refine Xi ?_ ?_<;>try intro ht)|refine VD ?_ ?_|exact Xx|fail))<;>try with_reducible intro K hK)
      (refine Xn [] (hej) ?_;simp (disch:=omega) only[Ac,↓Pc,simprocAttr])
      ((try revert hK K);(repeat' (first|refine Va X0 ?_|(refine V2 X0 ?_ ?_<;>try with_reducible intro hb)|(refine Xi ?_ ?_<;>try intro ht)|refine VD ?_ ?_|exact Xx|fail))<;>try with_reducible intro K hK)
      exact hnl _ (k+1,b,fee,cost) ⟨by dsimp only;omega,hbk,hfee,hr⟩ (by dsimp only;omega) (Xv X0)
    | some r =>
      unfold ejR ejOb at hej
      dsimp only at hr hej
      obtain ⟨hrp,hrl,_⟩:=hejp r rfl
      have hrl1:=hrp.len
      have htot:=total_ok m r.1 hm hrp
      rw[totW_eq hm,show totalL (rulesV m r.1) 0=costP m r.1 from rfl] at htot
      generalize costP m r.1=ct at *
      generalize hfe:(r.2.length:Int)+uk=fe at *
      ((try revert hK K);(repeat' (first|refine Va X0 ?_|(refine V2 X0 ?_ ?_<;>try with_reducible intro hb)|(refine Xi ?_ ?_<;>try intro ht)|refine VD ?_ ?_|exact Xx|fail))<;>try with_reducible intro K hK)
      (refine Xn [] (hej) ?_;simp (disch:=omega) only[Ac,↓Pc,simprocAttr])
      repeat' (first|((fail_if_success (first|refine W_at 6 ?_|refine W_atE 6 ?_));refine Xr X0 ?_;intro K hK)|refine Xo X0 ?_|(refine hK _ ?_;clear hK K)|(refine Xg X0 ?_ ?_<;>try intro hb)|(refine Xi ?_ ?_<;>try intro ht)|refine Xy ?_|refine Xd ?_ ?_|exact Xx|fail)
      refine W_turn (σ':=⟨slots [(0,.ptr 0 0 0),(1,.lit (.int .i64 cl)),(4,.lit (.int .i64 b)),(5,.lit (.int .i64 fee)),(6,.lit (.int .i64 cost)),(7,.lit (.int .i64 k)),(8,.tree 1 (ints r.1)),(9,.tree 1 (ints r.2)),(25,.tree 6 (rowsOf eOpt l)),(26,.lit (.int .i64 l.length)),(27,.lit (.int .i64 k))],[.var (bC m plan aside.length),.arr 1 (bools aside),.mp 2 M]⟩) (by unfold bC;exact Xs true [0,1,2] @hMr) ?_
      unfold bC
      ((try revert hK K);(repeat' (first|refine Vc (X2 @hlk @hfe) htot ?_|(refine V2 (X2 @hlk @hfe) ?_ ?_<;>try with_reducible intro hb)|(refine Xi ?_ ?_<;>try intro ht)|refine VD ?_ ?_|exact Xx|fail))<;>try with_reducible intro K hK)
      all_goals try (exfalso;omega)
      all_goals first
        | (rw[if_pos (by omega)] at hr;exact hnl _ (k+1,(k:Int),fe,ct) ⟨by dsimp only;omega,.inr ⟨by dsimp only;omega,by dsimp only;omega,by dsimp only;rw[hejv];rfl⟩,⟨by dsimp only;omega,by dsimp only;omega⟩,hr⟩ (by dsimp only;omega) (Xv X0))
        | (rw[if_neg (by omega)] at hr;exact hnl _ (k+1,b,fee,cost) ⟨by dsimp only;omega,hbk,hfee,hr⟩ (by dsimp only;omega) (Xv X0))
  · rw[show l.length - k=0 by omega,bldPick] at hr
    obtain ⟨rfl,rfl,rfl⟩:b=p1∧fee=p2∧cost=p3:=by simpa using hr
    ((try revert hK K);(repeat' (first|refine Va X0 ?_|(refine V2 X0 ?_ ?_<;>try with_reducible intro hb)|(refine Xi ?_ ?_<;>try intro ht)|refine VD ?_ ?_|exact Xx|fail))<;>try with_reducible intro K hK)
    refine hel _ _ rfl ?_;clear hnl hel Ql
    repeat (first|refine Xu ?_)
    clear hk hk' hr
    by_cases hb0:b<0
    · rw[if_pos hb0] at hres
      unfold bC at hres
      ((try revert hK K);(repeat' (first|refine Vb @bools_set ?_|(refine V2 @bools_set ?_ ?_<;>try with_reducible intro hb)|(refine Xi ?_ ?_<;>try intro ht)|refine VD ?_ ?_|exact Xx|fail))<;>try with_reducible intro K hK)
      all_goals try (exfalso;omega)
      exact RetOK_all hres (by rw[← hres];exact Nat.le_refl _) rfl
    · rw[if_neg hb0] at hres
      obtain ⟨hb1,hb2,hb3⟩:=hbk.resolve_left (by omega)
      have hob:=hopt b.toNat (by omega)
      rw[Int.toNat_of_nonneg hb1] at hob
      have hej:=eject_ok m hm plan hp cl b hob
      have hejp:=fun r h=>ejV_pm (r:=r) hp hob h
      have hlk:=hTR cl b
      have huk:=hu cl b
      obtain ⟨r,hr⟩:=Option.isSome_iff_exists.1 hb3
      rw[hr] at hej hejp hres
      rw[Option.getD_some] at hres
      obtain ⟨hrp,hrl,hrg⟩:=hejp r rfl
      unfold ejR ejOb at hej
      dsimp only at hej
      have e1:=fun v=>putA_setA [cl,b] v (.lit (.int .i64 (u cl b+1))) M
      have e2:=fun v=>getA_setA [cl,b] v M
      have e3:=fun v=>idxA_lt [cl,b] v M
      have hM2:=(hML.setA [cl,b] (u cl b+1)).ren
      have e4:∀ v:AV,(Option.some v).getD (.lit (.int .i64 0))=v:=fun _=>rfl
      repeat' (first|((fail_if_success (first|refine W_at 12 ?_|refine W_atE 12 ?_));refine Xr X0 ?_;intro K hK)|refine Xo X0 ?_|(refine hK _ ?_;clear hK K)|(refine Xg X0 ?_ ?_<;>try intro hb)|(refine Xi ?_ ?_<;>try intro ht)|refine XY ?_|refine Xd ?_ ?_|exact Xx|fail)
      all_goals try (exfalso;omega)
      refine unSq ?_;intro Q hn he
      refine join_here ⟨slots [(0,.ptr 0 0 0),(1,.lit (.int .i64 cl)),(4,.lit (.int .i64 b))],[.var (bC m plan aside.length),.arr 1 (bools aside),.mp 2 (Am.setA [cl,b] (.lit (.int .i64 (u cl b+1))) M)]⟩ hn ?_ (fun key=>?_)
      rotate_left
      · unfold bC at key
        refine W_draw [] (.take 0 (.take 1 (.take 2 (.take 3 (.take 4 (.take 5 (.take 6 (.both 7 (.take 8 (.take 9 (.take 10 (.take 11 .nil)))) 9 (.take 7 (.take 8 (.take 10 (.take 11 .nil)))))))))))) rfl (by decide) (by decide +kernel) ?_
        simp (disch:=omega) only[Ac,↓Pc,simprocAttr,Pw,hlk,e1,e2,e4,List.set_set]
        repeat' (first|with_reducible refine And.intro ?_ ?_|omega|with_reducible rfl|exact Int.ofNat_lt.2 (e3 _))
        all_goals
          refine key _ ?_
          exact Xv X0
      (try clear hn;try clear he)
      unfold bC
      clear e1 e2 e3 hlk
      have hcl3:=hcl
      generalize Am.setA [cl,b] (.lit (.int .i64 (u cl b+1))) M=M2 at *
      ((try revert hK K);(repeat' (first|refine Vb X0 ?_|(refine V2 X0 ?_ ?_<;>try with_reducible intro hb)|(refine Xi ?_ ?_<;>try intro ht)|refine VD ?_ ?_|exact Xx|fail))<;>try with_reducible intro K hK)
      (refine Xn [] (hej) ?_;simp (disch:=omega) only[Ac,↓Pc,simprocAttr])
      ((try revert hK K);(repeat' (first|refine Vb X0 ?_|(refine V2 X0 ?_ ?_<;>try with_reducible intro hb)|(refine Xi ?_ ?_<;>try intro ht)|refine VD ?_ ?_|exact Xx|fail))<;>try with_reducible intro K hK)
      have hrl1:=hrp.len
      generalize hfin:bldOut m r.2 r.1=fin at hres
      refine W_loopS (fun z:Nat × List Int=>(⟨slots [(0,.ptr 0 0 0),(13,.ref 3 1 0 z.2.length),(119,.tree 1 (ints r.2)),(120,.lit (.int .i64 r.2.length)),(121,.lit (.int .i64 z.1))],[.var (bC m plan aside.length),.arr 1 (bools aside),.mp 2 M2,.arr 1 (ints z.2)]⟩:St))
        (fun z=>z.1≤r.2.length∧PM m z.2∧bldOut m (r.2.drop z.1) z.2=fin) (fun z=>r.2.length - z.1) (0,r.1) ⟨Nat.zero_le _,hrp,hfin⟩ (by unfold bC;exact Xv X0) ?_
      clear hfin hej
      unfold bC
      rintro ⟨j,nx⟩ ⟨hj,hpn,hrj⟩ Ql hnl hel
      dsimp only at hj hpn hrj ⊢
      by_cases hj':j<r.2.length
      · have hgj:=hrg _ (getD_mem (d:=0) hj')
        rw[getD_drop0 r.2 j 0 hj',bldOut] at hrj
        generalize hgg:r.2.getD j 0=g at *
        have hpc:=place_ok m nx g hm hpn hgj
        have hpn2:=plcM_pm hpn (c:=g.toNat) (by omega)
        ((try revert hK K);(repeat' (first|refine Va @hgg ?_|(refine V2 @hgg ?_ ?_<;>try with_reducible intro hb)|(refine Xi ?_ ?_<;>try intro ht)|refine VD ?_ ?_|exact Xx|fail))<;>try with_reducible intro K hK)
        (refine Xn [3] (hpc) ?_;simp (disch:=omega) only[Ac,↓Pc,simprocAttr])
        ((try revert hK K);(repeat' (first|refine Va X0 ?_|(refine V2 X0 ?_ ?_<;>try with_reducible intro hb)|(refine Xi ?_ ?_<;>try intro ht)|refine VD ?_ ?_|exact Xx|fail))<;>try with_reducible intro K hK)
        exact hnl _ (j+1,nx.set g.toNat (plcM m nx g.toNat)) ⟨by dsimp only;omega,hpn2,hrj⟩ (by dsimp only;omega) (by simp only[List.length_set];exact Xv X0)
      · rw[List.drop_eq_nil_of_le (by omega),bldOut] at hrj
        subst hrj
        ((try revert hK K);(repeat' (first|refine Va X0 ?_|(refine V2 X0 ?_ ?_<;>try with_reducible intro hb)|(refine Xi ?_ ?_<;>try intro ht)|refine VD ?_ ?_|exact Xx|fail))<;>try with_reducible intro K hK)
        refine hel _ _ rfl ?_;clear hnl hel Ql
        repeat (first|refine Xu ?_)
        repeat' (first|((fail_if_success (first|refine W_at 19 ?_|refine W_atE 19 ?_));refine Xr X0 ?_;intro K hK)|refine Xo X0 ?_|(refine hK _ ?_;clear hK K)|(refine Xg X0 ?_ ?_<;>try intro hb)|(refine Xi ?_ ?_<;>try intro ht)|refine Xy ?_|refine Xd ?_ ?_|exact Xx|fail)
        refine W_region_te 5 (by decide) ?_
        intro K K1 hK hK1
        simp (disch:=omega) only[Ac,↓Pc,simprocAttr,List.take]
        refine hK1 _ _ (Turns.frzV 3 0 4 1 (rows:=ints nx) rfl rfl (by rw[ints_length];rfl) (ints_wid _) (fun row h v hv=>by
          unfold ints at h
          obtain ⟨x,_,rfl⟩:=List.mem_map.1 h
          exact .inl ⟨_,List.mem_singleton.1 hv⟩)) ?_
        clear hK1 K1
        simp (disch:=omega) only[Ac,↓Pc,simprocAttr,List.drop]
        refine hK _ ?_
        clear hK K
        repeat (first|refine Xu ?_)
        ((try revert hK K);(repeat' (first|refine Va X0 ?_|(refine V2 X0 ?_ ?_<;>try with_reducible intro hb)|(refine Xi ?_ ?_<;>try intro ht)|refine VD ?_ ?_|exact Xx|fail))<;>try with_reducible intro K hK)
        rw[← hres]
        unfold bC
        exact Xw false [0,1,2] @hM2
theorem nextC_range:∀ (plan:List Int) (aside:List Bool) (i:Nat),nextC plan aside i = -1∨((i:Int)≤nextC plan aside i∧nextC plan aside i<i+plan.length)
  | [],_,_=>.inl rfl
  | o::r,aside,i=>by
    rw[nextC]
    split
    · exact .inr ⟨Int.le_refl _,by simp only[List.length_cons];omega⟩
    · rcases nextC_range r aside (i+1) with h | h
      · exact .inl h
      · exact .inr ⟨by omega,by simp only[List.length_cons];omega⟩
theorem bldPick_some {m:Mdl} {plan:List Int} {u:Int→Int→Int} {cl:Int}:∀ (f o:Nat) (s:Int × Int × Int),(s.1<0∨(0≤s.1∧s.1<(o:Int)∧(ejV m plan cl s.1).isSome=true)) →
    (bldPick m plan u cl f o s).1<0∨(0≤(bldPick m plan u cl f o s).1∧(bldPick m plan u cl f o s).1<((o+f:Nat):Int)∧(ejV m plan cl (bldPick m plan u cl f o s).1).isSome=true)
  | 0,o,s,h=>by rw[bldPick];exact h
  | f+1,o,s,h=>by
    rw[bldPick,show o+(f+1)=o+1+f by omega]
    refine bldPick_some f (o+1) _ ?_
    split
    · rcases h with h | ⟨h1,h2,h3⟩
      · exact .inl h
      · exact .inr ⟨h1,by omega,h3⟩
    · rename_i r hr
      split
      · exact .inr ⟨by dsimp only;omega,by dsimp only;omega,by dsimp only;rw[hr];rfl⟩
      · rcases h with h | ⟨h1,h2,h3⟩
        · exact .inl h
        · exact .inr ⟨h1,by omega,h3⟩
theorem step_pm {m:Mdl} {s:BS} (hp:PM m s.plan) (hn:0≤nextC s.plan s.aside 0):PM m (bldStep m s).plan∧(bldStep m s).aside.length=s.aside.length∧(∀ a b,s.u a b≤(bldStep m s).u a b∧(bldStep m s).u a b≤s.u a b+1):=by
  have hpl:=hp.len
  rcases nextC_range s.plan s.aside 0 with h0 | h0
  · omega
  · unfold bldStep
    have hps:=bldPick_some (m:=m) (plan:=s.plan) (u:=s.u) (cl:=nextC s.plan s.aside 0) (m.cls.getD (nextC s.plan s.aside 0).toNat default).length 0 (-1,0,0) (.inl (by decide))
    generalize hcl:nextC s.plan s.aside 0=cl at *
    generalize bldPick m s.plan s.u cl (m.cls.getD cl.toNat default).length 0 (-1,0,0)=pk at *
    split
    · refine⟨hp,by simp,fun a b=>⟨Int.le_refl _,by dsimp only;omega⟩⟩
    · rename_i hb
      obtain ⟨g1,g2,g3⟩:=hps.resolve_left hb
      obtain ⟨r,hr⟩:=Option.isSome_iff_exists.1 g3
      have hob:optB m cl pk.1=true:=optB_iff.2 ⟨by omega,by omega,g1,by rw[Nat.zero_add] at g2;exact g2⟩
      obtain ⟨k1,k2,k3⟩:=ejV_pm hp hob hr
      dsimp only
      rw[hr,Option.getD_some]
      refine⟨bldOut_pm _ _ k3 k1,rfl,fun a b=>?_⟩
      unfold incU
      split<;>omega
theorem step_obj {m:Mdl} {s:BS} {M:List (List Int × AV)} (hT:TR M s.u) (hL:ML M) :∃M',bRes m s.plan s.aside M s.u (nextC s.plan s.aside 0)=[.var (bC m (bldStep m s).plan (bldStep m s).aside.length),.arr 1 (bools (bldStep m s).aside),.mp 2 M']∧TR M' (bldStep m s).u∧ML M':=by
  unfold bRes bldStep
  dsimp only
  generalize bldPick m s.plan s.u (nextC s.plan s.aside 0) (m.cls.getD (nextC s.plan s.aside 0).toNat default).length 0 (-1,0,0)=pk
  by_cases hb:pk.1<0
  · rw[if_pos hb,if_pos hb]
    exact⟨M,by simp,hT,hL⟩
  · rw[if_neg hb,if_neg hb]
    exact⟨_,rfl,hT.inc _ _,hL.setA _ _⟩
theorem step_best2 {m:Mdl} {s:BS} (h:missV s.best≤missV s.plan):(bldStep m s).best=(if missV (bldStep m s).plan<missV s.best then (bldStep m s).plan else s.best)∧missV (bldStep m s).best≤missV (bldStep m s).plan:=by
  unfold bldStep
  split
  · dsimp only
    rw[if_neg (by omega)]
    exact⟨rfl,h⟩
  · dsimp only
    refine⟨rfl,?_⟩
    split<;>omega
theorem Build_ok (m:Mdl) (hb:MB m) (n:Int):Holds Tryz.prog 12 [.agg (eMdl m),.lit (.int .i64 n)] [] (.tup [.tree 1 (ints (buildT m n).1),.lit (.int .i64 (buildT m n).2)]) []:=by
  generalize hres:buildT m n=res
  unfold buildT at hres
  refine Holds.of_body' (fn:=Tryz.f12) 61 0 [.tmp 4,.tmp 5] Tryz.func12 rfl rfl rfl rfl rfl (by simp) ?_
  repeat' (first|((fail_if_success (first|refine W_at 4 ?_|refine W_atE 4 ?_));refine Xq X0 ?_;intro K hK)|refine Xo X0 ?_|refine Xc (valid_ok m hb) ?_|(refine hK _ ?_;clear hK K)|(refine Xg X0 ?_ ?_<;>try intro hb)|(refine Xi ?_ ?_<;>try intro ht)|refine XY ?_|refine Xd ?_ ?_|exact Xx|fail)
  · rw[if_pos ht] at hres
    rw[← hres]
    exact RetOK_sel [] true (by decide) trivial (by decide) (by decide) (ArgR.tup2 ArgR.nil (.pure rfl))
  rw[if_neg (by omega)] at hres
  have hm:=valid_iff.1 (by omega)
  by_cases hrg:n<0∨65536<n
  · rw[if_pos hrg] at hres
    ((try revert hK K);(repeat' (first|refine Vb X0 ?_|(refine V2 X0 ?_ ?_<;>try with_reducible intro hb)|(refine Xi ?_ ?_<;>try intro ht)|refine VD ?_ ?_|exact Xx|fail))<;>try with_reducible intro K hK)
    all_goals try (exfalso;omega)
    all_goals
      rw[← hres]
      exact RetOK_sel [] true (by decide) trivial (by decide) (by decide) (ArgR.tup2 ArgR.nil (.pure rfl))
  rw[if_neg hrg] at hres
  have hc24:=hm.cls
  have hst:=Holds.frz1 (saturate_ok m hm)
  have hsp:=satV_pm m
  have hspl:=hsp.len
  have hMr0:∀ ρ,renO ρ (.mp 2 [])=.mp 2 []:=fun _=>rfl
  unfold buildV bld0 at hres
  generalize satV m=sp at *
  repeat' (first|((fail_if_success (first|refine W_at 6 ?_|refine W_atE 6 ?_));refine Xr X0 ?_;intro K hK)|refine Xo X0 ?_|(refine hK _ ?_;clear hK K)|(refine Xg X0 ?_ ?_<;>try intro hb)|(refine Xi ?_ ?_<;>try intro ht)|refine XY ?_|refine Xd ?_ ?_|exact Xx|fail)
  all_goals try (exfalso;omega)
  refine unSq ?_;intro Q hn he
  refine join_here ⟨slots [(1,.lit (.int .i64 n)),(7,.ptr 0 0 0)],[.var (bC m sp m.cls.length),.arr 1 (bools (List.replicate m.cls.length false)),.mp 2 []]⟩ hn ?_ (fun key=>?_)
  rotate_left
  · unfold bC at key
    refine W_draw [2] (.take 0 (.take 1 (.take 2 (.take 3 (.take 4 (.take 5 (.both 6 (.take 7 (.take 8 (.take 9 (.take 10 .nil)))) 7 (.take 6 (.take 8 (.take 9 (.take 10 .nil))))))))))) rfl (by decide) (by decide +kernel) ?_
    simp (disch:=omega) only[Ac,↓Pc,simprocAttr,Pw]
    repeat' (first|with_reducible refine And.intro ?_ ?_|omega|with_reducible rfl)
    all_goals
      refine callQ_pure hst rfl rfl ?_
      simp (disch:=omega) only[Ac,↓Pc,simprocAttr,Pw]
      repeat' (first|with_reducible refine And.intro ?_ ?_|omega|with_reducible rfl)
    · refine key _ ?_
      exact Xs false [3,1,2] @hMr0
    · refine key _ ?_
      exact Xs false [3,2,1] @hMr0
  (try clear hn;try clear he)
  have hcln:=fun (xs:List Int) (h:xs.length<549755813888)=>cloneFInt_ok xs h
  have hc0:=hcln sp (by omega)
  unfold bC
  ((try revert hK K);(repeat' (first|refine Vd X0 hc0 ?_|(refine V2 X0 ?_ ?_<;>try with_reducible intro hb)|(refine Xi ?_ ?_<;>try intro ht)|refine VD ?_ ?_|exact Xx|fail))<;>try with_reducible intro K hK)
  have hn0:0≤n:=by omega
  refine W_loopS (fun z:Nat × BS × List (List Int × AV)=>(⟨slots [(7,.ptr 0 0 0),(8,.tree 1 (ints z.2.1.best)),(36,.lit (.int .i64 n)),(37,.lit (.int .i64 z.1))],[.var (bC m z.2.1.plan z.2.1.aside.length),.arr 1 (bools z.2.1.aside),.mp 2 z.2.2]⟩:St))
    (fun z=>z.1≤n.toNat∧PM m z.2.1.plan∧z.2.1.aside.length=m.cls.length∧z.2.1.best.length=m.cls.length∧missV z.2.1.best≤missV z.2.1.plan∧TR z.2.2 z.2.1.u∧ML z.2.2∧(∀ a b,0≤z.2.1.u a b∧z.2.1.u a b≤z.1)∧(bldR m (n.toNat - z.1) z.2.1,(0:Int))=res) (fun z=>n.toNat - z.1)
    (0,⟨sp,sp,List.replicate m.cls.length false,fun _ _=>0⟩,[]) ⟨Nat.zero_le _,hsp,by simp,hspl,Int.le_refl _,TR.nil,fun p hp=>by simp at hp,fun _ _=>⟨Int.le_refl _,Int.le_refl _⟩,hres⟩ (by unfold bC;dsimp only;rw[List.length_replicate];exact Xv X0) ?_
  clear hres hsp hspl hst hc0
  rintro ⟨k,s,M⟩ ⟨hk,hpm,hal,hbl,hbm,hT,hL,hu,hr⟩ Ql hnl hel
  dsimp only at hk hpm hal hbl hbm hT hL hu hr ⊢
  have hpl:=hpm.len
  by_cases hk':k<n.toNat
  · rw[show n.toNat - k=(n.toNat - (k+1))+1 by omega,bldR] at hr
    have hnx:=bNext_ok m s.plan s.aside M (by omega) (by omega)
    have hnr:=nextC_range s.plan s.aside 0
    unfold bC
    ((try revert hK K);(repeat' (first|refine Va X0 ?_|(refine V2 X0 ?_ ?_<;>try with_reducible intro hb)|(refine Xi ?_ ?_<;>try intro ht)|refine VD ?_ ?_|exact Xx|fail))<;>try with_reducible intro K hK)
    all_goals try (exfalso;omega)
    unfold bC at hnx
    refine callK_all hnx (Nat.le_refl _) ?_
    by_cases hc:nextC s.plan s.aside 0<0
    · rw[if_pos hc] at hr
      ((try revert hK K);(repeat' (first|refine Va X0 ?_|(refine V2 X0 ?_ ?_<;>try with_reducible intro hb)|(refine Xi ?_ ?_<;>try intro ht)|refine VD ?_ ?_|exact Xx|fail))<;>try with_reducible intro K hK)
      all_goals try (exfalso;omega)
      refine hel _ _ rfl ?_;clear hnl hel Ql
      repeat (first|refine Xu ?_)
      ((try revert hK K);(repeat' (first|refine Vb X0 ?_|(refine V2 X0 ?_ ?_<;>try with_reducible intro hb)|(refine Xi ?_ ?_<;>try intro ht)|refine VD ?_ ?_|exact Xx|fail))<;>try with_reducible intro K hK)
      rw[← hr]
      exact RetOK_sel [] true (by decide) trivial (by decide) (by decide) (ArgR.tup2 (.pure rfl) (.pure rfl))
    · rw[if_neg hc] at hr
      have hrd:=bRound_ok m hm s.plan hpm s.aside (by omega) M s.u hT hL (fun a b=>⟨(hu a b).1,by have:=(hu a b).2;omega⟩) (nextC s.plan s.aside 0) ⟨by omega,by omega⟩
      obtain ⟨M',h1,h2,h3⟩:=step_obj (m:=m) hT hL
      rw[h1] at hrd
      obtain ⟨g1,g2,g3⟩:=step_pm (m:=m) hpm (by omega:0≤nextC s.plan s.aside 0)
      obtain ⟨g4,g5⟩:=step_best2 (m:=m) hbm
      clear h1
      have hu2:∀ a b,0≤(bldStep m s).u a b∧(bldStep m s).u a b≤((k+1:Nat):Int):=fun a b=>by have:=hu a b;have:=g3 a b;omega
      have hpl2:=g1.len
      have hm1:=missing_ok (bldStep m s).plan (by omega)
      have hm2:=missing_ok s.best (by omega)
      have hc2:=hcln (bldStep m s).plan (by omega)
      generalize bldStep m s=s2 at *
      generalize nextC s.plan s.aside 0=cl at *
      unfold bC at hrd
      ((try revert hK K);(repeat' (first|refine Va X0 ?_|(refine V2 X0 ?_ ?_<;>try with_reducible intro hb)|(refine Xi ?_ ?_<;>try intro ht)|refine VD ?_ ?_|exact Xx|fail))<;>try with_reducible intro K hK)
      all_goals try (exfalso;omega)
      refine callK_all hrd (by simp) ?_
      by_cases hlt:missV s2.plan<missV s.best
      · rw[if_pos hlt] at g4
        ((try revert hK K);(repeat' (first|refine Vc X0 (X3 hm1 hm2 hc2) ?_|(refine V2 X0 ?_ ?_<;>try with_reducible intro hb)|(refine Xi ?_ ?_<;>try intro ht)|refine VD ?_ ?_|exact Xx|fail))<;>try with_reducible intro K hK)
        all_goals try (exfalso;omega)
        exact hnl _ (k+1,s2,M') ⟨by dsimp only;omega,g1,by dsimp only;omega,by dsimp only;rw[g4];omega,g5,h2,h3,hu2,hr⟩ (by dsimp only;omega) (by dsimp only;rw[g4];unfold bC;exact Xv X0)
      · rw[if_neg hlt] at g4
        ((try revert hK K);(repeat' (first|refine Vc X0 (X2 hm1 hm2) ?_|(refine V2 X0 ?_ ?_<;>try with_reducible intro hb)|(refine Xi ?_ ?_<;>try intro ht)|refine VD ?_ ?_|exact Xx|fail))<;>try with_reducible intro K hK)
        all_goals try (exfalso;omega)
        exact hnl _ (k+1,s2,M') ⟨by dsimp only;omega,g1,by dsimp only;omega,by dsimp only;rw[g4];omega,g5,h2,h3,hu2,hr⟩ (by dsimp only;omega) (by dsimp only;rw[g4];unfold bC;exact Xv X0)
  · rw[show n.toNat - k=0 by omega,bldR] at hr
    ((try revert hK K);(repeat' (first|refine Va X0 ?_|(refine V2 X0 ?_ ?_<;>try with_reducible intro hb)|(refine Xi ?_ ?_<;>try intro ht)|refine VD ?_ ?_|exact Xx|fail))<;>try with_reducible intro K hK)
    all_goals try (exfalso;omega)
    refine hel _ _ rfl ?_;clear hnl hel Ql
    repeat (first|refine Xu ?_)
    ((try revert hK K);(repeat' (first|refine Vb X0 ?_|(refine V2 X0 ?_ ?_<;>try with_reducible intro hb)|(refine Xi ?_ ?_<;>try intro ht)|refine VD ?_ ?_|exact Xx|fail))<;>try with_reducible intro K hK)
    rw[← hr]
    exact RetOK_sel [] true (by decide) trivial (by decide) (by decide) (ArgR.tup2 (.pure rfl) (.pure rfl))
end T

