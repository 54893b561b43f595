import Derived.Test.YtkmfgcbdnijgeaaGreatX29
import Derived.Test.YtkmfgcbdnijgeaaGreatX36
import Derived.Test.YtkmfgcbdnijgeaaGreatX40
import Derived.Test.YtkmfgcbdnijgeaaGreatX14
set_option linter.unusedVariables false
set_option linter.unusedSimpArgs false
set_option linter.unnecessarySimpa false
set_option linter.unusedSectionVars false
set_option maxHeartbeats 64000000
set_option maxRecDepth 20000
open Go Go.Am Go.Proofs
open Nat (reduceEqDiff reduceAdd reduceLeDiff reduceMul)
open Int (reduceNeg reduceLE reduceToNat)
namespace T
structure Each (α:Type) (m:Mdl) (P:List Nd) (A B C:α→Ob) (caps:List AV) (g:FuncId) (step:α→St3→α × Bool) (Inv:α→List St3→Prop):Prop where
  ra:∀ (ρ:Nat→Nat),ρ 0=0→ρ 1=1→ρ 2=2→∀ a,renO ρ (A a)=A a∧renO ρ (B a)=B a∧renO ρ (C a)=C a
  rc:∀ (ρ:Nat→Nat),ρ 0=0→ρ 1=1→ρ 2=2→∀ v∈caps,ren ρ v=v
  inv:∀ a s L,GoodS m P s→Inv a (s::L)→Inv (step a s).1 L
  call:VM m→∀ a s L,GoodS m P s→Inv a (s::L)→Holds Tryz.prog g (.agg [.lit (.int .i64 s.1),.tree 1 (rowsOf eBs s.2.1)]::caps) [A a,B a,C a] (.lit (.bool (step a s).2)) [A (step a s).1,B (step a s).1,C (step a s).1]
theorem args_same {σ:St} {kp:Nat→Prop} {ρ:Nat→Nat} {snap:Bool}:∀ (l:List AV),(∀ v∈l,ren ρ v=v)→ArgsR (ArgR σ kp ρ snap) l l
  | [],_=>trivial
  | v::l,h=>⟨.eq (h v (by simp)).symm,args_same l fun x hx=>h x (by simp[hx])⟩
theorem walk_ok {α:Type} (m:Mdl) (P:List Nd) (hm:MB m) (hP:PB P) (A B C:α→Ob) (caps:List AV) (g:FuncId) (step:α→St3→α × Bool) {Inv:α→List St3→Prop} (hE:Each α m P A B C caps g step Inv) (a:α) (hI:VM m→shapedB m P=true→Inv a (vs P (root m))) :
    Holds Tryz.prog 48 [.agg (eMdl m),.agg (ePf P),.fn g caps] [A a,B a,C a] (.lit (.bool (walkV m P step a).2)) [A (walkV m P step a).1,B (walkV m P step a).1,C (walkV m P step a).1]:=by
  have hv:=valid_ok m hm
  have hp0:=hP.nds
  have hrA:∀ n l a,renO (rho n (0::1::2::l)) (A a)=A a:=fun n l a=>(hE.ra _ rfl rfl rfl a).1
  have hrB:∀ n l a,renO (rho n (0::1::2::l)) (B a)=B a:=fun n l a=>(hE.ra _ rfl rfl rfl a).2.1
  have hrC:∀ n l a,renO (rho n (0::1::2::l)) (C a)=C a:=fun n l a=>(hE.ra _ rfl rfl rfl a).2.2
  have hcap:∀ n l,ren (rho n (0::1::2::l)) (.fn g caps)=.fn g caps:=fun n l=>by
    rw[ren]
    refine congrArg _ ?_
    have h:=hE.rc (rho n (0::1::2::l)) rfl rfl rfl
    rw[renL_eq]
    exact (List.map_congr_left h).trans (List.map_id caps)
  have hfn:∀ (σ:St) (kp:Nat→Prop) n l snap,ArgR σ kp (rho n (0::1::2::l)) snap (.fn g caps) (.fn g caps):=fun σ kp n l snap=>.eq (hcap n l).symm
  generalize hres:walkV m P step a=res
  unfold walkV at hres
  refine Holds.of_body' (fn:=Tryz.f48) 88 3 [.tmp 6] Tryz.func48 rfl rfl rfl rfl rfl (by simp) ?_
  by_cases hvz:validV m=0
  rotate_left
  · rw[if_neg (fun h=>hvz h.1)] at hres
    ((repeat' (first|refine Vd @ePf.eq_1 hv ?_|(refine V2 @ePf.eq_1 ?_ ?_<;>try with_reducible intro hb)|(refine Xi ?_ ?_<;>try intro ht)|exact Xx|fail)))
    subst hres
    exact Xw false [0,1,2] (X3 @hrA @hrB @hrC)
  rw[hvz] at hv
  have hvm:=valid_iff.1 hvz
  have hsh:=shaped_ok m P hvm hP
  cases hs:shapedB m P
  · rw[hs] at hsh hres
    rw[if_neg (by simp)] at hres
    ((repeat' (first|refine Vd (X3 @ePf.eq_1 @bne_self_eq_false.{0} @Bool.not_false) (X2 hv hsh) ?_|(refine Xi ?_ ?_<;>try intro ht)|exact Xx|fail)))
    subst hres
    exact Xw false [0,1,2] (X3 @hrA @hrB @hrC)
  rw[hs] at hsh hres
  rw[if_pos ⟨hvz,rfl⟩] at hres
  have hal:=all_ok m hm
  have haf:=all_fits hvm
  have hdn:=shaped_down hs
  have hln:=shaped_len hs
  clear hvz
  have hIn:=hI hvm hs
  unfold root at hres hIn
  generalize allT m=al at *
  ((repeat' (first|refine Vd (X3 @ePf.eq_1 @bne_self_eq_false.{0} @Bool.not_true) (X3 hv hsh hal) ?_|(refine Xi ?_ ?_<;>try intro ht)|exact Xx|fail)))
  refine W_loopS (fun z:List St3 × List St3 × α=>(⟨slots [(2,.fn g caps),(3,.ptr 3 0 0),(4,.ptr 4 0 0),(7,.ref 5 3 0 z.1.length)],[A z.2.2,B z.2.2,C z.2.2,.var (eMdl m),.var (ePf P),.arr 3 (rowsOf eSt (z.1.reverse++z.2.1))]⟩:St))
    (fun z=>(∀ s∈z.1,GoodS m P s)∧LenOK z.1∧Inv z.2.2 (z.1.flatMap (vs P))∧runL P step (z.1.flatMap (vs P)) z.2.2=res) (fun z=>(z.1.flatMap (vs P)).length) ([(0,al,[])],[],a) ⟨fun s hs=>by rw[List.mem_singleton] at hs;subst hs;exact⟨hln.1,haf,Nat.le_refl _⟩,⟨Nat.zero_le _,trivial⟩,by simpa using hIn,by simpa using hres⟩ (Xv @ePf.eq_1) ?_
  clear hres haf hI hIn
  rintro ⟨T,J,a⟩ ⟨hgd,hlo,hIv,hres⟩ Ql hnl hel
  dsimp only at hgd hlo hIv hres ⊢
  cases T with
  | nil =>
    rw[List.flatMap_nil,runL] at hres
    ((repeat' (first|refine Va X0 ?_|(refine Xi ?_ ?_<;>try intro ht)|exact Xx|fail)))
    refine hel _ _ rfl ?_;clear hnl hel Ql
    repeat (refine Xu ?_)
    refine Vb X0 ?_
    subst hres
    exact Xw false [0,1,2] (X3 @hrA @hrB @hrC)
  | cons s T =>
    have hgs:=hgd s (by simp)
    have hgT:∀ t∈T,GoodS m P t:=fun t ht=>hgd t (by simp[ht])
    have hvst:=vs_step hdn hgs.1
    rw[List.flatMap_cons,hvst,List.cons_append] at hIv
    have hIv2:=hE.inv a s _ hgs hIv
    rw[List.flatMap_cons,hvst,List.cons_append,runL] at hres
    have hrg:(rowsOf eSt ((s::T).reverse++J))[T.length]?=some (eSt s):=by
      unfold rowsOf
      rw[List.getElem?_map,List.reverse_cons,List.append_assoc,List.getElem?_append_right (by simp)];simp
    have htk:(rowsOf eSt ((s::T).reverse++J)).take T.length=rowsOf eSt T.reverse:=by
      unfold rowsOf
      rw[← List.map_take,List.reverse_cons,List.append_assoc,List.take_append_of_le_length (by simp),List.take_of_length_le (by simp)]
    have hRl:T.length+1≤((s::T).reverse++J).length:=by simp
    have ht1:(((T.length+1:Nat):Int) - 1).toNat=T.length:=by omega
    have hsc:=eAb_scal
    rw[List.length_cons]
    generalize hRR:(s::T).reverse++J=L at *
    obtain ⟨hTl,hlo⟩:=hlo
    obtain ⟨i,left,ab⟩:=s
    dsimp only at hTl
    have hi:i<P.length:=hgs.1
    have hfit:FitsP m left:=hgs.2.1
    have hab:ab.length≤i:=hgs.2.2
    have hnd:P.getD i default=nd P i:=rfl
    have hmem:=getD_mem (l:=P) (i:=i) (d:=default) hi
    have b1:=hP.kids _ hmem
    have hdi:=hdn i hi
    have hko:=fun o=>kid_in (o:=o) hdn hgs.1
    have hkg:=fun o=>good_kid (o:=o) hdn hgs
    have hndb:=shaped_node hs hi
    have hkS:∀ o,kidS P (i,left,ab) o=(((nd P i).kids.getD o 0).toNat,onlyV left (nd P i).cls.toNat o,ab++[(nd P i).cls]):=fun o=>rfl
    have hkF:kidsF P (i,left,ab)=kidsT P (i,left,ab) (nd P i).kids.length:=rfl
    rw[hnd] at b1 hmem
    dsimp only at hres hko hkg
    generalize hxx:nd P i=x at *
    obtain ⟨c,kids,mvs,grp,cells⟩:=x
    dsimp only at b1 hdi hko hkg hkS hkF hres
    repeat' (first|((fail_if_success (first|refine W_at 8 ?_|refine W_atE 8 ?_));refine Xr (X5 @hrg @eSt.eq_1 @ht1 @hsc (X4 @ePf.eq_1 @hnd @eNd.eq_1 @Option.map_none.{0,0})) ?_;intro K hK)|(refine hK _ ?_;clear hK K)|(refine Xi ?_ ?_<;>try intro ht)|refine Xy ?_|refine Xd ?_ ?_|exact Xx|fail)
    refine W_turn (Turns.frzP 8 6 (cells:=[.lit (.int .i64 i),.tree 1 (rowsOf eBs left),eAb ab]) (by rfl) (by simp only[Kc,simprocAttr]) (by
      intro v hv
      simp only[List.mem_cons,List.not_mem_nil,or_false] at hv
      rcases hv with rfl | rfl | rfl
      · exact .inl ⟨_,rfl⟩
      · exact .inr ⟨_,_,rfl⟩
      · rcases eAb_ok ab with ⟨y,h,_⟩ | h
        · exact .inl ⟨y,h⟩
        · exact .inr h)) ?_
    refine W_turn (Turns.frzP 9 7 (cells:=eNd ⟨c,kids,mvs,grp,cells⟩) (by rfl) (by simp only[Kc,simprocAttr]) (by simp[eNd])) ?_
    refine W_turn (σ':=⟨slots [(2,.fn g caps),(3,.ptr 3 0 0),(4,.ptr 4 0 0),(7,.ref 5 3 0 T.length),(8,.taddr [.lit (.int .i64 i),.tree 1 (rowsOf eBs left),eAb ab]),(9,.taddr (eNd ⟨c,kids,mvs,grp,cells⟩))],[A a,B a,C a,.var (eMdl m),.var (ePf P),.arr 3 (rowsOf eSt L)]⟩) (by ((refine Turns.se [0,1,2,3,4,5] false (by simp only[Oc,simprocAttr,hrA,hrB,hrC,ePf]) ?_;simp only[Hr,↓reduceIte,reduceEqDiff,Nat.reduceBEq,reduceAdd,hrA,hrB,hrC,ePf];try (and_intros<;>first|exact .pure rfl|exact .eq rfl|exact .fz rfl (by simp only[Bc,Rc]))));(and_intros<;>first|exact hfn ..|exact .pure rfl|exact .eq rfl)) ?_
    have hcn:Holds Tryz.prog 81 [eAb ab,.lit (.int .i64 c)] [] (.lit (.bool (ab.contains c))) []:=by
      have:=containsN_ok ab c (by omega)
      cases ab with
      | nil=>exact Holds.nilArg (pre:=[]) (post:=[.lit (.int .i64 c)]) this
      | cons x r=>exact this
    cases hac:ab.contains c
    rotate_left
    · rw[hac] at hcn hres
      rw[if_pos rfl] at hres
      ((refine Va @eNd.eq_1 ?_)<;>try with_reducible intro K hK)
      refine callK_pure hcn (eAb_nr _ _) rfl ?_
      ((try revert hK K);(repeat' (first|refine Va @eNd.eq_1 ?_|(refine Xi ?_ ?_<;>try intro ht)|exact Xx|fail)))
      repeat (refine Xu ?_)
      refine Vb X0 ?_
      rw[← hres]
      exact Xw false [0,1,2] (X3 @hrA @hrB @hrC)
    rw[hac] at hcn hres
    rw[if_neg (by simp)] at hres
    have hcall:=hE.call hvm a (i,left,ab) _ hgs hIv
    dsimp only at hcall
    generalize hst:step a (i,left,ab)=sa at *
    obtain ⟨a2,b⟩:=sa
    dsimp only at hcall hres hIv2
    ((refine Va @eNd.eq_1 ?_)<;>try with_reducible intro K hK)
    refine callK_pure hcn (eAb_nr _ _) rfl ?_
    cases b
    · rw[if_neg (by simp)] at hres
      ((try revert hK K);(refine Va @eNd.eq_1 ?_)<;>try with_reducible intro K hK)
      refine callK_sel [0,1,2] hcall (by decide) ⟨by rw[hrA];rfl,by rw[hrB];rfl,by rw[hrC];rfl,trivial⟩ ⟨.pure rfl,args_same caps (hE.rc _ rfl rfl rfl)⟩ ?_
      ((try revert hK K);(repeat' (first|refine Va (X4 @eNd.eq_1 @hrA @hrB @hrC) ?_|(refine Xi ?_ ?_<;>try intro ht)|exact Xx|fail)))
      repeat (refine Xu ?_)
      refine Vb X0 ?_
      rw[← hres]
      exact Xw false [0,1,2] (X3 @hrA @hrB @hrC)
    rw[if_pos rfl] at hres
    ((try revert hK K);(refine Va @eNd.eq_1 ?_)<;>try with_reducible intro K hK)
    refine callK_sel [0,1,2] hcall (by decide) ⟨by rw[hrA];rfl,by rw[hrB];rfl,by rw[hrC];rfl,trivial⟩ ⟨.pure rfl,args_same caps (hE.rc _ rfl rfl rfl)⟩ ?_
    ((try revert hK K);(repeat' (first|refine Va (X4 @eNd.eq_1 @hrA @hrB @hrC) ?_|(refine Xi ?_ ?_<;>try intro ht)|exact Xx|fail)))
    have hcls:0<kids.length→0≤c∧c<m.cls.length∧kids.length=(m.cls.getD c.toNat default).length:=fun h=>by
      unfold nodeB ndB at hndb
      dsimp only at hndb
      rw[Bool.and_eq_true] at hndb
      have h1:=hndb.1
      split at h1
      · rw[decide_eq_true_eq] at h1;omega
      · rw[decide_eq_true_eq] at h1;exact⟨h1.1,h1.2.1,h1.2.2.1⟩
    have hk24:kids.length≤24:=by
      unfold nodeB at hndb
      rw[Bool.and_eq_true] at hndb
      exact ndB_kids hvm hndb.1
    refine W_loopS (fun z:Nat × List St3=>(⟨slots [(2,.fn g caps),(3,.ptr 3 0 0),(4,.ptr 4 0 0),(7,.ref 5 3 0 (T.length+z.1)),(8,.taddr [.lit (.int .i64 i),.tree 1 (rowsOf eBs left),eAb ab]),(9,.taddr (eNd ⟨c,kids,mvs,grp,cells⟩)),(60,.tree 1 (ints kids)),(61,.lit (.int .i64 kids.length)),(62,.lit (.int .i64 z.1))],[A a2,B a2,C a2,.var (eMdl m),.var (ePf P),.arr 3 (rowsOf eSt z.2)]⟩:St))
      (fun z=>z.1≤kids.length∧T.length+z.1≤z.2.length∧z.2.take (T.length+z.1)=T.reverse++kidsT P (i,left,ab) z.1) (fun z=>kids.length - z.1) (0,L) ⟨Nat.zero_le _,by dsimp only;omega,by
        dsimp only
        rw[← hRR,Nat.add_zero,List.reverse_cons,List.append_assoc,List.take_append_of_le_length (by simp),List.take_of_length_le (by simp)]
        simp[kidsT]⟩ (Xv (X2 @ePf.eq_1 @eNd.eq_1)) ?_
    rintro ⟨o,L2⟩ ⟨ho,hL2,htk2⟩ Ql2 hnl2 hel2
    dsimp only at ho hL2 htk2 ⊢
    by_cases ho':o<kids.length
    · obtain ⟨c1,c2,c3⟩:=hcls (by omega)
      obtain ⟨k1,k2,k3⟩:=hko o ho'
      have hkS:=hkS o
      have hlen2:(left.getD c.toNat default).length=kids.length:=by rw[c3];exact hfit.2 c.toNat (by have:=hfit.1;omega)
      have hon:=only_ok left c.toNat o (by have:=hfit.1;omega) (by omega) (by have:=hfit.1;have:=hvm.cls;omega) (by omega)
      rw[Int.toNat_of_nonneg c1] at hon
      have hpre:(rowsOf eSt L2).take (T.length+o)=rowsOf eSt (T.reverse++kidsT P (i,left,ab) o):=by unfold rowsOf;rw[← List.map_take,htk2]
      have hpl:(T.reverse++kidsT P (i,left,ab) o).length=T.length+o:=by simp[kidsT]
      generalize hkk:kids.getD o 0=k at *
      generalize onlyV left c.toNat o=on at *
      by_cases hab0:ab=[]
      · subst hab0
        ((repeat' (first|refine Vc (X5 @eNd.eq_1 @hkk (X2 @eAb.eq_1 @eAb.eq_2) @hpre @hpl) (X2 hon cloneNil_ok) ?_|(refine Xi ?_ ?_<;>try intro ht)|exact Xx|fail)))
        have hnx:(rowsOf eSt (T.reverse++kidsT P (i,left,[]) o)++[[AV.lit (.int .i64 k),.tree 1 (rowsOf eBs on),.ref 7 1 0 1]])[T.length+o]?=some [AV.lit (.int .i64 k),.tree 1 (rowsOf eBs on),.ref 7 1 0 1]:=by
          rw[List.getElem?_append_right (by simp[rowsOf,← hpl])];simp[rowsOf,← hpl]
        have hks2:rowsOf eSt (T.reverse++kidsT P (i,left,[]) (o+1))=(rowsOf eSt (T.reverse++kidsT P (i,left,[]) o)++[[AV.lit (.int .i64 k),.tree 1 (rowsOf eBs on),.ref 7 1 0 1]]).set (T.length+o) [AV.lit (.int .i64 k),.tree 1 (rowsOf eBs on),.tree 1 [[AV.lit (.int .i64 c)]]]:=by
          rw[List.set_append_right _ _ (by simp[rowsOf,← hpl]),kidsT_succ,hkS]
          have:(((k.toNat:Nat):Int))=k:=by omega
          simp[rowsOf,← hpl,eSt,eAb,ints,this]
        have hl3:(T.reverse++kidsT P (i,left,[]) (o+1)).length=T.length+(o+1):=by simp[kidsT]
        refine hnl2 _ (o+1,T.reverse++kidsT P (i,left,[]) (o+1)) ⟨by dsimp only;omega,Nat.le_of_eq hl3.symm,List.take_of_length_le (Nat.le_of_eq hl3)⟩ (by dsimp only;omega) ?_
        refine Turns.trans (Turns.frzR 7 9 (T.length+o) 2 1 3 (rows:=[[AV.lit (.int .i64 c)]]) rfl hnx rfl rfl (by decide) (by simp) (by simp)) ?_
        simp only[List.set_cons_succ,List.set_cons_zero]
        rw[← hks2]
        ((refine Turns.se [0,1,2,3,4,9] false (by simp only[Oc,simprocAttr,hrA,hrB,hrC,ePf]) ?_;simp only[Hr,↓reduceIte,reduceEqDiff,Nat.reduceBEq,reduceAdd,hrA,hrB,hrC,ePf];try (and_intros<;>first|exact .pure rfl|exact .eq rfl|exact .fz rfl (by simp only[Bc,Rc]))))
        and_intros<;>first|exact hfn ..|exact .pure rfl|exact .eq rfl
      · have hap:0<ab.length:=by
          cases ab with
          | nil=>exact absurd rfl hab0
          | cons=>simp
        have hea:∀ l:List Int,0<l.length→eAb l=.tree 1 (ints l):=fun l h=>by
          cases l with
          | nil=>simp at h
          | cons=>rfl
        have hea1:=hea ab hap
        have hea2:=hea (ab++[c]) (by simp)
        have hcl:=clone_ok ab hap (by omega)
        have hil:(ints (ab++[c])).length=ab.length+1:=by simp[ints]
        have hnx:(rowsOf eSt (T.reverse++kidsT P (i,left,ab) o)++[[AV.lit (.int .i64 k),.tree 1 (rowsOf eBs on),.ref 8 1 0 (ab.length+1)]])[T.length+o]?=some [AV.lit (.int .i64 k),.tree 1 (rowsOf eBs on),.ref 8 1 0 (ab.length+1)]:=by
          rw[List.getElem?_append_right (by simp[rowsOf,← hpl])];simp[rowsOf,← hpl]
        have hks2:rowsOf eSt (T.reverse++kidsT P (i,left,ab) (o+1))=(rowsOf eSt (T.reverse++kidsT P (i,left,ab) o)++[[AV.lit (.int .i64 k),.tree 1 (rowsOf eBs on),.ref 8 1 0 (ab.length+1)]]).set (T.length+o) [AV.lit (.int .i64 k),.tree 1 (rowsOf eBs on),.tree 1 (ints (ab++[c]))]:=by
          rw[List.set_append_right _ _ (by simp[rowsOf,← hpl]),kidsT_succ,hkS]
          have:(((k.toNat:Nat):Int))=k:=by omega
          simp[rowsOf,← hpl,eSt,hea2,this]
        have hl3:(T.reverse++kidsT P (i,left,ab) (o+1)).length=T.length+(o+1):=by simp[kidsT]
        repeat' (first|((fail_if_success (first|refine W_at 13 ?_|refine W_atE 13 ?_));refine Xr (X3 @eNd.eq_1 @hkk @hea1) ?_;intro K hK)|(refine hK _ ?_;clear hK K)|(refine Xi ?_ ?_<;>try intro ht)|refine Xy ?_|refine Xd ?_ ?_|exact Xx|fail)
        refine W_draw [4,6,8,11,14] (.take 0 (.take 1 (.take 2 (.take 3 (.take 4 (.take 5 (.take 6 (.take 7 (.take 8 (.take 9 (.take 10 (.take 11 (.both 12 (.take 13 (.take 14 (.take 15 (.take 16 (.take 17 (.take 18 (.take 19 (.take 20 .nil)))))))) 13 (.take 14 (.both 12 (.take 15 (.take 16 (.take 17 (.take 18 (.take 19 (.take 20 .nil)))))) 15 (.take 12 (.take 16 (.take 17 (.take 18 (.take 19 (.take 20 .nil))))))))))))))))))))) rfl (by decide) (by decide +kernel) ?_
        simp (disch:=omega) only[Ac,↓Pc,simprocAttr,Pw,↓Lq,eNd,hkk,hea1]
        refine callQ_pure hon rfl rfl ?_
        simp (disch:=omega) only[Ac,↓Pc,simprocAttr,Pw,↓Lq,eNd,hkk,hea1]
        repeat' (with_reducible refine And.intro ?_ ?_)
        all_goals try (refine callK_sel [] hcl (by decide) trivial ⟨.pure rfl,trivial⟩ ?_;simp (disch:=omega) only[Ac,↓Pc,simprocAttr,Pw,↓Lq,eNd,hkk,hea1,Nat.sub_self,Nat.sub_zero,hpre,hpl,ints_app1])
        repeat' (first|with_reducible refine And.intro ?_ ?_|omega)
        all_goals
          repeat (refine Xu ?_)
          ((repeat' (first|refine Va X0 ?_|fail)))
        all_goals
          refine hnl2 _ (o+1,T.reverse++kidsT P (i,left,ab) (o+1)) ⟨by dsimp only;omega,Nat.le_of_eq hl3.symm,List.take_of_length_le (Nat.le_of_eq hl3)⟩ (by dsimp only;omega) ?_
          refine Turns.trans (Turns.frzR 8 10 (T.length+o) 2 1 3 (rows:=ints (ab++[c])) rfl hnx rfl (by rw[hil];rfl) (by decide) (ints_wid _) (ints_frz _)) ?_
          simp only[List.set_cons_succ,List.set_cons_zero]
          rw[← hks2]
          ((refine Turns.se [0,1,2,3,4,10] false (by simp only[Oc,simprocAttr,hrA,hrB,hrC,ePf,hea1]) ?_;simp only[Hr,↓reduceIte,reduceEqDiff,Nat.reduceBEq,reduceAdd,hrA,hrB,hrC,ePf,hea1];try (and_intros<;>first|exact .pure rfl|exact .eq rfl|exact .fz rfl (by simp only[Bc,Rc]))))
          and_intros<;>first|exact hfn ..|exact .pure rfl|exact .eq rfl
    · obtain rfl:o=kids.length:=by omega
      ((repeat' (first|refine Va @eNd.eq_1 ?_|(refine Xi ?_ ?_<;>try intro ht)|exact Xx|fail)))
      refine hel2 _ _ rfl ?_
      clear hnl2 hel2 Ql2
      repeat (refine Xu ?_)
      ((skip))
      have hkl:(kidsT P (i,left,ab) kids.length).length=kids.length:=by simp[kidsT]
      have hL3:T.reverse++kidsT P (i,left,ab) kids.length++L2.drop (T.length+kids.length)=L2:=by rw[← htk2,List.take_append_drop]
      refine hnl _ ((kidsF P (i,left,ab)).reverse++T,L2.drop (T.length+kids.length),a2) ⟨fun t ht=>?_,?_,by dsimp only;rw[List.flatMap_append];exact hIv2,?_⟩ ?_ ?_
      · dsimp only at ht
        rw[List.mem_append] at ht
        rcases ht with ht | ht
        · obtain ⟨o,ho,rfl⟩:=kid_mem (List.mem_reverse.1 ht)
          dsimp only at ho
          rw[hxx] at ho
          exact hkg o ho
        · exact hgT t ht
      · dsimp only
        refine LenOK.push hlo hTl _ (fun t ht=>?_) (by rw[List.length_reverse,hkF,hkl];exact hk24)
        obtain ⟨o,ho,rfl⟩:=kid_mem (List.mem_reverse.1 ht)
        dsimp only at ho
        rw[hxx] at ho
        exact (hko o ho).1
      · dsimp only
        rw[List.flatMap_append]
        exact hres
      · dsimp only
        rw[List.flatMap_append,List.flatMap_cons,hvst,List.length_append,List.length_append,List.length_cons]
        omega
      · dsimp only
        rw[List.reverse_append,List.reverse_reverse,hkF,hL3,List.length_append,List.length_reverse,hkl,Nat.add_comm kids.length T.length]
        exact Xv @ePf.eq_1
end T

