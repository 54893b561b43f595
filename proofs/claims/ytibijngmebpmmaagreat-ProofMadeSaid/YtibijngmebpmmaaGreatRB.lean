import Derived.Test.YtibijngmebpmmaaGreatQQ
import Derived.Test.YtibijngmebpmmaaGreatM18c
set_option linter.unusedVariables false
set_option linter.unusedSimpArgs false
set_option linter.unnecessarySimpa false
open Go Go.Am Go.Proofs
open Nat (reduceEqDiff reduceAdd reduceLeDiff reduceMul)
open Int (reduceNeg reduceLE reduceToNat)
set_option maxRecDepth 20000
namespace T
set_option maxHeartbeats 16000000 in
theorem growS_ok (m:Mdl) (hm:VM m) {w:Nat} (hw:w≤24) (hsome:∀ l∈m.cls,1≤l.length∧l.length≤w) (L:List Int) (hL:L.length<1000000):∀ (s:Nat),s≤100→szB w s≤100000→∀ (os:List Ob) (p:Nat) (R:List Rw) (k:Nat) (C:List (Nat × Ob)) (ab:List Int) (av:AV),k≤L.length→R.length+szB w s≤1000000→ab.length+s≤1000→(∀ x∈ab,0≤x)→Fc (gB L ⟨os.length,p,R,k⟩ C) os→AvS C ab av→∀ (res:GS),growO m L s ⟨os.length,p,R,k⟩ ab=res →
    Holds Tryz.prog 18 [.ptr 0 0 0,.agg (eMdl m),.ptr 2 0 0,av,.lit (.int .i64 s)] os (.lit (.int .i64 R.length)) (canon (gB L res C) res.n):=by
  intro s
  induction s using Nat.strongRecOn with
  | _ s ih =>
    intro hs hsz os p R k C ab av hk hnl hal hab0 hF hAb res hres
    have hc24:=hm.cls
    have hpos:=szB_pos w s
    have hnx:=next_ok L k ((m.cls.length:Int)+1) (by unfold In64;omega) hk hL
    have hca:=drawC_rg m L k
    have hk1:=nextA_le hk
    have hF2:=newO_fc (n':=os.length+3) (nextA L k) hF
    rw[growO_eq] at hres
    unfold doneS leafW newO at hres
    dsimp only at hres
    unfold drawC at *
    generalize nextV L k ((m.cls.length:Int)+1)=c at *
    generalize nextA L k=k1 at *
    have f0:=hF.b0
    have f1:=hF.b1
    have f2:=hF.b2
    dsimp only at f0 f1 f2 hF2
    unfold diceO at f0
    have hlen:=(List.getElem?_eq_some_iff.1 f2).1
    have hl0:=(List.getElem?_eq_some_iff.1 f0).1
    have hl1:=(List.getElem?_eq_some_iff.1 f1).1
    have g1:(os.set p Ob.gone)[2]?=some (.var [.ref p 5 0 R.length]):=oSn f1 f2 (by simp)
    have f00:((os.set p Ob.gone).set 2 (Ob.var [.ref (os.length+2) 5 0 (R.length+1)]))[0]?=some (.var [.tree 1 (ints L),.lit (.int .i64 k)]):=by
      rw[List.getElem?_set_ne (by decide)];exact oSn f0 f2 (by simp)
    have fm0:((os.set p Ob.gone).set 2 (Ob.var [.ref (os.length+2) 5 0 (R.length+1)])++[Ob.var (eMdl m),Ob.arr 5 [rwR lfW],Ob.arr 5 (rowsOf rwR R++[rwR lfW])])[os.length]?=some (.var (eMdl m)):=by
      have:=oL0 ((os.set p Ob.gone).set 2 (Ob.var [.ref (os.length+2) 5 0 (R.length+1)])) (Ob.var (eMdl m)) [Ob.arr 5 [rwR lfW],Ob.arr 5 (rowsOf rwR R++[rwR lfW])]
      rwa [List.length_set,List.length_set] at this
    have fmS:((os.set p Ob.gone).set 2 (Ob.var [.ref (os.length+2) 5 0 (R.length+1)])++[Ob.var (eMdl m),Ob.arr 5 [rwR lfW],Ob.arr 5 (rowsOf rwR R++[rwR lfW])]).set os.length .gone=(os.set p Ob.gone).set 2 (Ob.var [.ref (os.length+2) 5 0 (R.length+1)])++[Ob.gone,Ob.arr 5 [rwR lfW],Ob.arr 5 (rowsOf rwR R++[rwR lfW])]:=by
      have:=oS0 ((os.set p Ob.gone).set 2 (Ob.var [.ref (os.length+2) 5 0 (R.length+1)])) (Ob.var (eMdl m)) .gone [Ob.arr 5 [rwR lfW],Ob.arr 5 (rowsOf rwR R++[rwR lfW])]
      rwa [List.length_set,List.length_set] at this
    refine Holds.of_body' (fn:=Tryz.f18) 123 os.length [.tmp 10] Tryz.func18 rfl rfl rfl rfl rfl (by simp) ?_
    repeat' (first|((fail_if_success (first|refine W_at 3 ?_|refine W_atE 3 ?_));refine Xr (X5 @f1 @f2 @g1 (oLo g1) (X5 (oSo g1) (oLo f1) (oLo f2) (oSo f1) (X5 (oSo f2) @Oc2 @List.append_assoc.{0} @List.length_append.{0} @List.length_set.{0}))) ?_;intro K hK)|refine Xo (X5 @f1 @f2 @g1 (oLo g1) (X5 (oSo g1) (oLo f1) (oLo f2) (oSo f1) (X5 (oSo f2) @Oc2 @List.append_assoc.{0} @List.length_append.{0} @List.length_set.{0}))) ?_|(refine hK _ ?_;clear hK K)|(refine Xg (X5 @f1 @f2 @g1 (oLo g1) (X5 (oSo g1) (oLo f1) (oLo f2) (oSo f1) (X5 (oSo f2) @Oc2 @List.append_assoc.{0} @List.length_append.{0} @List.length_set.{0}))) ?_ ?_<;>try intro hb)|(refine Xi ?_ ?_<;>try intro ht)|refine Xz ?_|refine Xh ?_|refine Xe ?_|refine Xd ?_ ?_|omega|with_reducible rfl|exact trivial)
    refine W_turn (σ':=⟨slots [(0,.ptr 0 0 0),(2,.ptr 2 0 0),(3,av),(4,.lit (.int .i64 (s:Nat))),(6,.taddr (eMdl m)),(11,.lit (.int .i64 R.length))],(os.set p Ob.gone).set 2 (Ob.var [.ref (os.length+2) 5 0 (R.length+1)])++[Ob.gone,Ob.arr 5 [rwR lfW],Ob.arr 5 (rowsOf rwR (R++[lfW]))]⟩) ?_ ?_
    · rw[← rw_app]
      refine Turns.trans (Turns.frzP 6 os.length (cells:=eMdl m) ?_ (by simp only[Kc,simprocAttr]) (by simp[eMdl])) ?_
      · exact fm0
      · dsimp only
        erw [fmS]
        exact Xv X0
    have f00:=oLo f00 [Ob.gone,Ob.arr 5 [rwR lfW],Ob.arr 5 (rowsOf rwR (R++[lfW]))]
    generalize ho1:(os.set p Ob.gone).set 2 (Ob.var [.ref (os.length+2) 5 0 (R.length+1)])++[Ob.gone,Ob.arr 5 [rwR lfW],Ob.arr 5 (rowsOf rwR (R++[lfW]))]=o1 at *
    repeat' (first|(refine Xr X0 ?_;intro K hK)|refine Xo X0 ?_|(refine hK _ ?_;clear hK K)|(refine Xg X0 ?_ ?_<;>try intro hb)|(refine Xi ?_ ?_<;>try intro ht)|refine Xz ?_|refine Xh ?_|refine Xe ?_|refine Xd ?_ ?_|omega|with_reducible rfl|exact trivial)
    refine callK_sel [0] hnx (by decide) ⟨f00,trivial⟩ ⟨.eq rfl,.pure rfl,trivial⟩ ?_
    have hd:∀ (l:List Ob) x,mergeO l [0] [x]=l.set 0 x:=fun l x=>by simp[mergeO]
    rw[List.map_cons,List.map_nil,hd]
    simp (disch:=omega) only[Ac,↓Pc,simprocAttr]
    refine hK _ ?_
    clear hK K
    unfold diceO at hF2
    clear fm0 fmS f00 f0 f1 f2 g1 hlen hl0 hl1
    have ho2l:(o1.set 0 (Ob.var [.tree 1 (ints L),.lit (.int .i64 k1)])).length=os.length+3:=by rw[List.length_set,← ho1];simp
    generalize o1.set 0 (Ob.var [.tree 1 (ints L),.lit (.int .i64 k1)])=o2 at *
    have hRl:(R++[lfW]).length=R.length+1:=by simp
    have hRg:(R++[lfW]).getD R.length default=lfW:=by rw[List.getD_eq_getElem?_getD,List.getElem?_append_right (Nat.le_refl _),Nat.sub_self];rfl
    generalize R++[lfW]=R2 at *
    generalize hn1:os.length=n at *
    generalize hp2:n+2=p2 at *
    have a0:o2[0]?=some (.var [.tree 1 (ints L),.lit (.int .i64 k1)]):=hF2.b0
    have a1:o2[2]?=some (.var [.ref p2 5 0 R2.length]):=hF2.b1
    have a2:o2[p2]?=some (.arr 5 (rowsOf rwR R2)):=hF2.b2
    repeat (first|refine Xu ?_)
    repeat' (first|((fail_if_success (first|refine W_at 4 ?_|refine W_atE 4 ?_));refine Xr (X2 @a1 @a2) ?_;intro K hK)|refine Xo (X2 @a1 @a2) ?_|(refine hK _ ?_;clear hK K)|(refine Xg (X2 @a1 @a2) ?_ ?_<;>try intro hb)|(refine Xi ?_ ?_<;>try intro ht)|refine Xz ?_|refine Xh ?_|refine Xe ?_|refine Xd ?_ ?_|omega|with_reducible rfl|exact trivial)
    generalize hd0:(decide (c=(m.cls.length:Int)) || decide (s=0) || decide ((R2.length:Int) > 300))=d0 at *
    refine unSq ?_;intro Q hn he
    refine join_here ⟨slots [(0,.ptr 0 0 0),(2,.ptr 2 0 0),(3,av),(4,.lit (.int .i64 (s:Nat))),(6,.taddr (eMdl m)),(11,.lit (.int .i64 R.length)),(12,.lit (.int .i64 c)),(13,.lit (.bool d0))],o2⟩ hn ?_ (fun key=>?_)
    rotate_left
    · (try clear hn;try clear he)
      repeat' (first|(refine Xr (X2 @a1 @a2) ?_;intro K hK)|refine Xo (X2 @a1 @a2) ?_|(refine hK _ ?_;clear hK K)|(refine Xg (X2 @a1 @a2) ?_ ?_<;>try intro hb)|(refine Xi ?_ ?_<;>try intro ht)|refine Xz ?_|refine Xe ?_|refine Xd ?_ ?_|omega|with_reducible rfl|exact trivial)
      all_goals try (exfalso;omega)
      all_goals
        refine key _ ?_
        rw[← hd0]
        first|rw[decide_eq_true (show c=(m.cls.length:Int) by assumption),Bool.true_or,Bool.true_or]|rw[decide_eq_false (show ¬c=(m.cls.length:Int) by assumption),decide_eq_true (show s=0 by omega),Bool.false_or,Bool.true_or]|rw[decide_eq_false (show ¬c=(m.cls.length:Int) by assumption),decide_eq_false (show ¬s=0 by omega),Bool.false_or,Bool.false_or]
        (exact Xv X0)
    repeat' (first|(refine Xr (X2 @a1 @a2) ?_;intro K hK)|refine Xo (X2 @a1 @a2) ?_|(refine hK _ ?_;clear hK K)|(refine Xg (X2 @a1 @a2) ?_ ?_<;>try intro hb)|(refine Xi ?_ ?_<;>try intro ht)|refine Xz ?_|refine Xh ?_|refine Xe ?_|refine Xd ?_ ?_|omega|with_reducible rfl|exact trivial)
    have haq:∀ q,(q,Ob.arr 1 (ints ab))∈C→o2[q]?=some (.arr 1 (ints ab)):=fun q hq=>hF2.at_ (q,.arr 1 (ints ab)) (by unfold gB;simp[hq])
    refine W_loopS (fun i:Nat=>(⟨slots [(0,.ptr 0 0 0),(2,.ptr 2 0 0),(3,av),(4,.lit (.int .i64 (s:Nat))),(6,.taddr (eMdl m)),(11,.lit (.int .i64 R.length)),(12,.lit (.int .i64 c)),(13,.lit (.bool (d0 || (ab.take i).contains c))),(14,.lit (.int .i64 i))],o2⟩:St))
      (fun i=>i≤ab.length) (fun i=>ab.length - i) 0 (Nat.zero_le _) (by rw[List.take_zero,List.contains_nil,Bool.or_false];exact Xv X0) ?_
    intro i hi Ql hnl2 hel
    by_cases hi':i<ab.length
    · have hts:=take_snoc hi'
      have hcs:(ab.take (i+1)).contains c=((ab.take i).contains c || decide (ab.getD i 0=c)):=by
        rw[hts,List.contains_append,List.contains_cons,List.contains_nil,Bool.or_false]
        congr 1
        show (c == ab.getD i 0)=_
        rw[Bool.eq_iff_iff,beq_iff_eq,decide_eq_true_eq]
        exact eq_comm
      rcases hAb with ⟨rfl,_⟩ | ⟨q,rfl,hq⟩
      · exact absurd hi' (Nat.not_lt_zero _)
      have aq:=haq q hq
      generalize hxx:ab.getD i 0=x at *
      generalize (ab.take i).contains c=b0 at *
      generalize hbe:(d0 || b0)=e at *
      cases e
      · repeat' (first|(refine Xr (X2 @hxx @aq) ?_;intro K hK)|refine Xo (X2 @hxx @aq) ?_|(refine hK _ ?_;clear hK K)|(refine Xg (X2 @hxx @aq) ?_ ?_<;>try intro hb)|(refine Xi ?_ ?_<;>try intro ht)|refine Xz ?_|refine Xe ?_|refine Xd ?_ ?_|omega|with_reducible rfl|exact trivial)
        refine hnl2 _ (i+1) (by omega) (by omega) (by rw[hcs,← Bool.or_assoc,hbe,Bool.false_or];exact Xv X0)
      · repeat' (first|(refine Xr (X2 @hxx @aq) ?_;intro K hK)|refine Xo (X2 @hxx @aq) ?_|(refine hK _ ?_;clear hK K)|(refine Xg (X2 @hxx @aq) ?_ ?_<;>try intro hb)|(refine Xi ?_ ?_<;>try intro ht)|refine Xz ?_|refine Xe ?_|refine Xd ?_ ?_|omega|with_reducible rfl|exact trivial)
        refine hnl2 _ (i+1) (by omega) (by omega) (by rw[hcs,← Bool.or_assoc,hbe,Bool.true_or];exact Xv X0)
    obtain rfl:i=ab.length:=by omega
    rw[List.take_length]
    have hdb:(decide (c=(m.cls.length:Int)) || decide (s=0) || decide (300<R.length+1) || ab.contains c)=(d0 || ab.contains c):=by
      rw[← hd0,hRl]
      congr 2
      exact decide_eq_decide.2 (by omega)
    rw[hdb] at hres
    generalize (d0 || ab.contains c)=dn at *
    have key2:∀ st,Turns n st ⟨slots [(0,.ptr 0 0 0),(2,.ptr 2 0 0),(3,av),(4,.lit (.int .i64 (s:Nat))),(6,.taddr (eMdl m)),(11,.lit (.int .i64 R.length)),(12,.lit (.int .i64 c)),(13,.lit (.bool dn))],o2⟩→Ql (.exit 0) st:=fun st hts=>by
      refine hel _ _ rfl ?_
      clear hnl2 hel
      repeat (first|refine Xu ?_)
      refine W_turn hts ?_
      clear hts st
      cases dn
      rotate_left
      · rw[if_pos rfl] at hres
        have hmv:=movesO_ok m hm (fun l hl=>(hsome l hl).1) L k1 3 (by decide) hk1 hL
        generalize movF L m 3 k1=mf at *
        obtain ⟨mvs,k2⟩:=mf
        dsimp only at hmv hres
        have hF5:=leaf_fc (n':=n+3+1) (k':=k2) (show R.length<R2.length by omega) hRg mvs hF2
        unfold diceO at hF5
        have hfl:((o2.set 0 (Ob.var [.tree 1 (ints L),.lit (.int .i64 k2)])).set p2 (.arr 5 (rowsOf rwR (R2.set R.length ⟨-1,none,some (o2.length,mvs)⟩)))++[Ob.arr 4 (rowsOf eMv mvs)]).length=n+3+1:=by simp[ho2l]
        repeat' (first|((fail_if_success (first|refine W_at 10 ?_|refine W_atE 10 ?_));refine Xr X0 ?_;intro K hK)|refine Xo X0 ?_|(refine hK _ ?_;clear hK K)|(refine Xg X0 ?_ ?_<;>try intro hb)|(refine Xi ?_ ?_<;>try intro ht)|refine Xz ?_|refine Xe ?_|refine Xd ?_ ?_|omega|with_reducible rfl|exact trivial)
        refine W_draw [6] (.take 0 (.take 4 (.take 5 (.take 6 (.both 1 (.both 2 (.both 3 (.take 7 (.take 8 (.take 9 (.take 10 .nil)))) 7 (.take 3 (.take 8 (.take 9 (.take 10 .nil))))) 7 (.take 2 (.take 3 (.take 8 (.take 9 (.take 10 .nil)))))) 7 (.take 1 (.take 2 (.take 3 (.take 8 (.take 9 (.take 10 .nil))))))))))) rfl (by decide) (by decide +kernel) ?_
        unfold dice at hmv
        have a0':∀ x,(o2.set 0 x)[p2]?=some (.arr 5 (rowsOf rwR R2)):=fun x=>by
          rw[List.getElem?_set_ne (fun e=>by rw[← e,a0] at a2;cases a2)];exact a2
        have a3:=fun x y=>oLo (a0' x) [y]
        have a1':∀ x,(o2.set 0 x)[2]?=some (.var [.ref p2 5 0 R2.length]):=fun x=>by rw[List.getElem?_set_ne (by decide)];exact a1
        have a4:=fun x y=>oLo (a1' x) [y]
        have a3s:=fun x y z=>oSo (a0' x) [y] z
        have hrg:(rowsOf rwR R2)[R.length]?=some [.lit (.int .i64 (-1)),.lit (.slice none 0 0),.lit (.slice none 0 0),.lit (.slice none 0 0),.lit (.slice none 0 0)]:=by
          have:R2[R.length]?=some lfW:=by rw[List.getD_eq_getElem?_getD] at hRg;rw[List.getElem?_eq_getElem (by omega)] at hRg ⊢;exact congrArg some hRg
          unfold rowsOf;rw[List.getElem?_map,this];rfl
        have hrsW:(rowsOf rwR R2).set R.length (rwR ⟨-1,none,some (o2.length,mvs)⟩)=rowsOf rwR (R2.set R.length ⟨-1,none,some (o2.length,mvs)⟩):=by unfold rowsOf;rw[List.map_set]
        have hd2:∀ (l:List Ob) x y,mergeO l [0] [x,y]=l.set 0 x++[y]:=fun l x y=>by simp[mergeO]
        have hc4:ren (rho o2.length [0]) (.ref 1 4 0 mvs.length)=.ref o2.length 4 0 mvs.length:=rfl
        have hr4:renO (rho o2.length [0]) (.arr 4 (rowsOf eMv mvs))=.arr 4 (rowsOf eMv mvs):=by rw[rows_ren]
        simp (disch:=omega) only[Ac,↓Pc,simprocAttr,Pw,↓Lq,a1,a2]
        repeat' (first|with_reducible refine And.intro ?_ ?_|omega|with_reducible rfl)
        all_goals
          refine callK_sel [0] hmv (by decide) ⟨a0,trivial⟩ ⟨.eq rfl,.pure rfl,.pure rfl,trivial⟩ ?_
          rw[List.map_cons,List.map_cons,List.map_nil,hd2,hc4,hr4]
          simp (disch:=omega) only[Ac,↓Pc,simprocAttr,Pw,↓Lq,a3,a4,hrg,rwR,lfW,kE,mE,a3s]
          repeat' (first|with_reducible refine And.intro ?_ ?_|omega|with_reducible rfl)
          repeat (first|refine Xu ?_)
          refine W_turn (σ':=⟨slots [(11,.lit (.int .i64 R.length))],(o2.set 0 (Ob.var [.tree 1 (ints L),.lit (.int .i64 k2)])).set p2 (.arr 5 (rowsOf rwR (R2.set R.length ⟨-1,none,some (o2.length,mvs)⟩)))++[Ob.arr 4 (rowsOf eMv mvs)]⟩) (by rw[← hrsW];exact Xv X0) ?_
          refine W_turn (Turns.canon hF5) ?_
          dsimp only
          rw[hfl]
          repeat' (first|(refine Xr X0 ?_;intro K hK)|refine Xo X0 ?_|(refine hK _ ?_;clear hK K)|(refine Xg X0 ?_ ?_<;>try intro hb)|(refine Xi ?_ ?_<;>try intro ht)|refine Xz ?_|refine Xh ?_|refine Xe ?_|refine Xd ?_ ?_|omega|with_reducible rfl|exact trivial)
          rw[← hres]
          refine RetOK_all ?_ (by rw[canon_len];dsimp only;omega) rfl
          rw[ho2l]
      · rw[if_neg (by simp)] at hres
        simp only[Bool.or_eq_false_iff,decide_eq_false_iff_not] at hdb
        obtain ⟨⟨⟨d1,d2⟩,d3⟩,d4⟩:=hdb
        obtain ⟨s,rfl⟩ :∃s',s=s'+1:=⟨s - 1,by omega⟩
        rw[Nat.add_sub_cancel] at hres
        have hcl:c.toNat<m.cls.length:=by omega
        have hcw:=hsome _ (getD_mem (l:=m.cls) (i:=c.toNat) (d:=default) hcl)
        have hszE:szB w (s+1)=1+w * szB w s:=rfl
        have hs1:((s+1:Nat):Int) - 1=(s:Nat):=by omega
        have hc0:=hca.1
        have hab2:∀ x∈ab++[c],0≤x:=fun x hx=>by
          rw[List.mem_append,List.mem_singleton] at hx
          rcases hx with hx | rfl
          · exact hab0 x hx
          · exact hc0
        have hal2:(ab++[c]).length=ab.length+1:=by simp
        generalize hcc:m.cls.getD c.toNat default=cls at *
        generalize hRR:kidsO (fun g'=>growO m L s g' (ab++[c])) cls.length ⟨n+4,p2,R2,k1⟩ (n+3) []=RR at *
        have hmul:∀ i,i<cls.length→i * szB w s+szB w s≤w * szB w s:=fun i hi=>by
          have:(i+1) * szB w s≤w * szB w s:=Nat.mul_le_mul_right _ (by omega)
          rw[Nat.add_mul,Nat.one_mul] at this
          exact this
        have hF3:Fc (gB L ⟨n+4,p2,R2,k1⟩ ((o2.length,Ob.arr 1 (ints []))::C)) (o2++[Ob.arr 1 []]):=((hF2.app [Ob.arr 1 []]).add (oL0 _ _ _) (hF2.fresh (Nat.le_refl _))).perm (gB_in (g:=⟨n+4,p2,R2,k1⟩))
        rw[ho2l] at hF3
        repeat' (first|(refine Xr X0 ?_;intro K hK)|refine Xo X0 ?_|(refine hK _ ?_;clear hK K)|(refine Xg X0 ?_ ?_<;>try intro hb)|(refine Xi ?_ ?_<;>try intro ht)|refine Xz ?_|refine Xh ?_|refine Xe ?_|refine Xd ?_ ?_|omega|with_reducible rfl|exact trivial)
        refine W_loopS (fun z:Nat × GS × Nat × List Int × List Ob=>(⟨slots [(0,.ptr 0 0 0),(2,.ptr 2 0 0),(3,av),(4,.lit (.int .i64 (s+1:Nat))),(6,.taddr (eMdl m)),(11,.lit (.int .i64 R.length)),(12,.lit (.int .i64 c)),(15,.ref z.2.2.1 1 0 z.2.2.2.1.length),(16,.lit (.int .i64 z.1))],z.2.2.2.2⟩:St))
          (fun z=>z.1≤cls.length∧z.2.1.k≤L.length∧z.2.2.2.1.length=z.1∧R.length<z.2.1.R.length∧z.2.1.R.getD R.length default=lfW∧z.2.1.R.length≤R2.length+z.1 * szB w s∧(n≤z.2.1.n∧z.2.2.2.2.length=z.2.1.n)∧Fc (gB L z.2.1 ((z.2.2.1,.arr 1 (ints z.2.2.2.1))::C)) z.2.2.2.2∧kidsO (fun g'=>growO m L s g' (ab++[c])) (cls.length - z.1) z.2.1 z.2.2.1 z.2.2.2.1=RR) (fun z=>cls.length - z.1) (0,⟨n+4,p2,R2,k1⟩,n+3,[],o2++[Ob.arr 1 []]) ⟨Nat.zero_le _,hk1,rfl,by dsimp only;omega,hRg,by dsimp only;omega,⟨by dsimp only;omega,by simp[ho2l]⟩,hF3,hRR⟩ ?_ ?_
        · refine Turns.trans (Turns.nil 15 1 (by simp only[Kc,simprocAttr]) (by decide)) ?_
          exact Xv @ho2l
        rintro ⟨i,⟨gn,pp,RR2,q⟩,qs,ks,o⟩ ⟨hi,hq,hks,hnlt,hnt,hns,⟨hol,hol2⟩,hF4,hr⟩ Ql3 hnl3 hel3
        dsimp only at hi hq hks hnlt hnt hns hol hol2 hF4 hr ⊢
        by_cases hi':i<cls.length
        · have hmi:=hmul i hi'
          have hXl:∀ x y z:Ob,(o++[x,y,z]).length=gn+3:=fun x y z=>by simp[hol2]
          have hFX:∀ x y,Fc (gB L ⟨gn+3,pp,RR2,q⟩ ((gn+2,.arr 1 (ints (ab++[c])))::(qs,.arr 1 (ints ks))::C)) (o++[x,y,.arr 1 (ints (ab++[c]))]):=fun x y =>
            ((hF4.app [x,y,.arr 1 (ints (ab++[c]))]).add (k:=gn+2) (by rw[← hol2,oLk];rfl) (hF4.fresh (by omega))).perm (gB_in (g:=⟨gn+3,pp,RR2,q⟩))
          have hG:=growO_ok hm hsome s ⟨gn+3,pp,RR2,q⟩ (ab++[c]) ((gn+2,.arr 1 (ints (ab++[c])))::(qs,.arr 1 (ints ks))::C) hq (by have:=(hFX .gone .gone).fk;rw[hXl] at this;exact this)
          have hih:∀ x y,Holds Tryz.prog 18 [.ptr 0 0 0,.agg (eMdl m),.ptr 2 0 0,.ref (gn+2) 1 0 (ab.length+1),.lit (.int .i64 s)] (o++[x,y,.arr 1 (ints (ab++[c]))]) (.lit (.int .i64 RR2.length)) (canon (gB L (growO m L s ⟨gn+3,pp,RR2,q⟩ (ab++[c])) ((gn+2,.arr 1 (ints (ab++[c])))::(qs,.arr 1 (ints ks))::C)) (growO m L s ⟨gn+3,pp,RR2,q⟩ (ab++[c])).n):=fun x y=>by
            have h:=ih s (Nat.lt_succ_self s) (by omega) (by have:=Nat.le_mul_of_pos_left (szB w s) (show 0<w by omega);omega) (o++[x,y,.arr 1 (ints (ab++[c]))]) pp RR2 q ((gn+2,.arr 1 (ints (ab++[c])))::(qs,.arr 1 (ints ks))::C) (ab++[c]) (.ref (gn+2) 1 0 (ab++[c]).length) hq (by omega) (by omega) hab2 (by rw[hXl];exact hFX x y) (.inr ⟨gn+2,rfl,by simp⟩) _ rfl
            rw[hXl,hal2] at h
            exact h
          rw[show cls.length - i=(cls.length - (i+1))+1 by omega,kidsO] at hr
          generalize growO m L s ⟨gn+3,pp,RR2,q⟩ (ab++[c])=g' at *
          obtain ⟨gn',pp',RR',q'⟩:=g'
          obtain ⟨G1,G2,G3,G4,G5,G6⟩:=hG
          dsimp only at G1 G2 G3 G4 G5 G6 hr hih
          have hF6:=G5.canon
          have ho5:=canon_len (gB L ⟨gn',pp',RR',q'⟩ ((gn+2,.arr 1 (ints (ab++[c])))::(qs,.arr 1 (ints ks))::C)) gn'
          have hchild:=fun x y=>hih x y
          clear hih
          generalize canon (gB L ⟨gn',pp',RR',q'⟩ ((gn+2,.arr 1 (ints (ab++[c])))::(qs,.arr 1 (ints ks))::C)) gn'=o5 at *
          have a5:o5[qs]?=some (.arr 1 (ints ks)):=hF6.at_ (qs,.arr 1 (ints ks)) (by unfold gB;simp)
          have hF7:=kid_fc (xs:=ks) (gn'+2) (.arr 1 [[.lit (.int .i64 RR2.length)]]) (.arr 1 (ints (ks++[(RR2.length:Int)]))) hF6
          rw[ho5] at hF7
          rw[← hol2] at hchild
          have hfin:∀ st,Turns n st ⟨slots [(0,.ptr 0 0 0),(2,.ptr 2 0 0),(3,av),(4,.lit (.int .i64 (s+1:Nat))),(6,.taddr (eMdl m)),(11,.lit (.int .i64 R.length)),(12,.lit (.int .i64 c)),(15,.ref (gn'+1) 1 0 (ks++[(RR2.length:Int)]).length),(16,.lit (.int .i64 (i+1:Nat)))],o5.set qs .gone++[.arr 1 [[.lit (.int .i64 RR2.length)]],.arr 1 (ints (ks++[(RR2.length:Int)]))]⟩→Ql3 .normal st:=fun st hts =>
            hnl3 st (i+1,⟨gn'+2,pp',RR',q'⟩,gn'+1,ks++[(RR2.length:Int)],o5.set qs .gone++[.arr 1 [[.lit (.int .i64 RR2.length)]],.arr 1 (ints (ks++[(RR2.length:Int)]))]) ⟨by dsimp only;omega,G1,by simp;omega,by dsimp only;omega,(G4 _ hnlt).trans hnt,by dsimp only;rw[Nat.add_mul,Nat.one_mul];omega,⟨by dsimp only;omega,by simp[ho5]⟩,hF7,hr⟩ (by dsimp only;omega) hts
          rcases hAb with ⟨ha0,hea⟩ | ⟨qa,hea,hqa⟩
          · rw[ha0] at hchild
            repeat' (first|((fail_if_success (first|refine W_at 16 ?_|refine W_atE 16 ?_));refine Xr (X2 @hcc @eCls.eq_1) ?_;intro K hK)|refine Xo (X2 @hcc @eCls.eq_1) ?_|(refine hK _ ?_;clear hK K)|(refine Xg (X2 @hcc @eCls.eq_1) ?_ ?_<;>try intro hb)|(refine Xi ?_ ?_<;>try intro ht)|refine Xz ?_|refine Xe ?_|refine Xd ?_ ?_|omega|with_reducible rfl|exact trivial)
            refine W_draw [2] (.take 0 (.take 1 (.take 2 (.take 3 (.take 4 (.take 6 (.take 9 (.take 10 (.both 5 (.take 7 (.take 8 (.take 11 (.take 12 (.take 13 (.take 14 .nil)))))) 7 (.take 5 (.take 8 (.take 11 (.take 12 (.take 13 (.take 14 .nil))))))))))))))) rfl (by decide) (by decide +kernel) ?_
            simp (disch:=omega) only[Ac,↓Pc,simprocAttr,Pw,↓Lq,hea,hs1,ints_app1,Oc2,List.append_assoc,List.length_append,List.length_set]
            repeat' (first|with_reducible refine And.intro ?_ ?_|omega|with_reducible rfl)
            all_goals
              refine callK_all (hchild _ _) (by rw[ho5];simp;omega) ?_
              simp (disch:=omega) only[Ac,↓Pc,simprocAttr,Pw,↓Lq,hs1,a5,oLo a5,oSo a5,Oc2,List.append_assoc,List.length_append,List.length_set,ints_app1]
              repeat' (first|with_reducible refine And.intro ?_ ?_|omega|with_reducible rfl)
            all_goals
              repeat (first|refine Xu ?_)
              repeat' (first|(refine Xr X0 ?_;intro K hK)|refine Xo X0 ?_|(refine hK _ ?_;clear hK K)|(refine Xg X0 ?_ ?_<;>try intro hb)|(refine Xi ?_ ?_<;>try intro ht)|refine Xz ?_|refine Xe ?_|refine Xd ?_ ?_|omega|with_reducible rfl|exact trivial)
              exact hfin _ (Xv (X3 @hea @ho5 @eMdl.eq_1))
          · have aq:o[qa]?=some (.arr 1 (ints ab)):=hF4.at_ (qa,.arr 1 (ints ab)) (by unfold gB;simp[hqa])
            repeat' (first|((fail_if_success (first|refine W_at 16 ?_|refine W_atE 16 ?_));refine Xr (X2 @hcc @eCls.eq_1) ?_;intro K hK)|refine Xo (X2 @hcc @eCls.eq_1) ?_|(refine hK _ ?_;clear hK K)|(refine Xg (X2 @hcc @eCls.eq_1) ?_ ?_<;>try intro hb)|(refine Xi ?_ ?_<;>try intro ht)|refine Xz ?_|refine Xe ?_|refine Xd ?_ ?_|omega|with_reducible rfl|exact trivial)
            refine W_draw [2] (.take 0 (.take 1 (.take 2 (.take 3 (.take 4 (.take 6 (.take 9 (.take 10 (.both 5 (.take 7 (.take 8 (.take 11 (.take 12 (.take 13 (.take 14 .nil)))))) 7 (.take 5 (.take 8 (.take 11 (.take 12 (.take 13 (.take 14 .nil))))))))))))))) rfl (by decide) (by decide +kernel) ?_
            simp (disch:=omega) only[Ac,↓Pc,simprocAttr,Pw,↓Lq,hea,hs1,ints_app1,aq,oLo aq,oSo aq,Oc2,List.append_assoc,List.length_append,List.length_set]
            repeat' (first|with_reducible refine And.intro ?_ ?_|omega|with_reducible rfl)
            all_goals
              refine callK_all (hchild _ _) (by rw[ho5];simp;omega) ?_
              simp (disch:=omega) only[Ac,↓Pc,simprocAttr,Pw,↓Lq,hs1,a5,oLo a5,oSo a5,Oc2,List.append_assoc,List.length_append,List.length_set,ints_app1]
              repeat' (first|with_reducible refine And.intro ?_ ?_|omega|with_reducible rfl)
            all_goals
              repeat (first|refine Xu ?_)
              repeat' (first|(refine Xr X0 ?_;intro K hK)|refine Xo X0 ?_|(refine hK _ ?_;clear hK K)|(refine Xg X0 ?_ ?_<;>try intro hb)|(refine Xi ?_ ?_<;>try intro ht)|refine Xz ?_|refine Xe ?_|refine Xd ?_ ?_|omega|with_reducible rfl|exact trivial)
              exact hfin _ (Xv (X3 @hea @ho5 @eMdl.eq_1))
        · obtain rfl:i=cls.length:=by omega
          rw[Nat.sub_self,kidsO] at hr
          have hF8:=fin_fc (n':=gn) hnlt hnt c ks hF4
          have a2:o[pp]?=some (.arr 5 (rowsOf rwR RR2)):=hF4.b2
          have a1:o[2]?=some (.var [.ref pp 5 0 RR2.length]):=hF4.b1
          have hrg3:(rowsOf rwR RR2)[R.length]?=some [.lit (.int .i64 (-1)),.lit (.slice none 0 0),.lit (.slice none 0 0),.lit (.slice none 0 0),.lit (.slice none 0 0)]:=by
            have:RR2[R.length]?=some lfW:=by rw[List.getD_eq_getElem?_getD] at hnt;rw[List.getElem?_eq_getElem hnlt] at hnt ⊢;exact congrArg some hnt
            unfold rowsOf;rw[List.getElem?_map,this];rfl
          have hrs3:(rowsOf rwR RR2).set R.length (rwR ⟨c,some (qs,ks),none⟩)=rowsOf rwR (RR2.set R.length ⟨c,some (qs,ks),none⟩):=by unfold rowsOf;rw[List.map_set]
          have hst:∀ x:List AV,((rowsOf rwR RR2).set R.length x)[R.length]?=some x:=fun x=>by rw[List.getElem?_set,if_pos rfl,if_pos (by simpa [rowsOf] using hnlt)]
          have a2':∀ x,(o.set pp x)[pp]?=some x:=fun x=>oSe a2
          have a1':∀ x,(o.set pp x)[2]?=some (.var [.ref pp 5 0 RR2.length]):=fun x=>by
            rw[List.getElem?_set_ne (fun e=>by rw[e,a1] at a2;cases a2)];exact a1
          rw[← hr] at hres
          unfold finO at hres
          dsimp only at hres
          repeat' (first|(refine Xr (X2 @hcc @eCls.eq_1) ?_;intro K hK)|refine Xo (X2 @hcc @eCls.eq_1) ?_|(refine hK _ ?_;clear hK K)|(refine Xg (X2 @hcc @eCls.eq_1) ?_ ?_<;>try intro hb)|(refine Xi ?_ ?_<;>try intro ht)|refine Xz ?_|refine Xe ?_|refine Xd ?_ ?_|omega|with_reducible rfl|exact trivial)
          refine hel3 _ _ rfl ?_
          clear hnl3 hel3
          repeat (first|refine Xu ?_)
          refine Xk ?_
          refine W_draw [] (.take 0 (.take 1 (.take 2 (.take 3 (.take 4 (.take 5 (.take 6 (.take 7 (.take 8 (.take 9 (.take 10 (.take 11 (.take 12 (.take 13 (.take 14 (.take 15 (.take 16 (.take 17 .nil)))))))))))))))))) rfl (by decide) (by decide +kernel) ?_
          simp (disch:=omega) only[Ac,↓Pc,simprocAttr,Pw,a1,a2,a1',a2',hrg3,hst,List.set_set]
          repeat' (first|with_reducible refine And.intro ?_ ?_|omega|with_reducible rfl)
          (first|refine hn _ ?_|refine Sq.n _ ?_)
          refine W_turn (σ':=⟨slots [(11,.lit (.int .i64 R.length))],o.set pp (.arr 5 (rowsOf rwR (RR2.set R.length ⟨c,some (qs,ks),none⟩)))⟩) (by rw[← hrs3];exact Xv X0) ?_
          refine W_turn (Turns.canon hF8) ?_
          dsimp only
          rw[List.length_set,hol2]
          repeat' (first|(refine Xr X0 ?_;intro K hK)|refine Xo X0 ?_|(refine hK _ ?_;clear hK K)|(refine Xg X0 ?_ ?_<;>try intro hb)|(refine Xi ?_ ?_<;>try intro ht)|refine Xz ?_|refine Xh ?_|refine Xe ?_|refine Xd ?_ ?_|omega|with_reducible rfl|exact trivial)
          rw[← hres]
          exact RetOK_all rfl (by rw[canon_len];dsimp only;omega) rfl
    rcases hAb with ⟨rfl,rfl⟩ | ⟨q,rfl,hq⟩
    · repeat' (first|(refine Xr X0 ?_;intro K hK)|refine Xo X0 ?_|(refine hK _ ?_;clear hK K)|(refine Xg X0 ?_ ?_<;>try intro hb)|(refine Xi ?_ ?_<;>try intro ht)|refine Xz ?_|refine Xe ?_|refine Xd ?_ ?_|omega|with_reducible rfl|exact trivial)
      all_goals try (exfalso;omega)
      exact key2 _ (Xv X0)
    · have aq:=haq q hq
      repeat' (first|(refine Xr @aq ?_;intro K hK)|refine Xo @aq ?_|(refine hK _ ?_;clear hK K)|(refine Xg @aq ?_ ?_<;>try intro hb)|(refine Xi ?_ ?_<;>try intro ht)|refine Xz ?_|refine Xe ?_|refine Xd ?_ ?_|omega|with_reducible rfl|exact trivial)
      all_goals try (exfalso;omega)
      exact key2 _ (Xv X0)
end T
open Go Go.Am Go.Proofs
open Nat (reduceEqDiff reduceAdd reduceLeDiff reduceMul)
open Int (reduceNeg reduceLE reduceToNat)
set_option maxRecDepth 20000
namespace T
def rowS (r:Rw):Prop:=(∀ x,r.kid=some x→x.2.length≤24)∧∀ x,r.mv=some x→x.2.length≤3
theorem rowS_set {R:List Rw} {j:Nat} {x:Rw} (h:∀ r∈R,rowS r) (hx:rowS x):∀ r∈R.set j x,rowS r:=fun r hr=>by
  rcases List.mem_or_eq_of_mem_set hr with h1 | h1
  · exact h r h1
  · rw[h1];exact hx
theorem rowS_lf:rowS lfW:=⟨fun x h=>(nomatch h),fun x h=>(nomatch h)⟩
theorem rowS_new {R:List Rw} (h:∀ r∈R,rowS r):∀ r∈R++[lfW],rowS r:=fun r hr=>by
  rw[List.mem_append,List.mem_singleton] at hr
  rcases hr with hr | rfl
  · exact h r hr
  · exact rowS_lf
theorem leafO_rows {m:Mdl} {L:List Int} (hm:VM m) (hsome:∀ l∈m.cls,1≤l.length) (g:GS) {k:Nat} (hk:k≤L.length) (h:∀ r∈g.R,rowS r):∀ r∈(leafW m L g.R.length (newO g k)).R,rowS r:=by
  obtain ⟨a1,a2,a3⟩:=movF_ok (L:=L) (m:=m) (most:=3) hm hsome hk
  unfold leafW newO
  dsimp only
  exact rowS_set (rowS_new h) ⟨fun x e=>(nomatch e),fun x e=>(by simp only[Option.some.injEq] at e;rw[← e];exact a1)⟩
theorem kidsO_rows {L:List Int} (f:GS→GS) (hf:∀ g,g.k≤L.length→(∀ r∈g.R,rowS r)→(f g).k≤L.length∧∀ r∈(f g).R,rowS r):∀ (c:Nat) (g:GS) (q:Nat) (ks:List Int),g.k≤L.length→(∀ r∈g.R,rowS r) →
    ((kidsO f c g q ks).1.k≤L.length∧∀ r∈(kidsO f c g q ks).1.R,rowS r)∧(kidsO f c g q ks).2.2.length=ks.length+c
  | 0,g,q,ks,hk,h=>by rw[kidsO];exact⟨⟨hk,h⟩,rfl⟩
  | c+1,g,q,ks,hk,h=>by
    rw[kidsO]
    obtain ⟨h1,h2⟩:=hf ⟨g.n+3,g.p,g.R,g.k⟩ hk h
    obtain ⟨i1,i2⟩:=kidsO_rows f hf c ⟨(f ⟨g.n+3,g.p,g.R,g.k⟩).n+2,(f ⟨g.n+3,g.p,g.R,g.k⟩).p,(f ⟨g.n+3,g.p,g.R,g.k⟩).R,(f ⟨g.n+3,g.p,g.R,g.k⟩).k⟩ ((f ⟨g.n+3,g.p,g.R,g.k⟩).n+1) (ks++[(g.R.length:Int)]) h1 h2
    refine⟨i1,?_⟩
    rw[i2];simp;omega
theorem growO_rows {m:Mdl} {L:List Int} (hm:VM m) {w:Nat} (hw:w≤24) (hsome:∀ l∈m.cls,1≤l.length∧l.length≤w):∀ (s:Nat) (g:GS) (ab:List Int),g.k≤L.length→(∀ r∈g.R,rowS r)→(growO m L s g ab).k≤L.length∧∀ r∈(growO m L s g ab).R,rowS r
  | 0,g,ab,hk,h=>⟨(movF_ok (L:=L) (m:=m) (most:=3) hm (fun l hl=>(hsome l hl).1) (nextA_le hk)).2.2,leafO_rows hm (fun l hl=>(hsome l hl).1) g (nextA_le hk) h⟩
  | s+1,g,ab,hk,h=>by
    rw[growO]
    split
    · exact⟨(movF_ok (L:=L) (m:=m) (most:=3) hm (fun l hl=>(hsome l hl).1) (nextA_le hk)).2.2,leafO_rows hm (fun l hl=>(hsome l hl).1) g (nextA_le hk) h⟩
    · obtain ⟨⟨i1,i2⟩,i3⟩:=kidsO_rows (L:=L) (fun g'=>growO m L s g' (ab++[drawC m L g.k])) (fun g' a b=>growO_rows hm hw hsome s g' _ a b) (m.cls.getD (drawC m L g.k).toNat default).length ⟨g.n+4,g.n+2,g.R++[lfW],nextA L g.k⟩ (g.n+3) [] (nextA_le hk) (rowS_new h)
      have hcl:(m.cls.getD (drawC m L g.k).toNat default).length≤w:=by
        by_cases h:(drawC m L g.k).toNat<m.cls.length
        · exact (hsome _ (getD_mem (d:=default) h)).2
        · rw[List.getD_eq_getElem?_getD,List.getElem?_eq_none (by omega)];exact Nat.zero_le _
      unfold finO
      refine⟨i1,?_⟩
      dsimp only
      exact rowS_set i2 ⟨fun x e=>(by simp only[Option.some.injEq] at e;rw[← e];dsimp only;rw[i3,List.length_nil];omega),fun x e=>(nomatch e)⟩
set_option maxHeartbeats 16000000 in
theorem dproofS_ok (m:Mdl) (hm:VM m) {w:Nat} (hw:w≤24) (hsome:∀ l∈m.cls,1≤l.length∧l.length≤w) (L:List Int) (hL:L.length<1000000) (s:Nat) (hs:s≤100) (hsz:szB w s≤10000) (k:Nat) (hk:k≤L.length) (m2:Mdl) (g:GS) (hg:growO m L s ⟨5,3,[],k⟩ []=g) :
    Holds Tryz.prog 9 [.ptr 0 0 0,.agg (eMdl m),.lit (.int .i64 s)] [diceO L k,.var (eMdl m2)] (.agg [.ref g.p 5 0 g.R.length]) ((canon (gB L g [(4,.var [.lit (.slice none 0 0)]),(1,.var (eMdl m2))]) g.n).set 4 (.var [.ref g.p 5 0 g.R.length])):=by
  have hF:Fc (gB L ⟨5,3,[],k⟩ [(4,.var [.lit (.slice none 0 0)]),(1,.var (eMdl m2))]) [diceO L k,.var (eMdl m2),.var [.ref 3 5 0 0],.arr 5 [],.var [.lit (.slice none 0 0)]]:=by
    refine⟨?_,(show ([0,2,3,4,1]:List Nat).Nodup by decide)⟩
    unfold gB rwB
    simp[rowsOf]
  have hgr:=Holds.nilArg (pre:=[.ptr 0 0 0,.agg (eMdl m),.ptr 2 0 0]) (post:=[.lit (.int .i64 s)]) (growS_ok m hm hw hsome L hL s hs (by omega) [diceO L k,.var (eMdl m2),.var [.ref 3 5 0 0],.arr 5 [],.var [.lit (.slice none 0 0)]] 3 [] k [(4,.var [.lit (.slice none 0 0)]),(1,.var (eMdl m2))] [] (.tree 1 []) hk (by simp;omega) (by simp;omega) (by simp) hF (.inl ⟨rfl,rfl⟩) g hg)
  have hr0:∀ ρ,renO ρ (.arr 5 [])=.arr 5 []:=fun ρ=>rfl
  have hG:=growO_ok hm hsome (L:=L) s ⟨5,3,[],k⟩ [] [(4,.var [.lit (.slice none 0 0)]),(1,.var (eMdl m2))] hk hF.fk
  rw[hg] at hG
  have hol:=hG.ol
  dsimp only at hol
  have hF6:=hG.fk.canon
  have ho5:=canon_len (gB L g [(4,.var [.lit (.slice none 0 0)]),(1,.var (eMdl m2))]) g.n
  generalize canon (gB L g [(4,.var [.lit (.slice none 0 0)]),(1,.var (eMdl m2))]) g.n=o5 at *
  have hF7:=((hF6.perm gB_in.symm).put (.var [.ref g.p 5 0 g.R.length])).perm gB_in
  have a2:o5[2]?=some (.var [.ref g.p 5 0 g.R.length]):=hF6.b1
  have a4:o5[4]?=some (.var [.lit (.slice none 0 0)]):=(hF6.perm gB_in.symm).b0
  unfold diceO at *
  refine Holds.of_body' (fn:=Tryz.f9) 13 2 [.cell 6 35] Tryz.func9 rfl rfl rfl rfl rfl (by simp) ?_
  repeat' (first|((fail_if_success (first|refine W_at 2 ?_|refine W_atE 2 ?_));refine Xr X0 ?_;intro K hK)|refine Xo X0 ?_|(refine hK _ ?_;clear hK K)|(refine Xg X0 ?_ ?_<;>try intro hb)|(refine Xi ?_ ?_<;>try intro ht)|refine Xz ?_|refine Xh ?_|refine Xe ?_|refine Xd ?_ ?_|omega|with_reducible rfl|exact trivial)
  refine W_turn (Turns.frzP 4 2 (cells:=eMdl m) rfl (by simp only[Kc,simprocAttr]) (by simp[eMdl])) ?_
  refine W_turn (Turns.nilC 4 0 5 rfl rfl (by decide)) ?_
  refine W_turn (σ':=⟨slots [(0,.ptr 0 0 0),(2,.lit (.int .i64 s)),(4,.taddr (eMdl m)),(6,.ptr 4 0 0),(7,.ptr 2 0 0)],[.var [.tree 1 (ints L),.lit (.int .i64 k)],.var (eMdl m2),.var [.ref 3 5 0 0],.arr 5 [],.var [.lit (.slice none 0 0)]]⟩) (Xs false [0,1,4,5,3] (X2 @eMdl.eq_1 @hr0)) ?_
  repeat' (first|(refine Xr X0 ?_;intro K hK)|refine Xo X0 ?_|(refine hK _ ?_;clear hK K)|(refine Xg X0 ?_ ?_<;>try intro hb)|(refine Xi ?_ ?_<;>try intro ht)|refine Xz ?_|refine Xh ?_|refine Xe ?_|refine Xd ?_ ?_|omega|with_reducible rfl|exact trivial)
  refine callK_all hgr (by rw[ho5];exact hol) ?_
  simp (disch:=omega) only[Ac,↓Pc,simprocAttr]
  refine hK _ ?_
  clear hK K
  repeat (first|refine Xu ?_)
  have a5:∀ x,(o5.set 4 x)[4]?=some x:=fun x=>oSe a4
  repeat' (first|(refine Xr (X3 @a2 @a4 @a5) ?_;intro K hK)|refine Xo (X3 @a2 @a4 @a5) ?_|(refine hK _ ?_;clear hK K)|(refine Xg (X3 @a2 @a4 @a5) ?_ ?_<;>try intro hb)|(refine Xi ?_ ?_<;>try intro ht)|refine Xz ?_|refine Xh ?_|refine Xe ?_|refine Xd ?_ ?_|omega|with_reducible rfl|exact trivial)
  simp (disch:=omega) only[Ac,↓Pc,simprocAttr,rowOf,a5]
  refine RetOK_all rfl ?_ rfl
  rw[List.length_set,ho5];omega
end T

