import Derived.Test.YtkmfgcbdnijgeaaGreatX16
set_option linter.unusedVariables false
set_option linter.unusedSimpArgs false
set_option linter.unnecessarySimpa false
set_option linter.unusedSectionVars false
set_option maxHeartbeats 64000000
set_option maxRecDepth 20000
open Go Go.Am Go.Proofs
open Nat (reduceEqDiff reduceAdd reduceLeDiff reduceMul)
open Int (reduceNeg reduceLE reduceToNat)
namespace T
def ecV (L:List Int) (k:Nat):Int:=if nextV L k 5=0 then 1099511627776 else if nextV L k 5≤2 then 1+nextV L (nextA L k) 30 else 0
def ecA (L:List Int) (k:Nat):Nat:=if nextV L k 5=0 then nextA L k else if nextV L k 5≤2 then nextA L (nextA L k) else nextA L k
theorem ecV_range (L:List Int) (k:Nat):0≤ecV L k∧ecV L k≤1099511627776∧(0<ecV L k→priceB (ecV L k)=true):=by
  have h30:=nextV_range (L:=L) (k:=nextA L k) (n:=30) (by omega)
  unfold ecV
  split
  · exact⟨by omega,by omega,fun _=>by decide⟩
  · split
    · refine⟨by omega,by omega,fun _=>?_⟩
      rw[priceB,decide_eq_true_eq];omega
    · exact⟨by omega,by omega,by omega⟩
theorem ecA_le {L:List Int} {k:Nat} (h:k≤L.length):ecA L k≤L.length:=by
  unfold ecA;split
  · exact nextA_le h
  · split
    · exact nextA_le (nextA_le h)
    · exact nextA_le h
theorem ecost_ok (L:List Int) (k:Nat) (hk:k≤L.length) (hL:L.length<1000000):Holds Tryz.prog 44 [.ptr 0 0 0] [dice L k] (.lit (.int .i64 (ecV L k))) [dice L (ecA L k)]:=by
  have h5:=nextV_range (L:=L) (k:=k) (n:=5) (by omega)
  have h30:=nextV_range (L:=L) (k:=nextA L k) (n:=30) (by omega)
  unfold ecV ecA dice
  refine Holds.of_body' (fn:=Tryz.f44) 13 1 [.tmp 2] Tryz.func44 rfl rfl rfl rfl rfl (by simp) ?_
  repeat' (first|(refine Xr X0 ?_;intro K hK)|refine Xo X0 ?_|(refine hK _ ?_;clear hK K)|(refine Xg X0 ?_ ?_<;>try intro hb)|(refine Xi ?_ ?_<;>try intro ht)|refine Xz ?_|refine Xh ?_|(refine Xe ?_;first|refine RetOK_pure' rfl ?_|refine Xl ?_ ?_)|refine Xd ?_ ?_|exact Xx|fail)
  refine callK_all (next_ok L k 5 (by unfold In64;omega) hk hL) (by simp) ?_
  have hk2:=nextA_le hk
  generalize nextV L k 5=v at *
  generalize nextA L k=k2 at *
  repeat' (first|(refine Xr X0 ?_;intro K hK)|refine Xo X0 ?_|(refine hK _ ?_;clear hK K)|(refine Xg X0 ?_ ?_<;>try intro hb)|(refine Xi ?_ ?_<;>try intro ht)|refine Xz ?_|refine Xh ?_|(refine Xe ?_;first|refine RetOK_pure' rfl ?_|refine Xl ?_ ?_)|refine Xd ?_ ?_|exact Xx|fail)
  all_goals try first
    | (rw[if_pos (by assumption)];done)
    | (rw[if_neg (by omega),if_neg (by omega)];done)
  all_goals
    refine callK_all (next_ok L k2 30 (by unfold In64;omega) hk2 hL) (by simp) ?_
    repeat' (first|(refine Xr X0 ?_;intro K hK)|refine Xo X0 ?_|(refine hK _ ?_;clear hK K)|(refine Xg X0 ?_ ?_<;>try intro hb)|(refine Xi ?_ ?_<;>try intro ht)|refine Xz ?_|refine Xh ?_|(refine Xe ?_;first|refine RetOK_pure' rfl ?_|refine Xl ?_ ?_)|refine Xd ?_ ?_|exact Xx|fail)
    all_goals (rw[if_neg (by omega),if_pos (by omega)])
def evX (c1 c2 c3 c4:Int) (a b:Opt):Int :=
  if a.room=b.room∧0≤a.room then (if 2 * a.day+b.day=0 then 1099511627776 else if 2 * a.day+b.day=1 then c1 else if 2 * a.day+b.day=2 then c2 else 1099511627776)
  else (if 2 * a.day+b.day=0 then c3 else if 2 * a.day+b.day=2 then c4 else 0)
def evB (f:Opt→Opt→Int) (a:Opt):List Opt→List Int→List Int
  | [],acc=>acc
  | b::r,acc=>evB f a r (acc++[f a b])
def evA (f:Opt→Opt→Int) (lb:List Opt):List Opt→List Int→List Int
  | [],acc=>acc
  | a::r,acc=>evA f lb r (evB f a lb acc)
def PosP (l:List Int):Prop:=∀ x∈l,0≤x∧(0<x→priceB x=true)
theorem evB_ok {f:Opt→Opt→Int} {a:Opt} (hf:∀ b,0≤f a b∧(0<f a b→priceB (f a b)=true)):∀ (l:List Opt) (acc:List Int),PosP acc→PosP (evB f a l acc)∧(evB f a l acc).length=acc.length+l.length
  | [],acc,h=>⟨h,rfl⟩
  | b::r,acc,h=>by
    rw[evB]
    obtain ⟨h1,h2⟩:=evB_ok hf r (acc++[f a b]) (fun x hx=>by
      rcases List.mem_append.1 hx with h' | h'
      · exact h x h'
      · rw[List.mem_singleton.1 h'];exact hf b)
    exact⟨h1,by rw[h2];simp;omega⟩
theorem evA_ok {f:Opt→Opt→Int} (hf:∀ a b,0≤f a b∧(0<f a b→priceB (f a b)=true)) (lb:List Opt):∀ (l:List Opt) (acc:List Int),PosP acc→PosP (evA f lb l acc)∧(evA f lb l acc).length=acc.length+l.length * lb.length
  | [],acc,h=>⟨h,by simp[evA]⟩
  | a::r,acc,h=>by
    rw[evA]
    obtain ⟨h1,h2⟩:=evB_ok (hf a) lb acc h
    obtain ⟨h3,h4⟩:=evA_ok hf lb r _ h1
    exact⟨h3,by rw[h4,h2,List.length_cons,Nat.add_mul,Nat.one_mul];omega⟩
def ecAs (L:List Int) (d:Nat):Nat:=ecA L (ecA L (ecA L (ecA L d)))
theorem ecAs_le {L:List Int} {d:Nat} (h:d≤L.length):ecAs L d≤L.length:=ecA_le (ecA_le (ecA_le (ecA_le h)))
def evTab (L:List Int) (d:Nat) (la lb:List Opt):List Int:=evA (evX (ecV L d) (ecV L (ecA L d)) (ecV L (ecA L (ecA L d))) (ecV L (ecA L (ecA L (ecA L d))))) lb la []
theorem evTab_ok (L:List Int) (d:Nat) (la lb:List Opt):PosP (evTab L d la lb)∧(evTab L d la lb).length=la.length * lb.length:=by
  have h:=evA_ok (f:=evX (ecV L d) (ecV L (ecA L d)) (ecV L (ecA L (ecA L d))) (ecV L (ecA L (ecA L (ecA L d))))) (fun a b=>by
    have r1:=ecV_range L d
    have r2:=ecV_range L (ecA L d)
    have r3:=ecV_range L (ecA L (ecA L d))
    have r4:=ecV_range L (ecA L (ecA L (ecA L d)))
    unfold evX
    split
    · split
      · exact⟨by decide,fun _=>by decide⟩
      split
      · exact⟨r1.1,r1.2.2⟩
      split
      · exact⟨r2.1,r2.2.2⟩
      · exact⟨by decide,fun _=>by decide⟩
    · split
      · exact⟨r3.1,r3.2.2⟩
      split
      · exact⟨r4.1,r4.2.2⟩
      · exact⟨by decide,fun h=>by omega⟩) lb la [] (fun x hx=>by simp at hx)
  exact⟨h.1,by rw[evTab,h.2];simp⟩
theorem evenPair_ok (L:List Int) (d:Nat) (cls:List (List Opt)) (prs:List Pr) (R:Int) (i k:Nat) (hd:d≤L.length) (hL:L.length<1000000) (hi:i<cls.length) (hk:k<cls.length) (hb:cls.length≤24)
    (hl:∀ l∈cls,l.length≤24∧∀ o∈l,0≤o.day∧o.day≤1) :
    Holds Tryz.prog 45 [.ptr 0 0 0,.agg [.tree 1 (rowsOf eCls cls),.ref 1 4 0 prs.length,.lit (.slice none 0 0),.lit (.int .i64 R)],.lit (.int .i64 i),.lit (.int .i64 k)] [dice L d,.arr 4 (rowsOf ePr prs)]
      (.agg (ePr ⟨i,k,1,evTab L d (cls.getD i default) (cls.getD k default)⟩)) [dice L (ecAs L d),.arr 4 (rowsOf ePr prs)]:=by
  have hla:=hl _ (getD_mem (d:=default) hi)
  have hlb:=hl _ (getD_mem (d:=default) hk)
  generalize hca:cls.getD i default=la at *
  generalize hcb:cls.getD k default=lb at *
  have e1:=ecost_ok L d hd hL
  have d1:=ecA_le hd
  have e2:=ecost_ok L _ d1 hL
  have d2:=ecA_le d1
  have e3:=ecost_ok L _ d2 hL
  have d3:=ecA_le d2
  have e4:=ecost_ok L _ d3 hL
  have htl:=(evTab_ok L d la lb).2
  generalize hres:evTab L d la lb=res at *
  unfold evTab at hres
  unfold ecAs
  generalize ecV L (ecA L (ecA L (ecA L d)))=c4 at *
  generalize ecA L (ecA L (ecA L (ecA L d)))=k4 at *
  generalize ecV L (ecA L (ecA L d))=c3 at *
  generalize ecA L (ecA L (ecA L d))=k3 at *
  generalize ecV L (ecA L d)=c2 at *
  generalize ecA L (ecA L d)=k2 at *
  generalize ecV L d=c1 at *
  generalize ecA L d=k1 at *
  generalize hf:evX c1 c2 c3 c4=f at *
  unfold dice at *
  refine Holds.of_body' (fn:=Tryz.f45) 103 2 [.cell 8 68] Tryz.func45 rfl rfl rfl rfl rfl (by simp) ?_
  ((try revert hK K);(repeat' (first|refine Vb X0 ?_|(refine V2 X0 ?_ ?_<;>try with_reducible intro hb)|(refine Xi ?_ ?_<;>try intro ht)|refine VD ?_ ?_|exact Xx|fail))<;>try with_reducible intro K hK)
  (refine Xn [0] (e1) ?_;simp (disch:=omega) only[Ac,↓Pc,simprocAttr])
  ((try revert hK K);(repeat' (first|refine Vb X0 ?_|(refine V2 X0 ?_ ?_<;>try with_reducible intro hb)|(refine Xi ?_ ?_<;>try intro ht)|refine VD ?_ ?_|exact Xx|fail))<;>try with_reducible intro K hK)
  (refine Xn [0] (e2) ?_;simp (disch:=omega) only[Ac,↓Pc,simprocAttr])
  ((try revert hK K);(repeat' (first|refine Vb X0 ?_|(refine V2 X0 ?_ ?_<;>try with_reducible intro hb)|(refine Xi ?_ ?_<;>try intro ht)|refine VD ?_ ?_|exact Xx|fail))<;>try with_reducible intro K hK)
  (refine Xn [0] (e3) ?_;simp (disch:=omega) only[Ac,↓Pc,simprocAttr])
  ((try revert hK K);(repeat' (first|refine Vb X0 ?_|(refine V2 X0 ?_ ?_<;>try with_reducible intro hb)|(refine Xi ?_ ?_<;>try intro ht)|refine VD ?_ ?_|exact Xx|fail))<;>try with_reducible intro K hK)
  (refine Xn [0] (e4) ?_;simp (disch:=omega) only[Ac,↓Pc,simprocAttr])
  ((try revert hK K);(repeat' (first|refine Vb X0 ?_|(refine V2 X0 ?_ ?_<;>try with_reducible intro hb)|(refine Xi ?_ ?_<;>try intro ht)|refine VD ?_ ?_|exact Xx|fail))<;>try with_reducible intro K hK)
  refine W_loopS (fun z:Nat × List Int=>(⟨slots [(2,.lit (.int .i64 i)),(3,.lit (.int .i64 k)),(5,.ptr 2 0 0),(8,.ptr 3 0 0),(9,.ptr 4 0 0),(10,.ptr 5 0 0),(11,.ptr 6 0 0),(12,.lit (.int .i64 z.1))],
      [.var [.tree 1 (ints L),.lit (.int .i64 k4)],.arr 4 (rowsOf ePr prs),.var [.tree 1 (rowsOf eCls cls),.ref 1 4 0 prs.length,.lit (.slice none 0 0),.lit (.int .i64 R)],.var [.lit (.int .i64 0),.lit (.int .i64 0),.lit (.int .i64 0),.lit (.slice none 0 0)],.var [.lit (.int .i64 i),.lit (.int .i64 k),.lit (.int .i64 1),.ref 7 1 0 z.2.length],
        .var [.lit (.int .i64 1099511627776),.lit (.int .i64 c1),.lit (.int .i64 c2),.lit (.int .i64 1099511627776)],.var [.lit (.int .i64 c3),.lit (.int .i64 0),.lit (.int .i64 c4),.lit (.int .i64 0)],.arr 1 (ints z.2)]⟩:St))
    (fun z=>z.1≤la.length∧z.2.length=z.1 * lb.length∧evA f lb (la.drop z.1) z.2=res) (fun z=>la.length - z.1) (0,[]) ⟨Nat.zero_le _,by simp,hres⟩ ?_ ?_
  · refine Turns.trans (Turns.nilC 4 3 1 rfl rfl (by decide)) ?_
    exact Xv X0
  rintro ⟨x,tab⟩ ⟨hx,ht,hr⟩ Ql hnl hel
  dsimp only at hx ht hr ⊢
  by_cases hx':x<la.length
  · have hdx:=getD_drop0 la x default hx'
    have hox:=hla.2 _ (getD_mem (l:=la) (i:=x) (d:=default) hx')
    have hxb:x * lb.length≤24 * 24:=Nat.mul_le_mul (by omega) hlb.1
    have hxs:(x+1) * lb.length=x * lb.length+lb.length:=by rw[Nat.add_mul,Nat.one_mul]
    generalize hxx:x * lb.length=xb at *
    generalize hoa:la.getD x default=oa at *
    rw[hdx,evA] at hr
    generalize hfin:evB f oa lb tab=tab2 at hr
    ((try revert hK K);(repeat' (first|refine Va @hca ?_|(refine V2 @hca ?_ ?_<;>try with_reducible intro hb)|(refine Xi ?_ ?_<;>try intro ht)|refine VD ?_ ?_|exact Xx|fail))<;>try with_reducible intro K hK)
    refine W_loopS (fun z:Nat × List Int=>(⟨slots [(2,.lit (.int .i64 i)),(3,.lit (.int .i64 k)),(5,.ptr 2 0 0),(8,.ptr 3 0 0),(9,.ptr 4 0 0),(10,.ptr 5 0 0),(11,.ptr 6 0 0),(12,.lit (.int .i64 x)),(13,.lit (.int .i64 z.1))],
        [.var [.tree 1 (ints L),.lit (.int .i64 k4)],.arr 4 (rowsOf ePr prs),.var [.tree 1 (rowsOf eCls cls),.ref 1 4 0 prs.length,.lit (.slice none 0 0),.lit (.int .i64 R)],.var [.lit (.int .i64 0),.lit (.int .i64 0),.lit (.int .i64 0),.lit (.slice none 0 0)],.var [.lit (.int .i64 i),.lit (.int .i64 k),.lit (.int .i64 1),.ref 7 1 0 z.2.length],
        .var [.lit (.int .i64 1099511627776),.lit (.int .i64 c1),.lit (.int .i64 c2),.lit (.int .i64 1099511627776)],.var [.lit (.int .i64 c3),.lit (.int .i64 0),.lit (.int .i64 c4),.lit (.int .i64 0)],.arr 1 (ints z.2)]⟩:St))
      (fun z=>z.1≤lb.length∧z.2.length=xb+z.1∧evB f oa (lb.drop z.1) z.2=tab2) (fun z=>lb.length - z.1) (0,tab) ⟨Nat.zero_le _,by dsimp only;omega,hfin⟩ (Xv X0) ?_
    clear ht hfin
    rintro ⟨y,tab⟩ ⟨hy,ht,hr3⟩ Ql2 hnl2 hel2
    dsimp only at hy ht hr3 ⊢
    by_cases hy':y<lb.length
    · have hdy:=getD_drop0 lb y default hy'
      have hoy:=hlb.2 _ (getD_mem (l:=lb) (i:=y) (d:=default) hy')
      generalize hob:lb.getD y default=ob at *
      rw[hdy,evB] at hr3
      have hfx:f oa ob=evX c1 c2 c3 c4 oa ob:=by rw[hf]
      unfold evX at hfx
      repeat' (first|((fail_if_success (first|refine W_at 12 ?_|refine W_atE 12 ?_));refine Xr (X4 @hca @hcb @hoa @hob) ?_;intro K hK)|refine Xo (X4 @hca @hcb @hoa @hob) ?_|(refine hK _ ?_;clear hK K)|(refine Xg (X4 @hca @hcb @hoa @hob) ?_ ?_<;>try intro hb)|(refine Xi ?_ ?_<;>try intro ht)|refine Xy ?_|refine Xd ?_ ?_|exact Xx|fail)
      refine unSq ?_;intro Q hn he
      refine join_here ⟨slots [(2,.lit (.int .i64 i)),(3,.lit (.int .i64 k)),(5,.ptr 2 0 0),(8,.ptr 3 0 0),(9,.ptr 4 0 0),(10,.ptr 5 0 0),(11,.ptr 6 0 0),(12,.lit (.int .i64 x)),(13,.lit (.int .i64 y)),(14,.ptr 8 0 0),(15,.ptr 9 0 0)],
        [.var [.tree 1 (ints L),.lit (.int .i64 k4)],.arr 4 (rowsOf ePr prs),.var [.tree 1 (rowsOf eCls cls),.ref 1 4 0 prs.length,.lit (.slice none 0 0),.lit (.int .i64 R)],.var [.lit (.int .i64 0),.lit (.int .i64 0),.lit (.int .i64 0),.lit (.slice none 0 0)],.var [.lit (.int .i64 i),.lit (.int .i64 k),.lit (.int .i64 1),.ref 7 1 0 tab.length],
        .var [.lit (.int .i64 1099511627776),.lit (.int .i64 c1),.lit (.int .i64 c2),.lit (.int .i64 1099511627776)],.var [.lit (.int .i64 c3),.lit (.int .i64 0),.lit (.int .i64 c4),.lit (.int .i64 0)],.arr 1 (ints tab),
          .var [.lit (.int .i64 oa.wk),.lit (.int .i64 oa.day),.lit (.int .i64 oa.st),.lit (.int .i64 oa.len),.lit (.int .i64 oa.room)],.var [.lit (.int .i64 ob.wk),.lit (.int .i64 ob.day),.lit (.int .i64 ob.st),.lit (.int .i64 ob.len),.lit (.int .i64 ob.room)]]⟩ hn ?_ (fun key=>?_)
      rotate_left
      · refine W_draw [] (.take 0 (.take 1 (.take 2 (.take 3 (.take 4 (.take 5 (.take 6 (.take 7 (.take 8 (.take 9 (.take 11 (.take 14 (.three 10 (.take 12 (.three 13 (.take 15 (.take 16 (.three 17 (.both 18 (.take 19 (.take 20 (.take 21 .nil))) 19 (.take 18 (.take 20 (.take 21 .nil)))) 18 (.both 17 (.take 19 (.take 20 (.take 21 .nil))) 19 (.both 17 (.take 20 (.take 21 .nil)) 20 (.take 17 (.take 21 .nil)))) 19 (.both 17 (.take 18 (.take 20 (.take 21 .nil))) 18 (.both 17 (.take 20 (.take 21 .nil)) 20 (.take 17 (.take 21 .nil))))))) 18 (.both 13 (.take 15 (.take 16 (.both 17 (.take 19 (.take 20 (.take 21 .nil))) 19 (.both 17 (.take 20 (.take 21 .nil)) 20 (.take 17 (.take 21 .nil)))))) 19 (.both 13 (.take 15 (.take 16 (.both 17 (.take 20 (.take 21 .nil)) 20 (.take 17 (.take 21 .nil))))) 20 (.take 13 (.take 15 (.take 16 (.take 17 (.take 21 .nil))))))) 19 (.both 13 (.take 15 (.take 16 (.both 17 (.take 18 (.take 20 (.take 21 .nil))) 18 (.both 17 (.take 20 (.take 21 .nil)) 20 (.take 17 (.take 21 .nil)))))) 18 (.both 13 (.take 15 (.take 16 (.both 17 (.take 20 (.take 21 .nil)) 20 (.take 17 (.take 21 .nil))))) 20 (.take 13 (.take 15 (.take 16 (.take 17 (.take 21 .nil))))))))) 18 (.both 10 (.take 12 (.both 13 (.take 15 (.take 16 (.both 17 (.take 19 (.take 20 (.take 21 .nil))) 19 (.both 17 (.take 20 (.take 21 .nil)) 20 (.take 17 (.take 21 .nil)))))) 19 (.both 13 (.take 15 (.take 16 (.both 17 (.take 20 (.take 21 .nil)) 20 (.take 17 (.take 21 .nil))))) 20 (.take 13 (.take 15 (.take 16 (.take 17 (.take 21 .nil)))))))) 19 (.both 10 (.take 12 (.both 13 (.take 15 (.take 16 (.both 17 (.take 20 (.take 21 .nil)) 20 (.take 17 (.take 21 .nil))))) 20 (.take 13 (.take 15 (.take 16 (.take 17 (.take 21 .nil))))))) 20 (.take 10 (.take 12 (.take 13 (.take 15 (.take 16 (.take 17 (.take 21 .nil))))))))) 19 (.both 10 (.take 12 (.both 13 (.take 15 (.take 16 (.both 17 (.take 18 (.take 20 (.take 21 .nil))) 18 (.both 17 (.take 20 (.take 21 .nil)) 20 (.take 17 (.take 21 .nil)))))) 18 (.both 13 (.take 15 (.take 16 (.both 17 (.take 20 (.take 21 .nil)) 20 (.take 17 (.take 21 .nil))))) 20 (.take 13 (.take 15 (.take 16 (.take 17 (.take 21 .nil)))))))) 18 (.both 10 (.take 12 (.both 13 (.take 15 (.take 16 (.both 17 (.take 20 (.take 21 .nil)) 20 (.take 17 (.take 21 .nil))))) 20 (.take 13 (.take 15 (.take 16 (.take 17 (.take 21 .nil))))))) 20 (.take 10 (.take 12 (.take 13 (.take 15 (.take 16 (.take 17 (.take 21 .nil)))))))))))))))))))))) rfl (by decide) (by decide +kernel) ?_
        simp (disch:=omega) only[Ac,↓Pc,simprocAttr,Pw,hca,hcb,hoa,hob]
        repeat' (first|with_reducible refine And.intro ?_ ?_|omega|with_reducible rfl)
        all_goals refine key _ ?_
        all_goals first|((refine Turns.slots _ _ rfl ?_;simp only[Tc,↓reduceIte,reduceEqDiff,Nat.reduceBEq,reduceAdd];try trivial);done)|((refine Turns.se [0,1,2,3,4,5,6,7,8,9] false (by simp only[Oc,simprocAttr]) ?_;simp only[Hr,↓reduceIte,reduceEqDiff,Nat.reduceBEq,reduceAdd];try (and_intros<;>first|exact .pure rfl|exact .eq rfl|exact .fz rfl (by simp only[Bc,Rc])));done)|((refine Turns.se [0,1,2,3,4,5,6,7,9,8] false (by simp only[Oc,simprocAttr]) ?_;simp only[Hr,↓reduceIte,reduceEqDiff,Nat.reduceBEq,reduceAdd];try (and_intros<;>first|exact .pure rfl|exact .eq rfl|exact .fz rfl (by simp only[Bc,Rc])));done)
      (try clear hn;try clear he)
      try (try clear Q)
      have hda:oa.day=0∨oa.day=1:=by omega
      have hdb:ob.day=0∨ob.day=1:=by omega
      rcases hda with hda | hda<;>rcases hdb with hdb | hdb
      all_goals
        rw[hda,hdb] at hfx
        ((try revert hK K);(repeat' (first|refine Va (X2 @hda @hdb) ?_|(refine V2 (X2 @hda @hdb) ?_ ?_<;>try with_reducible intro hb)|(refine Xi ?_ ?_<;>try intro ht)|refine VD ?_ ?_|exact Xx|fail))<;>try with_reducible intro K hK)
      · rw[if_pos (by omega)] at hfx
        refine hnl2 _ (y+1,tab++[1099511627776]) ⟨by dsimp only;omega,by simp;omega,?_⟩ (by dsimp only;omega) (Xs false [0,1,2,3,4,5,6,11] X0)
        rw[show f oa ob=1099511627776 from hfx] at hr3;exact hr3
      · rw[if_neg (by omega)] at hfx
        refine hnl2 _ (y+1,tab++[c3]) ⟨by dsimp only;omega,by simp;omega,?_⟩ (by dsimp only;omega) (Xs false [0,1,2,3,4,5,6,11] X0)
        rw[show f oa ob=c3 from hfx] at hr3;exact hr3
      · rw[if_neg (by omega)] at hfx
        refine hnl2 _ (y+1,tab++[c3]) ⟨by dsimp only;omega,by simp;omega,?_⟩ (by dsimp only;omega) (Xs false [0,1,2,3,4,5,6,11] X0)
        rw[show f oa ob=c3 from hfx] at hr3;exact hr3
      · rw[if_pos (by omega)] at hfx
        refine hnl2 _ (y+1,tab++[c1]) ⟨by dsimp only;omega,by simp;omega,?_⟩ (by dsimp only;omega) (Xs false [0,1,2,3,4,5,6,11] X0)
        rw[show f oa ob=c1 from hfx] at hr3;exact hr3
      · rw[if_neg (by omega)] at hfx
        refine hnl2 _ (y+1,tab++[0]) ⟨by dsimp only;omega,by simp;omega,?_⟩ (by dsimp only;omega) (Xs false [0,1,2,3,4,5,6,11] X0)
        rw[show f oa ob=0 from hfx] at hr3;exact hr3
      · rw[if_neg (by omega)] at hfx
        refine hnl2 _ (y+1,tab++[0]) ⟨by dsimp only;omega,by simp;omega,?_⟩ (by dsimp only;omega) (Xs false [0,1,2,3,4,5,6,11] X0)
        rw[show f oa ob=0 from hfx] at hr3;exact hr3
      · rw[if_pos (by omega)] at hfx
        refine hnl2 _ (y+1,tab++[c2]) ⟨by dsimp only;omega,by simp;omega,?_⟩ (by dsimp only;omega) (Xs false [0,1,2,3,4,5,6,11] X0)
        rw[show f oa ob=c2 from hfx] at hr3;exact hr3
      · rw[if_neg (by omega)] at hfx
        refine hnl2 _ (y+1,tab++[c4]) ⟨by dsimp only;omega,by simp;omega,?_⟩ (by dsimp only;omega) (Xs false [0,1,2,3,4,5,6,11] X0)
        rw[show f oa ob=c4 from hfx] at hr3;exact hr3
      · rw[if_neg (by omega)] at hfx
        refine hnl2 _ (y+1,tab++[c4]) ⟨by dsimp only;omega,by simp;omega,?_⟩ (by dsimp only;omega) (Xs false [0,1,2,3,4,5,6,11] X0)
        rw[show f oa ob=c4 from hfx] at hr3;exact hr3
      · rw[if_pos (by omega)] at hfx
        refine hnl2 _ (y+1,tab++[1099511627776]) ⟨by dsimp only;omega,by simp;omega,?_⟩ (by dsimp only;omega) (Xs false [0,1,2,3,4,5,6,11] X0)
        rw[show f oa ob=1099511627776 from hfx] at hr3;exact hr3
      · rw[if_neg (by omega)] at hfx
        refine hnl2 _ (y+1,tab++[0]) ⟨by dsimp only;omega,by simp;omega,?_⟩ (by dsimp only;omega) (Xs false [0,1,2,3,4,5,6,11] X0)
        rw[show f oa ob=0 from hfx] at hr3;exact hr3
      · rw[if_neg (by omega)] at hfx
        refine hnl2 _ (y+1,tab++[0]) ⟨by dsimp only;omega,by simp;omega,?_⟩ (by dsimp only;omega) (Xs false [0,1,2,3,4,5,6,11] X0)
        rw[show f oa ob=0 from hfx] at hr3;exact hr3
    · ((try revert hK K);(repeat' (first|refine Va @hcb ?_|(refine V2 @hcb ?_ ?_<;>try with_reducible intro hb)|(refine Xi ?_ ?_<;>try intro ht)|refine VD ?_ ?_|exact Xx|fail))<;>try with_reducible intro K hK)
      rw[List.drop_eq_nil_of_le (by omega),evB] at hr3
      refine hel2 _ _ rfl ?_
      clear hnl2 hel2 Ql2
      repeat (first|refine Xu ?_)
      ((try revert hK K);(repeat' (first|refine Va X0 ?_|(refine V2 X0 ?_ ?_<;>try with_reducible intro hb)|(refine Xi ?_ ?_<;>try intro ht)|refine VD ?_ ?_|exact Xx|fail))<;>try with_reducible intro K hK)
      exact hnl _ (x+1,tab) ⟨by dsimp only;omega,by dsimp only;omega,by rw[hr3];exact hr⟩ (by dsimp only;omega) (Xv X0)
  · ((try revert hK K);(repeat' (first|refine Va @hca ?_|(refine V2 @hca ?_ ?_<;>try with_reducible intro hb)|(refine Xi ?_ ?_<;>try intro ht)|refine VD ?_ ?_|exact Xx|fail))<;>try with_reducible intro K hK)
    rw[List.drop_eq_nil_of_le (by omega),evA] at hr
    refine hel _ _ rfl ?_;clear hnl hel Ql
    repeat (first|refine Xu ?_)
    refine W_turn (Turns.frzV 7 4 3 1 rfl rfl (by rw[ints_length];rfl) (ints_wid _) (ints_frz _)) ?_
    ((try revert hK K);(repeat' (first|refine Vb X0 ?_|(refine V2 X0 ?_ ?_<;>try with_reducible intro hb)|(refine Xi ?_ ?_<;>try intro ht)|refine VD ?_ ?_|exact Xx|fail))<;>try with_reducible intro K hK)
    rw[← hr]
    simp (disch:=omega) only[Ac,↓Pc,simprocAttr,retV]
    exact Xw true [0,1] X0
end T

