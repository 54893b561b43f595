import Derived.Test.YtdipcmigdbnheaaGreatX39
import Derived.Test.YtdipcmigdbnheaaGreatX31
import Derived.Test.YtdipcmigdbnheaaGreatX34
import Derived.Test.YtdipcmigdbnheaaGreatX19
set_option linter.unusedVariables false
set_option linter.unusedSimpArgs false
set_option linter.unnecessarySimpa false
set_option linter.unusedSectionVars false
set_option maxHeartbeats 64000000
set_option maxRecDepth 20000
open Nat renaming le_refl→aH,min_eq_left→pz,mul_le_mul→Dd,sub_zero→tT,sub_self→iC,zero_le→aD
open List renaming drop_eq_nil_of_le→dw,replicate→bq,map_nil→jJ,nil_append→dK
open Int renaming mul_nonneg→pC,mul_le_mul→oO
open Go Go.Am
open Go Go.Am Go.Proofs
open Nat (reduceEqDiff reduceAdd reduceLeDiff reduceMul)
open Int (reduceNeg reduceLE reduceToNat)
namespace T
def pj:List (List bK)→Int→Int
  | [],n=>n
  | c::r,n=>if c.length=0 then 0 else pj r (min (n * c.length) 65537)
def nr (m:ah):Int:=if dI m=0 then pj m.cls 1 else 0
def uT:List (List bK)→Nat
  | []=>1
  | c::r=>c.length * uT r
theorem Wd:∀ {l:List (List bK)},[] ∉ l→1≤uT l
  | [],_=>aH _
  | c::r,h=>Nat.mul_pos (by cases c with | nil=>simp at h | cons a b=>simp) (Wd fun e=>h (by simp[e]))
theorem We:∀ (l:List (List bK)) (n:Nat),[] ∉ l→n≤65537→pj l n=min ((n * uT l:Nat):Int) 65537
  | [],n,h,hn=>by show (n:Int)=_;rw[uT,Nat.mul_one];omega
  | c::r,n,h,hn=>by
    have hc:1≤c.length:=by cases c with | nil=>simp at h | cons a b=>simp
    have hr:[] ∉ r:=fun e=>h (by simp[e])
    have hp:=Wd hr
    rw[pj,if_neg (by omega),show (min ((n:Int) * c.length) 65537:Int)=((min (n * c.length) 65537:Nat):Int) by rw[← Int.natCast_mul];omega,We r _ hr (by omega),uT,← Nat.mul_assoc]
    by_cases e:n * c.length≤65537
    · rw[pz e]
    · rw[Nat.min_eq_right (by omega)]
      have h1:65537 * 1≤65537 * uT r:=Nat.mul_le_mul_left _ hp
      have h2:65537 * 1≤n * c.length * uT r:=Dd (by omega) hp
      omega
theorem Wf (m:ah):∀ (d:Nat),d≤m.cls.length→ki m d=uT (m.cls.drop (m.cls.length - d))
  | 0,_=>by rw[tT,List.drop_length];rfl
  | d+1,h=>by
    rw[ki,dr m.cls (m.cls.length - (d+1)) default (by omega),uT,Wf m d (by omega),show m.cls.length - (d+1)+1=m.cls.length - d by omega]
theorem aad {m:ah} (hm:VM m) (h:nr m≤1000):[]∈m.cls∨ki m m.cls.length≤8000:=by
  by_cases he:[]∈m.cls
  · exact .inl he
  · right
    unfold nr at h
    rw[if_pos (iJ.2 hm),show (1:Int)=((1:Nat):Int) from rfl,We _ _ he (by omega),Nat.one_mul] at h
    rw[Wf m _ (aH _),iC,List.drop_zero]
    omega
theorem Wg {m:ah} {w:Nat} (h:∀ l∈m.cls,l.length≤w):∀ d,d≤m.cls.length→ki m d≤w ^ d
  | 0,_=>aH _
  | d+1,hd=>by
    rw[ki,Nat.pow_succ,Nat.mul_comm]
    exact Dd (Wg h d (by omega)) (h _ (az (by omega)))
theorem J2 {m:ah} (Z:List Int × Int→Prop) (h0:Z ([],1099511627776)):∀ (d:Nat) (p:List Int),BP m p→p.length+d=m.cls.length→(∀ q,Ext m p q→lF m q<1099511627776→Z (q,lF m q))→Z (gu m d p)
  | 0,p,hp,hd,h=>by
    unfold gu
    split
    · exact h0
    · exact h p ⟨hp.fp (by omega),[],by simp⟩ (by omega)
  | d+1,p,hp,hd,h=>by
    unfold gu
    have key:∀ (w k:Nat) (a:List Int × Int),k+w=(m.cls.getD p.length default).length→Z a→Z (pS (gu m d) p w k a):=by
      intro w
      induction w with
      | zero=>intro k a _ ha;exact ha
      | succ w ih =>
        intro k a hk ha
        rw[pS]
        refine ih (k+1) _ (by omega) ?_
        split
        · refine J2 Z h0 d _ (hp.snoc (by omega) (by omega)) (by rw[List.length_append];simp;omega) fun q hq=>h q ⟨hq.1,?_⟩
          obtain ⟨r,rfl⟩:=hq.2
          exact⟨(k:Int)::r,by simp⟩
        · exact ha
    exact key _ 0 _ (by omega) h0
theorem J3 (m:ah):BP m []:=⟨aD _,fun j hj=>by cases hj⟩
theorem NM {m:ah} (h:(gu m m.cls.length []).2<1099511627776):FP m (gu m m.cls.length []).1∧lF m (gu m m.cls.length []).1=(gu m m.cls.length []).2 :=
  J2 (fun z=>z.2<1099511627776→FP m z.1∧lF m z.1=z.2) (fun h=>absurd h (Int.lt_irrefl _)) _ [] (J3 m) (by simp) (fun q hq _ _=>⟨hq.1,rfl⟩) h
theorem ZW {m:ah} (hm:VM m) (h:m.cls.length=0):lF m []=0:=by
  unfold lF
  have rP:FP m []:=⟨h.symm,fun j hj=>(by cases hj)⟩
  rw[Jh hm rP,h]
  have h1:m.ae.length=0:=by
    cases hp:m.ae with
    | nil=>rfl
    | cons p r =>
      have:=(mj (jn hm.pr p (by rw[hp];simp))).2
      omega
  have h2:bz (fun i=>kx [] (m.au.getD i default)) m.au.length=0:=by
    have:∀ n,n≤m.au.length→bz (fun i=>kx [] (m.au.getD i default)) n=0:=by
      intro n
      induction n with
      | zero=>intro _;rfl
      | succ n ih =>
        intro hn
        rw[bz,ih (by omega)]
        obtain ⟨_,q2,_,q4⟩:=nw (hm.ct _ (az (l:=m.au) (i:=n) (d:=default) (by omega)))
        have hl:(m.au.getD n default).aK=[]:=by
          cases hl:(m.au.getD n default).aK with
          | nil=>rfl
          | cons x r =>
            have:=iy.1 (o7 q4 x (by rw[hl];simp)).1
            omega
        unfold kx kP
        rw[hl,show lK [] ([]:List Ld) 0=0 from rfl,if_pos (by omega)];rfl
    exact this _ (aH _)
  rw[h1,h2];rfl
theorem aeB (l:List Bool) (hl:l.length<1000000):ao Tryz.prog 161 [.tree 1 (bg l),.lit (.bool true)] [] (.lit (.int .i64 (qQ l 0))) []:=by
  generalize an:qQ l 0=res
  refine ao.aF (fn:=Tryz.f161) 19 0 [.tmp 4] Tryz.func161 rfl rfl rfl rfl rfl (by simp) ?_
  refine Vb X0 ?_
  refine aI (fun k:Nat=>(⟨av [(0,.tree 1 (bg l)),(1,.lit (.bool true)),(7,.lit (.int .i64 l.length)),(8,.lit (.int .i64 k))],[]⟩:St)) (fun k=>k≤l.length∧qQ (l.drop k) k=res) (fun k=>l.length - k) 0 ⟨aD _,an⟩ (Xv X0) ?_
  rintro k ⟨hk,hr⟩ Ql ak aq
  by_cases aP:k<l.length
  · have hd:=dr l k false aP
    generalize gF:l.getD k false=b at *
    rw[hd,qQ] at hr
    cases b
    · rw[if_neg (by simp)] at hr
      ((repeat' (first|refine Va @gF ?_|(refine Xi ?_ ?_<;>try intro ht)|exact Xx|fail)))
      all_goals try (exfalso;simp_all;done)
      all_goals exact ak _ (k+1) ⟨by omega,hr⟩ (by omega) (Xv X0)
    · rw[if_pos rfl] at hr
      ((repeat' (first|refine Va @gF ?_|(refine Xi ?_ ?_<;>try intro ht)|exact Xx|fail)))
      all_goals try (exfalso;simp_all;done)
      all_goals
        repeat (refine Xu ?_)
        refine Vb X0 ?_
        exact aC rfl (by rw[hr])
  · ((repeat' (first|refine Va X0 ?_|(refine Xi ?_ ?_<;>try intro ht)|exact Xx|fail)))
    rw[dw (by omega),qQ] at hr
    refine aq _ _ rfl ?_;clear ak aq Ql
    repeat (refine Xu ?_)
    refine Vb X0 ?_
    exact aC rfl (by rw[hr])
theorem aeC {left:List (List Bool)} {i:Nat} (h:i<left.length):(ints (jl (left.take i)++bq (left.length - i) 0)).set i [.lit (.int .i64 (qQ (left.getD i default) 0))]=ints (jl (left.take (i+1))++bq (left.length - (i+1)) 0):=by
  rw[eu h,show left.length - i=(left.length - (i+1))+1 by omega,List.replicate_succ]
  unfold jl ints
  rw[← List.map_set]
  congr 1
  rw[List.map_append,List.set_append_right _ _ (by simp;omega)]
  simp only[List.length_map,List.length_take,pz (Nat.le_of_lt h),iC,List.set_cons_zero,List.map_cons,jJ,List.append_assoc,List.cons_append,dK]
theorem aam (left:List (List Bool)) (hl:left.length≤24) (hw:∀ l∈left,l.length≤24):ao Tryz.prog 105 [.tree 1 (rowsOf aE left)] [] (.ref 0 1 0 left.length) [.arr 1 (ints (jl left))]:=by
  refine ao.aF (fn:=Tryz.f105) 23 0 [.tmp 2] Tryz.func105 rfl rfl rfl rfl rfl (by simp) ?_
  refine Vb X0 ?_
  refine aI (fun k:Nat=>(⟨av [(3,.ref 0 1 0 left.length),(9,.tree 1 (rowsOf aE left)),(10,.lit (.int .i64 left.length)),(11,.lit (.int .i64 k))],[.arr 1 (ints (jl (left.take k)++bq (left.length - k) 0))]⟩:St)) (fun k=>k≤left.length) (fun k=>left.length - k) 0 (aD _) (by rw[List.take_zero];unfold jl;simp only[jJ,dK,tT];exact Xs false [0] @yQ) ?_
  rintro k hk Ql ak aq
  by_cases aP:k<left.length
  · have hm:=hw _ (az (d:=default) aP)
    have e7:=aeB (left.getD k default) (by omega)
    have iS:=aeC aP
    have hlen:(ints (jl (left.take k)++bq (left.length - k) 0)).length=left.length:=by unfold jl ints;simp;omega
    have hAk:(ints (jl (left.take k)++bq (left.length - k) 0))[k]?=some [.lit (.int .i64 0)]:=by
      unfold jl ints
      rw[List.getElem?_map,List.getElem?_append_right (by simp;omega),List.getElem?_replicate,if_pos (by simp;omega)];rfl
    generalize hA:ints (jl (left.take k)++bq (left.length - k) 0)=A at *
    generalize bA:left.getD k default=row at *
    generalize qQ row 0=x at *
    ((repeat' (first|refine Vc (X4 @bA @aE.eq_1 @hlen @hAk) e7 ?_|(refine Xi ?_ ?_<;>try intro ht)|exact Xx|fail)))
    all_goals exact ak _ (k+1) (by omega) (by omega) (by rw[← iS];exact Xv X0)
  · ((repeat' (first|refine Va X0 ?_|(refine Xi ?_ ?_<;>try intro ht)|exact Xx|fail)))
    refine aq _ _ rfl ?_;clear ak aq Ql
    repeat (refine Xu ?_)
    rw[List.take_of_length_le (by omega),show left.length - k=0 by omega,List.replicate_zero,List.append_nil]
    refine Vb X0 ?_
    exact Xw false [0] X0
theorem Z4 (m:ah) (hm:MB m):ao Tryz.prog 41 [.agg (ar m)] [] (.lit (.int .i64 (nr m))) []:=by
  have h1:=vI m hm
  have qF:=hm.cls
  generalize an:nr m=res
  unfold nr at an
  refine ao.aF (fn:=Tryz.f41) 26 0 [.tmp 2] Tryz.func41 rfl rfl rfl rfl rfl (by simp) ?_
  by_cases hv:dI m=0
  rotate_left
  · rw[if_neg hv] at an
    generalize dI m=e at *
    ((repeat' (first|refine Vd X0 h1 ?_|(refine Xi ?_ ?_<;>try intro ht)|exact Xx|fail)))
    all_goals exact aC rfl (by rw[an])
  rw[if_pos hv] at an
  rw[hv] at h1
  have b9:=iJ.1 hv
  ((repeat' (first|refine Vd @bne_self_eq_false.{0} h1 ?_|(refine Xi ?_ ?_<;>try intro ht)|exact Xx|fail)))
  refine aI (fun z:Nat × Int=>(⟨av [(3,.lit (.int .i64 z.2)),(10,.tree 1 (rowsOf bn m.cls)),(11,.lit (.int .i64 m.cls.length)),(12,.lit (.int .i64 z.1))],[]⟩:St))
    (fun z=>z.1≤m.cls.length∧0≤z.2∧z.2≤65537∧pj (m.cls.drop z.1) z.2=res) (fun z=>m.cls.length - z.1) (0,1) ⟨aD _,by dsimp only;omega,by dsimp only;omega,an⟩ (Xs false [] X0) ?_
  rintro ⟨i,n⟩ ⟨hi,cV,eM,hr⟩ Ql ak aq
  dsimp only at hi cV eM hr ⊢
  by_cases hi':i<m.cls.length
  · have hd:=dr m.cls i default hi'
    have hc:=b9.opt _ (az (d:=default) hi')
    generalize aO:m.cls.getD i default=c at *
    rw[hd,pj] at hr
    have hmul:0≤n * (c.length:Int)∧n * (c.length:Int)≤65537 * 24:=⟨pC cV (by omega),oO eM (by omega) (by omega) (by omega)⟩
    generalize tj:n * (c.length:Int)=nc at *
    by_cases h0:c.length=0
    · rw[if_pos h0] at hr
      ((repeat' (first|refine Va (X3 @aO @bn.eq_1 @tj) ?_|(refine Xi ?_ ?_<;>try intro ht)|exact Xx|fail)))
      all_goals
        repeat (refine Xu ?_)
        refine Vb X0 ?_
        exact aC rfl (by rw[hr])
    · rw[if_neg h0] at hr
      ((repeat' (first|refine Va (X3 @aO @bn.eq_1 @tj) ?_|(refine Xi ?_ ?_<;>try intro ht)|exact Xx|fail)))
      all_goals exact ak _ (i+1,min nc 65537) ⟨by dsimp only;omega,by dsimp only;omega,by dsimp only;omega,hr⟩ (by dsimp only;omega) (Xv X0)
  · rw[dw (by omega),pj] at hr
    ((repeat' (first|refine Va X0 ?_|(refine Xi ?_ ?_<;>try intro ht)|exact Xx|fail)))
    refine aq _ _ rfl ?_;clear ak aq Ql
    repeat (refine Xu ?_)
    refine Vb X0 ?_
    exact aC rfl (by rw[hr])
theorem aaa (m:ah) (hm:MB m):ao Tryz.prog 19 [.agg (ar m)] [] (.lit (.int .i64 (nr m))) []:=by
  have h1:=wg m hm
  have qF:=hm.cls
  generalize an:nr m=res
  unfold nr at an
  refine ao.aF (fn:=Tryz.f19) 32 0 [.tmp 2] Tryz.func19 rfl rfl rfl rfl rfl (by simp) ?_
  by_cases hv:dI m=0
  rotate_left
  · rw[if_neg hv] at an
    generalize dI m=e at *
    ((repeat' (first|refine Vd X0 h1 ?_|(refine Xi ?_ ?_<;>try intro ht)|exact Xx|fail)))
    all_goals exact aC rfl (by rw[an])
  rw[if_pos hv] at an
  rw[hv] at h1
  have b9:=iJ.1 hv
  ((repeat' (first|refine Vd @bne_self_eq_false.{0} h1 ?_|(refine Xi ?_ ?_<;>try intro ht)|exact Xx|fail)))
  refine aI (fun z:Nat × Int=>(⟨av [(1,.ptr 0 0 0),(3,.lit (.int .i64 z.2)),(4,.lit (.int .i64 z.1))],[.var (ar m)]⟩:St))
    (fun z=>z.1≤m.cls.length∧0≤z.2∧z.2≤65537∧pj (m.cls.drop z.1) z.2=res) (fun z=>m.cls.length - z.1) (0,1) ⟨aD _,by dsimp only;omega,by dsimp only;omega,an⟩ (Xv X0) ?_
  rintro ⟨i,n⟩ ⟨hi,cV,eM,hr⟩ Ql ak aq
  dsimp only at hi cV eM hr ⊢
  by_cases hi':i<m.cls.length
  · have hd:=dr m.cls i default hi'
    have hc:=b9.opt _ (az (d:=default) hi')
    generalize aO:m.cls.getD i default=c at *
    rw[hd,pj] at hr
    have hmul:0≤n * (c.length:Int)∧n * (c.length:Int)≤65537 * 24:=⟨pC cV (by omega),oO eM (by omega) (by omega) (by omega)⟩
    generalize tj:n * (c.length:Int)=nc at *
    by_cases h0:c.length=0
    · rw[if_pos h0] at hr
      ((repeat' (first|refine Va (X3 @aO @bn.eq_1 @tj) ?_|(refine Xi ?_ ?_<;>try intro ht)|exact Xx|fail)))
      all_goals
        repeat (refine Xu ?_)
        refine Vb X0 ?_
        exact aC rfl (by rw[hr])
    · rw[if_neg h0] at hr
      ((repeat' (first|refine Va (X3 @aO @bn.eq_1 @tj) ?_|(refine Xi ?_ ?_<;>try intro ht)|exact Xx|fail)))
      all_goals exact ak _ (i+1,min nc 65537) ⟨by dsimp only;omega,by dsimp only;omega,by dsimp only;omega,hr⟩ (by dsimp only;omega) (Xv X0)
  · rw[dw (by omega),pj] at hr
    ((repeat' (first|refine Va X0 ?_|(refine Xi ?_ ?_<;>try intro ht)|exact Xx|fail)))
    refine aq _ _ rfl ?_;clear ak aq Ql
    repeat (refine Xu ?_)
    refine Vb X0 ?_
    exact aC rfl (by rw[hr])
theorem NL {m:ah} (hm:VM m):PB (bx m).nodes∧(bx m).nodes.length≤20000:=by
  have hr:=Dn.root hm
  have hd:=I2 hm (m.cls.length+1) (ef m) [] Fe (by rw[hr.fit.1];simp) hr
  obtain ⟨d1,d2,d3,d4,d5,d6,d7,d8,d9⟩:=hd
  change ((bx m).nodes.length:Int)+(bx m).room=0+19999+1 at d5
  have d6:0≤(bx m).room:=d6 (by show (0:Int)≤19999;omega)
  obtain ⟨v,hv,_⟩:=d9 [] (fun x hx=>by cases hx)
  have hv:Tr m (bx m).nodes 0 (bx m).nodes.length (ef m) [] v:=hv
  have hn:=hv.v8.Ab
  have hf:=hv.v8.flat
  have eN:∀ x∈(bx m).nodes,∃ i,i<(bx m).nodes.length∧nd (bx m).nodes i=x:=fun x hx=>by
    obtain ⟨i,hi,rfl⟩:=List.getElem_of_mem hx
    exact⟨i,hi,by unfold nd;rw[List.getD_eq_getElem?_getD,List.getElem?_eq_getElem hi];rfl⟩
  refine⟨⟨by omega,fun x hx=>?_,fun x hx=>?_,fun x hx=>?_,fun x hx=>?_,fun x hx l hl=>?_⟩,by omega⟩
  all_goals
    obtain ⟨i,hi,rfl⟩:=eN x hx
    obtain ⟨f1,f2,f3⟩:=hf i (aD _) hi
    obtain ⟨n1,_⟩:=hn i (aD _) hi
  · have:=BE hm n1;omega
  · omega
  · rw[f2];decide
  · rw[f3];decide
  · rw[f3] at hl;cases hl
end T

