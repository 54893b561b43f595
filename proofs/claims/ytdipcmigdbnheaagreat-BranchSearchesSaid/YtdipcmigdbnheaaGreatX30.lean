import Derived.Test.YtdipcmigdbnheaaGreatX17
import Derived.Test.YtdipcmigdbnheaaGreatX25
import Derived.Test.YtdipcmigdbnheaaGreatX29
import Derived.Test.YtdipcmigdbnheaaGreatX27
set_option linter.unusedVariables false
set_option linter.unusedSimpArgs false
set_option linter.unnecessarySimpa false
set_option linter.unusedSectionVars false
set_option maxHeartbeats 64000000
set_option maxRecDepth 20000
open List renaming replicate→aW,map_take→Ha,take→pZ,drop→mZ,map_append→eT,length_replicate→mo,mem_cons→bW,mem_map→bV,mem_reverse→rY,flatMap_cons→pV,length→tu,length_map→eD,getElem?_map→bR,getElem?_eq_getElem→bm,getD_eq_getElem?_getD→ay,length_append→bU,getElem?_eq_none→dM,map_cons→du,count_cons→BE,count_append→qJ,count_eq_zero→Mb,mem_flatMap→xP
open Nat renaming min_eq_left→rS,eq_zero_or_pos→oh,le_refl→aV,strongRecOn→BA
open Option renaming map_some→eC
open Go Go.Am Go.Proofs
open Nat (reduceEqDiff reduceAdd reduceLeDiff reduceMul)
open Int (reduceNeg reduceLE reduceToNat)
open Go Go.Am
namespace T
theorem FT:IntKind.u64.min=0:=rfl
theorem FU:IntKind.u64.max=18446744073709551615:=rfl
theorem ad6:IntKind.u64.bits=64:=rfl
theorem p32:(2:Int) ^ (32:Nat)=4294967296:=rfl
theorem ad8 {n:Int} (h:0≤n∧n≤18446744073709551615):IntKind.u64.wrap n=n:=wz h
theorem VF {n:Int} (h : -9223372036854775808≤n∧n≤9223372036854775807):IntKind.i64.wrap n=n:=wz h
theorem ad9 {a:Int} (h:0≤a∧a≤18446744073709551615):Ab .u64 a 4294967295=a % 4294967296:=by
  unfold Ab
  have e:(BitVec.ofInt IntKind.u64.bits a &&& BitVec.ofInt IntKind.u64.bits 4294967295).toNat=a.toNat % 4294967296:=by
    rw[BitVec.toNat_and,BitVec.toNat_ofInt,BitVec.toNat_ofInt]
    have h1:(a % ((2 ^ IntKind.u64.bits:Nat):Int)).toNat=a.toNat:=by rw[Int.emod_eq_of_lt h.1 (by show a<18446744073709551616;omega)]
    have h2:((4294967295:Int) % ((2 ^ IntKind.u64.bits:Nat):Int)).toNat=2 ^ 32 - 1:=by decide
    rw[h1,h2,Nat.and_two_pow_sub_one_eq_mod]
  rw[e]
  rw[wz (by simp only[FT,FU];omega)]
  omega
theorem unI:Tryz.prog.underlying 3=some (.int .i64):=by kernel_rfl
theorem unU:Tryz.prog.underlying 238=some (.int .u64):=by kernel_rfl
theorem aec (y:Int) (hy:0≤y∧y≤9223372036854775807):ao Tryz.prog 199 [.lit (.int .u64 1),.lit (.int .u64 y)] [] (.bM [.lit (.int .u64 0),.lit (.int .u64 y)]) []:=by
  refine ao.aD (fn:=Tryz.f199) 51 0 [.tmp 4,.tmp 5] Tryz.func199 rfl rfl rfl rfl rfl (by simp) ?_
  refine Vb (X5 @FT @FU @ad6 @p32 (X3 @ad9 @Int.one_mul @Int.zero_mul)) ?_
  refine aE rfl ?_
  congr 3
  all_goals first|rfl|(congr 2;omega)
theorem aed (y:Int) (hy:0≤y∧y≤9223372036854775807):ao Tryz.prog 184 [.lit (.int .u64 1),.lit (.int .u64 y)] [] (.bM [.lit (.int .u64 0),.lit (.int .u64 y)]) []:=by
  refine ao.aD (fn:=Tryz.f184) 30 0 [.tmp 4,.tmp 5] Tryz.func184 rfl rfl rfl rfl rfl (by simp) ?_
  ((repeat' (first|refine Vd (X2 @FT @FU) (aec y hy) ?_|(refine Xi ?_ ?_<;>try intro ht)|exact Xx|fail)))
  exact aE rfl rfl
def lu (b:Bool):List AV:=[.lit (.bool b)]
instance:Row lu 1:=⟨fun _=>rfl,fun b v hv=>by
  simp only[lu,List.mem_singleton] at hv;subst hv;exact .inl ⟨_,rfl,rfl⟩⟩
theorem VG (xs:List Bool):rowsOf lu xs=bf xs:=by simp[rowsOf,lu,bf]
def qt (n i:Nat) (s:Bool):List Bool:=aW i s++aW (n - i) false
theorem aee {n i j:Nat} {s:Bool} (h:j≤i):(rowsOf lu (qt n i s)).take j=rowsOf lu (aW j s):=by
  unfold qt rowsOf
  rw[← Ha,List.take_append_of_le_length (by simp;omega),List.take_replicate,rS h]
theorem aef {n i j:Nat} {s:Bool} (h:i+j≤n) (hj:j≤i):rowsOf lu (aW i s)++pZ j (rowsOf lu (aW i s))++mZ (i+j) (rowsOf lu (qt n i s))=rowsOf lu (qt n (i+j) s):=by
  unfold qt rowsOf
  rw[← Ha,← List.map_drop,← eT,← eT,List.take_replicate,rS hj,List.drop_append,List.drop_eq_nil_of_le (by simp),List.drop_replicate,List.nil_append,List.replicate_append_replicate]
  congr 3
  simp;omega
theorem aeg {n i:Nat} {s:Bool} (h:i≤n):(qt n i s).length=n:=by simp[qt];omega
theorem VH (s:Bool) (n:Nat) (hn:n≤1048576):ao Tryz.prog 156 [.tree 1 [lu s],.lit (.int .i64 (n:Nat))] [] (.ref 0 1 0 n) [.arr 1 (rowsOf lu (aW n s))]:=by
  have hm:=aed n (by omega)
  refine ao.aD (fn:=Tryz.f156) 48 0 [.tmp 4] Tryz.func156 rfl rfl rfl rfl rfl (by simp) ?_
  ((repeat' (first|refine Vc (X5 @FT @FU @unI @unU (X4 @ad8 @VF @Option.isSome_some.{0} @OA)) hm ?_|(refine Xi ?_ ?_<;>try intro ht)|exact Xx|fail)))
  have e0:pZ (min 1 n) [lu s]++mZ (min 1 n) (aW n [AV.lit (Value.bool false)])=rowsOf lu (qt n (min 1 n) s):=by
    unfold qt rowsOf
    rw[List.drop_replicate]
    rcases oh n with h | h
    · subst h;rfl
    · rw[rS h,eT,List.map_replicate,List.map_replicate];rfl
  have e0':pZ (min 1 n) [lu s]++mZ (min 1 n) (bf (aW n false))=rowsOf lu (qt n (min 1 n) s):=by
    rw[← e0];simp[bf]
  first|rw[e0]|rw[e0']
  refine aG (fun i:Nat=>(⟨aw [(7,.ref 0 1 0 n),(8,.lit (.int .i64 i))],[.arr 1 (rowsOf lu (qt n i s))]⟩:St)) (fun i=>i≤n∧(i=0→n=0)) (fun i=>n - i) (min 1 n) ⟨by omega,by omega⟩ (Xv X0) ?_
  rintro i ⟨hi,hr⟩ Ql ak aq
  by_cases ax:i<n
  · have e1:i+min i (n - i)≤n:=by omega
    have hl:=aeg (s:=s) hi
    have ux:=fun n s=>aee (n:=n) (s:=s) (aV i)
    ((repeat' (first|refine Va (X5 @Option.map_none.{0,0} @List.drop_zero.{0} @ux @eP (X3 @mo.{0} @Im @hl)) ?_|(refine Xi ?_ ?_<;>try intro ht)|exact Xx|fail)))
    rw[aef e1 (Nat.min_le_left _ _)]
    exact ak _ (i+min i (n - i)) ⟨by omega,by omega⟩ (by omega) (Xv X0)
  · obtain rfl:i=n:=by omega
    ((repeat' (first|refine Va X0 ?_|(refine Xi ?_ ?_<;>try intro ht)|exact Xx|fail)))
    refine aq _ _ rfl ?_;clear ak aq Ql
    repeat (refine Xu ?_)
    refine Vb X0 ?_
    have e2:qt i i s=aW i s:=by simp[qt]
    rw[e2]
    exact Xw false [0] X0
def kG (m:ae):List (List Bool):=m.cls.map fun l=>aW l.length true
def cQ (m:ae):List (List Bool):=if dW m=0 then kG m else []
theorem VI (xs:List (List Bool)) (b:List Bool):rowsOf aK xs++[[AV.tree 1 (bf b)]]=rowsOf aK (xs++[b]):=by simp[rowsOf,aK]
theorem acq (m:ae) (hm:MB m):ao Tryz.prog 102 [.agg (au m)] [] (.tree 1 (rowsOf aK (cQ m))) []:=by
  have h1:=sI m hm
  have me:=hm.cls
  generalize aj:cQ m=res
  unfold cQ at aj
  refine ao.aD (fn:=Tryz.f102) 25 0 [.tmp 2] Tryz.func102 rfl rfl rfl rfl rfl (by simp) ?_
  by_cases hv:dW m=0
  rotate_left
  · rw[if_neg hv] at aj
    rw[← aj]
    generalize dW m=e at *
    ((repeat' (first|refine Vd X0 h1 ?_|(refine Xi ?_ ?_<;>try intro ht)|exact Xx|fail)))
    exact dR [] true (by decide) trivial (by decide) (by decide) aO.nil
  rw[if_pos hv] at aj
  rw[hv] at h1
  have cu:=iu.1 hv
  have nX:=cu.cls
  ((repeat' (first|refine Vd @bne_self_eq_false.{0} h1 ?_|(refine Xi ?_ ?_<;>try intro ht)|exact Xx|fail)))
  refine aG (fun z:Nat × List (List Bool)=>(⟨aw [(1,.ptr 0 0 0),(3,.ref 1 1 0 z.2.length),(10,.tree 1 (rowsOf bA m.cls)),(11,.lit (.int .i64 m.cls.length)),(12,.lit (.int .i64 z.1))],[.var (au m),.arr 1 (rowsOf aK z.2)]⟩:St))
    (fun z=>z.1≤m.cls.length∧z.2=(kG m).take z.1) (fun z=>m.cls.length - z.1) (0,[]) ⟨Nat.zero_le _,rfl⟩ ?_ ?_
  · refine aQ.trans (aQ.nil 3 1 (by simp only[Kc,simprocAttr]) (by decide)) ?_
    exact Xv X0
  rintro ⟨i,xs⟩ ⟨hi,cl⟩ Ql ak aq
  dsimp only at hi cl ⊢
  have sm:(kG m).length=m.cls.length:=by simp[kG]
  by_cases ax:i<m.cls.length
  · have sV:xs.length=i:=by rw[cl,List.length_take];omega
    have ef:(kG m).take (i+1)=xs++[aW (m.cls.getD i default).length true]:=by
      rw[eU (by omega),← cl];unfold kG;rw[kH _ _ _ ax]
    have sW:=cu.opt _ (az (d:=default) ax)
    generalize aJ:m.cls.getD i default=c at *
    have Da:=VH true c.length (by omega)
    repeat' (first|((fail_if_success (first|refine iV 7 ?_|refine iW 7 ?_));refine Xr (X2 @aJ @bA.eq_1) ?_;intro K hK)|(refine hK _ ?_;clear hK K)|(refine Xi ?_ ?_<;>try intro ht)|refine Xy ?_|refine Xd ?_ ?_|exact Xx|fail)
    refine JF 5 (by decide) ?_
    intro K K1 hK xi
    simp (disch:=omega) only[Ac,↓Pc,simprocAttr,pZ]
    refine oz [] Da (by decide) trivial ⟨aO.fz (rows:=rowsOf lu [true]) rfl rfl (by simp),.pure rfl,trivial⟩ rfl (by simp[uS,lu,rowsOf,flat]) ?_
    simp (disch:=omega) only[Ac,↓Pc,simprocAttr]
    refine xi _ ⟨aw [(1,.ptr 0 0 0),(3,.ref 1 1 0 xs.length),(10,.tree 1 (rowsOf bA m.cls)),(11,.lit (.int .i64 m.cls.length)),(12,.lit (.int .i64 i)),(16,.ref 1 1 0 xs.length),(20,.tree 1 (bf (aW c.length true)))],[.var (au m),.arr 1 (rowsOf aK xs)]⟩ ?_ ?_
    · rw[← VG]
      exact Xs true [0,1] X0
    clear xi K1
    simp (disch:=omega) only[Ac,↓Pc,simprocAttr,mZ,VI]
    repeat' (first|with_reducible refine And.intro ?_ ?_|omega)
    refine hK _ ?_;clear hK K
    repeat (refine Xu ?_)
    refine Va X0 ?_
    refine ak _ (i+1,xs++[aW c.length true]) ⟨by dsimp only;omega,ef.symm⟩ (by dsimp only;omega) ?_
    exact Xs false [0,3] X0
  · rw[List.take_of_length_le (by omega)] at cl
    ((repeat' (first|refine Va X0 ?_|(refine Xi ?_ ?_<;>try intro ht)|exact Xx|fail)))
    refine aq _ _ rfl ?_;clear ak aq Ql
    repeat (refine Xu ?_)
    refine Vb X0 ?_
    rw[cl,aj]
    exact Xw true [] X0
abbrev cW:=Nat × List (List Bool) × List Int
def qj:List Int→AV
  | []=>.lit (.slice none 0 0)
  | x::r=>.tree 1 (ints (x::r))
def lK (s:cW):List AV:=[.lit (.int .i64 s.1),.tree 1 (rowsOf aK s.2.1),qj s.2.2]
theorem QZ (l:List Int):(∃ y,qj l=AV.lit y∧y.oneCell'=true)∨∃ s r,qj l=.tree s r:=by
  cases l with
  | nil=>exact .inl ⟨_,rfl,rfl⟩
  | cons x r=>exact .inr ⟨_,_,rfl⟩
theorem Q3 (l:List Int) (x:Value):jl [qj l,.lit x]=true:=by cases l<;>rfl
theorem acs (l:List Int):cm (qj l)=true:=by cases l<;>rfl
instance:Row lK 3:=⟨fun _=>rfl,fun x v hv=>by
  simp only[lK,bW,List.not_mem_nil,or_false] at hv
  rcases hv with rfl | rfl | rfl
  · exact .inl ⟨_,rfl,rfl⟩
  · exact .inr ⟨_,_,rfl⟩
  · exact QZ _⟩
def nd (P:List Nd) (i:Nat):Nd:=P.getD i default
def lI (P:List Nd) (s:cW) (o:Nat):cW:=(((nd P s.1).kids.getD o 0).toNat,bq s.2.1 (nd P s.1).cls.toNat o,s.2.2++[(nd P s.1).cls])
def iv (P:List Nd) (s:cW) (n:Nat):List cW:=(List.range n).map (lI P s)
def oM (P:List Nd) (s:cW):List cW:=iv P s (nd P s.1).kids.length
theorem Q5 (P:List Nd) (s:cW) (n:Nat):iv P s (n+1)=iv P s n++[lI P s n]:=by unfold iv;rw[List.range_succ,eT];rfl
def kP (P:List Nd):Nat→cW→List cW
  | 0,_=>[]
  | f+1,s=>s::((oM P s).reverse.flatMap (kP P f))
def vs (P:List Nd) (s:cW):List cW:=kP P (P.length - s.1) s
def Down (P:List Nd):Prop:=∀ i,i<P.length→∀ k∈(nd P i).kids,(i:Int)<k∧k<P.length
theorem Az {m:ae} {P:List Nd} (h:iG m P=true) {i:Nat} (hi:i<P.length):jM m P.length i (nd P i)=true:=by
  cases hb:jM m P.length i (nd P i) with
  | true=>rfl
  | false=>rw[QQ hi hb] at h;cases h
theorem sJ {m:ae} {P:List Nd} (h:iG m P=true):Down P:=fun i hi k hk=>by
  have:=Az h hi
  unfold jM at this
  rw[Bool.and_eq_true,List.all_eq_true] at this
  have h2:=this.2 k hk
  unfold kI at h2
  exact of_decide_eq_true h2
theorem sK {m:ae} {P:List Nd} (h:iG m P=true):1≤P.length∧P.length≤20000:=by
  by_cases hs:1≤P.length∧P.length≤20000
  · exact hs
  · rw[QP hs] at h;cases h
theorem tX {P:List Nd} {s t:cW} (h:t∈oM P s) :∃o,o<(nd P s.1).kids.length∧t=lI P s o:=by
  unfold oM iv at h
  obtain ⟨o,ho,rfl⟩:=bV.1 h
  exact⟨o,List.mem_range.1 ho,rfl⟩
theorem ud {P:List Nd} (hd:Down P) {s:cW} (hs:s.1<P.length) {o:Nat} (ho:o<(nd P s.1).kids.length):s.1<(lI P s o).1∧(lI P s o).1<P.length∧(((lI P s o).1:Nat):Int)=(nd P s.1).kids.getD o 0:=by
  have:=hd s.1 hs _ (az (l:=(nd P s.1).kids) (i:=o) (d:=0) ho)
  unfold lI
  dsimp only
  omega
theorem aei {P:List Nd} (hd:Down P):∀ (f:Nat) (s:cW),s.1<P.length→P.length - s.1≤f→kP P f s=kP P (P.length - s.1) s:=by
  intro f
  induction f using BA with
  | _ f ih =>
    intro s hs hf
    cases f with
    | zero=>omega
    | succ f =>
      obtain ⟨g,hg⟩ :∃g,P.length - s.1=g+1:=⟨P.length - s.1 - 1,by omega⟩
      rw[hg,kP,kP]
      refine congrArg _ ?_
      have key:∀ t∈(oM P s).reverse,kP P f t=kP P g t:=fun t ht=>by
        obtain ⟨o,ho,rfl⟩:=tX (rY.1 ht)
        obtain ⟨h1,h2,_⟩:=ud hd hs ho
        rw[ih f (by omega) _ h2 (by omega),ih g (by omega) _ h2 (by omega)]
      generalize (oM P s).reverse=L at key
      induction L with
      | nil=>rfl
      | cons t L Cz=>rw[pV,pV,key t (by simp),Cz fun u hu=>key u (by simp[hu])]
theorem Av {P:List Nd} (hd:Down P) {s:cW} (hs:s.1<P.length):vs P s=s::(oM P s).reverse.flatMap (vs P):=by
  unfold vs
  obtain ⟨g,hg⟩ :∃g,P.length - s.1=g+1:=⟨P.length - s.1 - 1,by omega⟩
  rw[hg,kP]
  refine congrArg _ ?_
  have key:∀ t∈(oM P s).reverse,kP P g t=kP P (P.length - t.1) t:=fun t ht=>by
    obtain ⟨o,ho,rfl⟩:=tX (rY.1 ht)
    obtain ⟨h1,h2,_⟩:=ud hd hs ho
    exact aei hd g _ h2 (by omega)
  generalize (oM P s).reverse=L at key
  induction L with
  | nil=>rfl
  | cons t L Cz=>rw[pV,pV,key t (by simp),Cz fun u hu=>key u (by simp[hu])]
def jd {α:Type} (P:List Nd) (step:α→cW→α × Bool):List cW→α→α × Bool
  | [],a=>(a,true)
  | s::L,a=>if s.2.2.contains (nd P s.1).cls=true then (a,false) else if (step a s).2=true then jd P step L (step a s).1 else ((step a s).1,false)
def root (m:ae):cW:=(0,cQ m,[])
def pD {α:Type} (m:ae) (P:List Nd) (step:α→cW→α × Bool) (a:α):α × Bool :=
  if dW m=0∧iG m P=true then jd P step (vs P (root m)) a else (a,false)
def vh (m:ae) (P:List Nd) (s:cW):Prop:=s.1<P.length∧dK m s.2.1∧s.2.2.length≤s.1
theorem Cp {m:ae} {x y:List (List Bool)} (h:dK m x) (he:y.map tu=x.map tu):dK m y:=by
  have hl:=congrArg tu he
  rw[eD,eD] at hl
  refine⟨by rw[hl];exact h.1,fun i hi=>?_⟩
  have h2:=congrArg (fun z=>z[i]?) he
  simp only[bR] at h2
  rw[bm hi,bm (by omega)] at h2
  simp only[eC,Option.some.injEq] at h2
  rw[← h.2 i (by omega),ay,ay,bm hi,bm (by omega)]
  exact h2
theorem QY {m:ae} {P:List Nd} (hd:Down P) {s:cW} (h:vh m P s) {o:Nat} (ho:o<(nd P s.1).kids.length):vh m P (lI P s o) :=
  ⟨(ud hd h.1 ho).2.1,Cp h.2.1 (Fg _ _ _),by
    have h1:=(ud hd h.1 ho).1
    have h2:=h.2.2
    show (s.2.2++[_]).length≤_
    rw[bU,List.length_singleton];omega⟩
theorem Aw {m:ae} (h:VM m):dK m (cQ m):=by
  unfold cQ
  rw[if_pos (iu.2 h)]
  refine⟨by simp[kG],fun i hi=>?_⟩
  have ax:i<m.cls.length:=by simpa [kG] using hi
  unfold kG
  rw[kH _ _ _ ax,mo]
def yN:List cW→Prop
  | []=>True
  | t::T=>T.length≤24 * t.1∧yN T
theorem yN.push {T:List cW} {i:Nat} (h:yN T) (hT:T.length≤24 * i):∀ (L:List cW),(∀ t∈L,i<t.1)→L.length≤24→yN (L++T)
  | [],_,_=>h
  | t::L,hl,hn=>by
    have h1:=hl t (by simp)
    have h2:=yN.push h hT L (fun u hu=>hl u (by simp[hu])) (by simp at hn;omega)
    refine⟨?_,h2⟩
    simp only[List.length_cons] at hn
    show (L++T).length≤_
    rw[bU];omega
def kN (P:List Nd) (i:Nat):List Nat:=(nd P i).kids.map Int.toNat
theorem aej (P:List Nd) (s:cW):(oM P s).map (·.1)=kN P s.1:=by
  unfold oM iv kN
  rw[List.map_map]
  apply List.ext_getElem?
  intro j
  rw[bR,bR]
  by_cases hj:j<(nd P s.1).kids.length
  · rw[List.getElem?_range hj,bm hj]
    simp only[eC,Function.comp]
    unfold lI
    dsimp only
    rw[ay,bm hj];rfl
  · rw[dM (by simpa using hj),dM (by omega)];rfl
theorem aek {P:List Nd} (hd:Down P) (i:Nat):∀ (f:Nat) (s:cW),s.1<P.length→P.length - s.1≤f →
    ((kP P f s).map (·.1)).count i=(if s.1=i then 1 else 0)+((kP P f s).flatMap fun v=>kN P v.1).count i:=by
  intro f
  induction f with
  | zero=>intro s hs hf;omega
  | succ f ih =>
    intro s hs hf
    rw[kP,du,BE,pV,qJ,← aej]
    have key:∀ (K:List cW),(∀ t∈K,t.1<P.length∧P.length - t.1≤f)→((K.flatMap (kP P f)).map (·.1)).count i=(K.map (·.1)).count i+((K.flatMap (kP P f)).flatMap fun v=>kN P v.1).count i:=by
      intro K
      induction K with
      | nil=>intro _;rfl
      | cons t K ihK =>
        intro hK
        rw[pV,eT,qJ,ih t (hK t (by simp)).1 (hK t (by simp)).2,ihK fun u hu=>hK u (by simp[hu]),du,BE,List.flatMap_append,qJ]
        by_cases e:t.1=i<;>simp[e]<;>omega
    have h1:=key (oM P s).reverse fun t ht=>by
      obtain ⟨o,ho,rfl⟩:=tX (rY.1 ht)
      obtain ⟨h1,h2,_⟩:=ud hd hs ho
      omega
    rw[h1,List.map_reverse,List.count_reverse]
    by_cases e:s.1=i<;>simp[e]<;>omega
theorem VJ {m:ae} {P:List Nd} (h:iG m P=true) {j:Nat} (h1:1≤j) (h2:j<P.length):(eQ P).count (j:Int)=1:=by
  have hl:=sK h
  rw[Fj hl fun i hi=>Az h hi] at h
  rw[Bool.not_eq_true',List.any_eq_false] at h
  have hm:(jc P.length (eQ P)).getD j 0∈(jc P.length (eQ P)).drop 1:=by
    have b9:=yM P.length (eQ P)
    rw[List.mem_iff_getElem]
    refine⟨j - 1,by rw[List.length_drop];omega,?_⟩
    rw[List.getElem_drop,ay,bm (by omega)]
    simp only[Option.getD_some]
    congr 1
    omega
  have:=h _ hm
  rw[Fq _ h2] at this
  simp only[bne_iff_ne,ne_eq,Decidable.not_not] at this
  omega
theorem aem {l:List Int} (h:∀ k∈l,0≤k) (j:Nat):(l.map Int.toNat).count j=l.count (j:Int):=by
  induction l with
  | nil=>rfl
  | cons k l ih =>
    have hk:=h k (by simp)
    rw[du,BE,BE,ih fun x hx=>h x (by simp[hx])]
    have:(k.toNat == j)=(k == (j:Int)):=by rw[Bool.eq_iff_iff,beq_iff_eq,beq_iff_eq];omega
    rw[this]
theorem VK {m:ae} {P:List Nd} (h:iG m P=true) {j:Nat} (h1:1≤j) (h2:j<P.length) :
    ∃ p,p<j∧(kN P p).count j=1∧∀ q,q<P.length→q≠p→(kN P q).count j=0:=by
  have mD:=VJ h h1 h2
  have hd:=sJ h
  have wK:∀ q,q<P.length→(kN P q).count j=(nd P q).kids.count (j:Int):=fun q hq=>aem (fun k hk=>by have:=hd q hq k hk;omega) j
  have key:∀ (L:List Nd),(L.flatMap (·.kids)).count (j:Int)=1→∃ p,p<L.length∧((L.getD p default).kids).count (j:Int)=1∧∀ q,q<L.length→q≠p→((L.getD q default).kids).count (j:Int)=0:=by
    intro L
    induction L with
    | nil=>intro h;simp at h
    | cons x L ih =>
      intro h
      rw[pV,qJ] at h
      have hz:(L.flatMap (·.kids)).count (j:Int)=0→∀ q,q<L.length→((L.getD q default).kids).count (j:Int)=0:=fun h0 q hq=>by
        rw[Mb] at h0 ⊢
        exact fun hh=>h0 (xP.2 ⟨_,az hq,hh⟩)
      by_cases hx:x.kids.count (j:Int)=0
      · obtain ⟨p,p1,p2,p3⟩:=ih (by omega)
        refine⟨p+1,by simpa using p1,by simpa using p2,fun q hq b8=>?_⟩
        cases q with
        | zero=>simpa using hx
        | succ q=>simpa using p3 q (by simpa using hq) (by omega)
      · refine⟨0,by simp,by simp;omega,fun q hq b8=>?_⟩
        cases q with
        | zero=>omega
        | succ q=>simpa using hz (by omega) q (by simpa using hq)
  obtain ⟨p,p1,p2,p3⟩:=key P mD
  have JN:p<j:=by
    have cd:(j:Int)∈(nd P p).kids:=by
      have:0<((nd P p).kids).count (j:Int):=by show 0<((P.getD p default).kids).count _;omega
      exact List.count_pos_iff.1 this
    have:=hd p p1 _ cd
    omega
  exact⟨p,JN,(wK p p1).trans p2,fun q hq b8=>(wK q hq).trans (p3 q hq b8)⟩
theorem FV {P:List Nd} (hd:Down P):∀ (f:Nat) (s:cW),s.1<P.length→∀ v∈kP P f s,v.1<P.length:=by
  intro f
  induction f with
  | zero=>intro s _ v hv;simp[kP] at hv
  | succ f ih =>
    intro s hs v hv
    rw[kP,bW] at hv
    rcases hv with rfl | hv
    · exact hs
    · obtain ⟨t,ht,hv⟩:=xP.1 hv
      obtain ⟨o,ho,rfl⟩:=tX (rY.1 ht)
      exact ih _ (ud hd hs ho).2.1 v hv
theorem VL {P:List Nd} {j p:Nat} (h1:(kN P p).count j=1) (h2:∀ q,q<P.length→q≠p→(kN P q).count j=0):∀ (L:List cW),(∀ v∈L,v.1<P.length)→(L.flatMap fun v=>kN P v.1).count j=(L.map (·.1)).count p
  | [],_=>rfl
  | v::L,h=>by
    rw[pV,qJ,du,BE,VL h1 h2 L fun u hu=>h u (by simp[hu])]
    by_cases e:v.1=p
    · rw[e,h1];simp;omega
    · rw[h2 v.1 (h v (by simp)) e];simp[e]
theorem VN {m:ae} {P:List Nd} (h:iG m P=true) {s:cW} (hs:s.1=0):∀ (j:Nat),j<P.length→((vs P s).map (·.1)).count j=1:=by
  have hd:=sJ h
  have hl:=sK h
  have hc:∀ j,((vs P s).map (·.1)).count j=(if s.1=j then 1 else 0)+((vs P s).flatMap fun v=>kN P v.1).count j:=fun j=>aek hd j _ s (by omega) (aV _)
  have hr:=FV hd (P.length - s.1) s (by omega)
  intro j
  induction j using BA with
  | _ j ih =>
    intro hj
    rcases oh j with h0 | h0
    · subst h0
      rw[hc 0,if_pos hs]
      have:((vs P s).flatMap fun v=>kN P v.1).count 0=0:=by
        rw[Mb]
        intro hh
        obtain ⟨v,hv,hk⟩:=xP.1 hh
        unfold kN at hk
        obtain ⟨k,hk,e⟩:=bV.1 hk
        have:=hd v.1 (hr v hv) k hk
        omega
      omega
    · obtain ⟨p,p1,p2,p3⟩:=VK h h0 hj
      rw[hc j,if_neg (by omega),VL p2 p3 (vs P s) hr,ih p p1 (by omega)]
end T

