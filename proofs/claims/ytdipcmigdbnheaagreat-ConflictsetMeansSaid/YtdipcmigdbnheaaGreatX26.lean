import Derived.Test.YtdipcmigdbnheaaGreatX24
import Derived.Test.YtdipcmigdbnheaaGreatX25
import Derived.Test.YtdipcmigdbnheaaGreatX20
import Derived.Test.YtdipcmigdbnheaaGreatX14
set_option linter.unusedVariables false
set_option linter.unusedSimpArgs false
set_option linter.unnecessarySimpa false
set_option linter.unusedSectionVars false
set_option maxHeartbeats 64000000
set_option maxRecDepth 20000
open List renaming replicate→bY,map_take→xM,take→kW,drop→ky,map_append→gW,length_replicate→tG,mem_reverse→wi,flatMap_cons→tF,length→su,length_map→ey,getElem?_eq_getElem→bX,getD_eq_getElem?_getD→aA,length_append→bV
open Nat renaming min_eq_left→sj
open Go Go.Am Go.Proofs
open Nat (reduceEqDiff reduceAdd reduceLeDiff reduceMul)
open Int (reduceNeg reduceLE reduceToNat)
open Go Go.Am
namespace T
theorem LG.mono {m:aj} {B C:Int} {g:Lg} (h:LG m B g) (hc:B≤C):LG m C g:=⟨h.s,h.t,h.sl,h.tl,fun r hr=>(h.sb r hr).mono hc,fun r hr=>(h.tb r hr).mono hc⟩
def kS (b:Bool):List AV:=[.lit (.bool b)]
instance:Row kS 1:=⟨fun _=>rfl,fun b v hv=>by
  simp only[kS,List.mem_singleton] at hv;subst hv;exact .inl ⟨_,rfl,rfl⟩⟩
theorem TJ (xs:List Bool):rowsOf kS xs=aY xs:=by simp[rowsOf,kS,aY]
def pQ (n i:Nat) (s:Bool):List Bool:=bY i s++bY (n - i) false
theorem acv {n i j:Nat} {s:Bool} (h:j≤i):(rowsOf kS (pQ n i s)).take j=rowsOf kS (bY j s):=by
  unfold pQ rowsOf
  rw[← xM,List.take_append_of_le_length (by simp;omega),List.take_replicate,sj h]
theorem acw {n i j:Nat} {s:Bool} (h:i+j≤n) (hj:j≤i):rowsOf kS (bY i s)++kW j (rowsOf kS (bY i s))++ky (i+j) (rowsOf kS (pQ n i s))=rowsOf kS (pQ n (i+j) s):=by
  unfold pQ rowsOf
  rw[← xM,← List.map_drop,← gW,← gW,List.take_replicate,sj hj,List.drop_append,List.drop_eq_nil_of_le (by simp),List.drop_replicate,List.nil_append,List.replicate_append_replicate]
  congr 3
  simp;omega
theorem acx {n i:Nat} {s:Bool} (h:i≤n):(pQ n i s).length=n:=by simp[pQ];omega
theorem TK (s:Bool) (n:Nat) (hn:n≤1048576):an Tryz.prog 156 [.tree 1 [kS s],.lit (.int .i64 (n:Nat))] [] (.ref 0 1 0 n) [.arr 1 (rowsOf kS (bY n s))]:=by
  have hm:=acy n (by omega)
  refine an.aD (fn:=Tryz.f156) 48 0 [.tmp 4] Tryz.func156 rfl rfl rfl rfl rfl (by simp) ?_
  ((repeat' (first|refine Vc (X5 @Et @Eu @unI @unU (X4 @acB @acC @Option.isSome_some.{0} @Mh)) hm ?_|(refine Xi ?_ ?_<;>try intro ht)|exact Xx|fail)))
  have e0:kW (min 1 n) [kS s]++ky (min 1 n) (bY n [AV.lit (Value.bool false)])=rowsOf kS (pQ n (min 1 n) s):=by
    unfold pQ rowsOf
    rw[List.drop_replicate]
    rcases Nat.eq_zero_or_pos n with h | h
    · subst h;rfl
    · rw[sj h,gW,List.map_replicate,List.map_replicate];rfl
  have e0':kW (min 1 n) [kS s]++ky (min 1 n) (aY (bY n false))=rowsOf kS (pQ n (min 1 n) s):=by
    rw[← e0];simp[aY]
  first|rw[e0]|rw[e0']
  refine aU (fun i:Nat=>(⟨aw [(7,.ref 0 1 0 n),(8,.lit (.int .i64 i))],[.arr 1 (rowsOf kS (pQ n i s))]⟩:St)) (fun i=>i≤n∧(i=0→n=0)) (fun i=>n - i) (min 1 n) ⟨by omega,by omega⟩ (Xv X0) ?_
  rintro i ⟨hi,hr⟩ Ql aq av
  by_cases hi':i<n
  · have e1:i+min i (n - i)≤n:=by omega
    have hl:=acx (s:=s) hi
    have qJ:=fun n s=>acv (n:=n) (s:=s) (Nat.le_refl i)
    ((repeat' (first|refine Va (X5 @Option.map_none.{0,0} @List.drop_zero.{0} @qJ @b8 (X3 @tG.{0} @Aq @hl)) ?_|(refine Xi ?_ ?_<;>try intro ht)|exact Xx|fail)))
    rw[acw e1 (Nat.min_le_left _ _)]
    exact aq _ (i+min i (n - i)) ⟨by omega,by omega⟩ (by omega) (Xv X0)
  · obtain rfl:i=n:=by omega
    ((repeat' (first|refine Va X0 ?_|(refine Xi ?_ ?_<;>try intro ht)|exact Xx|fail)))
    refine av _ _ rfl ?_;clear aq av Ql
    repeat (refine Xu ?_)
    refine Vb X0 ?_
    have e2:pQ i i s=bY i s:=by simp[pQ]
    rw[e2]
    exact Xw false [0] X0
def mL (m:aj):List (List Bool):=m.cls.map fun l=>bY l.length true
def dD (m:aj):List (List Bool):=if dz m=0 then mL m else []
theorem TL (xs:List (List Bool)) (b:List Bool):rowsOf bg xs++[[AV.tree 1 (aY b)]]=rowsOf bg (xs++[b]):=by simp[rowsOf,bg]
theorem acE (m:aj) (hm:MB m):an Tryz.prog 102 [.agg (ar m)] [] (.tree 1 (rowsOf bg (dD m))) []:=by
  have h1:=qz m hm
  have sZ:=hm.cls
  generalize ao:dD m=res
  unfold dD at ao
  refine an.aD (fn:=Tryz.f102) 25 0 [.tmp 2] Tryz.func102 rfl rfl rfl rfl rfl (by simp) ?_
  by_cases hv:dz m=0
  rotate_left
  · rw[if_neg hv] at ao
    rw[← ao]
    generalize dz m=e at *
    ((repeat' (first|refine Vd X0 h1 ?_|(refine Xi ?_ ?_<;>try intro ht)|exact Xx|fail)))
    exact cP [] true (by decide) trivial (by decide) (by decide) aE.nil
  rw[if_pos hv] at ao
  rw[hv] at h1
  have dM:=eB.1 hv
  have rG:=dM.cls
  ((repeat' (first|refine Vd @bne_self_eq_false.{0} h1 ?_|(refine Xi ?_ ?_<;>try intro ht)|exact Xx|fail)))
  refine aU (fun z:Nat × List (List Bool)=>(⟨aw [(1,.ptr 0 0 0),(3,.ref 1 1 0 z.2.length),(10,.tree 1 (rowsOf bD m.cls)),(11,.lit (.int .i64 m.cls.length)),(12,.lit (.int .i64 z.1))],[.var (ar m),.arr 1 (rowsOf bg z.2)]⟩:St))
    (fun z=>z.1≤m.cls.length∧z.2=(mL m).take z.1) (fun z=>m.cls.length - z.1) (0,[]) ⟨Nat.zero_le _,rfl⟩ ?_ ?_
  · refine aB.trans (aB.nil 3 1 (by simp only[Kc,simprocAttr]) (by decide)) ?_
    exact Xv X0
  rintro ⟨i,xs⟩ ⟨hi,ew⟩ Ql aq av
  dsimp only at hi ew ⊢
  have fK:(mL m).length=m.cls.length:=by simp[mL]
  by_cases hi':i<m.cls.length
  · have pR:xs.length=i:=by rw[ew,List.length_take];omega
    have eN:(mL m).take (i+1)=xs++[bY (m.cls.getD i default).length true]:=by
      rw[iD (by omega),← ew];unfold mL;rw[iG _ _ _ hi']
    have vH:=dM.opt _ (aC (d:=default) hi')
    generalize aR:m.cls.getD i default=c at *
    have AU:=TK true c.length (by omega)
    repeat' (first|((fail_if_success (first|refine ej 7 ?_|refine ek 7 ?_));refine Xr (X2 @aR @bD.eq_1) ?_;intro K hK)|(refine hK _ ?_;clear hK K)|(refine Xi ?_ ?_<;>try intro ht)|refine Xy ?_|refine Xd ?_ ?_|exact Xx|fail)
    refine GX 5 (by decide) ?_
    intro K K1 hK vp
    simp (disch:=omega) only[Ac,↓Pc,simprocAttr,kW]
    refine nI [] AU (by decide) trivial ⟨aE.fz (rows:=rowsOf kS [true]) rfl rfl (by simp),.pure rfl,trivial⟩ rfl (by simp[tP,kS,rowsOf,flat]) ?_
    simp (disch:=omega) only[Ac,↓Pc,simprocAttr]
    refine vp _ ⟨aw [(1,.ptr 0 0 0),(3,.ref 1 1 0 xs.length),(10,.tree 1 (rowsOf bD m.cls)),(11,.lit (.int .i64 m.cls.length)),(12,.lit (.int .i64 i)),(16,.ref 1 1 0 xs.length),(20,.tree 1 (aY (bY c.length true)))],[.var (ar m),.arr 1 (rowsOf bg xs)]⟩ ?_ ?_
    · rw[← TJ]
      exact Xs true [0,1] X0
    clear vp K1
    simp (disch:=omega) only[Ac,↓Pc,simprocAttr,ky,TL]
    repeat' (first|with_reducible refine And.intro ?_ ?_|omega)
    refine hK _ ?_;clear hK K
    repeat (refine Xu ?_)
    refine Va X0 ?_
    refine aq _ (i+1,xs++[bY c.length true]) ⟨by dsimp only;omega,eN.symm⟩ (by dsimp only;omega) ?_
    exact Xs false [0,3] X0
  · rw[List.take_of_length_le (by omega)] at ew
    ((repeat' (first|refine Va X0 ?_|(refine Xi ?_ ?_<;>try intro ht)|exact Xx|fail)))
    refine av _ _ rfl ?_;clear aq av Ql
    repeat (refine Xu ?_)
    refine Vb X0 ?_
    rw[ew,ao]
    exact Xw true [] X0
abbrev eh:=Nat × List (List Bool) × List Int
def pS:List Int→AV
  | []=>.lit (.slice none 0 0)
  | x::r=>.tree 1 (ints (x::r))
def ll (s:eh):List AV:=[.lit (.int .i64 s.1),.tree 1 (rowsOf bg s.2.1),pS s.2.2]
theorem TN (l:List Int):(∃ y,pS l=AV.lit y∧y.oneCell'=true)∨∃ s r,pS l=.tree s r:=by
  cases l with
  | nil=>exact .inl ⟨_,rfl,rfl⟩
  | cons x r=>exact .inr ⟨_,_,rfl⟩
theorem TO (l:List Int) (x:Value):gX [pS l,.lit x]=true:=by cases l<;>rfl
theorem acF (l:List Int):cf (pS l)=true:=by cases l<;>rfl
instance:Row ll 3:=⟨fun _=>rfl,fun x v hv=>by
  simp only[ll,List.mem_cons,List.not_mem_nil,or_false] at hv
  rcases hv with rfl | rfl | rfl
  · exact .inl ⟨_,rfl,rfl⟩
  · exact .inr ⟨_,_,rfl⟩
  · exact TN _⟩
def nd (P:List Nd) (i:Nat):Nd:=P.getD i default
def mM (P:List Nd) (s:eh) (o:Nat):eh:=(((nd P s.1).kids.getD o 0).toNat,bT s.2.1 (nd P s.1).cls.toNat o,s.2.2++[(nd P s.1).cls])
def iI (P:List Nd) (s:eh) (n:Nat):List eh:=(List.range n).map (mM P s)
def qN (P:List Nd) (s:eh):List eh:=iI P s (nd P s.1).kids.length
theorem TP (P:List Nd) (s:eh) (n:Nat):iI P s (n+1)=iI P s n++[mM P s n]:=by unfold iI;rw[List.range_succ,gW];rfl
def rU (P:List Nd):Nat→eh→List eh
  | 0,_=>[]
  | f+1,s=>s::((qN P s).reverse.flatMap (rU P f))
def vs (P:List Nd) (s:eh):List eh:=rU P (P.length - s.1) s
def Down (P:List Nd):Prop:=∀ i,i<P.length→∀ k∈(nd P i).kids,(i:Int)<k∧k<P.length
theorem Ii {m:aj} {P:List Nd} (h:lN m P=true) {i:Nat} (hi:i<P.length):lM m P.length i (nd P i)=true:=by
  cases hb:lM m P.length i (nd P i) with
  | true=>rfl
  | false=>rw[S9 hi hb] at h;cases h
theorem Ev {m:aj} {P:List Nd} (h:lN m P=true):Down P:=fun i hi k hk=>by
  have:=Ii h hi
  unfold lM at this
  rw[Bool.and_eq_true,List.all_eq_true] at this
  have h2:=this.2 k hk
  unfold o8 at h2
  exact of_decide_eq_true h2
theorem TQ {m:aj} {P:List Nd} (h:lN m P=true):1≤P.length∧P.length≤20000:=by
  by_cases hs:1≤P.length∧P.length≤20000
  · exact hs
  · rw[S' hs] at h;cases h
theorem xk {P:List Nd} {s t:eh} (h:t∈qN P s) :∃o,o<(nd P s.1).kids.length∧t=mM P s o:=by
  unfold qN iI at h
  obtain ⟨o,ho,rfl⟩:=List.mem_map.1 h
  exact⟨o,List.mem_range.1 ho,rfl⟩
theorem zk {P:List Nd} (hd:Down P) {s:eh} (hs:s.1<P.length) {o:Nat} (ho:o<(nd P s.1).kids.length):s.1<(mM P s o).1∧(mM P s o).1<P.length∧(((mM P s o).1:Nat):Int)=(nd P s.1).kids.getD o 0:=by
  have:=hd s.1 hs _ (aC (l:=(nd P s.1).kids) (i:=o) (d:=0) ho)
  unfold mM
  dsimp only
  omega
theorem acG {P:List Nd} (hd:Down P):∀ (f:Nat) (s:eh),s.1<P.length→P.length - s.1≤f→rU P f s=rU P (P.length - s.1) s:=by
  intro f
  induction f using Nat.strongRecOn with
  | _ f ih =>
    intro s hs hf
    cases f with
    | zero=>omega
    | succ f =>
      obtain ⟨g,hg⟩ :∃g,P.length - s.1=g+1:=⟨P.length - s.1 - 1,by omega⟩
      rw[hg,rU,rU]
      refine congrArg _ ?_
      have key:∀ t∈(qN P s).reverse,rU P f t=rU P g t:=fun t ht=>by
        obtain ⟨o,ho,rfl⟩:=xk (wi.1 ht)
        obtain ⟨h1,h2,_⟩:=zk hd hs ho
        rw[ih f (by omega) _ h2 (by omega),ih g (by omega) _ h2 (by omega)]
      generalize (qN P s).reverse=L at key
      induction L with
      | nil=>rfl
      | cons t L Bs=>rw[tF,tF,key t (by simp),Bs fun u hu=>key u (by simp[hu])]
theorem zl {P:List Nd} (hd:Down P) {s:eh} (hs:s.1<P.length):vs P s=s::(qN P s).reverse.flatMap (vs P):=by
  unfold vs
  obtain ⟨g,hg⟩ :∃g,P.length - s.1=g+1:=⟨P.length - s.1 - 1,by omega⟩
  rw[hg,rU]
  refine congrArg _ ?_
  have key:∀ t∈(qN P s).reverse,rU P g t=rU P (P.length - t.1) t:=fun t ht=>by
    obtain ⟨o,ho,rfl⟩:=xk (wi.1 ht)
    obtain ⟨h1,h2,_⟩:=zk hd hs ho
    exact acG hd g _ h2 (by omega)
  generalize (qN P s).reverse=L at key
  induction L with
  | nil=>rfl
  | cons t L Bs=>rw[tF,tF,key t (by simp),Bs fun u hu=>key u (by simp[hu])]
def kT {α:Type} (P:List Nd) (step:α→eh→α × Bool):List eh→α→α × Bool
  | [],a=>(a,true)
  | s::L,a=>if s.2.2.contains (nd P s.1).cls=true then (a,false) else if (step a s).2=true then kT P step L (step a s).1 else ((step a s).1,false)
def root (m:aj):eh:=(0,dD m,[])
def rV {α:Type} (m:aj) (P:List Nd) (step:α→eh→α × Bool) (a:α):α × Bool :=
  if dz m=0∧lN m P=true then kT P step (vs P (root m)) a else (a,false)
def uF (m:aj) (P:List Nd) (s:eh):Prop:=s.1<P.length∧eG m s.2.1∧s.2.2.length≤s.1
theorem Ij {m:aj} {x y:List (List Bool)} (h:eG m x) (he:y.map su=x.map su):eG m y:=by
  have hl:=congrArg su he
  rw[ey,ey] at hl
  refine⟨by rw[hl];exact h.1,fun i hi=>?_⟩
  have h2:=congrArg (fun z=>z[i]?) he
  simp only[List.getElem?_map] at h2
  rw[bX hi,bX (by omega)] at h2
  simp only[Option.map_some,Option.some.injEq] at h2
  rw[← h.2 i (by omega),aA,aA,bX hi,bX (by omega)]
  exact h2
theorem TR {m:aj} {P:List Nd} (hd:Down P) {s:eh} (h:uF m P s) {o:Nat} (ho:o<(nd P s.1).kids.length):uF m P (mM P s o) :=
  ⟨(zk hd h.1 ho).2.1,Ij h.2.1 (He _ _ _),by
    have h1:=(zk hd h.1 ho).1
    have h2:=h.2.2
    show (s.2.2++[_]).length≤_
    rw[bV,List.length_singleton];omega⟩
theorem Ew {m:aj} (h:VM m):eG m (dD m):=by
  unfold dD
  rw[if_pos (eB.2 h)]
  refine⟨by simp[mL],fun i hi=>?_⟩
  have hi':i<m.cls.length:=by simpa [mL] using hi
  unfold mL
  rw[iG _ _ _ hi',tG]
def xl:List eh→Prop
  | []=>True
  | t::T=>T.length≤24 * t.1∧xl T
theorem xl.push {T:List eh} {i:Nat} (h:xl T) (hT:T.length≤24 * i):∀ (L:List eh),(∀ t∈L,i<t.1)→L.length≤24→xl (L++T)
  | [],_,_=>h
  | t::L,hl,hn=>by
    have h1:=hl t (by simp)
    have h2:=xl.push h hT L (fun u hu=>hl u (by simp[hu])) (by simp at hn;omega)
    refine⟨?_,h2⟩
    simp only[List.length_cons] at hn
    show (L++T).length≤_
    rw[bV];omega
end T

