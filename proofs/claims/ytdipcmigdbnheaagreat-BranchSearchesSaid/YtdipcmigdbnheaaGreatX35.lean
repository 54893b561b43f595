import Derived.Test.YtdipcmigdbnheaaGreatX34
import Derived.Test.YtdipcmigdbnheaaGreatX23
import Derived.Test.YtdipcmigdbnheaaGreatX30
import Derived.Test.YtdipcmigdbnheaaGreatX19
set_option linter.unusedVariables false
set_option linter.unusedSimpArgs false
set_option linter.unnecessarySimpa false
set_option linter.unusedSectionVars false
set_option maxHeartbeats 64000000
set_option maxRecDepth 20000
open Nat renaming le_refl→aV,min_eq_left→rS,mul_le_mul→D6,sub_zero→rV,zero_le→aH
open List renaming drop_eq_nil_of_le→b6,replicate→aW,map_nil→lV,nil_append→fU
open Int renaming mul_nonneg→pt,mul_le_mul→oo
open Go Go.Am
open Go Go.Am Go.Proofs
open Nat (reduceEqDiff reduceAdd reduceLeDiff reduceMul)
open Int (reduceNeg reduceLE reduceToNat)
namespace T
def tU:List (List cB)→Int→Int
  | [],n=>n
  | c::r,n=>if c.length=0 then 0 else tU r (min (n * c.length) 65537)
def oK (m:ae):Int:=if dW m=0 then tU m.cls 1 else 0
def tS:List (List cB)→Nat
  | []=>1
  | c::r=>c.length * tS r
theorem Qr:∀ {l:List (List cB)},[] ∉ l→1≤tS l
  | [],_=>aV _
  | c::r,h=>Nat.mul_pos (by cases c with | nil=>simp at h | cons a b=>simp) (Qr fun e=>h (by simp[e]))
theorem Qg:∀ (l:List (List cB)) (n:Nat),[] ∉ l→n≤65537→tU l n=min ((n * tS l:Nat):Int) 65537
  | [],n,h,hn=>by show (n:Int)=_;rw[tS,Nat.mul_one];omega
  | c::r,n,h,hn=>by
    have hc:1≤c.length:=by cases c with | nil=>simp at h | cons a b=>simp
    have hr:[] ∉ r:=fun e=>h (by simp[e])
    have hp:=Qr hr
    rw[tU,if_neg (by omega),show (min ((n:Int) * c.length) 65537:Int)=((min (n * c.length) 65537:Nat):Int) by rw[← Int.natCast_mul];omega,Qg r _ hr (by omega),tS,← Nat.mul_assoc]
    by_cases e:n * c.length≤65537
    · rw[rS e]
    · rw[Nat.min_eq_right (by omega)]
      have h1:65537 * 1≤65537 * tS r:=Nat.mul_le_mul_left _ hp
      have h2:65537 * 1≤n * c.length * tS r:=D6 (by omega) hp
      omega
theorem Qf (m:ae):∀ (d:Nat),d≤m.cls.length→j6 m d=tS (m.cls.drop (m.cls.length - d))
  | 0,_=>by rw[rV,List.drop_length];rfl
  | d+1,h=>by
    rw[j6,b7 m.cls (m.cls.length - (d+1)) default (by omega),tS,Qf m d (by omega),show m.cls.length - (d+1)+1=m.cls.length - d by omega]
theorem Qs {m:ae} {w:Nat} (h:∀ l∈m.cls,l.length≤w):∀ d,d≤m.cls.length→j6 m d≤w ^ d
  | 0,_=>aV _
  | d+1,hd=>by
    rw[j6,Nat.pow_succ,Nat.mul_comm]
    exact D6 (Qs h d (by omega)) (h _ (az (by omega)))
theorem abL {m:ae} (hm:VM m) (h:m.cls.length=0):nm m []=0:=by
  unfold nm
  have mc:FP m []:=⟨h.symm,fun j hj=>(by cases hj)⟩
  rw[IJ hm mc,h]
  have h1:m.ah.length=0:=by
    cases hp:m.ah with
    | nil=>rfl
    | cons p r =>
      have:=(iY (fY hm.pr p (by rw[hp];simp))).2
      omega
  have h2:bw (fun i=>j7 [] (m.av.getD i default)) m.av.length=0:=by
    have:∀ n,n≤m.av.length→bw (fun i=>j7 [] (m.av.getD i default)) n=0:=by
      intro n
      induction n with
      | zero=>intro _;rfl
      | succ n ih =>
        intro hn
        rw[bw,ih (by omega)]
        obtain ⟨_,q2,_,q4⟩:=ju (hm.ct _ (az (l:=m.av) (i:=n) (d:=default) (by omega)))
        have hl:(m.av.getD n default).aA=[]:=by
          cases hl:(m.av.getD n default).aA with
          | nil=>rfl
          | cons x r =>
            have:=cV.1 (kF q4 x (by rw[hl];simp)).1
            omega
        unfold j7 iZ
        rw[hl,show dX [] ([]:List Ld) 0=0 from rfl,if_pos (by omega)];rfl
    exact this _ (aV _)
  rw[h1,h2];rfl
theorem ab1 {m:ae} (hm:VM m):PB (dr m).nodes∧(dr m).nodes.length≤20000:=by
  have hr:=Dn.root hm
  have hd:=E7 hm (m.cls.length+1) (cQ m) [] Fa (by rw[hr.fit.1];simp) hr
  obtain ⟨d1,d2,d3,d4,d5,d6,d7,d8,d9⟩:=hd
  change ((dr m).nodes.length:Int)+(dr m).room=0+19999+1 at d5
  have d6:0≤(dr m).room:=d6 (by show (0:Int)≤19999;omega)
  obtain ⟨v,hv,_⟩:=d9 [] (fun x hx=>by cases hx)
  have hv:Tr m (dr m).nodes 0 (dr m).nodes.length (cQ m) [] v:=hv
  have hn:=hv.tR.yF
  have hf:=hv.tR.flat
  have gX:∀ x∈(dr m).nodes,∃ i,i<(dr m).nodes.length∧nd (dr m).nodes i=x:=fun x hx=>by
    obtain ⟨i,hi,rfl⟩:=List.getElem_of_mem hx
    exact⟨i,hi,by unfold nd;rw[List.getD_eq_getElem?_getD,List.getElem?_eq_getElem hi];rfl⟩
  refine⟨⟨by omega,fun x hx=>?_,fun x hx=>?_,fun x hx=>?_,fun x hx=>?_,fun x hx l hl=>?_⟩,by omega⟩
  all_goals
    obtain ⟨i,hi,rfl⟩:=gX x hx
    obtain ⟨f1,f2,f3⟩:=hf i (aH _) hi
    obtain ⟨n1,_⟩:=hn i (aH _) hi
  · have:=Ar hm n1;omega
  · omega
  · rw[f2];decide
  · rw[f3];decide
  · rw[f3] at hl;cases hl
theorem ab2 (l:List Bool) (hl:l.length<1000000):ao Tryz.prog 161 [.tree 1 (bf l),.lit (.bool true)] [] (.lit (.int .i64 (rh l 0))) []:=by
  generalize aj:rh l 0=res
  refine ao.aD (fn:=Tryz.f161) 19 0 [.tmp 4] Tryz.func161 rfl rfl rfl rfl rfl (by simp) ?_
  refine Vb X0 ?_
  refine aG (fun k:Nat=>(⟨aw [(0,.tree 1 (bf l)),(1,.lit (.bool true)),(7,.lit (.int .i64 l.length)),(8,.lit (.int .i64 k))],[]⟩:St)) (fun k=>k≤l.length∧rh (l.drop k) k=res) (fun k=>l.length - k) 0 ⟨aH _,aj⟩ (Xv X0) ?_
  rintro k ⟨hk,hr⟩ Ql ak aq
  by_cases aF:k<l.length
  · have hd:=b7 l k false aF
    generalize eF:l.getD k false=b at *
    rw[hd,rh] at hr
    cases b
    · rw[if_neg (by simp)] at hr
      ((repeat' (first|refine Va @eF ?_|(refine Xi ?_ ?_<;>try intro ht)|exact Xx|fail)))
      all_goals try (exfalso;simp_all;done)
      all_goals exact ak _ (k+1) ⟨by omega,hr⟩ (by omega) (Xv X0)
    · rw[if_pos rfl] at hr
      ((repeat' (first|refine Va @eF ?_|(refine Xi ?_ ?_<;>try intro ht)|exact Xx|fail)))
      all_goals try (exfalso;simp_all;done)
      all_goals
        repeat (refine Xu ?_)
        refine Vb X0 ?_
        exact aE rfl (by rw[hr])
  · ((repeat' (first|refine Va X0 ?_|(refine Xi ?_ ?_<;>try intro ht)|exact Xx|fail)))
    rw[b6 (by omega),rh] at hr
    refine aq _ _ rfl ?_;clear ak aq Ql
    repeat (refine Xu ?_)
    refine Vb X0 ?_
    exact aE rfl (by rw[hr])
theorem ab3 {left:List (List Bool)} {i:Nat} (h:i<left.length):(ints (iO (left.take i)++aW (left.length - i) 0)).set i [.lit (.int .i64 (rh (left.getD i default) 0))]=ints (iO (left.take (i+1))++aW (left.length - (i+1)) 0):=by
  rw[eU h,show left.length - i=(left.length - (i+1))+1 by omega,List.replicate_succ]
  unfold iO ints
  rw[← List.map_set]
  congr 1
  rw[List.map_append,List.set_append_right _ _ (by simp;omega)]
  simp only[List.length_map,List.length_take,rS (Nat.le_of_lt h),Nat.sub_self,List.set_cons_zero,List.map_cons,lV,List.append_assoc,List.cons_append,fU]
theorem ab4 (left:List (List Bool)) (hl:left.length≤24) (hw:∀ l∈left,l.length≤24):ao Tryz.prog 105 [.tree 1 (rowsOf aK left)] [] (.ref 0 1 0 left.length) [.arr 1 (ints (iO left))]:=by
  refine ao.aD (fn:=Tryz.f105) 23 0 [.tmp 2] Tryz.func105 rfl rfl rfl rfl rfl (by simp) ?_
  refine Vb X0 ?_
  refine aG (fun k:Nat=>(⟨aw [(3,.ref 0 1 0 left.length),(9,.tree 1 (rowsOf aK left)),(10,.lit (.int .i64 left.length)),(11,.lit (.int .i64 k))],[.arr 1 (ints (iO (left.take k)++aW (left.length - k) 0))]⟩:St)) (fun k=>k≤left.length) (fun k=>left.length - k) 0 (aH _) (by rw[List.take_zero];unfold iO;simp only[lV,fU,rV];exact Xs false [0] @Ej) ?_
  rintro k hk Ql ak aq
  by_cases aF:k<left.length
  · have hm:=hw _ (az (d:=default) aF)
    have iF:=ab2 (left.getD k default) (by omega)
    have k9:=ab3 aF
    have hlen:(ints (iO (left.take k)++aW (left.length - k) 0)).length=left.length:=by unfold iO ints;simp;omega
    have hAk:(ints (iO (left.take k)++aW (left.length - k) 0))[k]?=some [.lit (.int .i64 0)]:=by
      unfold iO ints
      rw[List.getElem?_map,List.getElem?_append_right (by simp;omega),List.getElem?_replicate,if_pos (by simp;omega)];rfl
    generalize hA:ints (iO (left.take k)++aW (left.length - k) 0)=A at *
    generalize bS:left.getD k default=row at *
    generalize rh row 0=x at *
    ((repeat' (first|refine Vc (X4 @bS @aK.eq_1 @hlen @hAk) iF ?_|(refine Xi ?_ ?_<;>try intro ht)|exact Xx|fail)))
    all_goals exact ak _ (k+1) (by omega) (by omega) (by rw[← k9];exact Xv X0)
  · ((repeat' (first|refine Va X0 ?_|(refine Xi ?_ ?_<;>try intro ht)|exact Xx|fail)))
    refine aq _ _ rfl ?_;clear ak aq Ql
    repeat (refine Xu ?_)
    rw[List.take_of_length_le (by omega),show left.length - k=0 by omega,List.replicate_zero,List.append_nil]
    refine Vb X0 ?_
    exact Xw false [0] X0
theorem ab6 (m:ae) (hm:MB m):ao Tryz.prog 41 [.agg (au m)] [] (.lit (.int .i64 (oK m))) []:=by
  have h1:=sI m hm
  have me:=hm.cls
  generalize aj:oK m=res
  unfold oK at aj
  refine ao.aD (fn:=Tryz.f41) 26 0 [.tmp 2] Tryz.func41 rfl rfl rfl rfl rfl (by simp) ?_
  by_cases hv:dW m=0
  rotate_left
  · rw[if_neg hv] at aj
    generalize dW m=e at *
    ((repeat' (first|refine Vd X0 h1 ?_|(refine Xi ?_ ?_<;>try intro ht)|exact Xx|fail)))
    all_goals exact aE rfl (by rw[aj])
  rw[if_pos hv] at aj
  rw[hv] at h1
  have cu:=iu.1 hv
  ((repeat' (first|refine Vd @bne_self_eq_false.{0} h1 ?_|(refine Xi ?_ ?_<;>try intro ht)|exact Xx|fail)))
  refine aG (fun z:Nat × Int=>(⟨aw [(3,.lit (.int .i64 z.2)),(10,.tree 1 (rowsOf bA m.cls)),(11,.lit (.int .i64 m.cls.length)),(12,.lit (.int .i64 z.1))],[]⟩:St))
    (fun z=>z.1≤m.cls.length∧0≤z.2∧z.2≤65537∧tU (m.cls.drop z.1) z.2=res) (fun z=>m.cls.length - z.1) (0,1) ⟨aH _,by dsimp only;omega,by dsimp only;omega,aj⟩ (Xs false [] X0) ?_
  rintro ⟨i,n⟩ ⟨hi,cy,eh,hr⟩ Ql ak aq
  dsimp only at hi cy eh hr ⊢
  by_cases ax:i<m.cls.length
  · have hd:=b7 m.cls i default ax
    have hc:=cu.opt _ (az (d:=default) ax)
    generalize aJ:m.cls.getD i default=c at *
    rw[hd,tU] at hr
    have hmul:0≤n * (c.length:Int)∧n * (c.length:Int)≤65537 * 24:=⟨pt cy (by omega),oo eh (by omega) (by omega) (by omega)⟩
    generalize tV:n * (c.length:Int)=nc at *
    by_cases h0:c.length=0
    · rw[if_pos h0] at hr
      ((repeat' (first|refine Va (X3 @aJ @bA.eq_1 @tV) ?_|(refine Xi ?_ ?_<;>try intro ht)|exact Xx|fail)))
      all_goals
        repeat (refine Xu ?_)
        refine Vb X0 ?_
        exact aE rfl (by rw[hr])
    · rw[if_neg h0] at hr
      ((repeat' (first|refine Va (X3 @aJ @bA.eq_1 @tV) ?_|(refine Xi ?_ ?_<;>try intro ht)|exact Xx|fail)))
      all_goals exact ak _ (i+1,min nc 65537) ⟨by dsimp only;omega,by dsimp only;omega,by dsimp only;omega,hr⟩ (by dsimp only;omega) (Xv X0)
  · rw[b6 (by omega),tU] at hr
    ((repeat' (first|refine Va X0 ?_|(refine Xi ?_ ?_<;>try intro ht)|exact Xx|fail)))
    refine aq _ _ rfl ?_;clear ak aq Ql
    repeat (refine Xu ?_)
    refine Vb X0 ?_
    exact aE rfl (by rw[hr])
theorem abF (m:ae) (hm:MB m):ao Tryz.prog 19 [.agg (au m)] [] (.lit (.int .i64 (oK m))) []:=by
  have h1:=yD m hm
  have me:=hm.cls
  generalize aj:oK m=res
  unfold oK at aj
  refine ao.aD (fn:=Tryz.f19) 32 0 [.tmp 2] Tryz.func19 rfl rfl rfl rfl rfl (by simp) ?_
  by_cases hv:dW m=0
  rotate_left
  · rw[if_neg hv] at aj
    generalize dW m=e at *
    ((repeat' (first|refine Vd X0 h1 ?_|(refine Xi ?_ ?_<;>try intro ht)|exact Xx|fail)))
    all_goals exact aE rfl (by rw[aj])
  rw[if_pos hv] at aj
  rw[hv] at h1
  have cu:=iu.1 hv
  ((repeat' (first|refine Vd @bne_self_eq_false.{0} h1 ?_|(refine Xi ?_ ?_<;>try intro ht)|exact Xx|fail)))
  refine aG (fun z:Nat × Int=>(⟨aw [(1,.ptr 0 0 0),(3,.lit (.int .i64 z.2)),(4,.lit (.int .i64 z.1))],[.var (au m)]⟩:St))
    (fun z=>z.1≤m.cls.length∧0≤z.2∧z.2≤65537∧tU (m.cls.drop z.1) z.2=res) (fun z=>m.cls.length - z.1) (0,1) ⟨aH _,by dsimp only;omega,by dsimp only;omega,aj⟩ (Xv X0) ?_
  rintro ⟨i,n⟩ ⟨hi,cy,eh,hr⟩ Ql ak aq
  dsimp only at hi cy eh hr ⊢
  by_cases ax:i<m.cls.length
  · have hd:=b7 m.cls i default ax
    have hc:=cu.opt _ (az (d:=default) ax)
    generalize aJ:m.cls.getD i default=c at *
    rw[hd,tU] at hr
    have hmul:0≤n * (c.length:Int)∧n * (c.length:Int)≤65537 * 24:=⟨pt cy (by omega),oo eh (by omega) (by omega) (by omega)⟩
    generalize tV:n * (c.length:Int)=nc at *
    by_cases h0:c.length=0
    · rw[if_pos h0] at hr
      ((repeat' (first|refine Va (X3 @aJ @bA.eq_1 @tV) ?_|(refine Xi ?_ ?_<;>try intro ht)|exact Xx|fail)))
      all_goals
        repeat (refine Xu ?_)
        refine Vb X0 ?_
        exact aE rfl (by rw[hr])
    · rw[if_neg h0] at hr
      ((repeat' (first|refine Va (X3 @aJ @bA.eq_1 @tV) ?_|(refine Xi ?_ ?_<;>try intro ht)|exact Xx|fail)))
      all_goals exact ak _ (i+1,min nc 65537) ⟨by dsimp only;omega,by dsimp only;omega,by dsimp only;omega,hr⟩ (by dsimp only;omega) (Xv X0)
  · rw[b6 (by omega),tU] at hr
    ((repeat' (first|refine Va X0 ?_|(refine Xi ?_ ?_<;>try intro ht)|exact Xx|fail)))
    refine aq _ _ rfl ?_;clear ak aq Ql
    repeat (refine Xu ?_)
    refine Vb X0 ?_
    exact aE rfl (by rw[hr])
end T

