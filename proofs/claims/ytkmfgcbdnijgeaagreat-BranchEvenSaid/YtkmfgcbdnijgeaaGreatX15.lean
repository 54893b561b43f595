import Derived.Test.YtkmfgcbdnijgeaaGreatX13
import Derived.Test.YtkmfgcbdnijgeaaGreatX08
import Derived.Test.YtkmfgcbdnijgeaaGreatX14
import Derived.Test.YtkmfgcbdnijgeaaGreatX10
set_option linter.unusedVariables false
set_option linter.unusedSimpArgs false
set_option linter.unnecessarySimpa false
set_option linter.unusedSectionVars false
set_option maxHeartbeats 64000000
set_option maxRecDepth 20000
open Go Go.Am Go.Proofs
open Nat (reduceEqDiff reduceAdd reduceLeDiff reduceMul)
open Int (reduceNeg reduceLE reduceToNat)
open Go Go.Am
namespace T
def wlV:List Ld→Int→Int→Int→Int
  | [],_,_,w=>w
  | x::r,c,o,w=>wlV r c o (if x.cls=c∧x.opt=o then x.wt else w)
def lowW (l:List Ld) (c:Int):Nat→List Bool→Int→Int
  | _,[],b=>b
  | o,is::r,b=>lowW l c (o+1) r (if is=true∧(b<0∨wlV l c o 0<b) then wlV l c o 0 else b)
def lowC (l:List Ld) (c:Int) (row:List Bool):Int:=max (lowW l c 0 row (-1)) 0
def lowS (l:List Ld):Nat→List (List Bool)→Int→Int
  | _,[],n=>n
  | i,row::r,n=>lowS l (i+1) r (n+lowC l i row)
def leastV (left:List (List Bool)) (c:Ct):Int:=excV c.most c.pen (lowS c.loads 0 left 0)
theorem wlV_snoc (l:List Ld) (x:Ld) (c o:Int):∀ w,wlV (l++[x]) c o w=if x.cls=c∧x.opt=o then x.wt else wlV l c o w:=by
  induction l with
  | nil=>intro w;rfl
  | cons y r ih=>intro w;exact ih _
theorem wlV_none:∀ {l:List Ld} {c:Int} (o w:Int),(∀ x∈l,x.cls≠c)→wlV l c o w=w
  | [],_,_,_,_=>rfl
  | x::r,c,o,w,h=>by
    rw[wlV,if_neg (fun e=>h x (by simp) e.1)]
    exact wlV_none o w fun y hy=>h y (by simp[hy])
theorem wlV_rg {l:List Ld} (h:∀ x∈l,1≤x.wt∧x.wt≤1000) (c o:Int):∀ w,0≤w∧w≤1000→0≤wlV l c o w∧wlV l c o w≤1000:=by
  induction l with
  | nil=>intro w hw;exact hw
  | cons x r ih =>
    intro w hw
    rw[wlV]
    refine ih (fun y hy=>h y (by simp[hy])) _ ?_
    have:=h x (by simp)
    split<;>omega
theorem lowW_none {l:List Ld} {c:Int} (h:∀ x∈l,x.cls≠c):∀ (row:List Bool) (o:Nat) (b:Int),-1≤b∧b≤0→-1≤lowW l c o row b∧lowW l c o row b≤0
  | [],_,b,hb=>hb
  | is::r,o,b,hb=>by
    rw[lowW]
    refine lowW_none h r (o+1) _ ?_
    rw[wlV_none _ _ h]
    split<;>omega
theorem lowC_none {l:List Ld} {c:Int} (h:∀ x∈l,x.cls≠c) (row:List Bool):lowC l c row=0:=by
  have:=lowW_none h row 0 (-1) (by omega)
  unfold lowC;omega
theorem lowW_rg {l:List Ld} (h:∀ x∈l,1≤x.wt∧x.wt≤1000) (c:Int):∀ (row:List Bool) (o:Nat) (b:Int),-1≤b∧b≤1000→-1≤lowW l c o row b∧lowW l c o row b≤1000
  | [],_,b,hb=>hb
  | is::r,o,b,hb=>by
    rw[lowW]
    refine lowW_rg h c r (o+1) _ ?_
    have:=wlV_rg h c o 0 (by omega)
    split<;>omega
theorem lowC_rg {l:List Ld} (h:∀ x∈l,1≤x.wt∧x.wt≤1000) (c:Int) (row:List Bool):0≤lowC l c row∧lowC l c row≤1000:=by
  have:=lowW_rg h c row 0 (-1) (by omega)
  unfold lowC;omega
def sumN (f:Nat→Int):Nat→Int
  | 0=>0
  | n+1=>sumN f n+f n
theorem sumN_congr {f g:Nat→Int}:∀ (n:Nat),(∀ i<n,f i=g i)→sumN f n=sumN g n
  | 0,_=>rfl
  | n+1,h=>by rw[sumN,sumN,sumN_congr n fun i hi=>h i (by omega),h n (by omega)]
theorem sumN_rg {f:Nat→Int} {B:Int}:∀ (n:Nat),(∀ i<n,0≤f i∧f i≤B)→0≤sumN f n∧sumN f n≤B * n
  | 0,_=>by simp[sumN]
  | n+1,h=>by
    have h1:=sumN_rg n fun i hi=>h i (by omega)
    have h2:=h n (by omega)
    rw[sumN,Int.natCast_add,Int.mul_add]
    simp only[Int.cast_ofNat_Int,Int.mul_one]
    omega
theorem sumN_one (f:Nat→Int) (k:Nat) (v:Int):∀ (n:Nat),sumN (fun i=>if i=k then f i+v else f i) n=sumN f n+if k<n then v else 0
  | 0=>by simp[sumN]
  | n+1=>by
    rw[sumN,sumN,sumN_one f k v n]
    by_cases h:n=k
    · subst h;rw[if_pos rfl,if_neg (by omega),if_pos (by omega)];omega
    · rw[if_neg h]
      by_cases h2:k<n
      · rw[if_pos h2,if_pos (by omega)];omega
      · rw[if_neg h2,if_neg (by omega)];omega
theorem sumN_head (f:Nat→Int):∀ n,sumN f (n+1)=f 0+sumN (fun i=>f (i+1)) n
  | 0=>by simp[sumN]
  | n+1=>by rw[sumN,sumN_head f n,sumN];omega
theorem lowS_eq (l:List Ld):∀ (left:List (List Bool)) (i:Nat) (n:Int),lowS l i left n=n+sumN (fun j=>lowC l (i+j:Nat) (left.getD j [])) left.length
  | [],i,n=>by simp[lowS,sumN]
  | row::r,i,n=>by
    rw[lowS,lowS_eq l r (i+1),List.length_cons,sumN_head]
    simp only[List.getD_cons_zero,List.getD_cons_succ,Nat.add_zero]
    rw[sumN_congr (g:=fun j=>lowC l (i+(j+1):Nat) (r.getD j [])) r.length fun j _=>by rw[show i+1+j=i+(j+1) by omega]]
    omega
theorem lowS_rg {l:List Ld} (h:∀ x∈l,1≤x.wt∧x.wt≤1000) (left:List (List Bool)):0≤lowS l 0 left 0∧lowS l 0 left 0≤1000 * left.length:=by
  rw[lowS_eq,Int.zero_add]
  exact sumN_rg _ fun i _=>lowC_rg h _ _
abbrev Grp:=Int × Nat × List (Int × Int)
def vE (es:List (Int × Int)):List (Int × Value):=es.map fun p=>(p.1,.int .i64 p.2)
def gE (A:List Grp):List (Int × Value):=A.map fun e=>(e.1,.map (some e.2.1))
def setV (o w:Int):List (Int × Int)→List (Int × Int)
  | []=>[(o,w)]
  | p::r=>if p.1=o then (o,w)::r else p::setV o w r
def getV (o:Int):List (Int × Int)→Int
  | []=>0
  | p::r=>if p.1=o then p.2 else getV o r
theorem setI_vE (o w:Int):∀ es,setI o (.int .i64 w) (vE es)=vE (setV o w es)
  | []=>rfl
  | p::r=>by
    show setI o _ ((p.1,Value.int .i64 p.2)::vE r)=_
    rw[setI,setV]
    by_cases h:p.1=o
    · rw[if_pos h,if_pos h];rfl
    · rw[if_neg h,if_neg h,setI_vE o w r];rfl
theorem getI_vE (o:Int):∀ es,(getI o (vE es)).getD (.int .i64 0)=.int .i64 (getV o es)
  | []=>rfl
  | p::r=>by
    show (getI o ((p.1,Value.int .i64 p.2)::vE r)).getD _=_
    rw[getI,getV]
    by_cases h:p.1=o
    · rw[if_pos h,if_pos h];rfl
    · rw[if_neg h,if_neg h,getI_vE o r]
theorem getV_setV (o w x:Int):∀ es,getV x (setV o w es)=if o=x then w else getV x es
  | []=>rfl
  | p::r=>by
    rw[setV]
    by_cases h:p.1=o
    · rw[if_pos h,getV,getV]
      by_cases h2:o=x
      · rw[if_pos h2,if_pos h2]
      · rw[if_neg h2,if_neg h2,if_neg (by omega)]
    · rw[if_neg h,getV,getV,getV_setV o w x r]
      by_cases h2:p.1=x
      · rw[if_pos h2,if_neg (by omega),if_pos h2]
      · rw[if_neg h2,if_neg h2]
theorem getI_gE (c:Int):∀ A:List Grp,(getI c (gE A)=none∧∀ e∈A,e.1≠c)∨∃ e∈A,e.1=c∧getI c (gE A)=some (.map (some e.2.1))
  | []=>.inl ⟨rfl,by simp⟩
  | e::r=>by
    show (getI c ((e.1,Value.map (some e.2.1))::gE r)=none∧_)∨_
    by_cases h:e.1=c
    · right;refine⟨e,by simp,h,?_⟩
      show getI c ((e.1,Value.map (some e.2.1))::gE r)=_
      rw[getI,if_pos h]
    · rcases getI_gE c r with ⟨h1,h2⟩ | ⟨e',h1,h2,h3⟩
      · left;refine⟨by rw[getI,if_neg h];exact h1,fun x hx=>?_⟩
        rcases List.mem_cons.1 hx with rfl | hx
        · exact h
        · exact h2 x hx
      · right;refine⟨e',by simp[h1],h2,?_⟩
        show getI c ((e.1,Value.map (some e.2.1))::gE r)=_
        rw[getI,if_neg h];exact h3
theorem setI_gE (c:Int) (b:Nat):∀ A:List Grp,(∀ e∈A,e.1≠c)→setI c (.map (some b)) (gE A)=gE (A++[(c,b,[])])
  | [],_=>rfl
  | e::r,h=>by
    show setI c _ ((e.1,Value.map (some e.2.1))::gE r)=_
    rw[setI,if_neg (h e (by simp)),setI_gE c b r fun x hx=>h x (by simp[hx])];rfl
structure GI (R:Nat) (dn:List Ld) (A:List Grp) (b0:Nat) (μ:Mem):Prop where
  top:μ b0=some (.map (iE (gE A)))
  sub:∀ e∈A,μ e.2.1=some (.map (iE (vE e.2.2)))
  b0n:∀ e∈A,e.2.1≠b0
  inj:∀ e∈A,∀ e'∈A,e.2.1=e'.2.1→e=e'
  keys:(A.map (·.1)).Nodup
  val:∀ e∈A,∀ o,getV o e.2.2=wlV dn e.1 o 0
  has:∀ x∈dn,∃ e∈A,e.1=x.cls
  rng:∀ e∈A,0≤e.1∧e.1<R
theorem GI.nil {R b0:Nat} {μ:Mem} (h:μ b0=some (.map [])):GI R [] [] b0 μ:=⟨h,by simp,by simp,by simp,by simp,by simp,by simp,by simp⟩
theorem GI.new {R:Nat} {dn:List Ld} {A:List Grp} {b0:Nat} {μ:Mem} (h:GI R dn A b0 μ) {c:Int} (hcR:0≤c∧c<R) (hc:∀ e∈A,e.1≠c) {b:Nat} (hb:μ b=none):GI R dn (A++[(c,b,[])]) b0 (updM (updM μ b (.map [])) b0 (.map (iE (setI c (.map (some b)) (gE A))))):=by
  have hb0:b≠b0:=fun e=>by rw[e,h.top] at hb;cases hb
  have hbe:∀ e∈A,e.2.1≠b:=fun e he e2=>by have:=h.sub e he;rw[e2,hb] at this;cases this
  refine⟨by rw[updM_same,setI_gE c b A hc],fun e he=>?_,fun e he=>?_,fun e he e' he' hh=>?_,?_,fun e he o=>?_,fun x hx=>?_,fun e he=>?_⟩
  · rcases List.mem_append.1 he with he | he
    · rw[updM_ne _ _ (h.b0n e he),updM_ne _ _ (hbe e he)];exact h.sub e he
    · simp only[List.mem_singleton] at he;subst he
      rw[updM_ne _ _ hb0,updM_same];rfl
  · rcases List.mem_append.1 he with he | he
    · exact h.b0n e he
    · simp only[List.mem_singleton] at he;subst he;exact hb0
  · rcases List.mem_append.1 he with he | he<;>rcases List.mem_append.1 he' with he' | he'
    · exact h.inj e he e' he' hh
    · simp only[List.mem_singleton] at he';subst he';exact absurd hh (hbe e he)
    · simp only[List.mem_singleton] at he;subst he;exact absurd hh.symm (hbe e' he')
    · simp only[List.mem_singleton] at he he';rw[he,he']
  · rw[List.map_append,List.nodup_append]
    refine⟨h.keys,by simp,fun a ha b' hb'=>?_⟩
    obtain ⟨e,he,rfl⟩:=List.mem_map.1 ha
    simp only[List.map_cons,List.map_nil,List.mem_singleton] at hb'
    rw[hb'];exact hc e he
  · rcases List.mem_append.1 he with he | he
    · exact h.val e he o
    · simp only[List.mem_singleton] at he;subst he
      rw[wlV_none]
      · rfl
      · intro x hx hxc
        obtain ⟨e,he,hee⟩:=h.has x hx
        exact hc e he (hee.trans hxc)
  · obtain ⟨e,he,hee⟩:=h.has x hx
    exact⟨e,List.mem_append_left _ he,hee⟩
  · rcases List.mem_append.1 he with he | he
    · exact h.rng e he
    · simp only[List.mem_singleton] at he;subst he;exact hcR
def setA (c o w:Int) (A:List Grp):List Grp:=A.map fun e=>if e.1=c then (e.1,e.2.1,setV o w e.2.2) else e
theorem gE_setA (c o w:Int) (A:List Grp):gE (setA c o w A)=gE A:=by
  unfold gE setA
  rw[List.map_map]
  refine List.map_congr_left fun e _=>?_
  simp only[Function.comp]
  split<;>rfl
theorem GI.put {R:Nat} {dn:List Ld} {A:List Grp} {b0:Nat} {μ:Mem} (h:GI R dn A b0 μ) {x:Ld} {e0:Grp} (he0:e0∈A) (hc:e0.1=x.cls):GI R (dn++[x]) (setA x.cls x.opt x.wt A) b0 (updM μ e0.2.1 (.map (iE (setI x.opt (.int .i64 x.wt) (vE e0.2.2))))):=by
  have uniq:∀ e∈A,e.1=x.cls→e=e0:=fun e he hh=>by
    have hk:=h.keys
    obtain ⟨i,hi,rfl⟩:=List.mem_iff_getElem.1 he
    obtain ⟨j,hj,rfl⟩:=List.mem_iff_getElem.1 he0
    have:i=j:=(List.getElem_inj (h₀:=by simpa using hi) (h₁:=by simpa using hj) hk).1 (by simp only[List.getElem_map];rw[hh,hc])
    subst this;rfl
  have one:∀ e∈setA x.cls x.opt x.wt A,(e=(e0.1,e0.2.1,setV x.opt x.wt e0.2.2))∨(e∈A∧e.1≠x.cls):=fun e he=>by
    obtain ⟨e',he',rfl⟩:=List.mem_map.1 he
    by_cases hh:e'.1=x.cls
    · left;rw[if_pos hh,uniq e' he' hh]
    · right;rw[if_neg hh];exact⟨he',hh⟩
  have hbe:∀ e∈A,e.1≠x.cls→e.2.1≠e0.2.1:=fun e he hh e2=>hh (by rw[h.inj e he e0 he0 e2,hc])
  refine⟨by rw[updM_ne _ _ (h.b0n e0 he0).symm,gE_setA];exact h.top,fun e he=>?_,fun e he=>?_,fun e he e' he' hh=>?_,?_,fun e he o=>?_,fun y hy=>?_,fun e he=>?_⟩
  · rcases one e he with rfl | ⟨h1,h2⟩
    · rw[updM_same,setI_vE]
    · rw[updM_ne _ _ (hbe e h1 h2)];exact h.sub e h1
  · rcases one e he with rfl | ⟨h1,h2⟩
    · exact h.b0n e0 he0
    · exact h.b0n e h1
  · rcases one e he with rfl | ⟨h1,h2⟩<;>rcases one e' he' with rfl | ⟨h3,h4⟩
    · rfl
    · exact absurd hh.symm (hbe e' h3 h4)
    · exact absurd hh (hbe e h1 h2)
    · exact h.inj e h1 e' h3 hh
  · have:(setA x.cls x.opt x.wt A).map (·.1)=A.map (·.1):=by
      unfold setA
      rw[List.map_map]
      refine List.map_congr_left fun e _=>?_
      simp only[Function.comp]
      split<;>rfl
    rw[this];exact h.keys
  · rw[wlV_snoc]
    rcases one e he with rfl | ⟨h1,h2⟩
    · dsimp only
      rw[getV_setV,h.val e0 he0 o]
      by_cases ho:x.opt=o
      · rw[if_pos ho,if_pos ⟨hc.symm,ho⟩]
      · rw[if_neg ho,if_neg (fun e=>ho e.2)]
    · rw[if_neg (fun e=>h2 e.1.symm)];exact h.val e h1 o
  · have mem:∀ e∈A,∃ e'∈setA x.cls x.opt x.wt A,e'.1=e.1:=fun e he=>⟨_,List.mem_map_of_mem he,by split<;>rfl⟩
    rcases List.mem_append.1 hy with hy | hy
    · obtain ⟨e,he,hee⟩:=h.has y hy
      obtain ⟨e',k1,k2⟩:=mem e he
      exact⟨e',k1,k2.trans hee⟩
    · simp only[List.mem_singleton] at hy;subst hy
      obtain ⟨e',k1,k2⟩:=mem e0 he0
      exact⟨e',k1,k2.trans hc⟩
  · rcases one e he with rfl | ⟨h1,h2⟩
    · exact h.rng e0 he0
    · exact h.rng e h1
def sumA (f:Int→Int):List Grp→Int
  | []=>0
  | e::r=>f e.1+sumA f r
theorem sumA_classes (f:Int→Int) (n:Nat):∀ A:List Grp,(A.map (·.1)).Nodup→(∀ e∈A,0≤e.1∧e.1<n)→sumA f A=sumN (fun i=>if∃e∈A,e.1=(i:Int) then f i else 0) n
  | [],_,_=>by
    rw[sumN_congr (g:=fun _=>0) n (fun i _=>by simp)]
    have:∀ n,sumN (fun _=>0) n=0:=fun n=>by induction n with | zero=>rfl | succ n ih=>rw[sumN,ih];rfl
    rw[this];rfl
  | e::r,hn,hr=>by
    rw[List.map_cons,List.nodup_cons] at hn
    rw[sumA,sumA_classes f n r hn.2 fun x hx=>hr x (by simp[hx])]
    have h0:=hr e (by simp)
    have hnot:¬∃x∈r,x.1=((e.1.toNat:Nat):Int):=by
      rintro ⟨x,hx,hh⟩
      rw[Int.toNat_of_nonneg h0.1] at hh
      exact hn.1 (List.mem_map.2 ⟨x,hx,hh⟩)
    have:=sumN_one (fun i=>if∃x∈r,x.1=(i:Int) then f i else 0) e.1.toNat (f e.1) n
    rw[if_pos (by omega)] at this
    rw[Int.add_comm,← this]
    refine sumN_congr n fun i hi=>?_
    by_cases h:i=e.1.toNat
    · subst h
      rw[if_pos rfl,if_neg hnot,if_pos ⟨e,by simp,by omega⟩,Int.toNat_of_nonneg h0.1];omega
    · rw[if_neg h]
      have:(∃ x∈e::r,x.1=(i:Int))↔∃ x∈r,x.1=(i:Int):=by
        constructor
        · rintro ⟨x,hx,hh⟩
          rcases List.mem_cons.1 hx with rfl | hx
          · omega
          · exact⟨x,hx,hh⟩
        · rintro ⟨x,hx,hh⟩;exact⟨x,by simp[hx],hh⟩
      simp only[this]
theorem sumA_one:∀ A:List Grp,sumA (fun _=>1) A=A.length
  | []=>rfl
  | e::r=>by rw[sumA,sumA_one r,List.length_cons];omega
theorem GI.len {R:Nat} {dn:List Ld} {A:List Grp} {b0:Nat} {μ:Mem} (h:GI R dn A b0 μ):A.length≤R:=by
  have h1:=sumA_classes (fun _=>1) R A h.keys h.rng
  rw[sumA_one] at h1
  have h2:=sumN_rg (f:=fun i=>if∃e∈A,e.1=(i:Int) then (1:Int) else 0) (B:=1) R fun i _=>by split<;>omega
  omega
theorem GI.sum {dn:List Ld} {A:List Grp} {b0:Nat} {μ:Mem} {left:List (List Bool)} (h:GI left.length dn A b0 μ):sumA (fun c=>lowC dn c (left.getD c.toNat [])) A=lowS dn 0 left 0:=by
  rw[sumA_classes _ left.length A h.keys h.rng,lowS_eq,Int.zero_add]
  refine sumN_congr _ fun i _=>?_
  simp only[Nat.zero_add,Int.toNat_natCast]
  by_cases hh :∃e∈A,e.1=(i:Int)
  · rw[if_pos hh]
  · rw[if_neg hh,lowC_none]
    intro x hx hxc
    obtain ⟨e,he,hee⟩:=h.has x hx
    exact hh ⟨e,he,hee.trans hxc⟩
def sumI (f:Nat→Int) (seen:List Nat) (n:Nat):Int:=sumN (fun i=>if i∈seen then f i else 0) n
def leftN (seen:List Nat) (n:Nat):Nat:=(sumN (fun i=>if i∈seen then 0 else 1) n).toNat
theorem sumI_step {f:Nat→Int} {seen:List Nat} {n j:Nat} (hj:j<n) (hs:j ∉ seen):sumI f (seen++[j]) n=sumI f seen n+f j:=by
  unfold sumI
  have:=sumN_one (fun i=>if i∈seen then f i else 0) j (f j) n
  rw[if_pos hj] at this
  rw[← this]
  refine sumN_congr n fun i _=>?_
  by_cases h:i=j
  · subst h;rw[if_pos (by simp),if_pos rfl,if_neg hs];omega
  · rw[if_neg h]
    simp[h]
theorem leftN_step {seen:List Nat} {n j:Nat} (hj:j<n) (hs:j ∉ seen):leftN (seen++[j]) n<leftN seen n:=by
  unfold leftN
  have h1:=sumN_one (fun i=>if i∈seen then (0:Int) else 1) j (-1) n
  rw[if_pos hj] at h1
  have h2:sumN (fun i=>if i∈seen++[j] then (0:Int) else 1) n=sumN (fun i=>if i=j then (if i∈seen then 0 else 1)+-1 else if i∈seen then 0 else 1) n:=by
    refine sumN_congr n fun i _=>?_
    by_cases h:i=j
    · subst h;rw[if_pos (by simp),if_pos rfl,if_neg hs];rfl
    · rw[if_neg h];simp[h]
  have h3:=(sumN_rg (f:=fun i=>if i∈seen++[j] then (0:Int) else 1) (B:=1) n fun i _=>by split<;>omega).1
  omega
theorem sumI_all {f:Nat→Int} {seen:List Nat} {n:Nat} (h:∀ j<n,j∈seen):sumI f seen n=sumN f n:=sumN_congr n fun i hi=>if_pos (h i hi)
theorem sumI_nil (f:Nat→Int) (n:Nat):sumI f [] n=0:=by
  unfold sumI
  rw[sumN_congr (g:=fun _=>0) n (fun i _=>by simp)]
  induction n with | zero=>rfl | succ n ih=>rw[sumN,ih];rfl
theorem sumN_sumA (f:Int→Int):∀ A:List Grp,sumN (fun j=>f (A.getD j (0,0,[])).1) A.length=sumA f A
  | []=>rfl
  | e::r=>by
    rw[List.length_cons,sumN_head,sumA]
    simp only[List.getD_cons_zero,List.getD_cons_succ]
    rw[sumN_sumA f r]
theorem sumI_rg {f:Nat→Int} {B:Int} {seen:List Nat} {n:Nat} (hB:0≤B) (h:∀ i<n,0≤f i∧f i≤B):0≤sumI f seen n∧sumI f seen n≤B * n :=
  sumN_rg n fun i hi=>by have:=h i hi;split<;>omega
theorem iE_get (L:List (Int × Value)) (j:Nat):(iE L)[j]?=L[j]?.map fun p=>(.int .i64 p.1,p.2):=by simp[iE]
theorem gE_get (A:List Grp) (j:Nat):(gE A)[j]?=A[j]?.map fun e=>(e.1,.map (some e.2.1)):=by simp[gE]
theorem gE_length (A:List Grp):(iE (gE A)).length=A.length:=by simp[gE,iE]
theorem GI.other {R:Nat} {dn:List Ld} {A:List Grp} {b0:Nat} {μ:Mem} (h:GI R dn A b0 μ) {r:Nat} (g:Gh) (hr:∀ l,μ r≠some (.map l)):GI R dn A b0 (updM μ r g) :=
  ⟨by rw[updM_ne _ _ (fun e=>hr _ (e ▸ h.top))];exact h.top,fun e he=>by rw[updM_ne _ _ (fun e2=>hr _ (e2 ▸ h.sub e he))];exact h.sub e he,h.b0n,h.inj,h.keys,h.val,h.has,h.rng⟩
theorem lowW_snoc (l:List Ld) (c:Int) (is:Bool):∀ (row:List Bool) (i:Nat) (b:Int),lowW l c i (row++[is]) b =
    if is=true∧(lowW l c i row b<0∨wlV l c (i+row.length:Nat) 0<lowW l c i row b) then wlV l c (i+row.length:Nat) 0 else lowW l c i row b
  | [],i,b=>rfl
  | x::r,i,b=>by
    show lowW l c (i+1) (r++[is]) _=_
    rw[lowW_snoc l c is r (i+1),lowW,List.length_cons,show i+1+r.length=i+(r.length+1) by omega]
def FitsP (m:Mdl) (left:List (List Bool)):Prop:=left.length=m.cls.length∧∀ i,i<left.length→(left.getD i default).length=(m.cls.getD i default).length
instance (m:Mdl) (left:List (List Bool)):Decidable (FitsP m left):=by unfold FitsP;infer_instance
def startV (m:Mdl) (left:List (List Bool)):Int:=if validV m≠0 then validV m else if FitsP m left then 0 else 17
theorem FitsP.row {m:Mdl} {left:List (List Bool)} (hm:VM m) (h:FitsP m left):∀ r∈left,r.length≤24:=fun r hr=>by
  obtain ⟨i,hi,rfl⟩:=List.mem_iff_getElem.1 hr
  have:=h.2 i hi
  rw[List.getD_eq_getElem?_getD,List.getElem?_eq_getElem hi] at this
  simp only[Option.getD_some] at this
  rw[this]
  exact hm.opt _ (getD_mem (by have:=h.1;omega))
def BB (left:List (List Bool)):Prop:=left.length<9223372036854775808∧∀ r∈left,r.length<9223372036854775808
theorem lowS_snoc (l:List Ld) (row:List Bool):∀ (L:List (List Bool)) (i:Nat) (n:Int),lowS l i (L++[row]) n=lowS l i L n+lowC l (i+L.length:Nat) row
  | [],i,n=>rfl
  | x::r,i,n=>by
    show lowS l (i+1) (r++[row]) _=_
    rw[lowS_snoc l row r (i+1),lowS,List.length_cons,show i+1+r.length=i+(r.length+1) by omega]
theorem take_snoc {α:Type} [Inhabited α] {l:List α} {k:Nat} (h:k<l.length):l.take (k+1)=l.take k++[l.getD k default]:=by
  rw[List.take_succ_eq_append_getElem h,List.getD_eq_getElem?_getD,List.getElem?_eq_getElem h];rfl
abbrev Nm:=Int × Bool
def ofN (x:Int):Nm:=(x,decide (1099511627776≤x))
def eNm (p:Nm):List AV:=[.lit (.int .i64 p.1),.lit (.bool p.2)]
def eNr (p:Nm):List AV:=[.lit (.bool p.2),.lit (.int .i64 p.1)]
instance:Row eNm 2:=⟨fun _=>rfl,fun p v hv=>by
  simp only[eNm,List.mem_cons,List.not_mem_nil,or_false] at hv
  rcases hv with rfl | rfl<;>exact .inl ⟨_,rfl,rfl⟩⟩
instance:Row eNr 2:=⟨fun _=>rfl,fun p v hv=>by
  simp only[eNr,List.mem_cons,List.not_mem_nil,or_false] at hv
  rcases hv with rfl | rfl<;>exact .inl ⟨_,rfl,rfl⟩⟩
def ownS (o:Opt):Int:=(o.ch.map (·.2)).foldl addC 0
def ownV (l:List Opt):List Int:=l.map ownS
def firstV (l:List Int):List Nm:=l.map ofN
def lowN:List Nm→List Bool→Int × Bool→Int × Bool
  | p::r,is::s,b=>lowN r s (if is=true∧p.2=false∧(b.2=false∨p.1<b.1) then (p.1,true) else b)
  | _,_,b=>b
theorem chs_in {R:Int} {l:List (Int × Int)} (h:chL R none l=true):∀ c∈l,In41 c.2:=fun c hc=>price_in (chL_mem h c hc).2
theorem foldC_in:∀ (l:List Int) (n:Int),(∀ x∈l,In41 x)→In41 n→In41 (l.foldl addC n)
  | [],_,_,h=>h
  | x::r,n,hl,h=>foldC_in r _ (fun y hy=>hl y (by simp[hy])) (addC_in h (hl x (by simp)))
theorem ownS_in {R:Int} {o:Opt} (h:chL R none o.ch=true):In41 (ownS o):=foldC_in _ _ (fun x hx=>by
  obtain ⟨c,hc,rfl⟩:=List.mem_map.1 hx;exact chs_in h c hc) (by unfold In41;decide)
structure Mv where
  pair:Int
  side:Int
  opt:Int
  amt:Int
  deriving Inhabited
def eMv (x:Mv):List AV:=[.lit (.int .i64 x.pair),.lit (.int .i64 x.side),.lit (.int .i64 x.opt),.lit (.int .i64 x.amt)]
instance:Row eMv 4:=⟨fun _=>rfl,fun x v hv=>by
  simp only[eMv,List.mem_cons,List.not_mem_nil,or_false] at hv
  rcases hv with rfl | rfl | rfl | rfl<;>exact .inl ⟨_,rfl,rfl⟩⟩
def mvC (m:Mdl) (x:Mv):Int:=if x.side=0 then (m.prs.getD x.pair.toNat default).fst else (m.prs.getD x.pair.toNat default).snd
def mvB (m:Mdl) (x:Mv):Bool:=decide (0≤x.pair∧x.pair<m.prs.length∧0≤x.side∧x.side≤1∧-268435456≤x.amt∧x.amt≤268435456) && optB m (mvC m x) x.opt
theorem getD_foldl (l:List (Int × Int)) (k:Nat) (h:k<l.length):(((l.take (k+1)).map (·.2)).foldl addC 0)=addC (((l.take k).map (·.2)).foldl addC 0) (l.getD k default).2:=by
  rw[take_snoc h,List.map_append,List.foldl_append];rfl
def lowSt (p:Nm) (is:Bool) (b:Int × Bool):Int × Bool:=if is=true∧p.2=false∧(b.2=false∨p.1<b.1) then (p.1,true) else b
theorem lowN_snoc (p:Nm) (is:Bool):∀ (l:List Nm) (s:List Bool) (b:Int × Bool),l.length=s.length→lowN (l++[p]) (s++[is]) b=lowSt p is (lowN l s b)
  | [],[],b,_=>rfl
  | x::r,y::s,b,h=>by
    show lowN (r++[p]) (s++[is]) _=_
    rw[lowN_snoc p is r s _ (by simpa using h)];rfl
def optsV:List Nm→List Bool→List Nm
  | p::r,is::s=>(if is=true then [p] else [])++optsV r s
  | _,_=>[]
def lowAs (b a:Nm):Nm:=if a.2=false∧(b.2=true∨a.1<b.1) then a else b
def lowA (l:List Nm):Nm:=l.foldl lowAs (0,true)
theorem lowA_snoc (l:List Nm) (a:Nm):lowA (l++[a])=lowAs (lowA l) a:=by unfold lowA;rw[List.foldl_append];rfl
theorem optsV_snoc (p:Nm) (is:Bool):∀ (l:List Nm) (s:List Bool),l.length=s.length→optsV (l++[p]) (s++[is])=optsV l s++(if is=true then [p] else [])
  | [],[],_=>by simp[optsV]
  | x::r,y::s,h=>by
    show (if y=true then [x] else [])++optsV (r++[p]) (s++[is])=_
    rw[optsV_snoc p is r s (by simpa using h),optsV,List.append_assoc]
theorem low_eq:∀ (l:List Nm) (s:List Bool) (b:Int × Bool),(optsV l s).foldl lowAs (b.1,!b.2)=((lowN l s b).1,!(lowN l s b).2)
  | [],s,b=>by cases s<;>rfl
  | p::r,[],b=>rfl
  | p::r,is::s,b=>by
    rw[optsV,lowN,List.foldl_append]
    cases is with
    | false=>simp only[Bool.false_eq_true,if_false,List.foldl_nil,false_and];exact low_eq r s b
    | true =>
      simp only[if_true,List.foldl_cons,List.foldl_nil,eq_self,true_and]
      have:lowAs (b.1,!b.2) p=((if p.2=false∧(b.2=false∨p.1<b.1) then (p.1,true) else b).1,!(if p.2=false∧(b.2=false∨p.1<b.1) then (p.1,true) else b).2):=by
        unfold lowAs
        obtain ⟨b1,b2⟩:=b
        obtain ⟨p1,p2⟩:=p
        dsimp only
        cases b2<;>cases p2<;>simp
        split<;>rfl
      rw[this]
      exact low_eq r s _
theorem lowA_opts (l:List Nm) (s:List Bool):lowA (optsV l s)=((lowN l s (0,false)).1,!(lowN l s (0,false)).2):=low_eq l s (0,false)
def eBs (l:List Bool):List AV:=[.tree 1 (bools l)]
instance:Row eBs 1:=⟨fun _=>rfl,fun l v hv=>by
  simp only[eBs,List.mem_singleton] at hv;subst hv;exact .inr ⟨_,_,rfl⟩⟩
theorem kz104:keysZ Tryz.prog 200 (.map none):=⟨_,_,rfl,rfl,fun w=>by rfl⟩
theorem kz105:keysZ Tryz.prog 201 (.int .i64 0):=⟨_,_,rfl,rfl,fun w=>by rfl⟩
theorem km104:keysI Tryz.prog 200:=⟨_,_,rfl,rfl⟩
theorem km105:keysI Tryz.prog 201:=⟨_,_,rfl,rfl⟩
theorem im104:isMapT Tryz.prog 200:=⟨_,_,rfl⟩
theorem im105:isMapT Tryz.prog 201:=⟨_,_,rfl⟩
theorem least_ok (c:Ct) (left:List (List Bool)) (n:Nat) (hn24:left.length≤n) (hc:∀ x∈c.loads,(0≤x.cls∧x.cls<left.length)∧1≤x.wt∧x.wt≤1000) (hl:left.length≤1000) (hrow:∀ r∈left,r.length≤1000) (hll:c.loads.length<9223372036854775808) (hm:0≤c.most) (hp:In41 c.pen) :
    Holds Tryz.prog 136 [.agg (eCt c),.tree 1 (rowsOf eBs left)] [] (.lit (.int .i64 (leastV left c))) []:=by
  refine Holds.of_body' (fn:=Tryz.f136) 80 0 [.tmp 4] Tryz.func136 rfl rfl rfl rfl rfl (by simp) ?_
  refine W_of_WM ?_
  repeat' (first|(((refine mr ?_);intro K hK) ;simp (disch:=omega) only[Ac,↓Pc,simprocAttr,Mc])|(refine hK _ _ ?_;clear hK K))
  refine om_make fun b0 hb0=>?_
  repeat' (first|(((refine mr ?_);intro K hK) ;simp (disch:=omega) only[Ac,↓Pc,simprocAttr,Mc])|(with_reducible refine gO ?_;simp (disch:=omega) only[Ac,↓Pc,simprocAttr,Mc])|(refine hK _ _ ?_;clear hK K)|(refine WM_block ?_;intro Qb hnb hxb heb)|(refine WM_k ?_;intro Q hn he))
  refine WM_loop (fun k:Nat=>(⟨slots [(1,.tree 1 (rowsOf eBs left)),(2,.ptr 0 0 0),(5,.lit (.map (some b0))),(17,.tree 3 (rowsOf eLd c.loads)),(18,.lit (.int .i64 c.loads.length)),(19,.lit (.int .i64 k))],[.var (eCt c)]⟩:St))
    (fun k m=>k≤c.loads.length∧∃ A,GI left.length (c.loads.take k) A b0 m) (fun k=>c.loads.length - k) 0 ⟨Nat.zero_le _,[],by rw[List.take_zero];exact GI.nil (updM_same _ _ _)⟩ (by (refine TurnsM.slots _ _ rfl ?_;simp only[Tc,↓reduceIte,reduceEqDiff,Nat.reduceBEq,reduceAdd];try trivial)) ?_
  rintro k m0 ⟨hk,A,hA⟩ Ql hnl hel
  by_cases hk':k<c.loads.length
  · have hx:=hc _ (getD_mem (d:=default) hk')
    have htk:c.loads.take (k+1)=c.loads.take k++[c.loads.getD k default]:=by
      rw[List.take_succ_eq_append_getElem hk',List.getD_eq_getElem?_getD,List.getElem?_eq_getElem hk'];rfl
    generalize hxx:c.loads.getD k default=x at *
    repeat' (first|(((refine mr ?_);intro K hK) ;simp (disch:=omega) only[Ac,↓Pc,simprocAttr,hxx,Mc])|(refine hK _ _ ?_;clear hK K)|(refine mc (fun ht=>?_) (fun ht=>?_)<;>(try simp only[DEc,simprocAttr] at ht))|refine WM_z rfl ?_|(refine WM_block ?_;intro Qb hnb hxb heb)|(refine WM_k ?_;intro Q hn he)|((first|refine hn _ _ ?_|refine he _ _ _ rfl ?_);clear hn he;try clear Q)|with_reducible refine And.intro ?_ ?_|omega)
    have fin:∀ A1 m1,GI left.length (c.loads.take k) A1 b0 m1→(∃ e∈A1,e.1=x.cls)→∃ e∈A1,e.1=x.cls∧getI x.cls (gE A1)=some (.map (some e.2.1)):=fun A1 m1 h1 h2=>by
      rcases getI_gE x.cls A1 with ⟨_,g⟩ | g
      · obtain ⟨e,he,hh⟩:=h2;exact absurd hh (g e he)
      · exact g
    rcases getI_gE x.cls A with ⟨g1,g2⟩ | ⟨e0,g1,g2,g3⟩
    · refine om_look (by simp only[Kc,simprocAttr]<;>exact rfl) (by simp only[Kc,simprocAttr]<;>exact rfl) kz104 hA.top ?_
      rw[g1]
      repeat' (first|(((refine mre ?_);intro K hK) ;simp (disch:=omega) only[Ac,↓Pc,simprocAttr,im105,Option.getD_none,Option.isNone_none,Mc])|(with_reducible refine gO ?_;simp (disch:=omega) only[Ac,↓Pc,simprocAttr,im105,Option.getD_none,Option.isNone_none,Mc])|(refine hK _ _ ?_;clear hK K)|(refine mc (fun ht=>?_) (fun ht=>?_)<;>(try simp only[DEc,simprocAttr] at ht)))
      refine om_make fun b hb=>?_
      (with_reducible refine gO ?_;simp (disch:=omega) only[Ac,↓Pc,simprocAttr,Mc])
      refine om_upd (by simp only[Kc,simprocAttr]<;>exact rfl) (by simp only[Kc,simprocAttr]<;>exact rfl) (by simp only[Kc,simprocAttr]<;>exact rfl) km104 (by rw[updM_ne _ _ (fun e=>by rw[← e,hA.top] at hb;cases hb)];exact hA.top) ?_
      have hA1:=hA.new hx.1 g2 hb
      obtain ⟨e1,k1,k2,k3⟩:=fin _ _ hA1 ⟨(x.cls,b,[]),by simp,rfl⟩
      repeat' (first|(((refine mre ?_);intro K hK) ;simp (disch:=omega) only[Ac,↓Pc,simprocAttr,hxx,Mc])|(refine hK _ _ ?_;clear hK K)|((refine hn _ _ ?_);clear hn he;try clear Q))
      refine om_look (by simp only[Kc,simprocAttr]<;>exact rfl) (by simp only[Kc,simprocAttr]<;>exact rfl) kz104 hA1.top ?_
      rw[k3]
      (with_reducible refine gO ?_;simp (disch:=omega) only[Ac,↓Pc,simprocAttr,hxx,Option.getD_some,Mc])
      refine om_upd (by simp only[Kc,simprocAttr]<;>exact rfl) (by simp only[Kc,simprocAttr]<;>exact rfl) (by simp only[Kc,simprocAttr]<;>exact rfl) km105 (hA1.sub e1 k1) ?_
      repeat' (first|(((refine mre ?_);intro K hK) ;simp (disch:=omega) only[Ac,↓Pc,simprocAttr,Mc])|(refine hK _ _ ?_;clear hK K)|((refine hn _ _ ?_);clear hn he;try clear Q)|((refine hnb _ _ ?_);clear hnb hxb heb;try clear Qb)|with_reducible refine And.intro ?_ ?_|omega)
      exact hnl _ _ (k+1) ⟨by omega,_,by rw[htk];exact hA1.put k1 k2⟩ (by omega) (by (refine TurnsM.se [0] false (by simp only[Oc,simprocAttr]) ?_;simp only[Hr,↓reduceIte,reduceEqDiff,Nat.reduceBEq,reduceAdd];try (and_intros<;>first|exact .pure rfl|exact .eq rfl|exact .fz rfl (by simp only[Bc,Rc]))))
    · refine om_look (by simp only[Kc,simprocAttr]<;>exact rfl) (by simp only[Kc,simprocAttr]<;>exact rfl) kz104 hA.top ?_
      rw[g3]
      repeat' (first|(((refine mre ?_);intro K hK) ;simp (disch:=omega) only[Ac,↓Pc,simprocAttr,im105,Option.getD_some,Option.isNone_some,Mc])|(with_reducible refine gO ?_;simp (disch:=omega) only[Ac,↓Pc,simprocAttr,im105,Option.getD_some,Option.isNone_some,Mc])|(refine hK _ _ ?_;clear hK K)|(refine mc (fun ht=>?_) (fun ht=>?_)<;>(try simp only[DEc,simprocAttr] at ht))|refine WM_z rfl ?_|((refine hn _ _ ?_);clear hn he;try clear Q))
      refine om_look (by simp only[Kc,simprocAttr]<;>exact rfl) (by simp only[Kc,simprocAttr]<;>exact rfl) kz104 hA.top ?_
      rw[g3]
      (with_reducible refine gO ?_;simp (disch:=omega) only[Ac,↓Pc,simprocAttr,hxx,Option.getD_some,Mc])
      refine om_upd (by simp only[Kc,simprocAttr]<;>exact rfl) (by simp only[Kc,simprocAttr]<;>exact rfl) (by simp only[Kc,simprocAttr]<;>exact rfl) km105 (hA.sub e0 g1) ?_
      repeat' (first|(((refine mre ?_);intro K hK) ;simp (disch:=omega) only[Ac,↓Pc,simprocAttr,Mc])|(refine hK _ _ ?_;clear hK K)|((refine hn _ _ ?_);clear hn he;try clear Q)|((refine hnb _ _ ?_);clear hnb hxb heb;try clear Qb)|with_reducible refine And.intro ?_ ?_|omega)
      exact hnl _ _ (k+1) ⟨by omega,_,by rw[htk];exact hA.put g1 g2⟩ (by omega) (by (refine TurnsM.se [0] false (by simp only[Oc,simprocAttr]) ?_;simp only[Hr,↓reduceIte,reduceEqDiff,Nat.reduceBEq,reduceAdd];try (and_intros<;>first|exact .pure rfl|exact .eq rfl|exact .fz rfl (by simp only[Bc,Rc]))))
  · rw[List.take_of_length_le (by omega)] at hA
    repeat' (first|(((refine mr ?_);intro K hK) ;simp (disch:=omega) only[Ac,↓Pc,simprocAttr,Mc])|(refine hK _ _ ?_;clear hK K)|(refine mc (fun ht=>?_) (fun ht=>?_)<;>(try simp only[DEc,simprocAttr] at ht))|refine WM_z rfl ?_|(refine WM_block ?_;intro Qb hnb hxb heb)|(refine WM_k ?_;intro Q hn he)|((first|refine hn _ _ ?_|refine he _ _ _ rfl ?_);clear hn he;try clear Q)|with_reducible refine And.intro ?_ ?_|omega)
    refine hel _ _ _ rfl ?_;clear hnl hel Ql
    repeat (first|((refine hn _ _ ?_);clear hn he;try clear Q)|((refine hxb _ _ ?_);clear hnb hxb heb;try clear Qb))
    repeat' (first|(((refine mr ?_);intro K hK) ;simp (disch:=omega) only[Ac,↓Pc,simprocAttr,Mc])|(refine hK _ _ ?_;clear hK K)|(refine WM_k ?_;intro Q hn he))
    have hcA:=hA.rng
    have hsum:=hA.sum
    have hwt:∀ x∈c.loads,1≤x.wt∧x.wt≤1000:=fun x hx=>(hc x hx).2
    have hsr:=lowS_rg hwt left
    generalize hf:(fun j:Nat=>lowC c.loads (A.getD j (0,0,[])).1 (left.getD (A.getD j (0,0,[])).1.toNat []))=f
    have hf1:∀ j,lowC c.loads (A.getD j (0,0,[])).1 (left.getD (A.getD j (0,0,[])).1.toNat [])=f j:=fun j=>by rw[← hf]
    have hfr:∀ j,0≤f j∧f j≤1000:=fun j=>by rw[← hf1];exact lowC_rg hwt _ _
    have hAl:A.length≤left.length:=hA.len
    refine om_range (by simp only[Kc,simprocAttr]<;>exact rfl) im104 hA.top fun r hr=>?_
    repeat' (first|(refine hK _ _ ?_;clear hK K)|(refine WM_block ?_;intro Qb hnb hxb heb))
    refine WM_loop (fun seen:List Nat=>(⟨slots [(1,.tree 1 (rowsOf eBs left)),(2,.ptr 0 0 0),(8,.lit (.int .i64 (sumI f seen A.length))),(42,.lit (.pointer (some ⟨r,0,none⟩)))],[.var (eCt c)]⟩:St))
      (fun seen m=>GI left.length c.loads A b0 m∧m r=some (.iter b0 A.length seen)) (fun seen=>leftN seen A.length) [] ⟨hA.other _ (fun l=>by rw[hr];simp),by rw[updM_same,gE_length]⟩ (by (refine TurnsM.slots _ _ rfl ?_;simp only[Tc,↓reduceIte,reduceEqDiff,Nat.reduceBEq,reduceAdd,sumI_nil];try trivial)) ?_
    rintro seen m1 ⟨hA1,hr1⟩ Ql hnl hel
    (((refine mr ?_);intro K hK) ;simp (disch:=omega) only[Ac,↓Pc,simprocAttr,Mc])
    refine om_next (b:=b0) (seen:=seen) (ents:=iE (gE A)) (by simp only[Kc,simprocAttr]<;>exact rfl) (by rw[gE_length];exact hr1) hA1.top (fun hall=>?_) (fun j p hp hj=>?_)
    · rw[gE_length] at hall
      rw[sumI_all hall,← hf,sumN_sumA (fun c'=>lowC c.loads c' (left.getD c'.toNat [])),hsum]
      repeat' (first|(with_reducible refine gO ?_;simp (disch:=omega) only[Ac,↓Pc,simprocAttr,Mc])|(refine hK _ _ ?_;clear hK K)|(refine mc (fun ht=>?_) (fun ht=>?_)<;>(try simp only[DEc,simprocAttr] at ht))|refine WM_z rfl ?_|(refine WM_k ?_;intro Q hn he)|((refine he _ _ _ rfl ?_);clear hn he;try clear Q))
      refine hel _ _ _ rfl ?_;clear hnl hel Ql
      repeat (first|((refine hn _ _ ?_);clear hn he;try clear Q)|((refine hxb _ _ ?_);clear hnb hxb heb;try clear Qb))
      repeat' (first|(((refine mr ?_);intro K hK) ;simp (disch:=omega) only[Ac,↓Pc,simprocAttr,Mc])|(refine callK_pure (excess_ok c (lowS c.loads 0 left 0) hm (by omega) hsr.1 hp) rfl rfl ?_)|(refine hK _ _ ?_;clear hK K)|refine WM_z rfl ?_)
      refine Xe ?_;first|refine RetOK_pure' rfl ?_|refine Xl ?_ ?_
      rfl
    · rw[iE_get,gE_get] at hp
      cases he:A[j]? with
      | none=>rw[he] at hp;simp at hp
      | some e =>
        rw[he] at hp
        simp only[Option.map_some,Option.some.injEq] at hp
        subst hp
        have hjl:=(List.getElem?_eq_some_iff.1 he).1
        have hea:A.getD j (0,0,[])=e:=by rw[List.getD_eq_getElem?_getD,he];rfl
        have heA:e∈A:=List.mem_of_getElem? he
        obtain ⟨hc0,hc1⟩:=hcA e heA
        have hfj:=hf1 j
        rw[hea] at hfj
        have hval:=hA1.val e heA
        have hsub:=hA1.sub e heA
        have hrl:=hrow _ (getD_mem (l:=left) (i:=e.1.toNat) (d:=[]) (by omega))
        have hsi:=sumI_rg (f:=f) (B:=1000) (seen:=seen) (n:=A.length) (by omega) fun i _=>hfr i
        have hst:=sumI_step (f:=f) hjl hj
        have hlt:=leftN_step hjl hj
        generalize hro:left.getD e.1.toNat []=row at *
        have hro':left.getD e.1.toNat default=row:=hro
        repeat' (first|(((refine mr ?_);intro K hK) ;simp (disch:=omega) only[Ac,↓Pc,simprocAttr,Mc])|(with_reducible refine gO ?_;simp (disch:=omega) only[Ac,↓Pc,simprocAttr,Mc])|(refine hK _ _ ?_;clear hK K)|(refine mc (fun ht=>?_) (fun ht=>?_)<;>(try simp only[DEc,simprocAttr] at ht))|refine WM_z rfl ?_|(refine WM_block ?_;intro Qb hnb hxb heb)|(refine WM_k ?_;intro Q hn he)|((refine hn _ _ ?_);clear hn he;try clear Q))
        refine om_entry (seen:=seen) (j:=j) (b:=b0) (ents:=iE (gE A)) (q:=(.int .i64 e.1,.map (some e.2.1))) (by simp only[Kc,simprocAttr]<;>exact rfl) (updM_same _ _ _) (by rw[updM_ne _ _ (fun e2=>by rw[← e2,hA1.top] at hr1;cases hr1)];exact hA1.top) (by rw[iE_get,gE_get,he];rfl) ?_
        repeat' (first|(((refine mr ?_);intro K hK) ;simp (disch:=omega) only[Ac,↓Pc,simprocAttr,hro',eBs,Mc])|(with_reducible refine gO ?_;simp (disch:=omega) only[Ac,↓Pc,simprocAttr,hro',eBs,Mc])|(refine hK _ _ ?_;clear hK K)|(refine WM_block ?_;intro Qb hnb hxb heb)|(refine WM_k ?_;intro Q hn he)|with_reducible refine And.intro ?_ ?_|omega)
        generalize hm2:updM m1 r (.iter b0 (iE (gE A)).length (seen++[j]))=m2
        have hr2:m2 r=some (.iter b0 A.length (seen++[j])):=by rw[← hm2,updM_same,gE_length]
        have hA2:GI left.length c.loads A b0 m2:=by rw[← hm2];exact hA1.other _ fun l=>by rw[hr1];simp
        have hsub2:=hA2.sub e heA
        clear hsub
        refine WM_loop (fun o:Nat=>(⟨slots [(1,.tree 1 (rowsOf eBs left)),(2,.ptr 0 0 0),(8,.lit (.int .i64 (sumI f seen A.length))),(42,.lit (.pointer (some ⟨r,0,none⟩))),(10,.lit (.map (some e.2.1))),(11,.lit (.int .i64 (lowW c.loads e.1 0 (row.take o) (-1)))),(51,.tree 1 (bools row)),(52,.lit (.int .i64 row.length)),(53,.lit (.int .i64 o))],[.var (eCt c)]⟩:St))
          (fun o m=>o≤row.length∧m=m2) (fun o=>row.length - o) 0 ⟨Nat.zero_le _,rfl⟩ (by (refine TurnsM.slots _ _ rfl ?_;simp only[Tc,↓reduceIte,reduceEqDiff,Nat.reduceBEq,reduceAdd,List.take_zero,lowW];try trivial)) ?_
        rintro o m3 ⟨ho,rfl⟩ Ql2 hnl2 hel2
        have hb:=lowW_rg hwt e.1 (row.take o) 0 (-1) (by omega)
        by_cases ho':o<row.length
        · have htk:lowW c.loads e.1 0 (row.take (o+1)) (-1)=if row.getD o false=true∧(lowW c.loads e.1 0 (row.take o) (-1)<0∨wlV c.loads e.1 o 0<lowW c.loads e.1 0 (row.take o) (-1)) then wlV c.loads e.1 o 0 else lowW c.loads e.1 0 (row.take o) (-1):=by
            rw[List.take_succ_eq_append_getElem ho',lowW_snoc,List.getD_eq_getElem?_getD,List.getElem?_eq_getElem ho',List.length_take,Nat.min_eq_left (by omega),Nat.zero_add];rfl
          have hw:=wlV_rg hwt e.1 o 0 (by omega)
          have hv:=hval o
          generalize lowW c.loads e.1 0 (row.take o) (-1)=b at *
          generalize wlV c.loads e.1 o 0=w at *
          generalize hiss:row.getD o false=is at *
          repeat' (first|(((refine mr ?_);intro K hK) ;simp (disch:=omega) only[Ac,↓Pc,simprocAttr,hiss,Mc])|(refine hK _ _ ?_;clear hK K)|(refine mc (fun ht=>?_) (fun ht=>?_)<;>(try simp only[DEc,simprocAttr] at ht))|refine WM_z rfl ?_|(refine WM_block ?_;intro Qb hnb hxb heb)|(refine WM_k ?_;intro Q hn he)|((first|refine hn _ _ ?_|refine he _ _ _ rfl ?_);clear hn he;try clear Q)|with_reducible refine And.intro ?_ ?_|omega)
          refine om_look (by simp only[Kc,simprocAttr]<;>exact rfl) (by simp only[Kc,simprocAttr]<;>exact rfl) kz105 hsub2 ?_
          rw[getI_vE,hv]
          repeat' (first|(((first|refine mr ?_|refine mre ?_);intro K hK) ;simp (disch:=omega) only[Ac,↓Pc,simprocAttr,hiss,Mc])|(with_reducible refine gO ?_;simp (disch:=omega) only[Ac,↓Pc,simprocAttr,hiss,Mc])|(refine hK _ _ ?_;clear hK K)|(with_reducible refine gS (fun hb'=>?_) (fun hb'=>?_)<;>(have hb:=hb';(try simp only[DEc,simprocAttr] at hb);simp (disch:=omega) only[Ac,↓Pc,simprocAttr,hiss,Mc,hb'];clear hb'))|(refine mc (fun ht=>?_) (fun ht=>?_)<;>(try simp only[DEc,simprocAttr] at ht))|refine WM_z rfl ?_|((refine hn _ _ ?_);clear hn he;try clear Q)|((refine hnb _ _ ?_);clear hnb hxb heb;try clear Qb)|with_reducible refine And.intro ?_ ?_|omega)
          all_goals
            refine hnl2 _ _ (o+1) ⟨by omega,rfl⟩ (by omega) ?_
            simp only[htk]
            first
              | rw[if_pos ⟨by assumption,by omega⟩]
              | rw[if_neg (by rintro ⟨h1,h2⟩;first|omega|(simp only[h1] at *;contradiction)|simp_all)]
            (refine TurnsM.slots _ _ rfl ?_;simp only[Tc,↓reduceIte,reduceEqDiff,Nat.reduceBEq,reduceAdd];try trivial)
        · rw[List.take_of_length_le (by omega)] at hb
          have hlc:max (lowW c.loads e.1 0 row (-1)) 0=f j:=hfj
          repeat' (first|(((refine mr ?_);intro K hK) ;simp (disch:=omega) only[Ac,↓Pc,simprocAttr,List.take_of_length_le (show row.length≤o by omega),Mc])|(refine hK _ _ ?_;clear hK K)|(refine mc (fun ht=>?_) (fun ht=>?_)<;>(try simp only[DEc,simprocAttr] at ht))|refine WM_z rfl ?_|(refine WM_block ?_;intro Qb hnb hxb heb)|(refine WM_k ?_;intro Q hn he)|((first|refine hn _ _ ?_|refine he _ _ _ rfl ?_);clear hn he;try clear Q)|with_reducible refine And.intro ?_ ?_|omega)
          refine hel2 _ _ _ rfl ?_
          clear hnl2 hel2 Ql2
          repeat (first|((refine hn _ _ ?_);clear hn he;try clear Q)|((refine hxb _ _ ?_);clear hnb hxb heb;try clear Qb))
          repeat' (first|(((refine mre ?_);intro K hK) ;simp (disch:=omega) only[Ac,↓Pc,simprocAttr,Mc])|(refine hK _ _ ?_;clear hK K)|((refine hnb _ _ ?_);clear hnb hxb heb;try clear Qb)|with_reducible refine And.intro ?_ ?_|omega)
          exact hnl _ _ (seen++[j]) ⟨hA2,hr2⟩ hlt (by simp only[hst,← hlc];(refine TurnsM.slots _ _ rfl ?_;simp only[Tc,↓reduceIte,reduceEqDiff,Nat.reduceBEq,reduceAdd];try trivial))
theorem u64min:IntKind.u64.min=0:=rfl
theorem u64max:IntKind.u64.max=18446744073709551615:=rfl
theorem u64bits:IntKind.u64.bits=64:=rfl
theorem p32:(2:Int) ^ (32:Nat)=4294967296:=rfl
theorem wrapU {n:Int} (h:0≤n∧n≤18446744073709551615):IntKind.u64.wrap n=n:=wrap_in h
theorem wrapI {n:Int} (h : -9223372036854775808≤n∧n≤9223372036854775807):IntKind.i64.wrap n=n:=wrap_in h
theorem andU {a:Int} (h:0≤a∧a≤18446744073709551615):andK .u64 a 4294967295=a % 4294967296:=by
  unfold andK
  have e:(BitVec.ofInt IntKind.u64.bits a &&& BitVec.ofInt IntKind.u64.bits 4294967295).toNat=a.toNat % 4294967296:=by
    rw[BitVec.toNat_and,BitVec.toNat_ofInt,BitVec.toNat_ofInt]
    have h1:(a % ((2 ^ IntKind.u64.bits:Nat):Int)).toNat=a.toNat:=by rw[Int.emod_eq_of_lt h.1 (by show a<18446744073709551616;omega)]
    have h2:((4294967295:Int) % ((2 ^ IntKind.u64.bits:Nat):Int)).toNat=2 ^ 32 - 1:=by decide
    rw[h1,h2,Nat.and_two_pow_sub_one_eq_mod]
  rw[e]
  rw[wrap_in (by simp only[u64min,u64max];omega)]
  omega
theorem unI:Tryz.prog.underlying 3=some (.int .i64):=by kernel_rfl
theorem unU:Tryz.prog.underlying 193=some (.int .u64):=by kernel_rfl
theorem mul64_ok (y:Int) (hy:0≤y∧y≤9223372036854775807):Holds Tryz.prog 148 [.lit (.int .u64 1),.lit (.int .u64 y)] [] (.tup [.lit (.int .u64 0),.lit (.int .u64 y)]) []:=by
  refine Holds.of_body' (fn:=Tryz.f148) 51 0 [.tmp 4,.tmp 5] Tryz.func148 rfl rfl rfl rfl rfl (by simp) ?_
  refine Vb (X5 @u64min @u64max @u64bits @p32 (X3 @andU @Int.one_mul @Int.zero_mul)) ?_
  refine RetOK_pure' rfl ?_
  congr 3
  all_goals first|rfl|(congr 2;omega)
theorem mul_ok (y:Int) (hy:0≤y∧y≤9223372036854775807):Holds Tryz.prog 140 [.lit (.int .u64 1),.lit (.int .u64 y)] [] (.tup [.lit (.int .u64 0),.lit (.int .u64 y)]) []:=by
  refine Holds.of_body' (fn:=Tryz.f140) 30 0 [.tmp 4,.tmp 5] Tryz.func140 rfl rfl rfl rfl rfl (by simp) ?_
  ((repeat' (first|refine Vd (X2 @u64min @u64max) (mul64_ok y hy) ?_|(refine Xi ?_ ?_<;>try intro ht)|exact Xx|fail)))
  exact RetOK_pure' rfl rfl
end T

