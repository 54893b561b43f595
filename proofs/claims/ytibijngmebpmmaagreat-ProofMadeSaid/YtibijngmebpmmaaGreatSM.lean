import Derived.Test.YtibijngmebpmmaaGreatSA
import Derived.Test.YtibijngmebpmmaaGreatAmJ
set_option linter.unusedVariables false
set_option linter.unusedSimpArgs false
set_option linter.unnecessarySimpa false
open Go Go.Am
namespace T
def wlV:List Ld→Int→Int→Int→Int
  | [],_,_,w=>w
  | x::r,c,o,w=>wlV r c o (if x.cls=c∧x.opt=o then x.wt else w)
def lowW (l:List Ld) (c:Int):Nat→List Bool→Int→Int
  | _,[],b=>b
  | o,is::r,b=>lowW l c (o+1) r (if is=true∧(b<0∨wlV l c o 0<b) then wlV l c o 0 else b)
def lowC (l:List Ld) (c:Int) (row:List Bool):Int:=max (lowW l c 0 row (-1)) 0
def lowS (l:List Ld):Nat→List (List Bool)→Int→Int
  | _,[],n=>n
  | i,row::r,n=>lowS l (i+1) r (n+lowC l i row)
def leastV (left:List (List Bool)) (c:Ct):Int:=excV c.most c.pen (lowS c.loads 0 left 0)
theorem wlV_snoc (l:List Ld) (x:Ld) (c o:Int):∀ w,wlV (l++[x]) c o w=if x.cls=c∧x.opt=o then x.wt else wlV l c o w:=by
  induction l with
  | nil=>intro w;rfl
  | cons y r ih=>intro w;exact ih _
theorem wlV_none:∀ {l:List Ld} {c:Int} (o w:Int),(∀ x∈l,x.cls≠c)→wlV l c o w=w
  | [],_,_,_,_=>rfl
  | x::r,c,o,w,h=>by
    rw[wlV,if_neg (fun e=>h x (by simp) e.1)]
    exact wlV_none o w fun y hy=>h y (by simp[hy])
theorem wlV_rg {l:List Ld} (h:∀ x∈l,1≤x.wt∧x.wt≤1000) (c o:Int):∀ w,0≤w∧w≤1000→0≤wlV l c o w∧wlV l c o w≤1000:=by
  induction l with
  | nil=>intro w hw;exact hw
  | cons x r ih =>
    intro w hw
    rw[wlV]
    refine ih (fun y hy=>h y (by simp[hy])) _ ?_
    have:=h x (by simp)
    split<;>omega
theorem lowW_none {l:List Ld} {c:Int} (h:∀ x∈l,x.cls≠c):∀ (row:List Bool) (o:Nat) (b:Int),-1≤b∧b≤0→-1≤lowW l c o row b∧lowW l c o row b≤0
  | [],_,b,hb=>hb
  | is::r,o,b,hb=>by
    rw[lowW]
    refine lowW_none h r (o+1) _ ?_
    rw[wlV_none _ _ h]
    split<;>omega
theorem lowC_none {l:List Ld} {c:Int} (h:∀ x∈l,x.cls≠c) (row:List Bool):lowC l c row=0:=by
  have:=lowW_none h row 0 (-1) (by omega)
  unfold lowC;omega
theorem lowW_rg {l:List Ld} (h:∀ x∈l,1≤x.wt∧x.wt≤1000) (c:Int):∀ (row:List Bool) (o:Nat) (b:Int),-1≤b∧b≤1000→-1≤lowW l c o row b∧lowW l c o row b≤1000
  | [],_,b,hb=>hb
  | is::r,o,b,hb=>by
    rw[lowW]
    refine lowW_rg h c r (o+1) _ ?_
    have:=wlV_rg h c o 0 (by omega)
    split<;>omega
theorem lowC_rg {l:List Ld} (h:∀ x∈l,1≤x.wt∧x.wt≤1000) (c:Int) (row:List Bool):0≤lowC l c row∧lowC l c row≤1000:=by
  have:=lowW_rg h c row 0 (-1) (by omega)
  unfold lowC;omega
def sumN (f:Nat→Int):Nat→Int
  | 0=>0
  | n+1=>sumN f n+f n
theorem sumN_congr {f g:Nat→Int}:∀ (n:Nat),(∀ i<n,f i=g i)→sumN f n=sumN g n
  | 0,_=>rfl
  | n+1,h=>by rw[sumN,sumN,sumN_congr n fun i hi=>h i (by omega),h n (by omega)]
theorem sumN_rg {f:Nat→Int} {B:Int}:∀ (n:Nat),(∀ i<n,0≤f i∧f i≤B)→0≤sumN f n∧sumN f n≤B * n
  | 0,_=>by simp[sumN]
  | n+1,h=>by
    have h1:=sumN_rg n fun i hi=>h i (by omega)
    have h2:=h n (by omega)
    rw[sumN,Int.natCast_add,Int.mul_add]
    simp only[Int.cast_ofNat_Int,Int.mul_one]
    omega
theorem sumN_one (f:Nat→Int) (k:Nat) (v:Int):∀ (n:Nat),sumN (fun i=>if i=k then f i+v else f i) n=sumN f n+if k<n then v else 0
  | 0=>by simp[sumN]
  | n+1=>by
    rw[sumN,sumN,sumN_one f k v n]
    by_cases h:n=k
    · subst h;rw[if_pos rfl,if_neg (by omega),if_pos (by omega)];omega
    · rw[if_neg h]
      by_cases h2:k<n
      · rw[if_pos h2,if_pos (by omega)];omega
      · rw[if_neg h2,if_neg (by omega)];omega
theorem sumN_head (f:Nat→Int):∀ n,sumN f (n+1)=f 0+sumN (fun i=>f (i+1)) n
  | 0=>by simp[sumN]
  | n+1=>by rw[sumN,sumN_head f n,sumN];omega
theorem lowS_eq (l:List Ld):∀ (left:List (List Bool)) (i:Nat) (n:Int),lowS l i left n=n+sumN (fun j=>lowC l (i+j:Nat) (left.getD j [])) left.length
  | [],i,n=>by simp[lowS,sumN]
  | row::r,i,n=>by
    rw[lowS,lowS_eq l r (i+1),List.length_cons,sumN_head]
    simp only[List.getD_cons_zero,List.getD_cons_succ,Nat.add_zero]
    rw[sumN_congr (g:=fun j=>lowC l (i+(j+1):Nat) (r.getD j [])) r.length fun j _=>by rw[show i+1+j=i+(j+1) by omega]]
    omega
theorem lowS_rg {l:List Ld} (h:∀ x∈l,1≤x.wt∧x.wt≤1000) (left:List (List Bool)):0≤lowS l 0 left 0∧lowS l 0 left 0≤1000 * left.length:=by
  rw[lowS_eq,Int.zero_add]
  exact sumN_rg _ fun i _=>lowC_rg h _ _
abbrev Grp:=Int × Nat × List (Int × Int)
def vE (es:List (Int × Int)):List (Int × Value):=es.map fun p=>(p.1,.int .i64 p.2)
def gE (A:List Grp):List (Int × Value):=A.map fun e=>(e.1,.map (some e.2.1))
def setV (o w:Int):List (Int × Int)→List (Int × Int)
  | []=>[(o,w)]
  | p::r=>if p.1=o then (o,w)::r else p::setV o w r
def getV (o:Int):List (Int × Int)→Int
  | []=>0
  | p::r=>if p.1=o then p.2 else getV o r
theorem setI_vE (o w:Int):∀ es,setI o (.int .i64 w) (vE es)=vE (setV o w es)
  | []=>rfl
  | p::r=>by
    show setI o _ ((p.1,Value.int .i64 p.2)::vE r)=_
    rw[setI,setV]
    by_cases h:p.1=o
    · rw[if_pos h,if_pos h];rfl
    · rw[if_neg h,if_neg h,setI_vE o w r];rfl
theorem getI_vE (o:Int):∀ es,(getI o (vE es)).getD (.int .i64 0)=.int .i64 (getV o es)
  | []=>rfl
  | p::r=>by
    show (getI o ((p.1,Value.int .i64 p.2)::vE r)).getD _=_
    rw[getI,getV]
    by_cases h:p.1=o
    · rw[if_pos h,if_pos h];rfl
    · rw[if_neg h,if_neg h,getI_vE o r]
theorem getV_setV (o w x:Int):∀ es,getV x (setV o w es)=if o=x then w else getV x es
  | []=>rfl
  | p::r=>by
    rw[setV]
    by_cases h:p.1=o
    · rw[if_pos h,getV,getV]
      by_cases h2:o=x
      · rw[if_pos h2,if_pos h2]
      · rw[if_neg h2,if_neg h2,if_neg (by omega)]
    · rw[if_neg h,getV,getV,getV_setV o w x r]
      by_cases h2:p.1=x
      · rw[if_pos h2,if_neg (by omega),if_pos h2]
      · rw[if_neg h2,if_neg h2]
theorem getI_gE (c:Int):∀ A:List Grp,(getI c (gE A)=none∧∀ e∈A,e.1≠c)∨∃ e∈A,e.1=c∧getI c (gE A)=some (.map (some e.2.1))
  | []=>.inl ⟨rfl,by simp⟩
  | e::r=>by
    show (getI c ((e.1,Value.map (some e.2.1))::gE r)=none∧_)∨_
    by_cases h:e.1=c
    · right;refine⟨e,by simp,h,?_⟩
      show getI c ((e.1,Value.map (some e.2.1))::gE r)=_
      rw[getI,if_pos h]
    · rcases getI_gE c r with ⟨h1,h2⟩ | ⟨e',h1,h2,h3⟩
      · left;refine⟨by rw[getI,if_neg h];exact h1,fun x hx=>?_⟩
        rcases List.mem_cons.1 hx with rfl | hx
        · exact h
        · exact h2 x hx
      · right;refine⟨e',by simp[h1],h2,?_⟩
        show getI c ((e.1,Value.map (some e.2.1))::gE r)=_
        rw[getI,if_neg h];exact h3
theorem setI_gE (c:Int) (b:Nat):∀ A:List Grp,(∀ e∈A,e.1≠c)→setI c (.map (some b)) (gE A)=gE (A++[(c,b,[])])
  | [],_=>rfl
  | e::r,h=>by
    show setI c _ ((e.1,Value.map (some e.2.1))::gE r)=_
    rw[setI,if_neg (h e (by simp)),setI_gE c b r fun x hx=>h x (by simp[hx])];rfl
structure GI (R:Nat) (dn:List Ld) (A:List Grp) (b0:Nat) (μ:Mem):Prop where
  top:μ b0=some (.map (iE (gE A)))
  sub:∀ e∈A,μ e.2.1=some (.map (iE (vE e.2.2)))
  b0n:∀ e∈A,e.2.1≠b0
  inj:∀ e∈A,∀ e'∈A,e.2.1=e'.2.1→e=e'
  keys:(A.map (·.1)).Nodup
  val:∀ e∈A,∀ o,getV o e.2.2=wlV dn e.1 o 0
  has:∀ x∈dn,∃ e∈A,e.1=x.cls
  rng:∀ e∈A,0≤e.1∧e.1<R
theorem GI.nil {R b0:Nat} {μ:Mem} (h:μ b0=some (.map [])):GI R [] [] b0 μ:=⟨h,by simp,by simp,by simp,by simp,by simp,by simp,by simp⟩
theorem GI.new {R:Nat} {dn:List Ld} {A:List Grp} {b0:Nat} {μ:Mem} (h:GI R dn A b0 μ) {c:Int} (hcR:0≤c∧c<R) (hc:∀ e∈A,e.1≠c) {b:Nat} (hb:μ b=none):GI R dn (A++[(c,b,[])]) b0 (updM (updM μ b (.map [])) b0 (.map (iE (setI c (.map (some b)) (gE A))))):=by
  have hb0:b≠b0:=fun e=>by rw[e,h.top] at hb;cases hb
  have hbe:∀ e∈A,e.2.1≠b:=fun e he e2=>by have:=h.sub e he;rw[e2,hb] at this;cases this
  refine⟨by rw[updM_same,setI_gE c b A hc],fun e he=>?_,fun e he=>?_,fun e he e' he' hh=>?_,?_,fun e he o=>?_,fun x hx=>?_,fun e he=>?_⟩
  · rcases List.mem_append.1 he with he | he
    · rw[updM_ne _ _ (h.b0n e he),updM_ne _ _ (hbe e he)];exact h.sub e he
    · simp only[List.mem_singleton] at he;subst he
      rw[updM_ne _ _ hb0,updM_same];rfl
  · rcases List.mem_append.1 he with he | he
    · exact h.b0n e he
    · simp only[List.mem_singleton] at he;subst he;exact hb0
  · rcases List.mem_append.1 he with he | he<;>rcases List.mem_append.1 he' with he' | he'
    · exact h.inj e he e' he' hh
    · simp only[List.mem_singleton] at he';subst he';exact absurd hh (hbe e he)
    · simp only[List.mem_singleton] at he;subst he;exact absurd hh.symm (hbe e' he')
    · simp only[List.mem_singleton] at he he';rw[he,he']
  · rw[List.map_append,List.nodup_append]
    refine⟨h.keys,by simp,fun a ha b' hb'=>?_⟩
    obtain ⟨e,he,rfl⟩:=List.mem_map.1 ha
    simp only[List.map_cons,List.map_nil,List.mem_singleton] at hb'
    rw[hb'];exact hc e he
  · rcases List.mem_append.1 he with he | he
    · exact h.val e he o
    · simp only[List.mem_singleton] at he;subst he
      rw[wlV_none]
      · rfl
      · intro x hx hxc
        obtain ⟨e,he,hee⟩:=h.has x hx
        exact hc e he (hee.trans hxc)
  · obtain ⟨e,he,hee⟩:=h.has x hx
    exact⟨e,List.mem_append_left _ he,hee⟩
  · rcases List.mem_append.1 he with he | he
    · exact h.rng e he
    · simp only[List.mem_singleton] at he;subst he;exact hcR
def setA (c o w:Int) (A:List Grp):List Grp:=A.map fun e=>if e.1=c then (e.1,e.2.1,setV o w e.2.2) else e
theorem gE_setA (c o w:Int) (A:List Grp):gE (setA c o w A)=gE A:=by
  unfold gE setA
  rw[List.map_map]
  refine List.map_congr_left fun e _=>?_
  simp only[Function.comp]
  split<;>rfl
theorem GI.put {R:Nat} {dn:List Ld} {A:List Grp} {b0:Nat} {μ:Mem} (h:GI R dn A b0 μ) {x:Ld} {e0:Grp} (he0:e0∈A) (hc:e0.1=x.cls):GI R (dn++[x]) (setA x.cls x.opt x.wt A) b0 (updM μ e0.2.1 (.map (iE (setI x.opt (.int .i64 x.wt) (vE e0.2.2))))):=by
  have uniq:∀ e∈A,e.1=x.cls→e=e0:=fun e he hh=>by
    have hk:=h.keys
    obtain ⟨i,hi,rfl⟩:=List.mem_iff_getElem.1 he
    obtain ⟨j,hj,rfl⟩:=List.mem_iff_getElem.1 he0
    have:i=j:=(List.getElem_inj (h₀:=by simpa using hi) (h₁:=by simpa using hj) hk).1 (by simp only[List.getElem_map];rw[hh,hc])
    subst this;rfl
  have one:∀ e∈setA x.cls x.opt x.wt A,(e=(e0.1,e0.2.1,setV x.opt x.wt e0.2.2))∨(e∈A∧e.1≠x.cls):=fun e he=>by
    obtain ⟨e',he',rfl⟩:=List.mem_map.1 he
    by_cases hh:e'.1=x.cls
    · left;rw[if_pos hh,uniq e' he' hh]
    · right;rw[if_neg hh];exact⟨he',hh⟩
  have hbe:∀ e∈A,e.1≠x.cls→e.2.1≠e0.2.1:=fun e he hh e2=>hh (by rw[h.inj e he e0 he0 e2,hc])
  refine⟨by rw[updM_ne _ _ (h.b0n e0 he0).symm,gE_setA];exact h.top,fun e he=>?_,fun e he=>?_,fun e he e' he' hh=>?_,?_,fun e he o=>?_,fun y hy=>?_,fun e he=>?_⟩
  · rcases one e he with rfl | ⟨h1,h2⟩
    · rw[updM_same,setI_vE]
    · rw[updM_ne _ _ (hbe e h1 h2)];exact h.sub e h1
  · rcases one e he with rfl | ⟨h1,h2⟩
    · exact h.b0n e0 he0
    · exact h.b0n e h1
  · rcases one e he with rfl | ⟨h1,h2⟩<;>rcases one e' he' with rfl | ⟨h3,h4⟩
    · rfl
    · exact absurd hh.symm (hbe e' h3 h4)
    · exact absurd hh (hbe e h1 h2)
    · exact h.inj e h1 e' h3 hh
  · have:(setA x.cls x.opt x.wt A).map (·.1)=A.map (·.1):=by
      unfold setA
      rw[List.map_map]
      refine List.map_congr_left fun e _=>?_
      simp only[Function.comp]
      split<;>rfl
    rw[this];exact h.keys
  · rw[wlV_snoc]
    rcases one e he with rfl | ⟨h1,h2⟩
    · dsimp only
      rw[getV_setV,h.val e0 he0 o]
      by_cases ho:x.opt=o
      · rw[if_pos ho,if_pos ⟨hc.symm,ho⟩]
      · rw[if_neg ho,if_neg (fun e=>ho e.2)]
    · rw[if_neg (fun e=>h2 e.1.symm)];exact h.val e h1 o
  · have mem:∀ e∈A,∃ e'∈setA x.cls x.opt x.wt A,e'.1=e.1:=fun e he=>⟨_,List.mem_map_of_mem he,by split<;>rfl⟩
    rcases List.mem_append.1 hy with hy | hy
    · obtain ⟨e,he,hee⟩:=h.has y hy
      obtain ⟨e',k1,k2⟩:=mem e he
      exact⟨e',k1,k2.trans hee⟩
    · simp only[List.mem_singleton] at hy;subst hy
      obtain ⟨e',k1,k2⟩:=mem e0 he0
      exact⟨e',k1,k2.trans hc⟩
  · rcases one e he with rfl | ⟨h1,h2⟩
    · exact h.rng e0 he0
    · exact h.rng e h1
def sumA (f:Int→Int):List Grp→Int
  | []=>0
  | e::r=>f e.1+sumA f r
theorem sumA_classes (f:Int→Int) (n:Nat):∀ A:List Grp,(A.map (·.1)).Nodup→(∀ e∈A,0≤e.1∧e.1<n)→sumA f A=sumN (fun i=>if∃e∈A,e.1=(i:Int) then f i else 0) n
  | [],_,_=>by
    rw[sumN_congr (g:=fun _=>0) n (fun i _=>by simp)]
    have:∀ n,sumN (fun _=>0) n=0:=fun n=>by induction n with | zero=>rfl | succ n ih=>rw[sumN,ih];rfl
    rw[this];rfl
  | e::r,hn,hr=>by
    rw[List.map_cons,List.nodup_cons] at hn
    rw[sumA,sumA_classes f n r hn.2 fun x hx=>hr x (by simp[hx])]
    have h0:=hr e (by simp)
    have hnot:¬∃x∈r,x.1=((e.1.toNat:Nat):Int):=by
      rintro ⟨x,hx,hh⟩
      rw[Int.toNat_of_nonneg h0.1] at hh
      exact hn.1 (List.mem_map.2 ⟨x,hx,hh⟩)
    have:=sumN_one (fun i=>if∃x∈r,x.1=(i:Int) then f i else 0) e.1.toNat (f e.1) n
    rw[if_pos (by omega)] at this
    rw[Int.add_comm,← this]
    refine sumN_congr n fun i hi=>?_
    by_cases h:i=e.1.toNat
    · subst h
      rw[if_pos rfl,if_neg hnot,if_pos ⟨e,by simp,by omega⟩,Int.toNat_of_nonneg h0.1];omega
    · rw[if_neg h]
      have:(∃ x∈e::r,x.1=(i:Int))↔∃ x∈r,x.1=(i:Int):=by
        constructor
        · rintro ⟨x,hx,hh⟩
          rcases List.mem_cons.1 hx with rfl | hx
          · omega
          · exact⟨x,hx,hh⟩
        · rintro ⟨x,hx,hh⟩;exact⟨x,by simp[hx],hh⟩
      simp only[this]
theorem sumA_one:∀ A:List Grp,sumA (fun _=>1) A=A.length
  | []=>rfl
  | e::r=>by rw[sumA,sumA_one r,List.length_cons];omega
theorem GI.len {R:Nat} {dn:List Ld} {A:List Grp} {b0:Nat} {μ:Mem} (h:GI R dn A b0 μ):A.length≤R:=by
  have h1:=sumA_classes (fun _=>1) R A h.keys h.rng
  rw[sumA_one] at h1
  have h2:=sumN_rg (f:=fun i=>if∃e∈A,e.1=(i:Int) then (1:Int) else 0) (B:=1) R fun i _=>by split<;>omega
  omega
theorem GI.sum {dn:List Ld} {A:List Grp} {b0:Nat} {μ:Mem} {left:List (List Bool)} (h:GI left.length dn A b0 μ):sumA (fun c=>lowC dn c (left.getD c.toNat [])) A=lowS dn 0 left 0:=by
  rw[sumA_classes _ left.length A h.keys h.rng,lowS_eq,Int.zero_add]
  refine sumN_congr _ fun i _=>?_
  simp only[Nat.zero_add,Int.toNat_natCast]
  by_cases hh :∃e∈A,e.1=(i:Int)
  · rw[if_pos hh]
  · rw[if_neg hh,lowC_none]
    intro x hx hxc
    obtain ⟨e,he,hee⟩:=h.has x hx
    exact hh ⟨e,he,hee.trans hxc⟩
def sumI (f:Nat→Int) (seen:List Nat) (n:Nat):Int:=sumN (fun i=>if i∈seen then f i else 0) n
def leftN (seen:List Nat) (n:Nat):Nat:=(sumN (fun i=>if i∈seen then 0 else 1) n).toNat
theorem sumI_step {f:Nat→Int} {seen:List Nat} {n j:Nat} (hj:j<n) (hs:j ∉ seen):sumI f (seen++[j]) n=sumI f seen n+f j:=by
  unfold sumI
  have:=sumN_one (fun i=>if i∈seen then f i else 0) j (f j) n
  rw[if_pos hj] at this
  rw[← this]
  refine sumN_congr n fun i _=>?_
  by_cases h:i=j
  · subst h;rw[if_pos (by simp),if_pos rfl,if_neg hs];omega
  · rw[if_neg h]
    simp[h]
theorem leftN_step {seen:List Nat} {n j:Nat} (hj:j<n) (hs:j ∉ seen):leftN (seen++[j]) n<leftN seen n:=by
  unfold leftN
  have h1:=sumN_one (fun i=>if i∈seen then (0:Int) else 1) j (-1) n
  rw[if_pos hj] at h1
  have h2:sumN (fun i=>if i∈seen++[j] then (0:Int) else 1) n=sumN (fun i=>if i=j then (if i∈seen then 0 else 1)+-1 else if i∈seen then 0 else 1) n:=by
    refine sumN_congr n fun i _=>?_
    by_cases h:i=j
    · subst h;rw[if_pos (by simp),if_pos rfl,if_neg hs];rfl
    · rw[if_neg h];simp[h]
  have h3:=(sumN_rg (f:=fun i=>if i∈seen++[j] then (0:Int) else 1) (B:=1) n fun i _=>by split<;>omega).1
  omega
theorem sumI_all {f:Nat→Int} {seen:List Nat} {n:Nat} (h:∀ j<n,j∈seen):sumI f seen n=sumN f n:=sumN_congr n fun i hi=>if_pos (h i hi)
theorem sumI_nil (f:Nat→Int) (n:Nat):sumI f [] n=0:=by
  unfold sumI
  rw[sumN_congr (g:=fun _=>0) n (fun i _=>by simp)]
  induction n with | zero=>rfl | succ n ih=>rw[sumN,ih];rfl
theorem sumN_sumA (f:Int→Int):∀ A:List Grp,sumN (fun j=>f (A.getD j (0,0,[])).1) A.length=sumA f A
  | []=>rfl
  | e::r=>by
    rw[List.length_cons,sumN_head,sumA]
    simp only[List.getD_cons_zero,List.getD_cons_succ]
    rw[sumN_sumA f r]
theorem sumI_rg {f:Nat→Int} {B:Int} {seen:List Nat} {n:Nat} (hB:0≤B) (h:∀ i<n,0≤f i∧f i≤B):0≤sumI f seen n∧sumI f seen n≤B * n :=
  sumN_rg n fun i hi=>by have:=h i hi;split<;>omega
theorem iE_get (L:List (Int × Value)) (j:Nat):(iE L)[j]?=L[j]?.map fun p=>(.int .i64 p.1,p.2):=by simp[iE]
theorem gE_get (A:List Grp) (j:Nat):(gE A)[j]?=A[j]?.map fun e=>(e.1,.map (some e.2.1)):=by simp[gE]
theorem gE_length (A:List Grp):(iE (gE A)).length=A.length:=by simp[gE,iE]
theorem GI.other {R:Nat} {dn:List Ld} {A:List Grp} {b0:Nat} {μ:Mem} (h:GI R dn A b0 μ) {r:Nat} (g:Gh) (hr:∀ l,μ r≠some (.map l)):GI R dn A b0 (updM μ r g) :=
  ⟨by rw[updM_ne _ _ (fun e=>hr _ (e ▸ h.top))];exact h.top,fun e he=>by rw[updM_ne _ _ (fun e2=>hr _ (e2 ▸ h.sub e he))];exact h.sub e he,h.b0n,h.inj,h.keys,h.val,h.has,h.rng⟩
theorem lowW_snoc (l:List Ld) (c:Int) (is:Bool):∀ (row:List Bool) (i:Nat) (b:Int),lowW l c i (row++[is]) b =
    if is=true∧(lowW l c i row b<0∨wlV l c (i+row.length:Nat) 0<lowW l c i row b) then wlV l c (i+row.length:Nat) 0 else lowW l c i row b
  | [],i,b=>rfl
  | x::r,i,b=>by
    show lowW l c (i+1) (r++[is]) _=_
    rw[lowW_snoc l c is r (i+1),lowW,List.length_cons,show i+1+r.length=i+(r.length+1) by omega]
end T
open Go Go.Am
namespace T
def FitsP (m:Mdl) (left:List (List Bool)):Prop:=left.length=m.cls.length∧∀ i,i<left.length→(left.getD i default).length=(m.cls.getD i default).length
instance (m:Mdl) (left:List (List Bool)):Decidable (FitsP m left):=by unfold FitsP;infer_instance
def startV (m:Mdl) (left:List (List Bool)):Int:=if validV m≠0 then validV m else if FitsP m left then 0 else 17
theorem FitsP.row {m:Mdl} {left:List (List Bool)} (hm:VM m) (h:FitsP m left):∀ r∈left,r.length≤24:=fun r hr=>by
  obtain ⟨i,hi,rfl⟩:=List.mem_iff_getElem.1 hr
  have:=h.2 i hi
  rw[List.getD_eq_getElem?_getD,List.getElem?_eq_getElem hi] at this
  simp only[Option.getD_some] at this
  rw[this]
  exact hm.opt _ (getD_mem (by have:=h.1;omega))
def BB (left:List (List Bool)):Prop:=left.length<9223372036854775808∧∀ r∈left,r.length<9223372036854775808
end T
namespace T
theorem lowS_snoc (l:List Ld) (row:List Bool):∀ (L:List (List Bool)) (i:Nat) (n:Int),lowS l i (L++[row]) n=lowS l i L n+lowC l (i+L.length:Nat) row
  | [],i,n=>rfl
  | x::r,i,n=>by
    show lowS l (i+1) (r++[row]) _=_
    rw[lowS_snoc l row r (i+1),lowS,List.length_cons,show i+1+r.length=i+(r.length+1) by omega]
theorem take_snoc {α:Type} [Inhabited α] {l:List α} {k:Nat} (h:k<l.length):l.take (k+1)=l.take k++[l.getD k default]:=by
  rw[List.take_succ_eq_append_getElem h,List.getD_eq_getElem?_getD,List.getElem?_eq_getElem h];rfl
abbrev Nm:=Int × Bool
def ofN (x:Int):Nm:=(x,decide (1099511627776≤x))
def eNm (p:Nm):List AV:=[.lit (.int .i64 p.1),.lit (.bool p.2)]
def eNr (p:Nm):List AV:=[.lit (.bool p.2),.lit (.int .i64 p.1)]
instance:Row eNm 2:=⟨fun _=>rfl,fun p v hv=>by
  simp only[eNm,List.mem_cons,List.not_mem_nil,or_false] at hv
  rcases hv with rfl | rfl<;>exact .inl ⟨_,rfl,rfl⟩⟩
instance:Row eNr 2:=⟨fun _=>rfl,fun p v hv=>by
  simp only[eNr,List.mem_cons,List.not_mem_nil,or_false] at hv
  rcases hv with rfl | rfl<;>exact .inl ⟨_,rfl,rfl⟩⟩
def ownS (o:Opt):Int:=(o.ch.map (·.2)).foldl addC 0
def ownV (l:List Opt):List Int:=l.map ownS
def firstV (l:List Int):List Nm:=l.map ofN
def lowN:List Nm→List Bool→Int × Bool→Int × Bool
  | p::r,is::s,b=>lowN r s (if is=true∧p.2=false∧(b.2=false∨p.1<b.1) then (p.1,true) else b)
  | _,_,b=>b
theorem chs_in {R:Int} {l:List (Int × Int)} (h:chL R none l=true):∀ c∈l,In41 c.2:=fun c hc=>price_in (chL_mem h c hc).2
theorem foldC_in:∀ (l:List Int) (n:Int),(∀ x∈l,In41 x)→In41 n→In41 (l.foldl addC n)
  | [],_,_,h=>h
  | x::r,n,hl,h=>foldC_in r _ (fun y hy=>hl y (by simp[hy])) (addC_in h (hl x (by simp)))
theorem ownS_in {R:Int} {o:Opt} (h:chL R none o.ch=true):In41 (ownS o):=foldC_in _ _ (fun x hx=>by
  obtain ⟨c,hc,rfl⟩:=List.mem_map.1 hx;exact chs_in h c hc) (by unfold In41;decide)
end T
namespace T
structure Mv where
  pair:Int
  side:Int
  opt:Int
  amt:Int
  deriving Inhabited
def eMv (x:Mv):List AV:=[.lit (.int .i64 x.pair),.lit (.int .i64 x.side),.lit (.int .i64 x.opt),.lit (.int .i64 x.amt)]
instance:Row eMv 4:=⟨fun _=>rfl,fun x v hv=>by
  simp only[eMv,List.mem_cons,List.not_mem_nil,or_false] at hv
  rcases hv with rfl | rfl | rfl | rfl<;>exact .inl ⟨_,rfl,rfl⟩⟩
def mvC (m:Mdl) (x:Mv):Int:=if x.side=0 then (m.prs.getD x.pair.toNat default).fst else (m.prs.getD x.pair.toNat default).snd
def mvB (m:Mdl) (x:Mv):Bool:=decide (0≤x.pair∧x.pair<m.prs.length∧0≤x.side∧x.side≤1∧-268435456≤x.amt∧x.amt≤268435456) && optB m (mvC m x) x.opt
theorem getD_foldl (l:List (Int × Int)) (k:Nat) (h:k<l.length):(((l.take (k+1)).map (·.2)).foldl addC 0)=addC (((l.take k).map (·.2)).foldl addC 0) (l.getD k default).2:=by
  rw[take_snoc h,List.map_append,List.foldl_append];rfl
end T
namespace T
def lowSt (p:Nm) (is:Bool) (b:Int × Bool):Int × Bool:=if is=true∧p.2=false∧(b.2=false∨p.1<b.1) then (p.1,true) else b
theorem lowN_snoc (p:Nm) (is:Bool):∀ (l:List Nm) (s:List Bool) (b:Int × Bool),l.length=s.length→lowN (l++[p]) (s++[is]) b=lowSt p is (lowN l s b)
  | [],[],b,_=>rfl
  | x::r,y::s,b,h=>by
    show lowN (r++[p]) (s++[is]) _=_
    rw[lowN_snoc p is r s _ (by simpa using h)];rfl
def optsV:List Nm→List Bool→List Nm
  | p::r,is::s=>(if is=true then [p] else [])++optsV r s
  | _,_=>[]
def lowAs (b a:Nm):Nm:=if a.2=false∧(b.2=true∨a.1<b.1) then a else b
def lowA (l:List Nm):Nm:=l.foldl lowAs (0,true)
theorem lowA_snoc (l:List Nm) (a:Nm):lowA (l++[a])=lowAs (lowA l) a:=by unfold lowA;rw[List.foldl_append];rfl
theorem optsV_snoc (p:Nm) (is:Bool):∀ (l:List Nm) (s:List Bool),l.length=s.length→optsV (l++[p]) (s++[is])=optsV l s++(if is=true then [p] else [])
  | [],[],_=>by simp[optsV]
  | x::r,y::s,h=>by
    show (if y=true then [x] else [])++optsV (r++[p]) (s++[is])=_
    rw[optsV_snoc p is r s (by simpa using h),optsV,List.append_assoc]
theorem low_eq:∀ (l:List Nm) (s:List Bool) (b:Int × Bool),(optsV l s).foldl lowAs (b.1,!b.2)=((lowN l s b).1,!(lowN l s b).2)
  | [],s,b=>by cases s<;>rfl
  | p::r,[],b=>rfl
  | p::r,is::s,b=>by
    rw[optsV,lowN,List.foldl_append]
    cases is with
    | false=>simp only[Bool.false_eq_true,if_false,List.foldl_nil,false_and];exact low_eq r s b
    | true =>
      simp only[if_true,List.foldl_cons,List.foldl_nil,eq_self,true_and]
      have:lowAs (b.1,!b.2) p=((if p.2=false∧(b.2=false∨p.1<b.1) then (p.1,true) else b).1,!(if p.2=false∧(b.2=false∨p.1<b.1) then (p.1,true) else b).2):=by
        unfold lowAs
        obtain ⟨b1,b2⟩:=b
        obtain ⟨p1,p2⟩:=p
        dsimp only
        cases b2<;>cases p2<;>simp
        split<;>rfl
      rw[this]
      exact low_eq r s _
theorem lowA_opts (l:List Nm) (s:List Bool):lowA (optsV l s)=((lowN l s (0,false)).1,!(lowN l s (0,false)).2):=low_eq l s (0,false)
end T
open Go Go.Am
namespace T
theorem oL0 (os:List Ob) (x:Ob) (l:List Ob):(os++x::l)[os.length]?=some x:=by simp
theorem oLk (os l:List Ob) (k:Nat):(os++l)[os.length+k]?=l[k]?:=by rw[List.getElem?_append_right (by omega),Nat.add_sub_cancel_left]
theorem oS0 (os:List Ob) (x y:Ob) (l:List Ob):(os++x::l).set os.length y=os++y::l:=by rw[List.set_append];simp
theorem oSk (os l:List Ob) (k:Nat) (y:Ob):(os++l).set (os.length+k) y=os++l.set k y:=by rw[List.set_append_right _ _ (by omega)];simp
theorem oLo {os:List Ob} {i:Nat} {o:Ob} (h:os[i]?=some o) (l:List Ob):(os++l)[i]?=some o:=by
  rw[List.getElem?_append_left (List.getElem?_eq_some_iff.1 h).1];exact h
theorem oSo {os:List Ob} {i:Nat} {o:Ob} (h:os[i]?=some o) (l:List Ob) (y:Ob):(os++l).set i y=os.set i y++l:=by
  rw[List.set_append,if_pos (List.getElem?_eq_some_iff.1 h).1]
theorem oSn {os:List Ob} {i j:Nat} {o o' y:Ob} (h:os[i]?=some o) (h':os[j]?=some o') (hne:o≠o'):(os.set j y)[i]?=some o:=by
  have:j≠i:=fun e=>hne (by rw[e,h] at h';simpa using h')
  rw[List.getElem?_set_ne this];exact h
theorem oSe {os:List Ob} {i:Nat} {o y:Ob} (h:os[i]?=some o):(os.set i y)[i]?=some y:=by
  rw[List.getElem?_set];simp[(List.getElem?_eq_some_iff.1 h).1]
theorem Oc2:type_of% @oL0∧type_of% @oLk∧type_of% @oS0∧type_of% @oSk:=⟨@oL0,@oLk,@oS0,@oSk⟩
def eRf (q:Nat × Nat):List AV:=[.ref q.1 2 0 q.2]
structure RI {α:Type} (enc:α→List AV) (os:List Ob) (D:List (Nat × Nat)) (S:List (List α)):Prop where
  len:D.length=S.length
  row:∀ j,j<D.length→os[(D.getD j default).1]?=some (.arr 2 (rowsOf enc (S.getD j default)))∧(S.getD j default).length=(D.getD j default).2
theorem RI.nil {α:Type} {enc:α→List AV} {os:List Ob}:RI enc os [] ([]:List (List α)):=⟨rfl,by simp⟩
theorem RI.app {α:Type} {enc:α→List AV} {os:List Ob} {D:List (Nat × Nat)} {S:List (List α)} (h:RI enc os D S) (l:List Ob):RI enc (os++l) D S :=
  ⟨h.len,fun j hj=>⟨oLo (h.row j hj).1 l,(h.row j hj).2⟩⟩
theorem RI.kill {α:Type} {enc:α→List AV} {os:List Ob} {D:List (Nat × Nat)} {S:List (List α)} (h:RI enc os D S) {i:Nat} {o y:Ob} (ho:os[i]?=some o) (hne:∀ l,o≠.arr 2 l):RI enc (os.set i y) D S :=
  ⟨h.len,fun j hj=>⟨oSn (h.row j hj).1 ho (fun e=>hne _ e.symm),(h.row j hj).2⟩⟩
theorem getD_snoc {α:Type} [Inhabited α] (l:List α) (x:α) (j:Nat):(l++[x]).getD j default=if j<l.length then l.getD j default else if j=l.length then x else default:=by
  simp only[List.getD_eq_getElem?_getD]
  split
  · rename_i h;rw[List.getElem?_append_left h]
  · rename_i h
    rw[List.getElem?_append_right (by omega)]
    split
    · rename_i h2;subst h2;simp
    · rw[List.getElem?_eq_none (by simp;omega)];rfl
theorem RI.snoc {α:Type} {enc:α→List AV} {os:List Ob} {D:List (Nat × Nat)} {S:List (List α)} (h:RI enc os D S) {p:Nat} {r:List α} (hp:os[p]?=some (.arr 2 (rowsOf enc r))):RI enc os (D++[(p,r.length)]) (S++[r]) :=
  ⟨by simp[h.len],fun j hj=>by
    rw[getD_snoc,getD_snoc,← h.len]
    by_cases h1:j<D.length
    · rw[if_pos h1,if_pos h1];exact h.row j h1
    · have:j=D.length:=by simp at hj;omega
      rw[if_neg h1,if_neg h1,if_pos this,if_pos this];exact⟨hp,rfl⟩⟩
theorem RI.set {α:Type} {enc:α→List AV} {os:List Ob} {D:List (Nat × Nat)} {S:List (List α)} (h:RI enc os D S) (hn:(D.map (·.1)).Nodup) {j:Nat} (hj:j<D.length) {r:List α} (hr:r.length=(S.getD j default).length):RI enc (os.set (D.getD j default).1 (.arr 2 (rowsOf enc r))) D (S.set j r) :=
  ⟨by rw[List.length_set];exact h.len,fun k hk=>by
    by_cases e:k=j
    · subst e
      have:(S.set k r).getD k default=r:=by rw[List.getD_eq_getElem?_getD,List.getElem?_set];simp[← h.len,hk]
      rw[this]
      exact⟨oSe (h.row k hk).1,hr.trans (h.row k hk).2⟩
    · have:(S.set j r).getD k default=S.getD k default:=by rw[List.getD_eq_getElem?_getD,List.getElem?_set_ne (fun e'=>e e'.symm),List.getD_eq_getElem?_getD]
      rw[this]
      have hne:(D.getD j default).1≠(D.getD k default).1:=fun hh=>e ((List.getElem_inj (h₀:=by simpa using hk) (h₁:=by simpa using hj) hn).1 (by
        rw[List.getElem_map,List.getElem_map]
        have a1:D[k]=D.getD k default:=by simp[hk]
        have a2:D[j]=D.getD j default:=by simp[hj]
        rw[a1,a2];exact hh.symm))
      rw[List.getElem?_set_ne hne]
      exact h.row k hk⟩
theorem RI.other {α:Type} {enc:α→List AV} {os:List Ob} {D:List (Nat × Nat)} {S:List (List α)} (h:RI enc os D S) {i:Nat} (hi:i ∉ D.map (·.1)) {y:Ob}:RI enc (os.set i y) D S :=
  ⟨h.len,fun k hk=>⟨by
    rw[List.getElem?_set_ne (fun e=>hi (List.mem_map.2 ⟨D.getD k default,getD_mem hk,e.symm⟩))]
    exact (h.row k hk).1,(h.row k hk).2⟩⟩
theorem RI.fresh {α:Type} {enc:α→List AV} {os:List Ob} {D:List (Nat × Nat)} {S:List (List α)} (h:RI enc os D S) {p:Nat} (hp:os.length≤p):p ∉ D.map (·.1):=fun hh=>by
  obtain ⟨q,hq,rfl⟩:=List.mem_map.1 hh
  obtain ⟨k,hk,rfl⟩:=List.mem_iff_getElem.1 hq
  have h1:=(h.row k hk).1
  have a1:D.getD k default=D[k]:=by simp[hk]
  rw[a1] at h1
  have:=(List.getElem?_eq_some_iff.1 h1).1
  omega
theorem eRf_app (D:List (Nat × Nat)) (p n:Nat):rowsOf eRf D++[[AV.ref p 2 0 n]]=rowsOf eRf (D++[(p,n)]):=by simp[rowsOf,eRf]
theorem RI.step {α:Type} {enc:α→List AV} {os:List Ob} {D:List (Nat × Nat)} {S:List (List α)} {ai:Nat} {x:Ob} (fa:os[ai]?=some x) (hx:∀ l,x≠.arr 2 l) (hR:RI enc os D S) (hnd:(D.map (·.1)).Nodup) (r:List α) (t y:Ob) :
    (os.set ai .gone++[.arr 2 (rowsOf enc r),t,y])[os.length+2]?=some y ∧
    RI enc (os.set ai .gone++[.arr 2 (rowsOf enc r),t,y]) (D++[(os.length,r.length)]) (S++[r])∧((D++[(os.length,r.length)]).map (·.1)).Nodup ∧
    ∀ k o,os[k]?=some o→k≠ai→(os.set ai .gone++[.arr 2 (rowsOf enc r),t,y])[k]?=some o:=by
  have hl:(os.set ai .gone).length=os.length:=List.length_set ..
  refine⟨?_,?_,?_,fun k o hk hne=>oLo ?_ _⟩
  · rw[← hl,oLk];rfl
  · refine ((hR.kill fa hx).app _).snoc ?_
    rw[← hl,oL0]
  · rw[List.map_append,List.nodup_append]
    refine⟨hnd,by simp,fun a ha b hb=>?_⟩
    simp only[List.map_cons,List.map_nil,List.mem_singleton] at hb
    subst hb
    exact fun e=>hR.fresh (Nat.le_refl _) (e ▸ ha)
  · rw[List.getElem?_set_ne (Ne.symm hne)];exact hk
structure LO {α:Type} (enc:α→List AV) (B:List (Nat × Ob)) (D E:List (Nat × Nat)) (S T:List (List α)) (os:List Ob):Prop where
  base:∀ b∈B,os[b.1]?=some b.2∧∀ l,b.2≠.arr 2 l
  rD:RI enc os D S
  rE:RI enc os E T
  nd:((D++E).map (·.1)).Nodup
section
variable {α:Type} {enc:α→List AV} {B:List (Nat × Ob)} {D E:List (Nat × Nat)} {S T:List (List α)} {os:List Ob}
theorem LO.app (h:LO enc B D E S T os) (l:List Ob):LO enc B D E S T (os++l):=⟨fun b hb=>⟨oLo (h.base b hb).1 l,(h.base b hb).2⟩,h.rD.app l,h.rE.app l,h.nd⟩
theorem LO.add (h:LO enc B D E S T os) {k:Nat} {x:Ob} (hk:os[k]?=some x) (hx:∀ l,x≠.arr 2 l):LO enc ((k,x)::B) D E S T os :=
  ⟨fun b hb=>by rcases List.mem_cons.1 hb with rfl | hb;exact⟨hk,hx⟩;exact h.base b hb,h.rD,h.rE,h.nd⟩
theorem LO.sub (h:LO enc B D E S T os) {C:List (Nat × Ob)} (hc:∀ b∈C,b∈B):LO enc C D E S T os:=⟨fun b hb=>h.base b (hc b hb),h.rD,h.rE,h.nd⟩
theorem nodup_parts {D E:List (Nat × Nat)} (h:((D++E).map (·.1)).Nodup):(D.map (·.1)).Nodup∧(E.map (·.1)).Nodup∧(∀ j,j<D.length→(D.getD j default).1 ∉ E.map (·.1))∧∀ j,j<E.length→(E.getD j default).1 ∉ D.map (·.1):=by
  rw[List.map_append,List.nodup_append] at h
  refine⟨h.1,h.2.1,fun j hj hh=>h.2.2 _ (List.mem_map.2 ⟨_,getD_mem hj,rfl⟩) _ hh rfl,fun j hj hh=>h.2.2 _ hh _ (List.mem_map.2 ⟨_,getD_mem hj,rfl⟩) rfl⟩
theorem LO.setD (h:LO enc B D E S T os) {j:Nat} (hj:j<D.length) {r:List α} (hr:r.length=(S.getD j default).length):LO enc B D E (S.set j r) T (os.set (D.getD j default).1 (.arr 2 (rowsOf enc r))):=by
  obtain ⟨h1,h2,h3,h4⟩:=nodup_parts h.nd
  exact⟨fun b hb=>⟨oSn (h.base b hb).1 (h.rD.row j hj).1 ((h.base b hb).2 _),(h.base b hb).2⟩,h.rD.set h1 hj hr,h.rE.other (h3 j hj),h.nd⟩
theorem LO.setE (h:LO enc B D E S T os) {j:Nat} (hj:j<E.length) {r:List α} (hr:r.length=(T.getD j default).length):LO enc B D E S (T.set j r) (os.set (E.getD j default).1 (.arr 2 (rowsOf enc r))):=by
  obtain ⟨h1,h2,h3,h4⟩:=nodup_parts h.nd
  exact⟨fun b hb=>⟨oSn (h.base b hb).1 (h.rE.row j hj).1 ((h.base b hb).2 _),(h.base b hb).2⟩,h.rD.other (h4 j hj),h.rE.set h2 hj hr,h.nd⟩
end
theorem eNr_set (xs:List Nm) (i:Nat) (b:Bool) (n:Int):(rowsOf eNr xs).set i [.lit (.bool b),.lit (.int .i64 n)]=rowsOf eNr (xs.set i (n,b)):=by simp[rowsOf,eNr,List.map_set]
theorem eNm_set (xs:List Nm) (i:Nat) (b:Bool) (n:Int):(rowsOf eNm xs).set i [.lit (.int .i64 n),.lit (.bool b)]=rowsOf eNm (xs.set i (n,b)):=by simp[rowsOf,eNm,List.map_set]
theorem LO.vars {α:Type} {enc:α→List AV} {B:List (Nat × Ob)} {D E:List (Nat × Nat)} {S T:List (List α)} {os:List Ob} (h:LO enc B D E S T os) {n:Nat} (hn:os.length=n) (x y:Ob) (hx:∀ l,x≠.arr 2 l) (hy:∀ l,y≠.arr 2 l) :
    LO enc ((n,x)::(n+1,y)::B) D E S T (os++[x,y]):=by
  subst hn
  exact ((h.app [x,y]).add (by rw[oLk];rfl) hy).add (by rw[oL0]) hx
theorem set_self {α:Type} [Inhabited α] (l:List α) (j:Nat):l.set j (l.getD j default)=l:=by
  apply List.ext_getElem?
  intro i
  rw[List.getElem?_set]
  split
  · rename_i h;subst h
    split
    · rename_i h2;rw[List.getD_eq_getElem?_getD,List.getElem?_eq_getElem h2];rfl
    · rename_i h2;rw[List.getElem?_eq_none (by omega)]
  · rfl
theorem getD_set {α:Type} [Inhabited α] (l:List α) (j:Nat) (x:α) (h:j<l.length):(l.set j x).getD j default=x:=by
  rw[List.getD_eq_getElem?_getD,List.getElem?_set];simp[h]
theorem LO.kill {α:Type} {enc:α→List AV} {B:List (Nat × Ob)} {D E:List (Nat × Nat)} {S T:List (List α)} {os:List Ob} (h:LO enc B D E S T os) {i:Nat} {x y:Ob} (hi:os[i]?=some x) (hx:∀ l,x≠.arr 2 l) (hne:∀ b∈B,b.1≠i):LO enc B D E S T (os.set i y) :=
  ⟨fun b hb=>⟨by rw[List.getElem?_set_ne (hne b hb).symm];exact (h.base b hb).1,(h.base b hb).2⟩,h.rD.kill hi hx,h.rE.kill hi hx,h.nd⟩
theorem oLs (os l:List Ob) (i k:Nat) (y:Ob):(os.set i y++l)[os.length+k]?=l[k]?:=by
  have:=oLk (os.set i y) l k
  rwa [List.length_set] at this
end T
namespace T
def gC (m:Mdl) (ai bi:Nat) (D E:List (Nat × Nat)):List AV:=[.tree 1 (rowsOf eCls m.cls),.tree 4 (rowsOf ePr m.prs),.tree 4 (rowsOf eCt m.cts),.lit (.int .i64 m.rules),.ref ai 1 0 D.length,.ref bi 1 0 E.length]
abbrev GB (m:Mdl) (gi ai bi:Nat) (D E:List (Nat × Nat)):List (Nat × Ob):=[(gi,.var (gC m ai bi D E)),(ai,.arr 1 (rowsOf eRf D)),(bi,.arr 1 (rowsOf eRf E))]
theorem GBf {m:Mdl} {gi ai bi:Nat} {D E:List (Nat × Nat)} {S T:List (List Nm)} {os:List Ob} (h:LO eNm (GB m gi ai bi D E) D E S T os) :
    os[gi]?=some (.var (gC m ai bi D E))∧os[ai]?=some (.arr 1 (rowsOf eRf D))∧os[bi]?=some (.arr 1 (rowsOf eRf E)) :=
  ⟨(h.base (gi,_) (by simp)).1,(h.base (ai,.arr 1 (rowsOf eRf D)) (by simp)).1,(h.base (bi,.arr 1 (rowsOf eRf E)) (by simp)).1⟩
end T
namespace T
def Keep (os ob:List Ob):Prop:=∀ (k:Nat) (o:Ob),os[k]?=some o→ob[k]?=some o
theorem Keep.refl (os:List Ob):Keep os os:=fun _ _ h=>h
theorem Keep.app {os ob:List Ob} (h:Keep os ob) (l:List Ob):Keep os (ob++l):=fun k o hk=>oLo (h k o hk) l
theorem Keep.set {os ob:List Ob} (h:Keep os ob) {i:Nat} (hi:os.length≤i) {y:Ob}:Keep os (ob.set i y):=fun k o hk=>by
  have:=(List.getElem?_eq_some_iff.1 hk).1
  rw[List.getElem?_set_ne (by omega)];exact h k o hk
theorem Keep.len {os ob:List Ob} (h:Keep os ob):os.length≤ob.length:=by
  rcases Nat.eq_zero_or_pos os.length with h0 | h0
  · omega
  · obtain ⟨o,ho⟩ :∃o,os[os.length - 1]?=some o:=⟨_,List.getElem?_eq_getElem (by omega)⟩
    have:=(List.getElem?_eq_some_iff.1 (h _ _ ho)).1
    omega
section
variable {α:Type} {enc:α→List AV} {B:List (Nat × Ob)} {D E:List (Nat × Nat)} {S T:List (List α)} {os:List Ob}
theorem LO.swap (h:LO enc B D E S T os):LO enc B E D T S os:=⟨h.base,h.rE,h.rD,by
  have:=h.nd
  rw[List.map_append,List.nodup_append] at this ⊢
  exact⟨this.2.1,this.1,fun a ha b hb e=>this.2.2 b hb a ha e.symm⟩⟩
theorem LO.killR (h:LO enc B D E S T os) {i:Nat} {l:List (List AV)} (hi:i ∉ (D++E).map (·.1)) (hr:os[i]?=some (.arr 2 l)) {y:Ob}:LO enc B D E S T (os.set i y):=by
  rw[List.map_append,List.mem_append,not_or] at hi
  exact⟨fun b hb=>⟨oSn (h.base b hb).1 hr ((h.base b hb).2 _),(h.base b hb).2⟩,h.rD.other hi.1,h.rE.other hi.2,h.nd⟩
theorem LO.fresh (h:LO enc B D E S T os) {p:Nat} (hp:os.length≤p):p ∉ (D++E).map (·.1):=by
  rw[List.map_append,List.mem_append,not_or]
  exact⟨h.rD.fresh hp,h.rE.fresh hp⟩
theorem LO.step {gi ai:Nat} {gc:List AV} {A:List (List AV)} (h:LO enc ((gi,.var gc)::(ai,.arr 1 A)::B) D E S T os) {r:List α} {oi:Nat} (hr:os[oi]?=some (.arr 2 (rowsOf enc r))) (hfr:oi ∉ (D++E).map (·.1))
    (hB:∀ b∈B,b.1≠ai∧b.1≠gi) (gc':List AV) (A':List (List AV)) (t:Ob) :
    LO enc ((gi,.var gc')::(os.length+1,.arr 1 A')::B) (D++[(oi,r.length)]) E (S++[r]) T ((os.set ai .gone).set gi (.var gc')++[t,.arr 1 A']):=by
  have hg:=(h.base (gi,.var gc) (by simp)).1
  have ha:=(h.base (ai,.arr 1 A) (by simp)).1
  dsimp only at hg ha
  have hga:gi≠ai:=fun e=>by rw[e,ha] at hg;cases hg
  have hg2:(os.set ai .gone)[gi]?=some (.var gc):=by rw[List.getElem?_set_ne hga.symm];exact hg
  have hl:((os.set ai .gone).set gi (.var gc')).length=os.length:=by rw[List.length_set,List.length_set]
  have hD2:=((h.rD.kill (y:=.gone) ha (by simp)).kill (y:=.var gc') hg2 (by simp)).app [t,.arr 1 A']
  have hE2:=((h.rE.kill (y:=.gone) ha (by simp)).kill (y:=.var gc') hg2 (by simp)).app [t,.arr 1 A']
  have hr2:((os.set ai .gone).set gi (.var gc')++[t,.arr 1 A'])[oi]?=some (.arr 2 (rowsOf enc r)):=oLo (oSn (oSn hr ha (by simp)) hg2 (by simp)) _
  refine⟨fun b hb=>?_,hD2.snoc hr2,hE2,?_⟩
  · rcases List.mem_cons.1 hb with rfl | hb
    · exact⟨oLo (oSe hg2) _,by simp⟩
    rcases List.mem_cons.1 hb with rfl | hb
    · refine⟨?_,by simp⟩
      dsimp only
      rw[← hl,oLk];rfl
    · have h0:=h.base b (by simp[hb])
      refine⟨oLo ?_ _,h0.2⟩
      rw[List.getElem?_set_ne (hB b hb).2.symm,List.getElem?_set_ne (hB b hb).1.symm];exact h0.1
  · have hnd:=h.nd
    rw[List.map_append,List.nodup_append] at hnd ⊢
    rw[List.map_append,List.mem_append,not_or] at hfr
    obtain ⟨n1,n2,n3⟩:=hnd
    refine⟨?_,n2,fun a ha' b hb=>?_⟩
    · rw[List.map_append,List.nodup_append]
      refine⟨n1,by simp,fun a ha' b hb=>?_⟩
      simp only[List.map_cons,List.map_nil,List.mem_singleton] at hb
      subst hb
      exact fun e=>hfr.1 (e ▸ ha')
    · rw[List.map_append,List.mem_append] at ha'
      rcases ha' with ha' | ha'
      · exact n3 a ha' b hb
      · simp only[List.map_cons,List.map_nil,List.mem_singleton] at ha'
        subst ha'
        exact fun e=>hfr.2 (e ▸ hb)
end
end T
open Go Go.Am
namespace T
def S0 (m:Mdl):List (List Nm):=m.cls.map fun l=>firstV (ownV l)
def T0 (m:Mdl):List (List Nm):=m.prs.map fun p=>firstV p.tab
def addR (r:List Nm) (i:Nat) (a:Int):List Nm:=r.set i ((r.getD i default).1+a,(r.getD i default).2)
def subK (f:Nat→Nat) (a:Int):Nat→List Nm→List Nm
  | 0,t=>t
  | k+1,t=>addR (subK f a k t) (f k) (-a)
abbrev Lg:=List (List Nm) × List (List Nm)
def mvF (m:Mdl) (x:Mv):(Nat→Nat) × Nat :=
  if x.side=0 then (fun k=>(x.opt * (m.cls.getD (m.prs.getD x.pair.toNat default).snd.toNat default).length+k).toNat,(m.cls.getD (m.prs.getD x.pair.toNat default).snd.toNat default).length)
  else (fun k=>((k:Int) * (m.cls.getD (m.prs.getD x.pair.toNat default).snd.toNat default).length+x.opt).toNat,(m.cls.getD (m.prs.getD x.pair.toNat default).fst.toNat default).length)
def mvS (m:Mdl) (x:Mv) (g:Lg):Lg :=
  (g.1.set (mvC m x).toNat (addR (g.1.getD (mvC m x).toNat default) x.opt.toNat x.amt),g.2.set x.pair.toNat (subK (mvF m x).1 x.amt (mvF m x).2 (g.2.getD x.pair.toNat default)))
def mvsL (m:Mdl) (l:List Mv) (g:Lg):Lg:=l.foldl (fun g x=>mvS m x g) g
theorem mvsL_snoc (m:Mdl) (l:List Mv) (x:Mv) (g:Lg):mvsL m (l++[x]) g=mvS m x (mvsL m l g):=by unfold mvsL;rw[List.foldl_append];rfl
def bothV (a b:List Bool):List Bool:=a.flatMap fun x=>b.map fun y=>x && y
def PC (left:List (List Bool)) (S:List (List Nm)) (n:Nat):List (Int × Bool):=(List.range n).map fun i=>lowN (S.getD i default) (left.getD i default) (0,false)
def prB (m:Mdl) (left:List (List Bool)) (i:Nat):List Bool:=bothV (left.getD (m.prs.getD i default).fst.toNat default) (left.getD (m.prs.getD i default).snd.toNat default)
def PP (m:Mdl) (left:List (List Bool)) (T:List (List Nm)) (n:Nat):List (Int × Bool):=(List.range n).map fun i=>lowN (T.getD i default) (prB m left i) (0,false)
def PK (m:Mdl) (left:List (List Bool)) (n:Nat):List (Int × Bool):=(List.range n).map fun i=>(leastV left (m.cts.getD i default),!(decide ((m.cts.getD i default).pen=1099511627776) && decide (0<leastV left (m.cts.getD i default))))
def accV (l:List (Int × Bool)) (z:Int × Bool):Int × Bool:=l.foldl (fun z p=>(z.1+p.1,z.2 || !p.2)) z
def valV (m:Mdl) (left:List (List Bool)) (g:Lg):Int :=
  if (accV (PK m left m.cts.length) (accV (PP m left g.2 m.prs.length) (accV (PC left g.1 m.cls.length) (0,false)))).2=true then 1099511627776
  else min (accV (PK m left m.cts.length) (accV (PP m left g.2 m.prs.length) (accV (PC left g.1 m.cls.length) (0,false)))).1 1099511627776
def leafT (m:Mdl) (left:List (List Bool)) (l:List Mv):Int × Int :=
  if 2000<l.length then (0,2) else if l.all (mvB m)=false then (0,3) else (valV m left (mvsL m l (S0 m,T0 m)),0)
def valueT (m:Mdl) (left:List (List Bool)) (l:List Mv):Int × Int:=if startV m left≠0 then (0,startV m left) else leafT m left l
theorem accV_snoc (l:List (Int × Bool)) (p z:Int × Bool):accV (l++[p]) z=((accV l z).1+p.1,(accV l z).2 || !p.2):=by unfold accV;rw[List.foldl_append];rfl
theorem range_snoc {β:Type} (f:Nat→β) (n:Nat):(List.range (n+1)).map f=(List.range n).map f++[f n]:=by rw[List.range_succ,List.map_append];rfl
def NB (B:Int) (r:List Nm):Prop:=∀ p∈r,-B≤p.1∧p.1≤B
theorem NB.get {B:Int} {r:List Nm} (h:NB B r) (hB:0≤B) (i:Nat) : -B≤(r.getD i default).1∧(r.getD i default).1≤B:=by
  rcases Nat.lt_or_ge i r.length with hi | hi
  · exact h _ (getD_mem hi)
  · rw[List.getD_eq_getElem?_getD,List.getElem?_eq_none hi]
    show -B≤(0:Int)∧(0:Int)≤B
    omega
theorem NB.mono {B C:Int} {r:List Nm} (h:NB B r) (hc:B≤C):NB C r:=fun p hp=>by have:=h p hp;omega
theorem NB.add {B:Int} {r:List Nm} (h:NB B r) (hB:0≤B) (i:Nat) {a:Int} (ha : -268435456≤a∧a≤268435456):NB (B+268435456) (addR r i a):=fun p hp=>by
  rcases List.mem_or_eq_of_mem_set hp with h' | h'
  · have:=h p h';omega
  · have:=h.get hB i
    rw[h'];dsimp only;omega
theorem addR_len (r:List Nm) (i:Nat) (a:Int):(addR r i a).length=r.length:=by simp[addR]
theorem subK_len (f:Nat→Nat) (a:Int):∀ (k:Nat) (t:List Nm),(subK f a k t).length=t.length
  | 0,t=>rfl
  | k+1,t=>by rw[subK,addR_len,subK_len f a k t]
theorem NB.sub {B:Int} {r:List Nm} (h:NB B r) (hB:0≤B) (f:Nat→Nat) {a:Int} (ha : -268435456≤a∧a≤268435456):∀ k:Nat,NB (B+268435456 * k) (subK f a k r)
  | 0=>by simpa [subK] using h
  | k+1=>by
    rw[subK]
    have:=(NB.sub h hB f ha k).add (by omega) (f k) (a:=-a) (by omega)
    exact this.mono (by omega)
structure LG (m:Mdl) (B:Int) (g:Lg):Prop where
  s:g.1.length=m.cls.length
  t:g.2.length=m.prs.length
  sl:∀ i,i<m.cls.length→(g.1.getD i default).length=(m.cls.getD i default).length
  tl:∀ i,i<m.prs.length→(g.2.getD i default).length=(m.prs.getD i default).tab.length
  sb:∀ r∈g.1,NB B r
  tb:∀ r∈g.2,NB B r
theorem getD_set_len {g:List (List Nm)} {i j:Nat} {r:List Nm} (h:r.length=(g.getD i default).length):((g.set i r).getD j default).length=(g.getD j default).length:=by
  by_cases e:i=j
  · subst e
    rcases Nat.lt_or_ge i g.length with hi | hi
    · simp only[List.getD_eq_getElem?_getD,List.getElem?_set,hi,if_true,Option.getD_some];rw[h,List.getD_eq_getElem?_getD]
    · rw[List.set_eq_of_length_le hi]
  · simp only[List.getD_eq_getElem?_getD,List.getElem?_set_ne e]
theorem NB_getD {B:Int} {g:List (List Nm)} (h:∀ r∈g,NB B r) (i:Nat):NB B (g.getD i default):=by
  rcases Nat.lt_or_ge i g.length with hi | hi
  · exact h _ (getD_mem hi)
  · rw[List.getD_eq_getElem?_getD,List.getElem?_eq_none hi];intro p hp;cases hp
theorem mvF_len {m:Mdl} (hm:VM m) (x:Mv):(mvF m x).2≤24:=by
  have:∀ i,(m.cls.getD i default).length≤24:=fun i=>by
    rcases Nat.lt_or_ge i m.cls.length with hi | hi
    · exact hm.opt _ (getD_mem hi)
    · rw[List.getD_eq_getElem?_getD,List.getElem?_eq_none hi];exact Nat.zero_le _
  unfold mvF
  split<;>exact this _
theorem mvS_lg {m:Mdl} (hm:VM m) {B:Int} (hB:0≤B) {g:Lg} (h:LG m B g) {x:Mv} (hx:mvB m x=true):LG m (B+268435456 * 25) (mvS m x g):=by
  unfold mvB at hx
  rw[Bool.and_eq_true,decide_eq_true_eq] at hx
  have ha:=hx.1.2.2.2.2
  have hk:=mvF_len hm x
  refine⟨by rw[mvS,List.length_set];exact h.s,by rw[mvS,List.length_set];exact h.t,fun i hi=>?_,fun i hi=>?_,fun r hr=>?_,fun r hr=>?_⟩
  · rw[mvS];dsimp only
    rw[getD_set_len (by rw[addR_len])];exact h.sl i hi
  · rw[mvS];dsimp only
    rw[getD_set_len (by rw[subK_len])];exact h.tl i hi
  · rcases List.mem_or_eq_of_mem_set hr with h' | h'
    · exact (h.sb r h').mono (by omega)
    · rw[h'];exact ((NB_getD h.sb _).add hB _ ha).mono (by omega)
  · rcases List.mem_or_eq_of_mem_set hr with h' | h'
    · exact (h.tb r h').mono (by omega)
    · rw[h'];exact ((NB_getD h.tb _).sub hB _ ha _).mono (by omega)
theorem firstV_nb {l:List Int} (h:∀ x∈l,In41 x):NB 1099511627776 (firstV l):=fun p hp=>by
  obtain ⟨x,hx,rfl⟩:=List.mem_map.1 hp
  have:=h x hx
  unfold In41 at this
  show -1099511627776≤x∧x≤1099511627776
  omega
theorem tab_in {m:Mdl} {p:Pr} (hp:pairB m p=true):∀ x∈p.tab,In41 x:=fun x hx=>by
  unfold pairB at hp
  simp only[Bool.and_eq_true,Bool.not_eq_true',List.any_eq_false] at hp
  have:=hp.2 _ hx
  rw[badN] at this
  simp only[Bool.and_eq_true,Bool.not_eq_true',decide_eq_true_eq,not_and,Bool.not_eq_false] at this
  by_cases hz:x=0
  · subst hz;unfold In41;decide
  · exact price_in (this hz)
theorem map_getD {α β:Type} [Inhabited α] [Inhabited β] (f:α→β) (l:List α) (i:Nat) (h:i<l.length):(l.map f).getD i default=f (l.getD i default):=by
  rw[List.getD_eq_getElem?_getD,List.getElem?_map,List.getD_eq_getElem?_getD,List.getElem?_eq_getElem h];rfl
theorem open_lg {m:Mdl} (hm:VM m):LG m 1099511627776 (S0 m,T0 m):=by
  refine⟨by simp[S0],by simp[T0],fun i hi=>?_,fun i hi=>?_,fun r hr=>?_,fun r hr=>?_⟩
  · show ((S0 m).getD i default).length=_
    rw[S0,map_getD _ _ _ hi];simp[firstV,ownV]
  · show ((T0 m).getD i default).length=_
    rw[T0,map_getD _ _ _ hi];simp[firstV]
  · obtain ⟨l,hl,rfl⟩:=List.mem_map.1 hr
    refine firstV_nb fun x hx=>?_
    obtain ⟨o,ho,rfl⟩:=List.mem_map.1 hx
    exact ownS_in (hm.chs l hl o ho)
  · obtain ⟨p,hp,rfl⟩:=List.mem_map.1 hr
    exact firstV_nb (tab_in (prsL_mem hm.pr p hp))
theorem mvsL_lg {m:Mdl} (hm:VM m) (l:List Mv) (hl:∀ x∈l,mvB m x=true):LG m (1099511627776+268435456 * 25 * l.length) (mvsL m l (S0 m,T0 m)):=by
  have key:∀ (l:List Mv) (B:Int) (g:Lg),0≤B→(∀ x∈l,mvB m x=true)→LG m B g→LG m (B+268435456 * 25 * l.length) (mvsL m l g):=by
    intro l
    induction l with
    | nil=>intro B g _ _ h;simpa [mvsL] using h
    | cons x r ih =>
      intro B g hB hx h
      have h1:=mvS_lg hm hB h (hx x (by simp))
      have h2:=ih _ _ (by omega) (fun y hy=>hx y (by simp[hy])) h1
      show LG m _ (mvsL m r (mvS m x g))
      have e:B+268435456 * 25+268435456 * 25 * (r.length:Int)=B+268435456 * 25 * ((x::r).length:Int):=by simp only[List.length_cons];omega
      rw[e] at h2;exact h2
  exact key l _ _ (by decide) hl (open_lg hm)
theorem lowN_rg {B:Int}:∀ (l:List Nm) (s:List Bool) (b:Int × Bool),NB B l→(-B≤b.1∧b.1≤B)→-B≤(lowN l s b).1∧(lowN l s b).1≤B
  | [],s,b,_,hb=>by cases s<;>exact hb
  | p::r,[],b,_,hb=>hb
  | p::r,is::s,b,h,hb=>by
    rw[lowN]
    refine lowN_rg r s _ (fun q hq=>h q (by simp[hq])) ?_
    have:=h p (by simp)
    split
    · exact this
    · exact hb
theorem accV_rg {B:Int}:∀ (l:List (Int × Bool)) (z:Int × Bool),(∀ p∈l,-B≤p.1∧p.1≤B)→z.1 - B * l.length≤(accV l z).1∧(accV l z).1≤z.1+B * l.length
  | [],z,_=>by show z.1 - _≤z.1∧z.1≤z.1+_;simp
  | p::r,z,h=>by
    have h1:=accV_rg r (z.1+p.1,z.2 || !p.2) fun q hq=>h q (by simp[hq])
    have h2:=h p (by simp)
    show _≤(accV r (z.1+p.1,z.2 || !p.2)).1∧_
    rw[List.length_cons,Int.natCast_add,Int.mul_add]
    dsimp only at h1
    simp only[Int.cast_ofNat_Int,Int.mul_one]
    show z.1 - (B * r.length+B)≤(accV r (z.1+p.1,z.2 || !p.2)).1∧(accV r (z.1+p.1,z.2 || !p.2)).1≤z.1+(B * r.length+B)
    omega
def BIG:Int:=1099511627776+268435456 * 25 * 2000
theorem PC_rg {left:List (List Bool)} {S:List (List Nm)} {B:Int} (hB:0≤B) (h:∀ r∈S,NB B r) (n:Nat):∀ p∈PC left S n,-B≤p.1∧p.1≤B:=fun p hp=>by
  obtain ⟨i,_,rfl⟩:=List.mem_map.1 hp
  exact lowN_rg _ _ _ (NB_getD h i) (by dsimp only;omega)
theorem PP_rg {m:Mdl} {left:List (List Bool)} {T:List (List Nm)} {B:Int} (hB:0≤B) (h:∀ r∈T,NB B r) (n:Nat):∀ p∈PP m left T n,-B≤p.1∧p.1≤B:=fun p hp=>by
  obtain ⟨i,_,rfl⟩:=List.mem_map.1 hp
  exact lowN_rg _ _ _ (NB_getD h i) (by dsimp only;omega)
theorem excV_rg (most pen n:Int) (hm:0≤most) (hp:0≤pen):0≤excV most pen n∧excV most pen n≤1099511627776:=by
  unfold excV
  split
  · omega
  · have:=Int.mul_nonneg (show 0≤n - most by omega) hp
    omega
theorem ct_getD {m:Mdl} (hm:VM m) (i:Nat):0≤(m.cts.getD i default).most∧0≤(m.cts.getD i default).pen:=by
  rcases Nat.lt_or_ge i m.cts.length with hi | hi
  · obtain ⟨_,h2,h3,_⟩:=ctB_iff (hm.ct _ (getD_mem (d:=default) hi))
    exact⟨h2.1,(price_in h3).1⟩
  · rw[List.getD_eq_getElem?_getD,List.getElem?_eq_none hi];decide
theorem PK_rg {m:Mdl} (hm:VM m) {left:List (List Bool)} (n:Nat):∀ p∈PK m left n,-1099511627776≤p.1∧p.1≤1099511627776:=fun p hp=>by
  obtain ⟨i,_,rfl⟩:=List.mem_map.1 hp
  have:=ct_getD hm i
  have:=excV_rg (m.cts.getD i default).most (m.cts.getD i default).pen (lowS (m.cts.getD i default).loads 0 left 0) this.1 this.2
  unfold leastV
  dsimp only
  omega
theorem PC_len (left:List (List Bool)) (S:List (List Nm)) (n:Nat):(PC left S n).length=n:=by simp[PC]
theorem PP_len (m:Mdl) (left:List (List Bool)) (S:List (List Nm)) (n:Nat):(PP m left S n).length=n:=by simp[PP]
theorem PK_len (m:Mdl) (left:List (List Bool)) (n:Nat):(PK m left n).length=n:=by simp[PK]
theorem bothV_snoc (a:List Bool) (x:Bool) (b:List Bool):bothV (a++[x]) b=bothV a b++b.map (x && ·):=by unfold bothV;rw[List.flatMap_append];simp
theorem bothV_len (b:List Bool):∀ a:List Bool,(bothV a b).length=a.length * b.length
  | []=>by simp[bothV]
  | x::r=>by
    show ((b.map (x && ·))++bothV r b).length=_
    rw[List.length_append,bothV_len b r,List.length_map,List.length_cons,Nat.add_mul];omega
end T
open Go Go.Am
namespace T
theorem LO.keep {α:Type} {enc:α→List AV} {B:List (Nat × Ob)} {D E:List (Nat × Nat)} {S T:List (List α)} {os ob:List Ob} (h:LO enc B D E S T os) (k:Keep os ob):LO enc B D E S T ob :=
  ⟨fun b hb=>⟨k _ _ (h.base b hb).1,(h.base b hb).2⟩,⟨h.rD.len,fun j hj=>⟨k _ _ (h.rD.row j hj).1,(h.rD.row j hj).2⟩⟩,⟨h.rE.len,fun j hj=>⟨k _ _ (h.rE.row j hj).1,(h.rE.row j hj).2⟩⟩,h.nd⟩
theorem Keep.trans {a b c:List Ob} (h:Keep a b) (k:Keep b c):Keep a c:=fun i o hi=>k i o (h i o hi)
theorem bothV_get (b:List Bool):∀ (a:List Bool) (n:Nat),n<a.length * b.length→(bothV a b).getD n false=(a.getD (n / b.length) false && b.getD (n % b.length) false)
  | [],n,h=>by simp at h
  | x::r,n,h=>by
    have hb:0<b.length:=by
      rcases Nat.eq_zero_or_pos b.length with h0 | h0
      · rw[h0] at h;omega
      · exact h0
    show ((b.map (x && ·))++bothV r b).getD n false=_
    rcases Nat.lt_or_ge n b.length with hn | hn
    · rw[Nat.div_eq_of_lt hn,Nat.mod_eq_of_lt hn,List.getD_cons_zero,List.getD_eq_getElem?_getD,List.getElem?_append_left (by simpa using hn),List.getElem?_map,List.getElem?_eq_getElem hn,List.getD_eq_getElem?_getD,List.getElem?_eq_getElem hn];rfl
    · obtain ⟨k,rfl⟩ :∃k,n=k+b.length:=⟨n - b.length,by omega⟩
      have ih:=bothV_get b r k (by rw[List.length_cons,Nat.add_mul] at h;omega)
      rw[List.getD_eq_getElem?_getD,List.getElem?_append_right (by simpa using hn),List.length_map,Nat.add_sub_cancel,← List.getD_eq_getElem?_getD,ih,Nat.add_div_right _ hb,Nat.add_mod_right,List.getD_cons_succ]
def ptN (q:Int × Bool):Nm:=(q.1,!q.2)
theorem lowA_ptN (l:List Nm) (s:List Bool):lowA (optsV l s)=ptN (lowN l s (0,false)):=lowA_opts l s
def PAR (m:Mdl) (left:List (List Bool)) (g:Lg):List (Int × Bool):=PC left g.1 m.cls.length++PP m left g.2 m.prs.length++PK m left m.cts.length
theorem accV_app (a b:List (Int × Bool)) (z:Int × Bool):accV (a++b) z=accV b (accV a z):=by unfold accV;rw[List.foldl_append]
theorem valV_par (m:Mdl) (left:List (List Bool)) (g:Lg):valV m left g=if (accV (PAR m left g) (0,false)).2=true then 1099511627776 else min (accV (PAR m left g) (0,false)).1 1099511627776:=by
  unfold valV PAR;rw[accV_app,accV_app]
theorem accV_t:∀ (l:List (Int × Bool)) (n:Int),(accV l (n,true)).2=true
  | [],_=>rfl
  | p::r,n=>accV_t r _
theorem accV_any:∀ (l:List (Int × Bool)) (n:Int),(accV l (n,false)).2=true↔∃ p∈l,p.2=false
  | [],_=>by simp[accV]
  | p::r,n=>by
    show (accV r (n+p.1,false || !p.2)).2=true↔_
    cases hp:p.2 with
    | false =>
      simp only[Bool.not_false,Bool.or_true]
      exact⟨fun _=>⟨p,by simp,hp⟩,fun _=>accV_t r _⟩
    | true =>
      simp only[Bool.not_true,Bool.or_false]
      rw[accV_any r]
      constructor
      · rintro ⟨q,hq,h⟩;exact⟨q,by simp[hq],h⟩
      · rintro ⟨q,hq,h⟩
        rcases List.mem_cons.1 hq with rfl | hq
        · rw[hp] at h;cases h
        · exact⟨q,hq,h⟩
theorem least_forb {m:Mdl} (hm:VM m) {left:List (List Bool)} (hl:left.length=m.cls.length) {c:Ct} (hc:c∈m.cts) (hw:∀ x∈c.loads,1≤x.wt∧x.wt≤1000):decide (1099511627776≤leastV left c)=(decide (c.pen=1099511627776) && decide (0<leastV left c)):=by
  obtain ⟨_,h2,h3,_⟩:=ctB_iff (hm.ct c hc)
  have hs:=lowS_rg hw left
  have hcl:=hm.cls
  have hp:1≤c.pen∧c.pen≤1048576∨c.pen=1099511627776:=by unfold priceB at h3;rw[decide_eq_true_eq] at h3;omega
  unfold leastV excV
  generalize lowS c.loads 0 left 0=n at *
  rw[Bool.eq_iff_iff,Bool.and_eq_true,decide_eq_true_eq,decide_eq_true_eq,decide_eq_true_eq]
  split
  · omega
  · rcases hp with hp | hp
    · have:(n - c.most) * c.pen≤24000 * 1048576:=Int.mul_le_mul (by omega) hp.2 (by omega) (by omega)
      omega
    · rw[hp];omega
end T
namespace T
theorem optsV_le:∀ (l:List Nm) (s:List Bool),(optsV l s).length≤l.length
  | [],s=>by cases s<;>simp[optsV]
  | p::r,[]=>by simp[optsV]
  | p::r,is::s=>by
    rw[optsV,List.length_append,List.length_cons]
    have:=optsV_le r s
    split<;>simp<;>omega
end T

