import Derived.Test.YtmhloinjpcabcaaGreatX13
import Derived.Test.YtmhloinjpcabcaaGreatX15
set_option linter.unusedVariables false
set_option linter.unusedSimpArgs false
set_option linter.unnecessarySimpa false
set_option linter.unusedSectionVars false
set_option maxHeartbeats 64000000
set_option maxRecDepth 20000
open Go Go.Am
namespace T
theorem chL_app {R:Int} {c:Int × Int}:∀ {l:List (Int × Int)} {q:Option (Int × Int)},chL R q l=true→ruleB R c.1=true→priceB c.2=true→(∀ x∈l,x.1<c.1)→(∀ y,q=some y→y.1<c.1)→chL R q (l++[c])=true
  | [],q,_,h1,h2,_,h3=>by
    rw[List.nil_append,chL.eq_def]
    cases q with
    | none=>simp[h1,h2,chL]
    | some y=>simp[h1,h2,chL,h3 y rfl]
  | x::r,q,h,h1,h2,h3,h4=>by
    rw[chL.eq_def] at h
    simp only[Bool.and_eq_true] at h
    rw[List.cons_append,chL.eq_def]
    simp only[Bool.and_eq_true]
    exact⟨h.1,chL_app h.2 h1 h2 (fun y hy=>h3 y (by simp[hy])) (fun y hy=>by simp only[Option.some.injEq] at hy;subst hy;exact h3 _ (by simp))⟩
theorem prsL_app {m:Mdl} {c:Pr}:∀ {l:List Pr} {q:Option Pr},prsL m q l=true→pairB m c=true→(∀ x∈l,ordV x c<0)→(∀ y,q=some y→ordV y c<0)→prsL m q (l++[c])=true
  | [],q,_,h1,_,h3=>by
    rw[List.nil_append,prsL.eq_def]
    cases q with
    | none=>simp[h1,prsL]
    | some y=>simp[h1,prsL,h3 y rfl]
  | x::r,q,h,h1,h3,h4=>by
    rw[prsL.eq_def] at h
    simp only[Bool.and_eq_true] at h
    rw[List.cons_append,prsL.eq_def]
    simp only[Bool.and_eq_true]
    exact⟨h.1,prsL_app h.2 h1 (fun y hy=>h3 y (by simp[hy])) (fun y hy=>by simp only[Option.some.injEq] at hy;subst hy;exact h3 _ (by simp))⟩
theorem ldL_app {m:Mdl} {c:Ld}:∀ {l:List Ld} {q:Option Ld},ldL m q l=true→optB m c.cls c.opt=true→(1≤c.wt∧c.wt≤1000)→(∀ x∈l,ldOrd x c<0)→(∀ y,q=some y→ldOrd y c<0)→ldL m q (l++[c])=true
  | [],q,_,h1,h2,_,h3=>by
    rw[List.nil_append,ldL.eq_def]
    cases q with
    | none=>simp[h1,h2,ldL]
    | some y=>simp[h1,h2,ldL,h3 y rfl]
  | x::r,q,h,h1,h2,h3,h4=>by
    rw[ldL.eq_def] at h
    simp only[Bool.and_eq_true] at h
    rw[List.cons_append,ldL.eq_def]
    simp only[Bool.and_eq_true]
    exact⟨h.1,ldL_app h.2 h1 h2 (fun y hy=>h3 y (by simp[hy])) (fun y hy=>by simp only[Option.some.injEq] at hy;subst hy;exact h3 _ (by simp))⟩
theorem prsL_same {cls:List (List Opt)} {R:Int} {a b:List Pr} {c d:List Ct}:∀ (l:List Pr) (q:Option Pr),prsL ⟨cls,a,c,R⟩ q l=prsL ⟨cls,b,d,R⟩ q l
  | [],_=>rfl
  | x::r,q=>by
    have:=prsL_same (cls:=cls) (R:=R) (a:=a) (b:=b) (c:=c) (d:=d) r (some x)
    cases q<;>simp only[prsL,this]<;>rfl
theorem ldL_same {cls:List (List Opt)} {R:Int} {a b:List Pr} {c d:List Ct}:∀ (l:List Ld) (q:Option Ld),ldL ⟨cls,a,c,R⟩ q l=ldL ⟨cls,b,d,R⟩ q l
  | [],_=>rfl
  | x::r,q=>by
    have:=ldL_same (cls:=cls) (R:=R) (a:=a) (b:=b) (c:=c) (d:=d) r (some x)
    cases q<;>simp only[ldL,this]<;>rfl
theorem ctB_same {cls:List (List Opt)} {R:Int} {a b:List Pr} {c d:List Ct} (x:Ct):ctB ⟨cls,a,c,R⟩ x=ctB ⟨cls,b,d,R⟩ x:=by
  unfold ctB;rw[ldL_same (a:=a) (b:=b) (c:=c) (d:=d)]
theorem costV_range (L:List Int) (k:Nat):0≤costV L k∧costV L k≤1099511627776∧(0<costV L k→priceB (costV L k)=true):=by
  have h6:=nextV_range (L:=L) (k:=k) (n:=6) (by omega)
  have h20:=nextV_range (L:=L) (k:=nextA L k) (n:=20) (by omega)
  unfold costV
  split
  · exact⟨by omega,by omega,by omega⟩
  · split
    · exact⟨by omega,by omega,fun _=>by decide⟩
    · refine⟨by omega,by omega,fun _=>?_⟩
      rw[priceB,decide_eq_true_eq];omega
theorem costA_le {L:List Int} {k:Nat} (h:k≤L.length):costA L k≤L.length:=by
  unfold costA;split
  · exact nextA_le h
  · exact nextA_le (nextA_le h)
structure MM (m:Mdl) (classes options:Nat):Prop where
  vm:VM m
  few:m.cls.length≤classes
  some:∀ l∈m.cls,1≤l.length∧l.length≤options
  rul:1≤m.rules∧m.rules≤4
  cts:m.cts.length≤2
theorem VM.mb {m:Mdl} (h:VM m):MB m:=by
  refine⟨by have:=h.cls;omega,fun l hl=>by have:=h.opt l hl;omega,fun l hl o ho=>?_,by have:=h.prs;omega,fun p hp=>?_,by have:=h.cts;omega,fun c hc=>?_⟩
  · have:=chL_len0 h.rul.1 (h.chs l hl o ho)
    have:=h.rul;omega
  · obtain ⟨_,h1,h2,h3,h4⟩:=pairB_iff (prsL_mem h.pr p hp)
    have a:=h.opt _ (getD_mem (l:=m.cls) (i:=p.fst.toNat) (d:=default) (by omega))
    have b:=h.opt _ (getD_mem (l:=m.cls) (i:=p.snd.toNat) (d:=default) (by omega))
    have:((m.cls.getD p.fst.toNat default).length:Int) * (m.cls.getD p.snd.toNat default).length≤24 * 24:=Int.mul_le_mul (by omega) (by omega) (by omega) (by omega)
    omega
  · have:=ldL_len0 h (ctB_iff (h.ct c hc)).2.2.2
    omega
def mOs (L:List Int) (k:Nat) (cls:List (List Opt)) (prs:List Pr) (cts:List Ct) (R:Int):List Ob :=
  [.var [.tree 1 (ints L),.lit (.int .i64 k)],.var [.lit (.slice none 0 0),.lit (.slice none 0 0),.lit (.slice none 0 0),.lit (.int .i64 0)],
    .var [.ref 3 1 0 cls.length,.ref 4 4 0 prs.length,.ref 5 4 0 cts.length,.lit (.int .i64 R)],.arr 1 (rowsOf eCls cls),.arr 4 (rowsOf ePr prs),.arr 4 (rowsOf eCt cts)]
def COK (R:Int) (l:List Opt):Prop:=∀ o∈l,chL R none o.ch=true
def lexlt (p:Pr) (u i k:Nat):Prop:=p.rule<u∨(p.rule=u∧(p.fst<i∨(p.fst=i∧p.snd<k)))
structure PInv (cls:List (List Opt)) (R:Int) (prs:List Pr) (u i k:Nat):Prop where
  ok:prsL ⟨cls,[],[],R⟩ none prs=true
  lt:∀ p∈prs,lexlt p u i k
  len:prs.length≤576 * u+24 * i+k
theorem PInv.mono {cls:List (List Opt)} {R:Int} {prs:List Pr} {u i k u' i' k':Nat} (h:PInv cls R prs u i k) (hl:u<u'∨(u=u'∧(i<i'∨(i=i'∧k≤k')))) (hs:576 * u+24 * i+k≤576 * u'+24 * i'+k'):PInv cls R prs u' i' k' :=
  ⟨h.ok,fun p hp=>by have:=h.lt p hp;unfold lexlt at *;omega,by have:=h.len;omega⟩
theorem PInv.app {cls:List (List Opt)} {R:Int} {prs:List Pr} {u i k:Nat} (h:PInv cls R prs u i k) {tab:List Int} (hp:pairB ⟨cls,[],[],R⟩ ⟨i,k,u,tab⟩=true):PInv cls R (prs++[⟨i,k,u,tab⟩]) u i (k+1):=by
  refine⟨prsL_app h.ok hp (fun x hx=>?_) (by simp),fun p hp=>?_,by have:=h.len;simp;omega⟩
  · have:=h.lt x hx
    rw[ordV_lt];unfold lexlt at this;dsimp only;omega
  · rcases List.mem_append.1 hp with hp | hp
    · have:=h.lt p hp;unfold lexlt at *;omega
    · simp only[List.mem_singleton] at hp;subst hp;unfold lexlt;dsimp only;omega
theorem pairB_mk {cls:List (List Opt)} {R:Int} {tab:List Int} {i k u:Nat} (hu:(u:Int)<R) (hik:i<k) (hk:k<cls.length) (ht:tab.length=(cls.getD i default).length * (cls.getD k default).length) (hc:∀ x∈tab,0≤x∧(0<x→priceB x=true)) :
    pairB ⟨cls,[],[],R⟩ ⟨i,k,u,tab⟩=true:=by
  unfold pairB ruleB
  simp only[Bool.and_eq_true,decide_eq_true_eq,Bool.not_eq_true',Int.toNat_natCast,List.any_eq_false]
  refine⟨⟨⟨by omega,hu⟩,by omega,by omega,by omega,?_⟩,fun x hx=>?_⟩
  · rw[ht];simp
  · unfold badN
    have:=hc x hx
    by_cases h0:x=0
    · subst h0;decide
    · rw[this.2 (by omega)];simp
structure LInv (cls:List (List Opt)) (R:Int) (l:List Ld) (i k:Nat):Prop where
  ok:ldL ⟨cls,[],[],R⟩ none l=true
  lt:∀ x∈l,x.cls<i∨(x.cls=i∧x.opt<k)
  len:l.length≤24 * i+k
theorem LInv.mono {cls:List (List Opt)} {R:Int} {l:List Ld} {i k i' k':Nat} (h:LInv cls R l i k) (hl:i<i'∨(i=i'∧k≤k')) (hs:24 * i+k≤24 * i'+k'):LInv cls R l i' k' :=
  ⟨h.ok,fun p hp=>by have:=h.lt p hp;omega,by have:=h.len;omega⟩
theorem LInv.app {cls:List (List Opt)} {R:Int} {l:List Ld} {i k:Nat} (h:LInv cls R l i k) {w:Int} (hi:i<cls.length) (hk:k<(cls.getD i default).length) (hw:1≤w∧w≤1000):LInv cls R (l++[⟨i,k,w⟩]) i (k+1):=by
  refine⟨ldL_app h.ok (optB_iff.2 ⟨by dsimp only;omega,by dsimp only;omega,by dsimp only;omega,by simp;exact hk⟩) hw (fun x hx=>?_) (by simp),fun p hp=>?_,by have:=h.len;simp;omega⟩
  · have:=h.lt x hx
    rw[ldOrd_lt];dsimp only;omega
  · rcases List.mem_append.1 hp with hp | hp
    · have:=h.lt p hp;omega
    · simp only[List.mem_singleton] at hp;subst hp;dsimp only;omega
theorem opt_default_ch:(default:Opt).ch=[]:=rfl
theorem planC_ok {m:Mdl} (hm:VM m):∀ (plan:List Int) (i:Nat) (out:List Int),OutOK m.rules out→OutOK m.rules (planC m i plan out)
  | [],_,_,h=>h
  | o::r,i,out,h=>by
    rw[planC]
    refine planC_ok hm r (i+1) _ ?_
    split
    · exact h
    · refine chargesL_ok h fun c hc=>?_
      rcases Nat.lt_or_ge i m.cls.length with hi | hi
      · have hl:=getD_mem (d:=(default:List Opt)) hi
        generalize m.cls.getD i default=l at *
        rcases Nat.lt_or_ge o.toNat l.length with ho | ho
        · exact (chL_mem (hm.chs l hl _ (getD_mem ho)) c hc).2
        · rw[show l.getD o.toNat default=default by rw[List.getD_eq_getElem?_getD,List.getElem?_eq_none ho];rfl] at hc
          exact absurd hc (by rw[opt_default_ch];simp)
      · rw[show m.cls.getD i default=[] by rw[List.getD_eq_getElem?_getD,List.getElem?_eq_none hi];rfl] at hc
        exact absurd hc (by rw[List.getD_nil,opt_default_ch];simp)
theorem pairC_ok {m:Mdl} {plan:List Int}:∀ (l:List Pr) (out:List Int),(∀ p∈l,pairB m p=true)→OutOK m.rules out→OutOK m.rules (pairC m plan l out)
  | [],_,_,h=>h
  | p::r,out,hp,h=>by
    rw[pairC]
    refine pairC_ok r _ (fun q hq=>hp q (by simp[hq])) ?_
    split
    · exact h.add (entry_in (hp p (by simp)) _ _)
    · exact h
theorem countC_ok {m:Mdl} {plan:List Int}:∀ (l:List Ct) (out:List Int),(∀ c∈l,ctB m c=true)→OutOK m.rules out→OutOK m.rules (countC plan l out)
  | [],_,_,h=>h
  | c::r,out,hp,h=>by
    rw[countC]
    exact countC_ok r _ (fun q hq=>hp q (by simp[hq])) (h.add (excV_in (price_in (ctB_iff (hp c (by simp))).2.2.1)))
theorem rulesV_ok {m:Mdl} (hm:VM m) (plan:List Int):OutOK m.rules (rulesV m plan) :=
  countC_ok _ _ hm.ct (pairC_ok _ _ (prsL_mem hm.pr) (planC_ok hm _ _ _ (OutOK.rep hm.rul.1)))
def sumL:List Int→Int
  | []=>0
  | x::r=>x+sumL r
theorem sumL_nonneg:∀ {l:List Int},(∀ x∈l,In41 x)→0≤sumL l∧sumL l≤1099511627776 * l.length
  | [],_=>by simp[sumL]
  | x::r,h=>by
    have:=sumL_nonneg fun y hy=>h y (List.mem_cons_of_mem x hy)
    have:=h x (by simp)
    unfold In41 at this
    simp only[sumL,List.length_cons];omega
theorem totalL_sum:∀ {l:List Int} {n:Int},(∀ x∈l,In41 x)→In41 n→totalL l n=min (n+sumL l) 1099511627776
  | [],n,_,hn=>by unfold In41 at hn;simp only[totalL,sumL];omega
  | x::r,n,h,hn=>by
    have hx:=h x (by simp)
    have hr:∀ y∈r,In41 y:=fun y hy=>h y (by simp[hy])
    rw[totalL,totalL_sum hr (addC_in hn hx)]
    have:=sumL_nonneg hr
    unfold In41 at hx hn
    simp only[addC,sumL];omega
theorem sumL_mem:∀ {l:List Int},(∀ x∈l,In41 x)→∀ x∈l,x≤sumL l
  | [],_,x,hx=>by simp at hx
  | y::r,h,x,hx=>by
    have hr:∀ z∈r,In41 z:=fun z hz=>h z (by simp[hz])
    have:=(sumL_nonneg hr).1
    have hy:=h y (by simp)
    unfold In41 at hy
    rcases List.mem_cons.1 hx with rfl | hx
    · simp only[sumL];omega
    · have:=sumL_mem hr x hx;simp only[sumL];omega
def wlV:List Ld→Int→Int→Int→Int
  | [],_,_,w=>w
  | x::r,c,o,w=>wlV r c o (if x.cls=c∧x.opt=o then x.wt else w)
def lowW (l:List Ld) (c:Int):Nat→List Bool→Int→Int
  | _,[],b=>b
  | o,is::r,b=>lowW l c (o+1) r (if is=true∧(b<0∨wlV l c o 0<b) then wlV l c o 0 else b)
def lowC (l:List Ld) (c:Int) (row:List Bool):Int:=max (lowW l c 0 row (-1)) 0
def lowS (l:List Ld):Nat→List (List Bool)→Int→Int
  | _,[],n=>n
  | i,row::r,n=>lowS l (i+1) r (n+lowC l i row)
theorem wlV_snoc (l:List Ld) (x:Ld) (c o:Int):∀ w,wlV (l++[x]) c o w=if x.cls=c∧x.opt=o then x.wt else wlV l c o w:=by
  induction l with
  | nil=>intro w;rfl
  | cons y r ih=>intro w;exact ih _
theorem wlV_none:∀ {l:List Ld} {c:Int} (o w:Int),(∀ x∈l,x.cls≠c)→wlV l c o w=w
  | [],_,_,_,_=>rfl
  | x::r,c,o,w,h=>by
    rw[wlV,if_neg (fun e=>h x (by simp) e.1)]
    exact wlV_none o w fun y hy=>h y (by simp[hy])
theorem lowW_none {l:List Ld} {c:Int} (h:∀ x∈l,x.cls≠c):∀ (row:List Bool) (o:Nat) (b:Int),-1≤b∧b≤0→-1≤lowW l c o row b∧lowW l c o row b≤0
  | [],_,b,hb=>hb
  | is::r,o,b,hb=>by
    rw[lowW]
    refine lowW_none h r (o+1) _ ?_
    rw[wlV_none _ _ h]
    split<;>omega
theorem lowC_none {l:List Ld} {c:Int} (h:∀ x∈l,x.cls≠c) (row:List Bool):lowC l c row=0:=by
  have:=lowW_none h row 0 (-1) (by omega)
  unfold lowC;omega
def sumN (f:Nat→Int):Nat→Int
  | 0=>0
  | n+1=>sumN f n+f n
theorem sumN_congr {f g:Nat→Int}:∀ (n:Nat),(∀ i<n,f i=g i)→sumN f n=sumN g n
  | 0,_=>rfl
  | n+1,h=>by rw[sumN,sumN,sumN_congr n fun i hi=>h i (by omega),h n (by omega)]
theorem sumN_rg {f:Nat→Int} {B:Int}:∀ (n:Nat),(∀ i<n,0≤f i∧f i≤B)→0≤sumN f n∧sumN f n≤B * n
  | 0,_=>by simp[sumN]
  | n+1,h=>by
    have h1:=sumN_rg n fun i hi=>h i (by omega)
    have h2:=h n (by omega)
    rw[sumN,Int.natCast_add,Int.mul_add]
    simp only[Int.cast_ofNat_Int,Int.mul_one]
    omega
theorem sumN_one (f:Nat→Int) (k:Nat) (v:Int):∀ (n:Nat),sumN (fun i=>if i=k then f i+v else f i) n=sumN f n+if k<n then v else 0
  | 0=>by simp[sumN]
  | n+1=>by
    rw[sumN,sumN,sumN_one f k v n]
    by_cases h:n=k
    · subst h;rw[if_pos rfl,if_neg (by omega),if_pos (by omega)];omega
    · rw[if_neg h]
      by_cases h2:k<n
      · rw[if_pos h2,if_pos (by omega)];omega
      · rw[if_neg h2,if_neg (by omega)];omega
theorem sumN_head (f:Nat→Int):∀ n,sumN f (n+1)=f 0+sumN (fun i=>f (i+1)) n
  | 0=>by simp[sumN]
  | n+1=>by rw[sumN,sumN_head f n,sumN];omega
theorem lowS_eq (l:List Ld):∀ (left:List (List Bool)) (i:Nat) (n:Int),lowS l i left n=n+sumN (fun j=>lowC l (i+j:Nat) (left.getD j [])) left.length
  | [],i,n=>by simp[lowS,sumN]
  | row::r,i,n=>by
    rw[lowS,lowS_eq l r (i+1),List.length_cons,sumN_head]
    simp only[List.getD_cons_zero,List.getD_cons_succ,Nat.add_zero]
    rw[sumN_congr (g:=fun j=>lowC l (i+(j+1):Nat) (r.getD j [])) r.length fun j _=>by rw[show i+1+j=i+(j+1) by omega]]
    omega
abbrev Grp:=Int × Nat × List (Int × Int)
def vE (es:List (Int × Int)):List (Int × Value):=es.map fun p=>(p.1,.int .i64 p.2)
def gE (A:List Grp):List (Int × Value):=A.map fun e=>(e.1,.map (some e.2.1))
def setV (o w:Int):List (Int × Int)→List (Int × Int)
  | []=>[(o,w)]
  | p::r=>if p.1=o then (o,w)::r else p::setV o w r
def getV (o:Int):List (Int × Int)→Int
  | []=>0
  | p::r=>if p.1=o then p.2 else getV o r
theorem setI_vE (o w:Int):∀ es,setI o (.int .i64 w) (vE es)=vE (setV o w es)
  | []=>rfl
  | p::r=>by
    show setI o _ ((p.1,Value.int .i64 p.2)::vE r)=_
    rw[setI,setV]
    by_cases h:p.1=o
    · rw[if_pos h,if_pos h];rfl
    · rw[if_neg h,if_neg h,setI_vE o w r];rfl
theorem getV_setV (o w x:Int):∀ es,getV x (setV o w es)=if o=x then w else getV x es
  | []=>rfl
  | p::r=>by
    rw[setV]
    by_cases h:p.1=o
    · rw[if_pos h,getV,getV]
      by_cases h2:o=x
      · rw[if_pos h2,if_pos h2]
      · rw[if_neg h2,if_neg h2,if_neg (by omega)]
    · rw[if_neg h,getV,getV,getV_setV o w x r]
      by_cases h2:p.1=x
      · rw[if_pos h2,if_neg (by omega),if_pos h2]
      · rw[if_neg h2,if_neg h2]
theorem setI_gE (c:Int) (b:Nat):∀ A:List Grp,(∀ e∈A,e.1≠c)→setI c (.map (some b)) (gE A)=gE (A++[(c,b,[])])
  | [],_=>rfl
  | e::r,h=>by
    show setI c _ ((e.1,Value.map (some e.2.1))::gE r)=_
    rw[setI,if_neg (h e (by simp)),setI_gE c b r fun x hx=>h x (by simp[hx])];rfl
structure GI (R:Nat) (dn:List Ld) (A:List Grp) (b0:Nat) (μ:Mem):Prop where
  top:μ b0=some (.map (iE (gE A)))
  sub:∀ e∈A,μ e.2.1=some (.map (iE (vE e.2.2)))
  b0n:∀ e∈A,e.2.1≠b0
  inj:∀ e∈A,∀ e'∈A,e.2.1=e'.2.1→e=e'
  keys:(A.map (·.1)).Nodup
  val:∀ e∈A,∀ o,getV o e.2.2=wlV dn e.1 o 0
  has:∀ x∈dn,∃ e∈A,e.1=x.cls
  rng:∀ e∈A,0≤e.1∧e.1<R
theorem GI.nil {R b0:Nat} {μ:Mem} (h:μ b0=some (.map [])):GI R [] [] b0 μ:=⟨h,by simp,by simp,by simp,by simp,by simp,by simp,by simp⟩
theorem GI.new {R:Nat} {dn:List Ld} {A:List Grp} {b0:Nat} {μ:Mem} (h:GI R dn A b0 μ) {c:Int} (hcR:0≤c∧c<R) (hc:∀ e∈A,e.1≠c) {b:Nat} (hb:μ b=none):GI R dn (A++[(c,b,[])]) b0 (updM (updM μ b (.map [])) b0 (.map (iE (setI c (.map (some b)) (gE A))))):=by
  have hb0:b≠b0:=fun e=>by rw[e,h.top] at hb;cases hb
  have hbe:∀ e∈A,e.2.1≠b:=fun e he e2=>by have:=h.sub e he;rw[e2,hb] at this;cases this
  refine⟨by rw[updM_same,setI_gE c b A hc],fun e he=>?_,fun e he=>?_,fun e he e' he' hh=>?_,?_,fun e he o=>?_,fun x hx=>?_,fun e he=>?_⟩
  · rcases List.mem_append.1 he with he | he
    · rw[updM_ne _ _ (h.b0n e he),updM_ne _ _ (hbe e he)];exact h.sub e he
    · simp only[List.mem_singleton] at he;subst he
      rw[updM_ne _ _ hb0,updM_same];rfl
  · rcases List.mem_append.1 he with he | he
    · exact h.b0n e he
    · simp only[List.mem_singleton] at he;subst he;exact hb0
  · rcases List.mem_append.1 he with he | he<;>rcases List.mem_append.1 he' with he' | he'
    · exact h.inj e he e' he' hh
    · simp only[List.mem_singleton] at he';subst he';exact absurd hh (hbe e he)
    · simp only[List.mem_singleton] at he;subst he;exact absurd hh.symm (hbe e' he')
    · simp only[List.mem_singleton] at he he';rw[he,he']
  · rw[List.map_append,List.nodup_append]
    refine⟨h.keys,by simp,fun a ha b' hb'=>?_⟩
    obtain ⟨e,he,rfl⟩:=List.mem_map.1 ha
    simp only[List.map_cons,List.map_nil,List.mem_singleton] at hb'
    rw[hb'];exact hc e he
  · rcases List.mem_append.1 he with he | he
    · exact h.val e he o
    · simp only[List.mem_singleton] at he;subst he
      rw[wlV_none]
      · rfl
      · intro x hx hxc
        obtain ⟨e,he,hee⟩:=h.has x hx
        exact hc e he (hee.trans hxc)
  · obtain ⟨e,he,hee⟩:=h.has x hx
    exact⟨e,List.mem_append_left _ he,hee⟩
  · rcases List.mem_append.1 he with he | he
    · exact h.rng e he
    · simp only[List.mem_singleton] at he;subst he;exact hcR
def setA (c o w:Int) (A:List Grp):List Grp:=A.map fun e=>if e.1=c then (e.1,e.2.1,setV o w e.2.2) else e
theorem gE_setA (c o w:Int) (A:List Grp):gE (setA c o w A)=gE A:=by
  unfold gE setA
  rw[List.map_map]
  refine List.map_congr_left fun e _=>?_
  simp only[Function.comp]
  split<;>rfl
theorem GI.put {R:Nat} {dn:List Ld} {A:List Grp} {b0:Nat} {μ:Mem} (h:GI R dn A b0 μ) {x:Ld} {e0:Grp} (he0:e0∈A) (hc:e0.1=x.cls):GI R (dn++[x]) (setA x.cls x.opt x.wt A) b0 (updM μ e0.2.1 (.map (iE (setI x.opt (.int .i64 x.wt) (vE e0.2.2))))):=by
  have uniq:∀ e∈A,e.1=x.cls→e=e0:=fun e he hh=>by
    have hk:=h.keys
    obtain ⟨i,hi,rfl⟩:=List.mem_iff_getElem.1 he
    obtain ⟨j,hj,rfl⟩:=List.mem_iff_getElem.1 he0
    have:i=j:=(List.getElem_inj (h₀:=by simpa using hi) (h₁:=by simpa using hj) hk).1 (by simp only[List.getElem_map];rw[hh,hc])
    subst this;rfl
  have one:∀ e∈setA x.cls x.opt x.wt A,(e=(e0.1,e0.2.1,setV x.opt x.wt e0.2.2))∨(e∈A∧e.1≠x.cls):=fun e he=>by
    obtain ⟨e',he',rfl⟩:=List.mem_map.1 he
    by_cases hh:e'.1=x.cls
    · left;rw[if_pos hh,uniq e' he' hh]
    · right;rw[if_neg hh];exact⟨he',hh⟩
  have hbe:∀ e∈A,e.1≠x.cls→e.2.1≠e0.2.1:=fun e he hh e2=>hh (by rw[h.inj e he e0 he0 e2,hc])
  refine⟨by rw[updM_ne _ _ (h.b0n e0 he0).symm,gE_setA];exact h.top,fun e he=>?_,fun e he=>?_,fun e he e' he' hh=>?_,?_,fun e he o=>?_,fun y hy=>?_,fun e he=>?_⟩
  · rcases one e he with rfl | ⟨h1,h2⟩
    · rw[updM_same,setI_vE]
    · rw[updM_ne _ _ (hbe e h1 h2)];exact h.sub e h1
  · rcases one e he with rfl | ⟨h1,h2⟩
    · exact h.b0n e0 he0
    · exact h.b0n e h1
  · rcases one e he with rfl | ⟨h1,h2⟩<;>rcases one e' he' with rfl | ⟨h3,h4⟩
    · rfl
    · exact absurd hh.symm (hbe e' h3 h4)
    · exact absurd hh (hbe e h1 h2)
    · exact h.inj e h1 e' h3 hh
  · have:(setA x.cls x.opt x.wt A).map (·.1)=A.map (·.1):=by
      unfold setA
      rw[List.map_map]
      refine List.map_congr_left fun e _=>?_
      simp only[Function.comp]
      split<;>rfl
    rw[this];exact h.keys
  · rw[wlV_snoc]
    rcases one e he with rfl | ⟨h1,h2⟩
    · dsimp only
      rw[getV_setV,h.val e0 he0 o]
      by_cases ho:x.opt=o
      · rw[if_pos ho,if_pos ⟨hc.symm,ho⟩]
      · rw[if_neg ho,if_neg (fun e=>ho e.2)]
    · rw[if_neg (fun e=>h2 e.1.symm)];exact h.val e h1 o
  · have mem:∀ e∈A,∃ e'∈setA x.cls x.opt x.wt A,e'.1=e.1:=fun e he=>⟨_,List.mem_map_of_mem he,by split<;>rfl⟩
    rcases List.mem_append.1 hy with hy | hy
    · obtain ⟨e,he,hee⟩:=h.has y hy
      obtain ⟨e',k1,k2⟩:=mem e he
      exact⟨e',k1,k2.trans hee⟩
    · simp only[List.mem_singleton] at hy;subst hy
      obtain ⟨e',k1,k2⟩:=mem e0 he0
      exact⟨e',k1,k2.trans hc⟩
  · rcases one e he with rfl | ⟨h1,h2⟩
    · exact h.rng e0 he0
    · exact h.rng e h1
def sumA (f:Int→Int):List Grp→Int
  | []=>0
  | e::r=>f e.1+sumA f r
theorem sumA_classes (f:Int→Int) (n:Nat):∀ A:List Grp,(A.map (·.1)).Nodup→(∀ e∈A,0≤e.1∧e.1<n)→sumA f A=sumN (fun i=>if∃e∈A,e.1=(i:Int) then f i else 0) n
  | [],_,_=>by
    rw[sumN_congr (g:=fun _=>0) n (fun i _=>by simp)]
    have:∀ n,sumN (fun _=>0) n=0:=fun n=>by induction n with | zero=>rfl | succ n ih=>rw[sumN,ih];rfl
    rw[this];rfl
  | e::r,hn,hr=>by
    rw[List.map_cons,List.nodup_cons] at hn
    rw[sumA,sumA_classes f n r hn.2 fun x hx=>hr x (by simp[hx])]
    have h0:=hr e (by simp)
    have hnot:¬∃x∈r,x.1=((e.1.toNat:Nat):Int):=by
      rintro ⟨x,hx,hh⟩
      rw[Int.toNat_of_nonneg h0.1] at hh
      exact hn.1 (List.mem_map.2 ⟨x,hx,hh⟩)
    have:=sumN_one (fun i=>if∃x∈r,x.1=(i:Int) then f i else 0) e.1.toNat (f e.1) n
    rw[if_pos (by omega)] at this
    rw[Int.add_comm,← this]
    refine sumN_congr n fun i hi=>?_
    by_cases h:i=e.1.toNat
    · subst h
      rw[if_pos rfl,if_neg hnot,if_pos ⟨e,by simp,by omega⟩,Int.toNat_of_nonneg h0.1];omega
    · rw[if_neg h]
      have:(∃ x∈e::r,x.1=(i:Int))↔∃ x∈r,x.1=(i:Int):=by
        constructor
        · rintro ⟨x,hx,hh⟩
          rcases List.mem_cons.1 hx with rfl | hx
          · omega
          · exact⟨x,hx,hh⟩
        · rintro ⟨x,hx,hh⟩;exact⟨x,by simp[hx],hh⟩
      simp only[this]
theorem sumA_one:∀ A:List Grp,sumA (fun _=>1) A=A.length
  | []=>rfl
  | e::r=>by rw[sumA,sumA_one r,List.length_cons];omega
theorem GI.len {R:Nat} {dn:List Ld} {A:List Grp} {b0:Nat} {μ:Mem} (h:GI R dn A b0 μ):A.length≤R:=by
  have h1:=sumA_classes (fun _=>1) R A h.keys h.rng
  rw[sumA_one] at h1
  have h2:=sumN_rg (f:=fun i=>if∃e∈A,e.1=(i:Int) then (1:Int) else 0) (B:=1) R fun i _=>by split<;>omega
  omega
theorem GI.sum {dn:List Ld} {A:List Grp} {b0:Nat} {μ:Mem} {left:List (List Bool)} (h:GI left.length dn A b0 μ):sumA (fun c=>lowC dn c (left.getD c.toNat [])) A=lowS dn 0 left 0:=by
  rw[sumA_classes _ left.length A h.keys h.rng,lowS_eq,Int.zero_add]
  refine sumN_congr _ fun i _=>?_
  simp only[Nat.zero_add,Int.toNat_natCast]
  by_cases hh :∃e∈A,e.1=(i:Int)
  · rw[if_pos hh]
  · rw[if_neg hh,lowC_none]
    intro x hx hxc
    obtain ⟨e,he,hee⟩:=h.has x hx
    exact hh ⟨e,he,hee.trans hxc⟩
end T

