import Derived.Test.YtdipcmigdbnheaaGreatX09
import Derived.Test.YtdipcmigdbnheaaGreatX12
set_option linter.unusedVariables false
set_option linter.unusedSimpArgs false
set_option linter.unnecessarySimpa false
set_option linter.unusedSectionVars false
set_option maxHeartbeats 64000000
set_option maxRecDepth 20000
open List renaming nil_append→fU,cons_append→fB,mem_append→dh,mem_singleton→ee,any_eq_false→v3,getD_eq_getElem?_getD→ay,getElem?_eq_none→dM,length_cons→dI,mem_cons→bW,getD_cons_zero→fT,getD_cons_succ→ep,map_append→eT,nodup_append→rZ,mem_map→bV,map_cons→du,map_nil→lV,map_map→xR,map_congr_left→qC,mem_iff_getElem→te,getElem_map→He,getElem?_eq_getElem→bm,not_mem_nil→lX,foldl_append→zI,foldl_nil→xS,getElem?_append_right→fA,getElem?_append_left→dH,getElem?_eq_some_iff→aY,getElem?_set_ne→cz,getElem?_set→bO,length_set→bF
open Bool renaming and_eq_true→a7,not_eq_true'→jh,not_eq_false→xQ,false_or→lA
open Option renaming some→dw
open Int renaming mul_le_mul→oo,toNat_natCast→dg,zero_add→tq,toNat_of_nonneg→mr
open Nat renaming lt_or_ge→dG
open Go Go.Am
namespace T
theorem RZ {R:Int} {c:Int × Int}:∀ {l:List (Int × Int)} {q:Option (Int × Int)},eA R q l=true→iP R c.1=true→fK c.2=true→(∀ x∈l,x.1<c.1)→(∀ y,q=some y→y.1<c.1)→eA R q (l++[c])=true
  | [],q,_,h1,h2,_,h3=>by
    rw[fU,eA.eq_def]
    cases q with
    | none=>simp[h1,h2,eA]
    | some y=>simp[h1,h2,eA,h3 y rfl]
  | x::r,q,h,h1,h2,h3,h4=>by
    rw[eA.eq_def] at h
    simp only[a7] at h
    rw[fB,eA.eq_def]
    simp only[a7]
    exact⟨h.1,RZ h.2 h1 h2 (fun y hy=>h3 y (by simp[hy])) (fun y hy=>by simp only[dw.injEq] at hy;subst hy;exact h3 _ (by simp))⟩
theorem R0 {m:ae} {c:Pr}:∀ {l:List Pr} {q:Option Pr},fQ m q l=true→eG m c=true→(∀ x∈l,nw x c<0)→(∀ y,q=some y→nw y c<0)→fQ m q (l++[c])=true
  | [],q,_,h1,_,h3=>by
    rw[fU,fQ.eq_def]
    cases q with
    | none=>simp[h1,fQ]
    | some y=>simp[h1,fQ,h3 y rfl]
  | x::r,q,h,h1,h3,h4=>by
    rw[fQ.eq_def] at h
    simp only[a7] at h
    rw[fB,fQ.eq_def]
    simp only[a7]
    exact⟨h.1,R0 h.2 h1 (fun y hy=>h3 y (by simp[hy])) (fun y hy=>by simp only[dw.injEq] at hy;subst hy;exact h3 _ (by simp))⟩
theorem R1 {m:ae} {c:Ld}:∀ {l:List Ld} {q:Option Ld},eo m q l=true→ez m c.cls c.opt=true→(1≤c.wt∧c.wt≤1000)→(∀ x∈l,sO x c<0)→(∀ y,q=some y→sO y c<0)→eo m q (l++[c])=true
  | [],q,_,h1,h2,_,h3=>by
    rw[fU,eo.eq_def]
    cases q with
    | none=>simp[h1,h2,eo]
    | some y=>simp[h1,h2,eo,h3 y rfl]
  | x::r,q,h,h1,h2,h3,h4=>by
    rw[eo.eq_def] at h
    simp only[a7] at h
    rw[fB,eo.eq_def]
    simp only[a7]
    exact⟨h.1,R1 h.2 h1 h2 (fun y hy=>h3 y (by simp[hy])) (fun y hy=>by simp only[dw.injEq] at hy;subst hy;exact h3 _ (by simp))⟩
theorem R2 {cls:List (List cB)} {R:Int} {a b:List Pr} {c d:List Ct}:∀ (l:List Pr) (q:Option Pr),fQ ⟨cls,a,c,R⟩ q l=fQ ⟨cls,b,d,R⟩ q l
  | [],_=>rfl
  | x::r,q=>by
    have:=R2 (cls:=cls) (R:=R) (a:=a) (b:=b) (c:=c) (d:=d) r (some x)
    cases q<;>simp only[fQ,this]<;>rfl
theorem R3 {cls:List (List cB)} {R:Int} {a b:List Pr} {c d:List Ct}:∀ (l:List Ld) (q:Option Ld),eo ⟨cls,a,c,R⟩ q l=eo ⟨cls,b,d,R⟩ q l
  | [],_=>rfl
  | x::r,q=>by
    have:=R3 (cls:=cls) (R:=R) (a:=a) (b:=b) (c:=c) (d:=d) r (some x)
    cases q<;>simp only[eo,this]<;>rfl
theorem ac8 {cls:List (List cB)} {R:Int} {a b:List Pr} {c d:List Ct} (x:Ct):fP ⟨cls,a,c,R⟩ x=fP ⟨cls,b,d,R⟩ x:=by
  unfold fP;rw[R3 (a:=a) (b:=b) (c:=c) (d:=d)]
theorem Jp (L:List Int) (k:Nat):0≤oU L k∧oU L k≤1099511627776∧(0<oU L k→fK (oU L k)=true):=by
  have h6:=mQ (L:=L) (k:=k) (n:=6) (by omega)
  have h20:=mQ (L:=L) (k:=cN L k) (n:=20) (by omega)
  unfold oU
  split
  · exact⟨by omega,by omega,by omega⟩
  · split
    · exact⟨by omega,by omega,fun _=>by decide⟩
    · refine⟨by omega,by omega,fun _=>?_⟩
      rw[fK,decide_eq_true_eq];omega
theorem Jq {L:List Int} {k:Nat} (h:k≤L.length):uj L k≤L.length:=by
  unfold uj;split
  · exact gP h
  · exact gP (gP h)
structure MM (m:ae) (um options:Nat):Prop where
  vm:VM m
  uo:m.cls.length≤um
  some:∀ l∈m.cls,1≤l.length∧l.length≤options
  mP:1≤m.rules∧m.rules≤4
  av:m.av.length≤2
theorem VM.mb {m:ae} (h:VM m):MB m:=by
  refine⟨by have:=h.cls;omega,fun l hl=>by have:=h.opt l hl;omega,fun l hl o ho=>?_,by have:=h.ah;omega,fun p hp=>?_,by have:=h.av;omega,fun c hc=>?_⟩
  · have:=AL h.mP.1 (h.mf l hl o ho)
    have:=h.mP;omega
  · obtain ⟨_,h1,h2,h3,h4⟩:=iY (fY h.pr p hp)
    have a:=h.opt _ (az (l:=m.cls) (i:=p.fst.toNat) (d:=default) (by omega))
    have b:=h.opt _ (az (l:=m.cls) (i:=p.snd.toNat) (d:=default) (by omega))
    have:((m.cls.getD p.fst.toNat default).length:Int) * (m.cls.getD p.snd.toNat default).length≤24 * 24:=oo (by omega) (by omega) (by omega) (by omega)
    omega
  · have:=uq h (ju (h.ct c hc)).2.2.2
    omega
def cD (L:List Int) (k:Nat) (cls:List (List cB)) (ah:List Pr) (av:List Ct) (R:Int):List Ob :=
  [.var [.tree 1 (ints L),.lit (.int .i64 k)],.var [.lit (.slice none 0 0),.lit (.slice none 0 0),.lit (.slice none 0 0),.lit (.int .i64 0)],
    .var [.ref 3 1 0 cls.length,.ref 4 4 0 ah.length,.ref 5 4 0 av.length,.lit (.int .i64 R)],.arr 1 (rowsOf bA cls),.arr 4 (rowsOf bc ah),.arr 4 (rowsOf bu av)]
def R4 (R:Int) (l:List cB):Prop:=∀ o∈l,eA R none o.ch=true
def CQ (p:Pr) (u i k:Nat):Prop:=p.db<u∨(p.db=u∧(p.fst<i∨(p.fst=i∧p.snd<k)))
structure vy (cls:List (List cB)) (R:Int) (ah:List Pr) (u i k:Nat):Prop where
  ok:fQ ⟨cls,[],[],R⟩ none ah=true
  lt:∀ p∈ah,CQ p u i k
  len:ah.length≤576 * u+24 * i+k
theorem vy.mono {cls:List (List cB)} {R:Int} {ah:List Pr} {u i k u' i' k':Nat} (h:vy cls R ah u i k) (hl:u<u'∨(u=u'∧(i<i'∨(i=i'∧k≤k')))) (hs:576 * u+24 * i+k≤576 * u'+24 * i'+k'):vy cls R ah u' i' k' :=
  ⟨h.ok,fun p hp=>by have:=h.lt p hp;unfold CQ at *;omega,by have:=h.len;omega⟩
theorem vy.app {cls:List (List cB)} {R:Int} {ah:List Pr} {u i k:Nat} (h:vy cls R ah u i k) {aP:List Int} (hp:eG ⟨cls,[],[],R⟩ ⟨i,k,u,aP⟩=true):vy cls R (ah++[⟨i,k,u,aP⟩]) u i (k+1):=by
  refine⟨R0 h.ok hp (fun x hx=>?_) (by simp),fun p hp=>?_,by have:=h.len;simp;omega⟩
  · have:=h.lt x hx
    rw[Jn];unfold CQ at this;dsimp only;omega
  · rcases dh.1 hp with hp | hp
    · have:=h.lt p hp;unfold CQ at *;omega
    · simp only[ee] at hp;subst hp;unfold CQ;dsimp only;omega
theorem ac' {cls:List (List cB)} {R:Int} {aP:List Int} {i k u:Nat} (hu:(u:Int)<R) (hik:i<k) (hk:k<cls.length) (ht:aP.length=(cls.getD i default).length * (cls.getD k default).length) (hc:∀ x∈aP,0≤x∧(0<x→fK x=true)) :
    eG ⟨cls,[],[],R⟩ ⟨i,k,u,aP⟩=true:=by
  unfold eG iP
  simp only[a7,decide_eq_true_eq,jh,dg,v3]
  refine⟨⟨⟨by omega,hu⟩,by omega,by omega,by omega,?_⟩,fun x hx=>?_⟩
  · rw[ht];simp
  · unfold n5
    have:=hc x hx
    by_cases h0:x=0
    · subst h0;decide
    · rw[this.2 (by omega)];simp
structure w9 (cls:List (List cB)) (R:Int) (l:List Ld) (i k:Nat):Prop where
  ok:eo ⟨cls,[],[],R⟩ none l=true
  lt:∀ x∈l,x.cls<i∨(x.cls=i∧x.opt<k)
  len:l.length≤24 * i+k
theorem w9.mono {cls:List (List cB)} {R:Int} {l:List Ld} {i k i' k':Nat} (h:w9 cls R l i k) (hl:i<i'∨(i=i'∧k≤k')) (hs:24 * i+k≤24 * i'+k'):w9 cls R l i' k' :=
  ⟨h.ok,fun p hp=>by have:=h.lt p hp;omega,by have:=h.len;omega⟩
theorem w9.app {cls:List (List cB)} {R:Int} {l:List Ld} {i k:Nat} (h:w9 cls R l i k) {w:Int} (hi:i<cls.length) (hk:k<(cls.getD i default).length) (hw:1≤w∧w≤1000):w9 cls R (l++[⟨i,k,w⟩]) i (k+1):=by
  refine⟨R1 h.ok (cV.2 ⟨by dsimp only;omega,by dsimp only;omega,by dsimp only;omega,by simp;exact hk⟩) hw (fun x hx=>?_) (by simp),fun p hp=>?_,by have:=h.len;simp;omega⟩
  · have:=h.lt x hx
    rw[Fz];dsimp only;omega
  · rcases dh.1 hp with hp | hp
    · have:=h.lt p hp;omega
    · simp only[ee] at hp;subst hp;dsimp only;omega
theorem Fx:(default:cB).ch=[]:=rfl
theorem Fy {m:ae} (hm:VM m):∀ (plan:List Int) (i:Nat) (out:List Int),fj m.rules out→fj m.rules (j8 m i plan out)
  | [],_,_,h=>h
  | o::r,i,out,h=>by
    rw[j8]
    refine Fy hm r (i+1) _ ?_
    split
    · exact h
    · refine R5 h fun c hc=>?_
      rcases dG i m.cls.length with hi | hi
      · have hl:=az (d:=(default:List cB)) hi
        generalize m.cls.getD i default=l at *
        rcases dG o.toNat l.length with ho | ho
        · exact (vv (hm.mf l hl _ (az ho)) c hc).2
        · rw[show l.getD o.toNat default=default by rw[ay,dM ho];rfl] at hc
          exact absurd hc (by rw[Fx];simp)
      · rw[show m.cls.getD i default=[] by rw[ay,dM hi];rfl] at hc
        exact absurd hc (by rw[List.getD_nil,Fx];simp)
theorem R6 {m:ae} {plan:List Int}:∀ (l:List Pr) (out:List Int),(∀ p∈l,eG m p=true)→fj m.rules out→fj m.rules (lM m plan l out)
  | [],_,_,h=>h
  | p::r,out,hp,h=>by
    rw[lM]
    refine R6 r _ (fun q hq=>hp q (by simp[hq])) ?_
    split
    · exact h.add (vo (hp p (by simp)) _ _)
    · exact h
theorem R7 {m:ae} {plan:List Int}:∀ (l:List Ct) (out:List Int),(∀ c∈l,fP m c=true)→fj m.rules out→fj m.rules (lN plan l out)
  | [],_,_,h=>h
  | c::r,out,hp,h=>by
    rw[lN]
    exact R7 r _ (fun q hq=>hp q (by simp[hq])) (h.add (wR (g7 (ju (hp c (by simp))).2.2.1)))
theorem AD {m:ae} (hm:VM m) (plan:List Int):fj m.rules (gZ m plan) :=
  R7 _ _ hm.ct (R6 _ _ (fY hm.pr) (Fy hm _ _ _ (fj.rep hm.mP.1)))
def g9:List Int→Int
  | []=>0
  | x::r=>x+g9 r
theorem Jr:∀ {l:List Int},(∀ x∈l,aS x)→0≤g9 l∧g9 l≤1099511627776 * l.length
  | [],_=>by simp[g9]
  | x::r,h=>by
    have:=Jr fun y hy=>h y (List.mem_cons_of_mem x hy)
    have:=h x (by simp)
    unfold aS at this
    simp only[g9,dI];omega
theorem CH:∀ {l:List Int} {n:Int},(∀ x∈l,aS x)→aS n→gY l n=min (n+g9 l) 1099511627776
  | [],n,_,hn=>by unfold aS at hn;simp only[gY,g9];omega
  | x::r,n,h,hn=>by
    have hx:=h x (by simp)
    have hr:∀ y∈r,aS y:=fun y hy=>h y (by simp[hy])
    rw[gY,CH hr (oT hn hx)]
    have:=Jr hr
    unfold aS at hx hn
    simp only[cS,g9];omega
theorem I6:∀ {l:List Int},(∀ x∈l,aS x)→∀ x∈l,x≤g9 l
  | [],_,x,hx=>by simp at hx
  | y::r,h,x,hx=>by
    have hr:∀ z∈r,aS z:=fun z hz=>h z (by simp[hz])
    have:=(Jr hr).1
    have hy:=h y (by simp)
    unfold aS at hy
    rcases bW.1 hx with rfl | hx
    · simp only[g9];omega
    · have:=I6 hr x hx;simp only[g9];omega
end T
namespace T
def gd:List Ld→Int→Int→Int→Int
  | [],_,_,w=>w
  | x::r,c,o,w=>gd r c o (if x.cls=c∧x.opt=o then x.wt else w)
def eB (l:List Ld) (c:Int):Nat→List Bool→Int→Int
  | _,[],b=>b
  | o,is::r,b=>eB l c (o+1) r (if is=true∧(b<0∨gd l c o 0<b) then gd l c o 0 else b)
def ny (l:List Ld) (c:Int) (row:List Bool):Int:=max (eB l c 0 row (-1)) 0
def j' (l:List Ld):Nat→List (List Bool)→Int→Int
  | _,[],n=>n
  | i,row::r,n=>j' l (i+1) r (n+ny l i row)
def lO (left:List (List Bool)) (c:Ct):Int:=iZ c.most c.bg (j' c.aA 0 left 0)
theorem R8 (l:List Ld) (x:Ld) (c o:Int):∀ w,gd (l++[x]) c o w=if x.cls=c∧x.opt=o then x.wt else gd l c o w:=by
  induction l with
  | nil=>intro w;rfl
  | cons y r ih=>intro w;exact ih _
theorem Js:∀ {l:List Ld} {c:Int} (o w:Int),(∀ x∈l,x.cls≠c)→gd l c o w=w
  | [],_,_,_,_=>rfl
  | x::r,c,o,w,h=>by
    rw[gd,if_neg (fun e=>h x (by simp) e.1)]
    exact Js o w fun y hy=>h y (by simp[hy])
theorem yT {l:List Ld} (h:∀ x∈l,1≤x.wt∧x.wt≤1000) (c o:Int):∀ w,0≤w∧w≤1000→0≤gd l c o w∧gd l c o w≤1000:=by
  induction l with
  | nil=>intro w hw;exact hw
  | cons x r ih =>
    intro w hw
    rw[gd]
    refine ih (fun y hy=>h y (by simp[hy])) _ ?_
    have:=h x (by simp)
    split<;>omega
theorem R9 {l:List Ld} {c:Int} (h:∀ x∈l,x.cls≠c):∀ (row:List Bool) (o:Nat) (b:Int),-1≤b∧b≤0→-1≤eB l c o row b∧eB l c o row b≤0
  | [],_,b,hb=>hb
  | is::r,o,b,hb=>by
    rw[eB]
    refine R9 h r (o+1) _ ?_
    rw[Js _ _ h]
    split<;>omega
theorem Sa {l:List Ld} {c:Int} (h:∀ x∈l,x.cls≠c) (row:List Bool):ny l c row=0:=by
  have:=R9 h row 0 (-1) (by omega)
  unfold ny;omega
theorem Jt {l:List Ld} (h:∀ x∈l,1≤x.wt∧x.wt≤1000) (c:Int):∀ (row:List Bool) (o:Nat) (b:Int),-1≤b∧b≤1000→-1≤eB l c o row b∧eB l c o row b≤1000
  | [],_,b,hb=>hb
  | is::r,o,b,hb=>by
    rw[eB]
    refine Jt h c r (o+1) _ ?_
    have:=yT h c o 0 (by omega)
    split<;>omega
theorem ada {l:List Ld} (h:∀ x∈l,1≤x.wt∧x.wt≤1000) (c:Int) (row:List Bool):0≤ny l c row∧ny l c row≤1000:=by
  have:=Jt h c row 0 (-1) (by omega)
  unfold ny;omega
def bw (f:Nat→Int):Nat→Int
  | 0=>0
  | n+1=>bw f n+f n
theorem jz {f g:Nat→Int}:∀ (n:Nat),(∀ i<n,f i=g i)→bw f n=bw g n
  | 0,_=>rfl
  | n+1,h=>by rw[bw,bw,jz n fun i hi=>h i (by omega),h n (by omega)]
theorem Ju {f:Nat→Int} {B:Int}:∀ (n:Nat),(∀ i<n,0≤f i∧f i≤B)→0≤bw f n∧bw f n≤B * n
  | 0,_=>by simp[bw]
  | n+1,h=>by
    have h1:=Ju n fun i hi=>h i (by omega)
    have h2:=h n (by omega)
    rw[bw,Int.natCast_add,Int.mul_add]
    simp only[Int.cast_ofNat_Int,Int.mul_one]
    omega
theorem AM (f:Nat→Int) (k:Nat) (v:Int):∀ (n:Nat),bw (fun i=>if i=k then f i+v else f i) n=bw f n+if k<n then v else 0
  | 0=>by simp[bw]
  | n+1=>by
    rw[bw,bw,AM f k v n]
    by_cases h:n=k
    · subst h;rw[if_pos rfl,if_neg (by omega),if_pos (by omega)];omega
    · rw[if_neg h]
      by_cases h2:k<n
      · rw[if_pos h2,if_pos (by omega)];omega
      · rw[if_neg h2,if_neg (by omega)];omega
theorem yS (f:Nat→Int):∀ n,bw f (n+1)=f 0+bw (fun i=>f (i+1)) n
  | 0=>by simp[bw]
  | n+1=>by rw[bw,yS f n,bw];omega
theorem AN (l:List Ld):∀ (left:List (List Bool)) (i:Nat) (n:Int),j' l i left n=n+bw (fun j=>ny l (i+j:Nat) (left.getD j [])) left.length
  | [],i,n=>by simp[j',bw]
  | row::r,i,n=>by
    rw[j',AN l r (i+1),dI,yS]
    simp only[fT,ep,Nat.add_zero]
    rw[jz (g:=fun j=>ny l (i+(j+1):Nat) (r.getD j [])) r.length fun j _=>by rw[show i+1+j=i+(j+1) by omega]]
    omega
theorem Jv {l:List Ld} (h:∀ x∈l,1≤x.wt∧x.wt≤1000) (left:List (List Bool)):0≤j' l 0 left 0∧j' l 0 left 0≤1000 * left.length:=by
  rw[AN,tq]
  exact Ju _ fun i _=>ada h _ _
abbrev oV:=Int × Nat × List (Int × Int)
def vE (es:List (Int × Int)):List (Int × Value):=es.map fun p=>(p.1,.int .i64 p.2)
def gE (A:List oV):List (Int × Value):=A.map fun e=>(e.1,.map (some e.2.1))
def yU (o w:Int):List (Int × Int)→List (Int × Int)
  | []=>[(o,w)]
  | p::r=>if p.1=o then (o,w)::r else p::yU o w r
def xd (o:Int):List (Int × Int)→Int
  | []=>0
  | p::r=>if p.1=o then p.2 else xd o r
theorem Sb (o w:Int):∀ es,ur o (.int .i64 w) (vE es)=vE (yU o w es)
  | []=>rfl
  | p::r=>by
    show ur o _ ((p.1,Value.int .i64 p.2)::vE r)=_
    rw[ur,yU]
    by_cases h:p.1=o
    · rw[if_pos h,if_pos h];rfl
    · rw[if_neg h,if_neg h,Sb o w r];rfl
theorem Sd (o w x:Int):∀ es,xd x (yU o w es)=if o=x then w else xd x es
  | []=>rfl
  | p::r=>by
    rw[yU]
    by_cases h:p.1=o
    · rw[if_pos h,xd,xd]
      by_cases h2:o=x
      · rw[if_pos h2,if_pos h2]
      · rw[if_neg h2,if_neg h2,if_neg (by omega)]
    · rw[if_neg h,xd,xd,Sd o w x r]
      by_cases h2:p.1=x
      · rw[if_pos h2,if_neg (by omega),if_pos h2]
      · rw[if_neg h2,if_neg h2]
theorem Se (c:Int) (b:Nat):∀ A:List oV,(∀ e∈A,e.1≠c)→ur c (.map (some b)) (gE A)=gE (A++[(c,b,[])])
  | [],_=>rfl
  | e::r,h=>by
    show ur c _ ((e.1,Value.map (some e.2.1))::gE r)=_
    rw[ur,if_neg (h e (by simp)),Se c b r fun x hx=>h x (by simp[hx])];rfl
structure GI (R:Nat) (dn:List Ld) (A:List oV) (b0:Nat) (μ:Mem):Prop where
  top:μ b0=some (.map (iE (gE A)))
  sub:∀ e∈A,μ e.2.1=some (.map (iE (vE e.2.2)))
  AO:∀ e∈A,e.2.1≠b0
  inj:∀ e∈A,∀ e'∈A,e.2.1=e'.2.1→e=e'
  keys:(A.map (·.1)).Nodup
  val:∀ e∈A,∀ o,xd o e.2.2=gd dn e.1 o 0
  has:∀ x∈dn,∃ e∈A,e.1=x.cls
  AP:∀ e∈A,0≤e.1∧e.1<R
theorem GI.nil {R b0:Nat} {μ:Mem} (h:μ b0=some (.map [])):GI R [] [] b0 μ:=⟨h,by simp,by simp,by simp,by simp,by simp,by simp,by simp⟩
theorem GI.new {R:Nat} {dn:List Ld} {A:List oV} {b0:Nat} {μ:Mem} (h:GI R dn A b0 μ) {c:Int} (hcR:0≤c∧c<R) (hc:∀ e∈A,e.1≠c) {b:Nat} (hb:μ b=none):GI R dn (A++[(c,b,[])]) b0 (oX (oX μ b (.map [])) b0 (.map (iE (ur c (.map (some b)) (gE A))))):=by
  have nW:b≠b0:=fun e=>by rw[e,h.top] at hb;cases hb
  have qc:∀ e∈A,e.2.1≠b:=fun e he e2=>by have:=h.sub e he;rw[e2,hb] at this;cases this
  refine⟨by rw[FA,Se c b A hc],fun e he=>?_,fun e he=>?_,fun e he e' pK hh=>?_,?_,fun e he o=>?_,fun x hx=>?_,fun e he=>?_⟩
  · rcases dh.1 he with he | he
    · rw[xe _ _ (h.AO e he),xe _ _ (qc e he)];exact h.sub e he
    · simp only[ee] at he;subst he
      rw[xe _ _ nW,FA];rfl
  · rcases dh.1 he with he | he
    · exact h.AO e he
    · simp only[ee] at he;subst he;exact nW
  · rcases dh.1 he with he | he<;>rcases dh.1 pK with pK | pK
    · exact h.inj e he e' pK hh
    · simp only[ee] at pK;subst pK;exact absurd hh (qc e he)
    · simp only[ee] at he;subst he;exact absurd hh.symm (qc e' pK)
    · simp only[ee] at he pK;rw[he,pK]
  · rw[eT,rZ]
    refine⟨h.keys,by simp,fun a ha b' da=>?_⟩
    obtain ⟨e,he,rfl⟩:=bV.1 ha
    simp only[du,lV,ee] at da
    rw[da];exact hc e he
  · rcases dh.1 he with he | he
    · exact h.val e he o
    · simp only[ee] at he;subst he
      rw[Js]
      · rfl
      · intro x hx sF
        obtain ⟨e,he,vz⟩:=h.has x hx
        exact hc e he (vz.trans sF)
  · obtain ⟨e,he,vz⟩:=h.has x hx
    exact⟨e,List.mem_append_left _ he,vz⟩
  · rcases dh.1 he with he | he
    · exact h.AP e he
    · simp only[ee] at he;subst he;exact hcR
def dY (c o w:Int) (A:List oV):List oV:=A.map fun e=>if e.1=c then (e.1,e.2.1,yU o w e.2.2) else e
theorem ade (c o w:Int) (A:List oV):gE (dY c o w A)=gE A:=by
  unfold gE dY
  rw[xR]
  refine qC fun e _=>?_
  simp only[Function.comp]
  split<;>rfl
theorem GI.put {R:Nat} {dn:List Ld} {A:List oV} {b0:Nat} {μ:Mem} (h:GI R dn A b0 μ) {x:Ld} {e0:oV} (nT:e0∈A) (hc:e0.1=x.cls):GI R (dn++[x]) (dY x.cls x.opt x.wt A) b0 (oX μ e0.2.1 (.map (iE (ur x.opt (.int .i64 x.wt) (vE e0.2.2))))):=by
  have uniq:∀ e∈A,e.1=x.cls→e=e0:=fun e he hh=>by
    have hk:=h.keys
    obtain ⟨i,hi,rfl⟩:=te.1 he
    obtain ⟨j,hj,rfl⟩:=te.1 nT
    have:i=j:=(List.getElem_inj (h₀:=by simpa using hi) (h₁:=by simpa using hj) hk).1 (by simp only[He];rw[hh,hc])
    subst this;rfl
  have one:∀ e∈dY x.cls x.opt x.wt A,(e=(e0.1,e0.2.1,yU x.opt x.wt e0.2.2))∨(e∈A∧e.1≠x.cls):=fun e he=>by
    obtain ⟨e',pK,rfl⟩:=bV.1 he
    by_cases hh:e'.1=x.cls
    · left;rw[if_pos hh,uniq e' pK hh]
    · right;rw[if_neg hh];exact⟨pK,hh⟩
  have qc:∀ e∈A,e.1≠x.cls→e.2.1≠e0.2.1:=fun e he hh e2=>hh (by rw[h.inj e he e0 nT e2,hc])
  refine⟨by rw[xe _ _ (h.AO e0 nT).symm,ade];exact h.top,fun e he=>?_,fun e he=>?_,fun e he e' pK hh=>?_,?_,fun e he o=>?_,fun y hy=>?_,fun e he=>?_⟩
  · rcases one e he with rfl | ⟨h1,h2⟩
    · rw[FA,Sb]
    · rw[xe _ _ (qc e h1 h2)];exact h.sub e h1
  · rcases one e he with rfl | ⟨h1,h2⟩
    · exact h.AO e0 nT
    · exact h.AO e h1
  · rcases one e he with rfl | ⟨h1,h2⟩<;>rcases one e' pK with rfl | ⟨h3,h4⟩
    · rfl
    · exact absurd hh.symm (qc e' h3 h4)
    · exact absurd hh (qc e h1 h2)
    · exact h.inj e h1 e' h3 hh
  · have:(dY x.cls x.opt x.wt A).map (·.1)=A.map (·.1):=by
      unfold dY
      rw[xR]
      refine qC fun e _=>?_
      simp only[Function.comp]
      split<;>rfl
    rw[this];exact h.keys
  · rw[R8]
    rcases one e he with rfl | ⟨h1,h2⟩
    · dsimp only
      rw[Sd,h.val e0 nT o]
      by_cases ho:x.opt=o
      · rw[if_pos ho,if_pos ⟨hc.symm,ho⟩]
      · rw[if_neg ho,if_neg (fun e=>ho e.2)]
    · rw[if_neg (fun e=>h2 e.1.symm)];exact h.val e h1 o
  · have mem:∀ e∈A,∃ e'∈dY x.cls x.opt x.wt A,e'.1=e.1:=fun e he=>⟨_,List.mem_map_of_mem he,by split<;>rfl⟩
    rcases dh.1 hy with hy | hy
    · obtain ⟨e,he,vz⟩:=h.has y hy
      obtain ⟨e',k1,k2⟩:=mem e he
      exact⟨e',k1,k2.trans vz⟩
    · simp only[ee] at hy;subst hy
      obtain ⟨e',k1,k2⟩:=mem e0 nT
      exact⟨e',k1,k2.trans hc⟩
  · rcases one e he with rfl | ⟨h1,h2⟩
    · exact h.AP e0 nT
    · exact h.AP e h1
def AQ (f:Int→Int):List oV→Int
  | []=>0
  | e::r=>f e.1+AQ f r
theorem Jw (f:Int→Int) (n:Nat):∀ A:List oV,(A.map (·.1)).Nodup→(∀ e∈A,0≤e.1∧e.1<n)→AQ f A=bw (fun i=>if∃e∈A,e.1=(i:Int) then f i else 0) n
  | [],_,_=>by
    rw[jz (g:=fun _=>0) n (fun i _=>by simp)]
    have:∀ n,bw (fun _=>0) n=0:=fun n=>by induction n with | zero=>rfl | succ n ih=>rw[bw,ih];rfl
    rw[this];rfl
  | e::r,hn,hr=>by
    rw[du,List.nodup_cons] at hn
    rw[AQ,Jw f n r hn.2 fun x hx=>hr x (by simp[hx])]
    have h0:=hr e (by simp)
    have adf:¬∃x∈r,x.1=((e.1.toNat:Nat):Int):=by
      rintro ⟨x,hx,hh⟩
      rw[mr h0.1] at hh
      exact hn.1 (bV.2 ⟨x,hx,hh⟩)
    have:=AM (fun i=>if∃x∈r,x.1=(i:Int) then f i else 0) e.1.toNat (f e.1) n
    rw[if_pos (by omega)] at this
    rw[Int.add_comm,← this]
    refine jz n fun i hi=>?_
    by_cases h:i=e.1.toNat
    · subst h
      rw[if_pos rfl,if_neg adf,if_pos ⟨e,by simp,by omega⟩,mr h0.1];omega
    · rw[if_neg h]
      have:(∃ x∈e::r,x.1=(i:Int))↔∃ x∈r,x.1=(i:Int):=by
        constructor
        · rintro ⟨x,hx,hh⟩
          rcases bW.1 hx with rfl | hx
          · omega
          · exact⟨x,hx,hh⟩
        · rintro ⟨x,hx,hh⟩;exact⟨x,by simp[hx],hh⟩
      simp only[this]
theorem Sf:∀ A:List oV,AQ (fun _=>1) A=A.length
  | []=>rfl
  | e::r=>by rw[AQ,Sf r,dI];omega
theorem GI.len {R:Nat} {dn:List Ld} {A:List oV} {b0:Nat} {μ:Mem} (h:GI R dn A b0 μ):A.length≤R:=by
  have h1:=Jw (fun _=>1) R A h.keys h.AP
  rw[Sf] at h1
  have h2:=Ju (f:=fun i=>if∃e∈A,e.1=(i:Int) then (1:Int) else 0) (B:=1) R fun i _=>by split<;>omega
  omega
theorem GI.sum {dn:List Ld} {A:List oV} {b0:Nat} {μ:Mem} {left:List (List Bool)} (h:GI left.length dn A b0 μ):AQ (fun c=>ny dn c (left.getD c.toNat [])) A=j' dn 0 left 0:=by
  rw[Jw _ left.length A h.keys h.AP,AN,tq]
  refine jz _ fun i _=>?_
  simp only[Nat.zero_add,dg]
  by_cases hh :∃e∈A,e.1=(i:Int)
  · rw[if_pos hh]
  · rw[if_neg hh,Sa]
    intro x hx sF
    obtain ⟨e,he,vz⟩:=h.has x hx
    exact hh ⟨e,he,vz.trans sF⟩
theorem GI.other {R:Nat} {dn:List Ld} {A:List oV} {b0:Nat} {μ:Mem} (h:GI R dn A b0 μ) {r:Nat} (g:Gh) (hr:∀ l,μ r≠some (.map l)):GI R dn A b0 (oX μ r g) :=
  ⟨by rw[xe _ _ (fun e=>hr _ (e ▸ h.top))];exact h.top,fun e he=>by rw[xe _ _ (fun e2=>hr _ (e2 ▸ h.sub e he))];exact h.sub e he,h.AO,h.inj,h.keys,h.val,h.has,h.AP⟩
theorem Sg (l:List Ld) (c:Int) (is:Bool):∀ (row:List Bool) (i:Nat) (b:Int),eB l c i (row++[is]) b =
    if is=true∧(eB l c i row b<0∨gd l c (i+row.length:Nat) 0<eB l c i row b) then gd l c (i+row.length:Nat) 0 else eB l c i row b
  | [],i,b=>rfl
  | x::r,i,b=>by
    show eB l c (i+1) (r++[is]) _=_
    rw[Sg l c is r (i+1),eB,dI,show i+1+r.length=i+(r.length+1) by omega]
end T
namespace T
def dK (m:ae) (left:List (List Bool)):Prop:=left.length=m.cls.length∧∀ i,i<left.length→(left.getD i default).length=(m.cls.getD i default).length
instance (m:ae) (left:List (List Bool)):Decidable (dK m left):=by unfold dK;infer_instance
def Fs (m:ae) (left:List (List Bool)):Int:=if dW m≠0 then dW m else if dK m left then 0 else 17
theorem dK.row {m:ae} {left:List (List Bool)} (hm:VM m) (h:dK m left):∀ r∈left,r.length≤24:=fun r hr=>by
  obtain ⟨i,hi,rfl⟩:=te.1 hr
  have:=h.2 i hi
  rw[ay,bm hi] at this
  simp only[Option.getD_some] at this
  rw[this]
  exact hm.opt _ (az (by have:=h.1;omega))
def BB (left:List (List Bool)):Prop:=left.length<9223372036854775808∧∀ r∈left,r.length<9223372036854775808
end T
namespace T
theorem Sh (l:List Ld) (row:List Bool):∀ (L:List (List Bool)) (i:Nat) (n:Int),j' l i (L++[row]) n=j' l i L n+ny l (i+L.length:Nat) row
  | [],i,n=>rfl
  | x::r,i,n=>by
    show j' l (i+1) (r++[row]) _=_
    rw[Sh l row r (i+1),j',dI,show i+1+r.length=i+(r.length+1) by omega]
theorem eU {α:Type} [Inhabited α] {l:List α} {k:Nat} (h:k<l.length):l.take (k+1)=l.take k++[l.getD k default]:=by
  rw[List.take_succ_eq_append_getElem h,ay,bm h];rfl
abbrev Nm:=Int × Bool
def fR (x:Int):Nm:=(x,decide (1099511627776≤x))
def br (p:Nm):List AV:=[.lit (.int .i64 p.1),.lit (.bool p.2)]
def iH (p:Nm):List AV:=[.lit (.bool p.2),.lit (.int .i64 p.1)]
instance:Row br 2:=⟨fun _=>rfl,fun p v hv=>by
  simp only[br,bW,lX,or_false] at hv
  rcases hv with rfl | rfl<;>exact .inl ⟨_,rfl,rfl⟩⟩
instance:Row iH 2:=⟨fun _=>rfl,fun p v hv=>by
  simp only[iH,bW,lX,or_false] at hv
  rcases hv with rfl | rfl<;>exact .inl ⟨_,rfl,rfl⟩⟩
def qo (o:cB):Int:=(o.ch.map (·.2)).foldl cS 0
def gb (l:List cB):List Int:=l.map qo
def dt (l:List Int):List Nm:=l.map fR
def cY:List Nm→List Bool→Int × Bool→Int × Bool
  | p::r,is::s,b=>cY r s (if is=true∧p.2=false∧(b.2=false∨p.1<b.1) then (p.1,true) else b)
  | _,_,b=>b
theorem FB {R:Int} {l:List (Int × Int)} (h:eA R none l=true):∀ c∈l,aS c.2:=fun c hc=>g7 (vv h c hc).2
theorem CR:∀ (l:List Int) (n:Int),(∀ x∈l,aS x)→aS n→aS (l.foldl cS n)
  | [],_,_,h=>h
  | x::r,n,hl,h=>CR r _ (fun y hy=>hl y (by simp[hy])) (oT h (hl x (by simp)))
theorem CC {R:Int} {o:cB} (h:eA R none o.ch=true):aS (qo o):=CR _ _ (fun x hx=>by
  obtain ⟨c,hc,rfl⟩:=bV.1 hx;exact FB h c hc) (by unfold aS;decide)
end T
namespace T
structure Mv where
  pair:Int
  side:Int
  opt:Int
  gM:Int
  deriving Inhabited
def fZ (x:Mv):List AV:=[.lit (.int .i64 x.pair),.lit (.int .i64 x.side),.lit (.int .i64 x.opt),.lit (.int .i64 x.gM)]
instance:Row fZ 4:=⟨fun _=>rfl,fun x v hv=>by
  simp only[fZ,bW,lX,or_false] at hv
  rcases hv with rfl | rfl | rfl | rfl<;>exact .inl ⟨_,rfl,rfl⟩⟩
def kL (m:ae) (x:Mv):Int:=if x.side=0 then (m.ah.getD x.pair.toNat default).fst else (m.ah.getD x.pair.toNat default).snd
def lk (m:ae) (x:Mv):Bool:=decide (0≤x.pair∧x.pair<m.ah.length∧0≤x.side∧x.side≤1∧-268435456≤x.gM∧x.gM≤268435456) && ez m (kL m x) x.opt
theorem Jx (l:List (Int × Int)) (k:Nat) (h:k<l.length):(((l.take (k+1)).map (·.2)).foldl cS 0)=cS (((l.take k).map (·.2)).foldl cS 0) (l.getD k default).2:=by
  rw[eU h,eT,zI];rfl
end T
namespace T
def Si (p:Nm) (is:Bool) (b:Int × Bool):Int × Bool:=if is=true∧p.2=false∧(b.2=false∨p.1<b.1) then (p.1,true) else b
theorem Sj (p:Nm) (is:Bool):∀ (l:List Nm) (s:List Bool) (b:Int × Bool),l.length=s.length→cY (l++[p]) (s++[is]) b=Si p is (cY l s b)
  | [],[],b,_=>rfl
  | x::r,y::s,b,h=>by
    show cY (r++[p]) (s++[is]) _=_
    rw[Sj p is r s _ (by simpa using h)];rfl
def jf:List Nm→List Bool→List Nm
  | p::r,is::s=>(if is=true then [p] else [])++jf r s
  | _,_=>[]
def AR (b a:Nm):Nm:=if a.2=false∧(b.2=true∨a.1<b.1) then a else b
def rz (l:List Nm):Nm:=l.foldl AR (0,true)
theorem adg (l:List Nm) (a:Nm):rz (l++[a])=AR (rz l) a:=by unfold rz;rw[zI];rfl
theorem Jy (p:Nm) (is:Bool):∀ (l:List Nm) (s:List Bool),l.length=s.length→jf (l++[p]) (s++[is])=jf l s++(if is=true then [p] else [])
  | [],[],_=>by simp[jf]
  | x::r,y::s,h=>by
    show (if y=true then [x] else [])++jf (r++[p]) (s++[is])=_
    rw[Jy p is r s (by simpa using h),jf,List.append_assoc]
theorem Jz:∀ (l:List Nm) (s:List Bool) (b:Int × Bool),(jf l s).foldl AR (b.1,!b.2)=((cY l s b).1,!(cY l s b).2)
  | [],s,b=>by cases s<;>rfl
  | p::r,[],b=>rfl
  | p::r,is::s,b=>by
    rw[jf,cY,zI]
    cases is with
    | false=>simp only[Bool.false_eq_true,if_false,xS,false_and];exact Jz r s b
    | true =>
      simp only[if_true,List.foldl_cons,xS,eq_self,true_and]
      have:AR (b.1,!b.2) p=((if p.2=false∧(b.2=false∨p.1<b.1) then (p.1,true) else b).1,!(if p.2=false∧(b.2=false∨p.1<b.1) then (p.1,true) else b).2):=by
        unfold AR
        obtain ⟨b1,b2⟩:=b
        obtain ⟨p1,p2⟩:=p
        dsimp only
        cases b2<;>cases p2<;>simp
        split<;>rfl
      rw[this]
      exact Jz r s _
theorem ac1 (l:List Nm) (s:List Bool):rz (jf l s)=((cY l s (0,false)).1,!(cY l s (0,false)).2):=Jz l s (0,false)
end T
namespace T
theorem hC (os:List Ob) (x:Ob) (l:List Ob):(os++x::l)[os.length]?=some x:=by simp
theorem n6 (os l:List Ob) (k:Nat):(os++l)[os.length+k]?=l[k]?:=by rw[fA (by omega),Nat.add_sub_cancel_left]
theorem rA (os:List Ob) (x y:Ob) (l:List Ob):(os++x::l).set os.length y=os++y::l:=by rw[List.set_append];simp
theorem FC (os l:List Ob) (k:Nat) (y:Ob):(os++l).set (os.length+k) y=os++l.set k y:=by rw[List.set_append_right _ _ (by omega)];simp
theorem bz {os:List Ob} {i:Nat} {o:Ob} (h:os[i]?=some o) (l:List Ob):(os++l)[i]?=some o:=by
  rw[dH (aY.1 h).1];exact h
theorem ke {os:List Ob} {i:Nat} {o:Ob} (h:os[i]?=some o) (l:List Ob) (y:Ob):(os++l).set i y=os.set i y++l:=by
  rw[List.set_append,if_pos (aY.1 h).1]
theorem yV {os:List Ob} {i j:Nat} {o o' y:Ob} (h:os[i]?=some o) (h':os[j]?=some o') (b8:o≠o'):(os.set j y)[i]?=some o:=by
  have:j≠i:=fun e=>b8 (by rw[e,h] at h';simpa using h')
  rw[cz this];exact h
theorem oY {os:List Ob} {i:Nat} {o y:Ob} (h:os[i]?=some o):(os.set i y)[i]?=some y:=by
  rw[bO];simp[(aY.1 h).1]
theorem gQ:type_of% @hC∧type_of% @n6∧type_of% @rA∧type_of% @FC:=⟨@hC,@n6,@rA,@FC⟩
def cG (q:Nat × Nat):List AV:=[.ref q.1 2 0 q.2]
structure RI {α:Type} (enc:α→List AV) (os:List Ob) (D:List (Nat × Nat)) (S:List (List α)):Prop where
  len:D.length=S.length
  row:∀ j,j<D.length→os[(D.getD j default).1]?=some (.arr 2 (rowsOf enc (S.getD j default)))∧(S.getD j default).length=(D.getD j default).2
theorem RI.nil {α:Type} {enc:α→List AV} {os:List Ob}:RI enc os [] ([]:List (List α)):=⟨rfl,by simp⟩
theorem RI.app {α:Type} {enc:α→List AV} {os:List Ob} {D:List (Nat × Nat)} {S:List (List α)} (h:RI enc os D S) (l:List Ob):RI enc (os++l) D S :=
  ⟨h.len,fun j hj=>⟨bz (h.row j hj).1 l,(h.row j hj).2⟩⟩
theorem RI.kill {α:Type} {enc:α→List AV} {os:List Ob} {D:List (Nat × Nat)} {S:List (List α)} (h:RI enc os D S) {i:Nat} {o y:Ob} (ho:os[i]?=some o) (b8:∀ l,o≠.arr 2 l):RI enc (os.set i y) D S :=
  ⟨h.len,fun j hj=>⟨yV (h.row j hj).1 ho (fun e=>b8 _ e.symm),(h.row j hj).2⟩⟩
theorem FD {α:Type} [Inhabited α] (l:List α) (x:α) (j:Nat):(l++[x]).getD j default=if j<l.length then l.getD j default else if j=l.length then x else default:=by
  simp only[ay]
  split
  · rename_i h;rw[dH h]
  · rename_i h
    rw[fA (by omega)]
    split
    · rename_i h2;subst h2;simp
    · rw[dM (by simp;omega)];rfl
theorem RI.snoc {α:Type} {enc:α→List AV} {os:List Ob} {D:List (Nat × Nat)} {S:List (List α)} (h:RI enc os D S) {p:Nat} {r:List α} (hp:os[p]?=some (.arr 2 (rowsOf enc r))):RI enc os (D++[(p,r.length)]) (S++[r]) :=
  ⟨by simp[h.len],fun j hj=>by
    rw[FD,FD,← h.len]
    by_cases h1:j<D.length
    · rw[if_pos h1,if_pos h1];exact h.row j h1
    · have:j=D.length:=by simp at hj;omega
      rw[if_neg h1,if_neg h1,if_pos this,if_pos this];exact⟨hp,rfl⟩⟩
theorem RI.set {α:Type} {enc:α→List AV} {os:List Ob} {D:List (Nat × Nat)} {S:List (List α)} (h:RI enc os D S) (hn:(D.map (·.1)).Nodup) {j:Nat} (hj:j<D.length) {r:List α} (hr:r.length=(S.getD j default).length):RI enc (os.set (D.getD j default).1 (.arr 2 (rowsOf enc r))) D (S.set j r) :=
  ⟨by rw[bF];exact h.len,fun k hk=>by
    by_cases e:k=j
    · subst e
      have:(S.set k r).getD k default=r:=by rw[ay,bO];simp[← h.len,hk]
      rw[this]
      exact⟨oY (h.row k hk).1,hr.trans (h.row k hk).2⟩
    · have:(S.set j r).getD k default=S.getD k default:=by rw[ay,cz (fun e'=>e e'.symm),ay]
      rw[this]
      have b8:(D.getD j default).1≠(D.getD k default).1:=fun hh=>e ((List.getElem_inj (h₀:=by simpa using hk) (h₁:=by simpa using hj) hn).1 (by
        rw[He,He]
        have a1:D[k]=D.getD k default:=by simp[hk]
        have a2:D[j]=D.getD j default:=by simp[hj]
        rw[a1,a2];exact hh.symm))
      rw[cz b8]
      exact h.row k hk⟩
theorem RI.other {α:Type} {enc:α→List AV} {os:List Ob} {D:List (Nat × Nat)} {S:List (List α)} (h:RI enc os D S) {i:Nat} (hi:i ∉ D.map (·.1)) {y:Ob}:RI enc (os.set i y) D S :=
  ⟨h.len,fun k hk=>⟨by
    rw[cz (fun e=>hi (bV.2 ⟨D.getD k default,az hk,e.symm⟩))]
    exact (h.row k hk).1,(h.row k hk).2⟩⟩
theorem RI.fresh {α:Type} {enc:α→List AV} {os:List Ob} {D:List (Nat × Nat)} {S:List (List α)} (h:RI enc os D S) {p:Nat} (hp:os.length≤p):p ∉ D.map (·.1):=fun hh=>by
  obtain ⟨q,hq,rfl⟩:=bV.1 hh
  obtain ⟨k,hk,rfl⟩:=te.1 hq
  have h1:=(h.row k hk).1
  have a1:D.getD k default=D[k]:=by simp[hk]
  rw[a1] at h1
  have:=(aY.1 h1).1
  omega
theorem FE (D:List (Nat × Nat)) (p n:Nat):rowsOf cG D++[[AV.ref p 2 0 n]]=rowsOf cG (D++[(p,n)]):=by simp[rowsOf,cG]
theorem RI.step {α:Type} {enc:α→List AV} {os:List Ob} {D:List (Nat × Nat)} {S:List (List α)} {ai:Nat} {x:Ob} (fa:os[ai]?=some x) (hx:∀ l,x≠.arr 2 l) (hR:RI enc os D S) (bC:(D.map (·.1)).Nodup) (r:List α) (t y:Ob) :
    (os.set ai .gone++[.arr 2 (rowsOf enc r),t,y])[os.length+2]?=some y ∧
    RI enc (os.set ai .gone++[.arr 2 (rowsOf enc r),t,y]) (D++[(os.length,r.length)]) (S++[r])∧((D++[(os.length,r.length)]).map (·.1)).Nodup ∧
    ∀ k o,os[k]?=some o→k≠ai→(os.set ai .gone++[.arr 2 (rowsOf enc r),t,y])[k]?=some o:=by
  have hl:(os.set ai .gone).length=os.length:=bF ..
  refine⟨?_,?_,?_,fun k o hk b8=>bz ?_ _⟩
  · rw[← hl,n6];rfl
  · refine ((hR.kill fa hx).app _).snoc ?_
    rw[← hl,hC]
  · rw[eT,rZ]
    refine⟨bC,by simp,fun a ha b hb=>?_⟩
    simp only[du,lV,ee] at hb
    subst hb
    exact fun e=>hR.fresh (Nat.le_refl _) (e ▸ ha)
  · rw[cz (Ne.symm b8)];exact hk
structure LO {α:Type} (enc:α→List AV) (B:List (Nat × Ob)) (D E:List (Nat × Nat)) (S T:List (List α)) (os:List Ob):Prop where
  base:∀ b∈B,os[b.1]?=some b.2∧∀ l,b.2≠.arr 2 l
  rD:RI enc os D S
  rE:RI enc os E T
  nd:((D++E).map (·.1)).Nodup
section
variable {α:Type} {enc:α→List AV} {B:List (Nat × Ob)} {D E:List (Nat × Nat)} {S T:List (List α)} {os:List Ob}
theorem LO.app (h:LO enc B D E S T os) (l:List Ob):LO enc B D E S T (os++l):=⟨fun b hb=>⟨bz (h.base b hb).1 l,(h.base b hb).2⟩,h.rD.app l,h.rE.app l,h.nd⟩
theorem LO.add (h:LO enc B D E S T os) {k:Nat} {x:Ob} (hk:os[k]?=some x) (hx:∀ l,x≠.arr 2 l):LO enc ((k,x)::B) D E S T os :=
  ⟨fun b hb=>by rcases bW.1 hb with rfl | hb;exact⟨hk,hx⟩;exact h.base b hb,h.rD,h.rE,h.nd⟩
theorem LO.sub (h:LO enc B D E S T os) {C:List (Nat × Ob)} (hc:∀ b∈C,b∈B):LO enc C D E S T os:=⟨fun b hb=>h.base b (hc b hb),h.rD,h.rE,h.nd⟩
theorem Sk {D E:List (Nat × Nat)} (h:((D++E).map (·.1)).Nodup):(D.map (·.1)).Nodup∧(E.map (·.1)).Nodup∧(∀ j,j<D.length→(D.getD j default).1 ∉ E.map (·.1))∧∀ j,j<E.length→(E.getD j default).1 ∉ D.map (·.1):=by
  rw[eT,rZ] at h
  refine⟨h.1,h.2.1,fun j hj hh=>h.2.2 _ (bV.2 ⟨_,az hj,rfl⟩) _ hh rfl,fun j hj hh=>h.2.2 _ hh _ (bV.2 ⟨_,az hj,rfl⟩) rfl⟩
theorem LO.Sl (h:LO enc B D E S T os) {j:Nat} (hj:j<D.length) {r:List α} (hr:r.length=(S.getD j default).length):LO enc B D E (S.set j r) T (os.set (D.getD j default).1 (.arr 2 (rowsOf enc r))):=by
  obtain ⟨h1,h2,h3,h4⟩:=Sk h.nd
  exact⟨fun b hb=>⟨yV (h.base b hb).1 (h.rD.row j hj).1 ((h.base b hb).2 _),(h.base b hb).2⟩,h.rD.set h1 hj hr,h.rE.other (h3 j hj),h.nd⟩
theorem LO.Sm (h:LO enc B D E S T os) {j:Nat} (hj:j<E.length) {r:List α} (hr:r.length=(T.getD j default).length):LO enc B D E S (T.set j r) (os.set (E.getD j default).1 (.arr 2 (rowsOf enc r))):=by
  obtain ⟨h1,h2,h3,h4⟩:=Sk h.nd
  exact⟨fun b hb=>⟨yV (h.base b hb).1 (h.rE.row j hj).1 ((h.base b hb).2 _),(h.base b hb).2⟩,h.rD.other (h4 j hj),h.rE.set h2 hj hr,h.nd⟩
end
theorem FF (xs:List Nm) (i:Nat) (b:Bool) (n:Int):(rowsOf iH xs).set i [.lit (.bool b),.lit (.int .i64 n)]=rowsOf iH (xs.set i (n,b)):=by simp[rowsOf,iH,List.map_set]
theorem LO.vars {α:Type} {enc:α→List AV} {B:List (Nat × Ob)} {D E:List (Nat × Nat)} {S T:List (List α)} {os:List Ob} (h:LO enc B D E S T os) {n:Nat} (hn:os.length=n) (x y:Ob) (hx:∀ l,x≠.arr 2 l) (hy:∀ l,y≠.arr 2 l) :
    LO enc ((n,x)::(n+1,y)::B) D E S T (os++[x,y]):=by
  subst hn
  exact ((h.app [x,y]).add (by rw[n6];rfl) hy).add (by rw[hC]) hx
theorem JA {α:Type} [Inhabited α] (l:List α) (j:Nat):l.set j (l.getD j default)=l:=by
  apply List.ext_getElem?
  intro i
  rw[bO]
  split
  · rename_i h;subst h
    split
    · rename_i h2;rw[ay,bm h2];rfl
    · rename_i h2;rw[dM (by omega)]
  · rfl
theorem yJ {α:Type} [Inhabited α] (l:List α) (j:Nat) (x:α) (h:j<l.length):(l.set j x).getD j default=x:=by
  rw[ay,bO];simp[h]
theorem LO.kill {α:Type} {enc:α→List AV} {B:List (Nat × Ob)} {D E:List (Nat × Nat)} {S T:List (List α)} {os:List Ob} (h:LO enc B D E S T os) {i:Nat} {x y:Ob} (hi:os[i]?=some x) (hx:∀ l,x≠.arr 2 l) (b8:∀ b∈B,b.1≠i):LO enc B D E S T (os.set i y) :=
  ⟨fun b hb=>⟨by rw[cz (b8 b hb).symm];exact (h.base b hb).1,(h.base b hb).2⟩,h.rD.kill hi hx,h.rE.kill hi hx,h.nd⟩
theorem yW (os l:List Ob) (i k:Nat) (y:Ob):(os.set i y++l)[os.length+k]?=l[k]?:=by
  have:=n6 (os.set i y) l k
  rwa [bF] at this
end T
namespace T
def gC (m:ae) (ai bi:Nat) (D E:List (Nat × Nat)):List AV:=[.tree 1 (rowsOf bA m.cls),.tree 4 (rowsOf bc m.ah),.tree 4 (rowsOf bu m.av),.lit (.int .i64 m.rules),.ref ai 1 0 D.length,.ref bi 1 0 E.length]
abbrev GB (m:ae) (gi ai bi:Nat) (D E:List (Nat × Nat)):List (Nat × Ob):=[(gi,.var (gC m ai bi D E)),(ai,.arr 1 (rowsOf cG D)),(bi,.arr 1 (rowsOf cG E))]
theorem JB {m:ae} {gi ai bi:Nat} {D E:List (Nat × Nat)} {S T:List (List Nm)} {os:List Ob} (h:LO br (GB m gi ai bi D E) D E S T os) :
    os[gi]?=some (.var (gC m ai bi D E))∧os[ai]?=some (.arr 1 (rowsOf cG D))∧os[bi]?=some (.arr 1 (rowsOf cG E)) :=
  ⟨(h.base (gi,_) (by simp)).1,(h.base (ai,.arr 1 (rowsOf cG D)) (by simp)).1,(h.base (bi,.arr 1 (rowsOf cG E)) (by simp)).1⟩
end T
namespace T
def gu (os ob:List Ob):Prop:=∀ (k:Nat) (o:Ob),os[k]?=some o→ob[k]?=some o
theorem gu.refl (os:List Ob):gu os os:=fun _ _ h=>h
theorem gu.app {os ob:List Ob} (h:gu os ob) (l:List Ob):gu os (ob++l):=fun k o hk=>bz (h k o hk) l
theorem gu.set {os ob:List Ob} (h:gu os ob) {i:Nat} (hi:os.length≤i) {y:Ob}:gu os (ob.set i y):=fun k o hk=>by
  have:=(aY.1 hk).1
  rw[cz (by omega)];exact h k o hk
theorem gu.len {os ob:List Ob} (h:gu os ob):os.length≤ob.length:=by
  rcases Nat.eq_zero_or_pos os.length with h0 | h0
  · omega
  · obtain ⟨o,ho⟩ :∃o,os[os.length - 1]?=some o:=⟨_,bm (by omega)⟩
    have:=(aY.1 (h _ _ ho)).1
    omega
section
variable {α:Type} {enc:α→List AV} {B:List (Nat × Ob)} {D E:List (Nat × Nat)} {S T:List (List α)} {os:List Ob}
theorem LO.swap (h:LO enc B D E S T os):LO enc B E D T S os:=⟨h.base,h.rE,h.rD,by
  have:=h.nd
  rw[eT,rZ] at this ⊢
  exact⟨this.2.1,this.1,fun a ha b hb e=>this.2.2 b hb a ha e.symm⟩⟩
theorem LO.FG (h:LO enc B D E S T os) {i:Nat} {l:List (List AV)} (hi:i ∉ (D++E).map (·.1)) (hr:os[i]?=some (.arr 2 l)) {y:Ob}:LO enc B D E S T (os.set i y):=by
  rw[eT,dh,not_or] at hi
  exact⟨fun b hb=>⟨yV (h.base b hb).1 hr ((h.base b hb).2 _),(h.base b hb).2⟩,h.rD.other hi.1,h.rE.other hi.2,h.nd⟩
theorem LO.fresh (h:LO enc B D E S T os) {p:Nat} (hp:os.length≤p):p ∉ (D++E).map (·.1):=by
  rw[eT,dh,not_or]
  exact⟨h.rD.fresh hp,h.rE.fresh hp⟩
theorem LO.step {gi ai:Nat} {gc:List AV} {A:List (List AV)} (h:LO enc ((gi,.var gc)::(ai,.arr 1 A)::B) D E S T os) {r:List α} {oi:Nat} (hr:os[oi]?=some (.arr 2 (rowsOf enc r))) (eE:oi ∉ (D++E).map (·.1))
    (hB:∀ b∈B,b.1≠ai∧b.1≠gi) (AS:List AV) (A':List (List AV)) (t:Ob) :
    LO enc ((gi,.var AS)::(os.length+1,.arr 1 A')::B) (D++[(oi,r.length)]) E (S++[r]) T ((os.set ai .gone).set gi (.var AS)++[t,.arr 1 A']):=by
  have hg:=(h.base (gi,.var gc) (by simp)).1
  have ha:=(h.base (ai,.arr 1 A) (by simp)).1
  dsimp only at hg ha
  have hga:gi≠ai:=fun e=>by rw[e,ha] at hg;cases hg
  have tF:(os.set ai .gone)[gi]?=some (.var gc):=by rw[cz hga.symm];exact hg
  have hl:((os.set ai .gone).set gi (.var AS)).length=os.length:=by rw[bF,bF]
  have hD2:=((h.rD.kill (y:=.gone) ha (by simp)).kill (y:=.var AS) tF (by simp)).app [t,.arr 1 A']
  have hE2:=((h.rE.kill (y:=.gone) ha (by simp)).kill (y:=.var AS) tF (by simp)).app [t,.arr 1 A']
  have fF:((os.set ai .gone).set gi (.var AS)++[t,.arr 1 A'])[oi]?=some (.arr 2 (rowsOf enc r)):=bz (yV (yV hr ha (by simp)) tF (by simp)) _
  refine⟨fun b hb=>?_,hD2.snoc fF,hE2,?_⟩
  · rcases bW.1 hb with rfl | hb
    · exact⟨bz (oY tF) _,by simp⟩
    rcases bW.1 hb with rfl | hb
    · refine⟨?_,by simp⟩
      dsimp only
      rw[← hl,n6];rfl
    · have h0:=h.base b (by simp[hb])
      refine⟨bz ?_ _,h0.2⟩
      rw[cz (hB b hb).2.symm,cz (hB b hb).1.symm];exact h0.1
  · have bC:=h.nd
    rw[eT,rZ] at bC ⊢
    rw[eT,dh,not_or] at eE
    obtain ⟨n1,n2,n3⟩:=bC
    refine⟨?_,n2,fun a n7 b hb=>?_⟩
    · rw[eT,rZ]
      refine⟨n1,by simp,fun a n7 b hb=>?_⟩
      simp only[du,lV,ee] at hb
      subst hb
      exact fun e=>eE.1 (e ▸ n7)
    · rw[eT,dh] at n7
      rcases n7 with n7 | n7
      · exact n3 a n7 b hb
      · simp only[du,lV,ee] at n7
        subst n7
        exact fun e=>eE.2 (e ▸ hb)
end
end T
namespace T
abbrev SC:=Int × Int
def dL (s:SC):List AV:=[.lit (.int .i64 s.1),.lit (.int .i64 s.2)]
def pI (s:SC) (cost times:Int):SC:=if cost=1099511627776 then (s.1+times,s.2) else (s.1,s.2+cost * times)
def nA (s t:SC):Bool:=decide (s.1<t.1∨s.1=t.1∧s.2<t.2)
def AT:List (Int × Int)→SC→SC
  | [],s=>s
  | c::r,s=>AT r (pI s c.2 1)
def AU (m:ae):Nat→List Int→SC→SC
  | _,[],s=>s
  | i,o::r,s=>AU m (i+1) r (AT ((m.cls.getD i default).getD o.toNat default).ch s)
def AW (m:ae) (plan:List Int):List Pr→SC→SC
  | [],s=>s
  | p::r,s=>AW m plan r (pI s (jP m p (plan.getD p.fst.toNat 0) (plan.getD p.snd.toNat 0)) 1)
def xf (plan:List Int) (c:Ct):Int:=max (dX plan c.aA 0 - c.most) 0
def AX (plan:List Int):List Ct→SC→SC
  | [],s=>s
  | c::r,s=>AX plan r (pI s c.bg (xf plan c))
def iX (m:ae) (plan:List Int):SC:=AX plan m.av (AW m plan m.ah (AU m 0 plan (0,0)))
def mK (m:ae) (plan:List Int):Int:=if dW m≠0 then dW m else if (!oS m plan || plan.contains (-1))=true then 17 else 0
structure FP (m:ae) (plan:List Int):Prop where
  len:plan.length=m.cls.length
  get:∀ j,j<plan.length→ez m (j:Nat) (plan.getD j 0)=true
theorem IG {m:ae} {plan:List Int} (h:mK m plan=0):VM m∧FP m plan:=by
  unfold mK at h
  split at h
  · omega
  split at h
  · omega
  rename_i h1 h2
  have hv:=iu.1 (Decidable.not_not.1 h1)
  simp only[Bool.or_eq_true,jh,not_or,xQ,Bool.not_eq_true] at h2
  have hp:=JC h2.1
  refine⟨hv,hp.len,fun j hj=>(hp.get j hj).resolve_left fun he=>?_⟩
  have hm:=az (d:=0) hj
  rw[he] at hm
  have:=List.contains_iff_mem.2 hm
  rw[this] at h2
  exact absurd h2.2 (by decide)
theorem FP.pm {m:ae} {plan:List Int} (h:FP m plan):PM m plan:=⟨h.len,fun j hj=>.inr (h.get j hj)⟩
def SB (s:SC) (n:Nat):Prop:=0≤s.1∧s.1≤1048576 * n∧0≤s.2∧s.2≤1099511627776 * n
theorem SB.zero:SB (0,0) 0:=by unfold SB;decide
theorem SB.mono {s:SC} {n k:Nat} (h:SB s n) (hk:n≤k):SB s k:=by unfold SB at *;omega
def yX (c:Int):Prop:=0≤c∧c≤1048576∨c=1099511627776
theorem CS {n:Int} (h:fK n=true):yX n:=by unfold fK at h;rw[decide_eq_true_eq] at h;unfold yX;omega
theorem Sn {c t:Int} (hc:0≤c∧c≤1048576) (ht:0≤t∧t≤1048576):0≤c * t∧c * t≤1099511627776 :=
  ⟨Int.mul_nonneg hc.1 ht.1,Int.le_trans (oo hc.2 ht.2 ht.1 (by omega)) (by decide)⟩
theorem SB.add {s:SC} {n:Nat} (h:SB s n) {c t:Int} (hc:yX c) (ht:0≤t∧t≤1048576):SB (pI s c t) (n+1):=by
  unfold SB pI at *
  split
  · dsimp only;omega
  · have:=Sn (hc.resolve_right (by assumption)) ht
    dsimp only;omega
theorem adk {m:ae} {p:Pr} (hp:eG m p=true) (x y:Int):yX (jP m p x y):=by
  unfold jP
  rcases dG (x * (m.cls.getD p.snd.toNat default).length+y).toNat p.aP.length with h | h
  · unfold eG at hp
    simp only[a7,jh,v3] at hp
    have:=hp.2 _ (az (d:=0) h)
    rw[n5] at this
    simp only[a7,jh,decide_eq_true_eq,not_and,xQ] at this
    by_cases hz:p.aP.getD (x * (m.cls.getD p.snd.toNat default).length+y).toNat 0=0
    · rw[hz];unfold yX;omega
    · exact CS (this hz)
  · rw[ay,dM h];unfold yX;simp
end T
namespace T
def sP:List Ld→Int→Int→Int
  | [],_,_=>0
  | x::r,i,o=>if x.cls=i∧x.opt=o then x.wt else sP r i o
def rB (l:List Ld):Nat→List Int→Int
  | _,[]=>0
  | i,o::r=>sP l i o+rB l (i+1) r
theorem So:∀ (plan:List Int) (i:Nat),rB [] i plan=0
  | [],_=>rfl
  | o::r,i=>by rw[rB,sP,So r];rfl
theorem Sp (x:Ld) (l:List Ld):∀ (plan:List Int) (i:Nat),rB (x::l) i plan=rB l i plan+if (i:Int)≤x.cls∧x.cls<i+plan.length∧plan.getD (x.cls - i).toNat 0=x.opt then x.wt - sP l x.cls x.opt else 0
  | [],i=>by rw[rB,rB,if_neg (by simp;omega)];rfl
  | o::r,i=>by
    rw[rB,rB,Sp x l r (i+1),sP]
    by_cases h:x.cls=i
    · rw[if_neg (c:=((i+1:Nat):Int)≤x.cls∧_) (by omega)]
      rw[show (x.cls - i).toNat=0 by omega,fT,dI]
      by_cases ho:x.opt=o
      · rw[if_pos ⟨h,ho⟩,if_pos ⟨by omega,by omega,ho.symm⟩,h,ho];omega
      · rw[if_neg (fun h'=>ho h'.2),if_neg (fun h'=>ho h'.2.2.symm)];omega
    · rw[if_neg (c:=x.cls=i∧x.opt=o) (fun h'=>h h'.1)]
      have e:((i+1:Nat):Int)≤x.cls∧x.cls<(i+1:Nat)+r.length∧r.getD (x.cls - (i+1:Nat)).toNat 0=x.opt↔(i:Int)≤x.cls∧x.cls<i+(o::r).length∧(o::r).getD (x.cls - i).toNat 0=x.opt:=by
        rw[dI]
        by_cases aT:(i:Int)<x.cls
        · rw[show (x.cls - i).toNat=(x.cls - (i+1:Nat)).toNat+1 by omega,ep]
          constructor
          · rintro ⟨a,b,c⟩;exact⟨by omega,by omega,c⟩
          · rintro ⟨a,b,c⟩;exact⟨by omega,by omega,c⟩
        · constructor
          · rintro ⟨a,b,c⟩;omega
          · rintro ⟨a,b,c⟩;omega
      simp only[e]
      omega
theorem Sr:∀ (l:List Ld) (i o:Int),(∀ y∈l,¬ (y.cls=i∧y.opt=o))→sP l i o=0
  | [],_,_,_=>rfl
  | x::r,i,o,h=>by rw[sP,if_neg (h x (by simp)),Sr r i o fun y hy=>h y (by simp[hy])]
theorem xg {m:ae}:∀ {l:List Ld} {q:Ld},eo m (some q) l=true→∀ y∈l,q.cls<y.cls∨(q.cls=y.cls∧q.opt<y.opt)
  | [],_,_,y,hy=>by simp at hy
  | x::r,q,h,y,hy=>by
    rw[eo] at h
    simp only[a7,decide_eq_true_eq] at h
    have h1:=Fz.1 h.1.2
    rcases bW.1 hy with rfl | hy
    · exact h1
    · have:=xg h.2 y hy;omega
theorem Ss {m:ae} {plan:List Int} (hp:plan.length=m.cls.length):∀ {l:List Ld} {q:Option Ld} (n:Int),eo m q l=true→dX plan l n=n+rB l 0 plan
  | [],_,n,_=>by rw[dX,So];omega
  | x::r,q,n,h=>by
    have hr:eo m (some x) r=true:=by
      rw[eo.eq_def] at h
      simp only[a7] at h
      exact h.2
    have hx:=(kF h x (by simp)).1
    obtain ⟨a,b,c,d⟩:=cV.1 hx
    rw[dX,Ss hp _ hr,Sp,Sr r x.cls x.opt (fun y hy he=>by have:=xg hr y hy;omega)]
    rw[show (x.cls - ((0:Nat):Int)).toNat=x.cls.toNat by simp]
    by_cases e:plan.getD x.cls.toNat 0=x.opt
    · rw[if_pos e,if_pos ⟨by omega,by omega,e⟩];omega
    · rw[if_neg e,if_neg (fun h'=>e h'.2.2)];omega
def yY (m:ae):Nat→List Int→Bool
  | _,[]=>true
  | i,o::r=>ez m i o && yY m (i+1) r
theorem Su {m:ae}:∀ (plan:List Int) (i:Nat),yY m i plan=(oR m i plan && !plan.contains (-1))
  | [],_=>rfl
  | o::r,i=>by
    rw[yY,oR,Su r (i+1),List.contains_cons]
    by_cases h:o = -1
    · subst h
      have:ez m i (-1)=false:=by
        cases hb:ez m i (-1) with
        | false=>rfl
        | true=>have:=cV.1 hb;omega
      simp[this]
    · have h2:((-1:Int) == o)=false:=by simpa using fun e=>h e.symm
      rw[h2,decide_eq_false h,lA,lA]
      cases ez m i o<;>simp
theorem adl (m:ae) (plan:List Int):mK m plan=if dW m≠0 then dW m else if plan.length≠m.cls.length then 17 else if yY m 0 plan=false then 17 else 0:=by
  unfold mK oS
  split
  · rfl
  · by_cases h:plan.length≠m.cls.length
    · simp[h]
    · rw[if_neg h,if_neg h,Su]
      cases oR m 0 plan<;>cases plan.contains (-1)<;>rfl
end T

