import Derived.Test.YtdipcmigdbnheaaGreatX10
import Derived.Test.YtdipcmigdbnheaaGreatX13
set_option linter.unusedVariables false
set_option linter.unusedSimpArgs false
set_option linter.unnecessarySimpa false
set_option linter.unusedSectionVars false
set_option maxHeartbeats 64000000
set_option maxRecDepth 20000
open List renaming nil_append→dK,cons_append→dG,mem_append→cy,mem_singleton→ek,getD_eq_getElem?_getD→ay,getElem?_eq_none→du,length_cons→dH,mem_cons→bZ,mem_map→b7,map_cons→cR,map_map→yC,map_congr_left→lP,mem_iff_getElem→sm,length_set→bm,filter_cons→Gt
open Bool renaming and_eq_true→bh
open Option renaming some→da
open Int renaming toNat_natCast→eT,zero_add→wJ,toNat_of_nonneg→sx,le_refl→eo
open Nat renaming lt_or_ge→eK
open Go Go.Am
namespace T
theorem OS {R:Int} {c:Int × Int}:∀ {l:List (Int × Int)} {q:Option (Int × Int)},dF R q l=true→iL R c.1=true→iM c.2=true→(∀ x∈l,x.1<c.1)→(∀ y,q=some y→y.1<c.1)→dF R q (l++[c])=true
  | [],q,_,h1,h2,_,h3=>by
    rw[dK,dF.eq_def]
    cases q with
    | none=>simp[h1,h2,dF]
    | some y=>simp[h1,h2,dF,h3 y rfl]
  | x::r,q,h,h1,h2,h3,h4=>by
    rw[dF.eq_def] at h
    simp only[bh] at h
    rw[dG,dF.eq_def]
    simp only[bh]
    exact⟨h.1,OS h.2 h1 h2 (fun y hy=>h3 y (by simp[hy])) (fun y hy=>by simp only[da.injEq] at hy;subst hy;exact h3 _ (by simp))⟩
theorem OT {m:ah} {c:Pr}:∀ {l:List Pr} {q:Option Pr},eI m q l=true→fJ m c=true→(∀ x∈l,mS x c<0)→(∀ y,q=some y→mS y c<0)→eI m q (l++[c])=true
  | [],q,_,h1,_,h3=>by
    rw[dK,eI.eq_def]
    cases q with
    | none=>simp[h1,eI]
    | some y=>simp[h1,eI,h3 y rfl]
  | x::r,q,h,h1,h3,h4=>by
    rw[eI.eq_def] at h
    simp only[bh] at h
    rw[dG,eI.eq_def]
    simp only[bh]
    exact⟨h.1,OT h.2 h1 (fun y hy=>h3 y (by simp[hy])) (fun y hy=>by simp only[da.injEq] at hy;subst hy;exact h3 _ (by simp))⟩
theorem OU {m:ah} {c:Ld}:∀ {l:List Ld} {q:Option Ld},dR m q l=true→eP m c.cls c.opt=true→(1≤c.wt∧c.wt≤1000)→(∀ x∈l,rV x c<0)→(∀ y,q=some y→rV y c<0)→dR m q (l++[c])=true
  | [],q,_,h1,h2,_,h3=>by
    rw[dK,dR.eq_def]
    cases q with
    | none=>simp[h1,h2,dR]
    | some y=>simp[h1,h2,dR,h3 y rfl]
  | x::r,q,h,h1,h2,h3,h4=>by
    rw[dR.eq_def] at h
    simp only[bh] at h
    rw[dG,dR.eq_def]
    simp only[bh]
    exact⟨h.1,OU h.2 h1 h2 (fun y hy=>h3 y (by simp[hy])) (fun y hy=>by simp only[da.injEq] at hy;subst hy;exact h3 _ (by simp))⟩
theorem OV {cls:List (List bK)} {R:Int} {a b:List Pr} {c d:List Ct}:∀ (l:List Pr) (q:Option Pr),eI ⟨cls,a,c,R⟩ q l=eI ⟨cls,b,d,R⟩ q l
  | [],_=>rfl
  | x::r,q=>by
    have:=OV (cls:=cls) (R:=R) (a:=a) (b:=b) (c:=c) (d:=d) r (some x)
    cases q<;>simp only[eI,this]<;>rfl
theorem OW {cls:List (List bK)} {R:Int} {a b:List Pr} {c d:List Ct}:∀ (l:List Ld) (q:Option Ld),dR ⟨cls,a,c,R⟩ q l=dR ⟨cls,b,d,R⟩ q l
  | [],_=>rfl
  | x::r,q=>by
    have:=OW (cls:=cls) (R:=R) (a:=a) (b:=b) (c:=c) (d:=d) r (some x)
    cases q<;>simp only[dR,this]<;>rfl
theorem aa3 {cls:List (List bK)} {R:Int} {a b:List Pr} {c d:List Ct} (x:Ct):gV ⟨cls,a,c,R⟩ x=gV ⟨cls,b,d,R⟩ x:=by
  unfold gV;rw[OW (a:=a) (b:=b) (c:=c) (d:=d)]
theorem Ip (L:List Int) (k:Nat):0≤oe L k∧oe L k≤1099511627776∧(0<oe L k→iM (oe L k)=true):=by
  have h6:=mi (L:=L) (k:=k) (n:=6) (by omega)
  have h20:=mi (L:=L) (k:=cQ L k) (n:=20) (by omega)
  unfold oe
  split
  · exact⟨by omega,by omega,by omega⟩
  · split
    · exact⟨by omega,by omega,fun _=>by decide⟩
    · refine⟨by omega,by omega,fun _=>?_⟩
      rw[iM,decide_eq_true_eq];omega
theorem Iq {L:List Int} {k:Nat} (h:k≤L.length):s5 L k≤L.length:=by
  unfold s5;split
  · exact gM h
  · exact gM (gM h)
structure MM (m:ah) (s6 options:Nat):Prop where
  vm:VM m
  s7:m.cls.length≤s6
  some:∀ l∈m.cls,1≤l.length∧l.length≤options
  nx:1≤m.rules∧m.rules≤4
  au:m.au.length≤2
theorem VM.mb {m:ah} (h:VM m):MB m:=by
  refine⟨by have:=h.cls;omega,fun l hl=>by have:=h.opt l hl;omega,fun l hl o ho=>?_,by have:=h.ae;omega,fun p hp=>?_,by have:=h.au;omega,fun c hc=>?_⟩
  · have:=EL h.nx.1 (h.nu l hl o ho)
    have:=h.nx;omega
  · obtain ⟨_,h1,h2,h3,h4⟩:=mj (jn h.pr p hp)
    have a:=h.opt _ (az (l:=m.cls) (i:=p.fst.toNat) (d:=default) (by omega))
    have b:=h.opt _ (az (l:=m.cls) (i:=p.snd.toNat) (d:=default) (by omega))
    have:((m.cls.getD p.fst.toNat default).length:Int) * (m.cls.getD p.snd.toNat default).length≤24 * 24:=Int.mul_le_mul (by omega) (by omega) (by omega) (by omega)
    omega
  · have:=BO h (nw (h.ct c hc)).2.2.2
    omega
def cC (L:List Int) (k:Nat) (cls:List (List bK)) (ae:List Pr) (au:List Ct) (R:Int):List Ob :=
  [.var [.tree 1 (ints L),.lit (.int .i64 k)],.var [.lit (.slice none 0 0),.lit (.slice none 0 0),.lit (.slice none 0 0),.lit (.int .i64 0)],
    .var [.ref 3 1 0 cls.length,.ref 4 4 0 ae.length,.ref 5 4 0 au.length,.lit (.int .i64 R)],.arr 1 (rowsOf bn cls),.arr 4 (rowsOf aV ae),.arr 4 (rowsOf aU au)]
def OX (R:Int) (l:List bK):Prop:=∀ o∈l,dF R none o.ch=true
def BQ (p:Pr) (u i k:Nat):Prop:=p.cB<u∨(p.cB=u∧(p.fst<i∨(p.fst=i∧p.snd<k)))
structure uA (cls:List (List bK)) (R:Int) (ae:List Pr) (u i k:Nat):Prop where
  ok:eI ⟨cls,[],[],R⟩ none ae=true
  lt:∀ p∈ae,BQ p u i k
  len:ae.length≤576 * u+24 * i+k
theorem uA.mono {cls:List (List bK)} {R:Int} {ae:List Pr} {u i k u' i' k':Nat} (h:uA cls R ae u i k) (hl:u<u'∨(u=u'∧(i<i'∨(i=i'∧k≤k')))) (hs:576 * u+24 * i+k≤576 * u'+24 * i'+k'):uA cls R ae u' i' k' :=
  ⟨h.ok,fun p hp=>by have:=h.lt p hp;unfold BQ at *;omega,by have:=h.len;omega⟩
theorem uA.app {cls:List (List bK)} {R:Int} {ae:List Pr} {u i k:Nat} (h:uA cls R ae u i k) {ax:List Int} (hp:fJ ⟨cls,[],[],R⟩ ⟨i,k,u,ax⟩=true):uA cls R (ae++[⟨i,k,u,ax⟩]) u i (k+1):=by
  refine⟨OT h.ok hp (fun x hx=>?_) (by simp),fun p hp=>?_,by have:=h.len;simp;omega⟩
  · have:=h.lt x hx
    rw[Ir];unfold BQ at this;dsimp only;omega
  · rcases cy.1 hp with hp | hp
    · have:=h.lt p hp;unfold BQ at *;omega
    · simp only[ek] at hp;subst hp;unfold BQ;dsimp only;omega
theorem aa5 {cls:List (List bK)} {R:Int} {ax:List Int} {i k u:Nat} (hu:(u:Int)<R) (hik:i<k) (hk:k<cls.length) (ht:ax.length=(cls.getD i default).length * (cls.getD k default).length) (hc:∀ x∈ax,0≤x∧(0<x→iM x=true)) :
    fJ ⟨cls,[],[],R⟩ ⟨i,k,u,ax⟩=true:=by
  unfold fJ iL
  simp only[bh,decide_eq_true_eq,Bool.not_eq_true',eT,List.any_eq_false]
  refine⟨⟨⟨by omega,hu⟩,by omega,by omega,by omega,?_⟩,fun x hx=>?_⟩
  · rw[ht];simp
  · unfold nt
    have:=hc x hx
    by_cases h0:x=0
    · subst h0;decide
    · rw[this.2 (by omega)];simp
structure vT (cls:List (List bK)) (R:Int) (l:List Ld) (i k:Nat):Prop where
  ok:dR ⟨cls,[],[],R⟩ none l=true
  lt:∀ x∈l,x.cls<i∨(x.cls=i∧x.opt<k)
  len:l.length≤24 * i+k
theorem vT.mono {cls:List (List bK)} {R:Int} {l:List Ld} {i k i' k':Nat} (h:vT cls R l i k) (hl:i<i'∨(i=i'∧k≤k')) (hs:24 * i+k≤24 * i'+k'):vT cls R l i' k' :=
  ⟨h.ok,fun p hp=>by have:=h.lt p hp;omega,by have:=h.len;omega⟩
theorem vT.app {cls:List (List bK)} {R:Int} {l:List Ld} {i k:Nat} (h:vT cls R l i k) {w:Int} (hi:i<cls.length) (hk:k<(cls.getD i default).length) (hw:1≤w∧w≤1000):vT cls R (l++[⟨i,k,w⟩]) i (k+1):=by
  refine⟨OU h.ok (iy.2 ⟨by dsimp only;omega,by dsimp only;omega,by dsimp only;omega,by simp;exact hk⟩) hw (fun x hx=>?_) (by simp),fun p hp=>?_,by have:=h.len;simp;omega⟩
  · have:=h.lt x hx
    rw[EM];dsimp only;omega
  · rcases cy.1 hp with hp | hp
    · have:=h.lt p hp;omega
    · simp only[ek] at hp;subst hp;dsimp only;omega
theorem OY:(default:bK).ch=[]:=rfl
theorem OZ {m:ah} (hm:VM m):∀ (plan:List Int) (i:Nat) (out:List Int),iX m.rules out→iX m.rules (s8 m i plan out)
  | [],_,_,h=>h
  | o::r,i,out,h=>by
    rw[s8]
    refine OZ hm r (i+1) _ ?_
    split
    · exact h
    · refine O0 h fun c hc=>?_
      rcases eK i m.cls.length with hi | hi
      · have hl:=az (d:=(default:List bK)) hi
        generalize m.cls.getD i default=l at *
        rcases eK o.toNat l.length with ho | ho
        · exact (zC (hm.nu l hl _ (az ho)) c hc).2
        · rw[show l.getD o.toNat default=default by rw[ay,du ho];rfl] at hc
          exact absurd hc (by rw[OY];simp)
      · rw[show m.cls.getD i default=[] by rw[ay,du hi];rfl] at hc
        exact absurd hc (by rw[List.getD_nil,OY];simp)
theorem O1 {m:ah} {plan:List Int}:∀ (l:List Pr) (out:List Int),(∀ p∈l,fJ m p=true)→iX m.rules out→iX m.rules (s9 m plan l out)
  | [],_,_,h=>h
  | p::r,out,hp,h=>by
    rw[s9]
    refine O1 r _ (fun q hq=>hp q (by simp[hq])) ?_
    split
    · exact h.add (EN (hp p (by simp)) _ _)
    · exact h
theorem O2 {m:ah} {plan:List Int}:∀ (l:List Ct) (out:List Int),(∀ c∈l,gV m c=true)→iX m.rules out→iX m.rules (ta plan l out)
  | [],_,_,h=>h
  | c::r,out,hp,h=>by
    rw[ta]
    exact O2 r _ (fun q hq=>hp q (by simp[hq])) (h.add (EO (mg (nw (hp c (by simp))).2.2.1)))
theorem O3 {m:ah} (hm:VM m) (plan:List Int):iX m.rules (nq m plan) :=
  O2 _ _ hm.ct (O1 _ _ (jn hm.pr) (OZ hm _ _ _ (iX.rep hm.nx.1)))
def jG:List Int→Int
  | []=>0
  | x::r=>x+jG r
theorem Is:∀ {l:List Int},(∀ x∈l,bP x)→0≤jG l∧jG l≤1099511627776 * l.length
  | [],_=>by simp[jG]
  | x::r,h=>by
    have:=Is fun y hy=>h y (List.mem_cons_of_mem x hy)
    have:=h x (by simp)
    unfold bP at this
    simp only[jG,dH];omega
theorem O4:∀ {l:List Int} {n:Int},(∀ x∈l,bP x)→bP n→ny l n=min (n+jG l) 1099511627776
  | [],n,_,hn=>by unfold bP at hn;simp only[ny,jG];omega
  | x::r,n,h,hn=>by
    have hx:=h x (by simp)
    have hr:∀ y∈r,bP y:=fun y hy=>h y (by simp[hy])
    rw[ny,O4 hr (zD hn hx)]
    have:=Is hr
    unfold bP at hx hn
    simp only[dQ,jG];omega
theorem It:∀ {l:List Int},(∀ x∈l,bP x)→∀ x∈l,x≤jG l
  | [],_,x,hx=>by simp at hx
  | y::r,h,x,hx=>by
    have hr:∀ z∈r,bP z:=fun z hz=>h z (by simp[hz])
    have:=(Is hr).1
    have hy:=h y (by simp)
    unfold bP at hy
    rcases bZ.1 hx with rfl | hx
    · simp only[jG];omega
    · have:=It hr x hx;simp only[jG];omega
def fQ:List Ld→Int→Int→Int→Int
  | [],_,_,w=>w
  | x::r,c,o,w=>fQ r c o (if x.cls=c∧x.opt=o then x.wt else w)
def ew (l:List Ld) (c:Int):Nat→List Bool→Int→Int
  | _,[],b=>b
  | o,is::r,b=>ew l c (o+1) r (if is=true∧(b<0∨fQ l c o 0<b) then fQ l c o 0 else b)
def mP (l:List Ld) (c:Int) (row:List Bool):Int:=max (ew l c 0 row (-1)) 0
def jR (l:List Ld):Nat→List (List Bool)→Int→Int
  | _,[],n=>n
  | i,row::r,n=>jR l (i+1) r (n+mP l i row)
def lk (left:List (List Bool)) (c:Ct):Int:=kP c.most c.bE (jR c.aK 0 left 0)
theorem O5 (l:List Ld) (x:Ld) (c o:Int):∀ w,fQ (l++[x]) c o w=if x.cls=c∧x.opt=o then x.wt else fQ l c o w:=by
  induction l with
  | nil=>intro w;rfl
  | cons y r ih=>intro w;exact ih _
theorem Iu:∀ {l:List Ld} {c:Int} (o w:Int),(∀ x∈l,x.cls≠c)→fQ l c o w=w
  | [],_,_,_,_=>rfl
  | x::r,c,o,w,h=>by
    rw[fQ,if_neg (fun e=>h x (by simp) e.1)]
    exact Iu o w fun y hy=>h y (by simp[hy])
theorem xI {l:List Ld} (h:∀ x∈l,1≤x.wt∧x.wt≤1000) (c o:Int):∀ w,0≤w∧w≤1000→0≤fQ l c o w∧fQ l c o w≤1000:=by
  induction l with
  | nil=>intro w hw;exact hw
  | cons x r ih =>
    intro w hw
    rw[fQ]
    refine ih (fun y hy=>h y (by simp[hy])) _ ?_
    have:=h x (by simp)
    split<;>omega
theorem O6 {l:List Ld} {c:Int} (h:∀ x∈l,x.cls≠c):∀ (row:List Bool) (o:Nat) (b:Int),-1≤b∧b≤0→-1≤ew l c o row b∧ew l c o row b≤0
  | [],_,b,hb=>hb
  | is::r,o,b,hb=>by
    rw[ew]
    refine O6 h r (o+1) _ ?_
    rw[Iu _ _ h]
    split<;>omega
theorem O7 {l:List Ld} {c:Int} (h:∀ x∈l,x.cls≠c) (row:List Bool):mP l c row=0:=by
  have:=O6 h row 0 (-1) (by omega)
  unfold mP;omega
theorem Iv {l:List Ld} (h:∀ x∈l,1≤x.wt∧x.wt≤1000) (c:Int):∀ (row:List Bool) (o:Nat) (b:Int),-1≤b∧b≤1000→-1≤ew l c o row b∧ew l c o row b≤1000
  | [],_,b,hb=>hb
  | is::r,o,b,hb=>by
    rw[ew]
    refine Iv h c r (o+1) _ ?_
    have:=xI h c o 0 (by omega)
    split<;>omega
theorem aa6 {l:List Ld} (h:∀ x∈l,1≤x.wt∧x.wt≤1000) (c:Int) (row:List Bool):0≤mP l c row∧mP l c row≤1000:=by
  have:=Iv h c row 0 (-1) (by omega)
  unfold mP;omega
def bz (f:Nat→Int):Nat→Int
  | 0=>0
  | n+1=>bz f n+f n
theorem jo {f g:Nat→Int}:∀ (n:Nat),(∀ i<n,f i=g i)→bz f n=bz g n
  | 0,_=>rfl
  | n+1,h=>by rw[bz,bz,jo n fun i hi=>h i (by omega),h n (by omega)]
theorem Iw {f:Nat→Int} {B:Int}:∀ (n:Nat),(∀ i<n,0≤f i∧f i≤B)→0≤bz f n∧bz f n≤B * n
  | 0,_=>by simp[bz]
  | n+1,h=>by
    have h1:=Iw n fun i hi=>h i (by omega)
    have h2:=h n (by omega)
    rw[bz,Int.natCast_add,Int.mul_add]
    simp only[Int.cast_ofNat_Int,Int.mul_one]
    omega
theorem zL (f:Nat→Int) (k:Nat) (v:Int):∀ (n:Nat),bz (fun i=>if i=k then f i+v else f i) n=bz f n+if k<n then v else 0
  | 0=>by simp[bz]
  | n+1=>by
    rw[bz,bz,zL f k v n]
    by_cases h:n=k
    · subst h;rw[if_pos rfl,if_neg (by omega),if_pos (by omega)];omega
    · rw[if_neg h]
      by_cases h2:k<n
      · rw[if_pos h2,if_pos (by omega)];omega
      · rw[if_neg h2,if_neg (by omega)];omega
theorem xJ (f:Nat→Int):∀ n,bz f (n+1)=f 0+bz (fun i=>f (i+1)) n
  | 0=>by simp[bz]
  | n+1=>by rw[bz,xJ f n,bz];omega
theorem zN (l:List Ld):∀ (left:List (List Bool)) (i:Nat) (n:Int),jR l i left n=n+bz (fun j=>mP l (i+j:Nat) (left.getD j [])) left.length
  | [],i,n=>by simp[jR,bz]
  | row::r,i,n=>by
    rw[jR,zN l r (i+1),dH,xJ]
    simp only[List.getD_cons_zero,List.getD_cons_succ,Nat.add_zero]
    rw[jo (g:=fun j=>mP l (i+(j+1):Nat) (r.getD j [])) r.length fun j _=>by rw[show i+1+j=i+(j+1) by omega]]
    omega
theorem Ix {l:List Ld} (h:∀ x∈l,1≤x.wt∧x.wt≤1000) (left:List (List Bool)):0≤jR l 0 left 0∧jR l 0 left 0≤1000 * left.length:=by
  rw[zN,wJ]
  exact Iw _ fun i _=>aa6 h _ _
abbrev og:=Int × Nat × List (Int × Int)
def vE (es:List (Int × Int)):List (Int × Value):=es.map fun p=>(p.1,.int .i64 p.2)
def gE (A:List og):List (Int × Value):=A.map fun e=>(e.1,.map (some e.2.1))
def xK (o w:Int):List (Int × Int)→List (Int × Int)
  | []=>[(o,w)]
  | p::r=>if p.1=o then (o,w)::r else p::xK o w r
def vU (o:Int):List (Int × Int)→Int
  | []=>0
  | p::r=>if p.1=o then p.2 else vU o r
theorem O8 (o w:Int):∀ es,tc o (.int .i64 w) (vE es)=vE (xK o w es)
  | []=>rfl
  | p::r=>by
    show tc o _ ((p.1,Value.int .i64 p.2)::vE r)=_
    rw[tc,xK]
    by_cases h:p.1=o
    · rw[if_pos h,if_pos h];rfl
    · rw[if_neg h,if_neg h,O8 o w r];rfl
theorem O9 (o w x:Int):∀ es,vU x (xK o w es)=if o=x then w else vU x es
  | []=>rfl
  | p::r=>by
    rw[xK]
    by_cases h:p.1=o
    · rw[if_pos h,vU,vU]
      by_cases h2:o=x
      · rw[if_pos h2,if_pos h2]
      · rw[if_neg h2,if_neg h2,if_neg (by omega)]
    · rw[if_neg h,vU,vU,O9 o w x r]
      by_cases h2:p.1=x
      · rw[if_pos h2,if_neg (by omega),if_pos h2]
      · rw[if_neg h2,if_neg h2]
theorem O' (c:Int) (b:Nat):∀ A:List og,(∀ e∈A,e.1≠c)→tc c (.map (some b)) (gE A)=gE (A++[(c,b,[])])
  | [],_=>rfl
  | e::r,h=>by
    show tc c _ ((e.1,Value.map (some e.2.1))::gE r)=_
    rw[tc,if_neg (h e (by simp)),O' c b r fun x hx=>h x (by simp[hx])];rfl
structure GI (R:Nat) (dn:List Ld) (A:List og) (b0:Nat) (μ:Mem):Prop where
  top:μ b0=some (.map (iE (gE A)))
  sub:∀ e∈A,μ e.2.1=some (.map (iE (vE e.2.2)))
  zO:∀ e∈A,e.2.1≠b0
  inj:∀ e∈A,∀ e'∈A,e.2.1=e'.2.1→e=e'
  keys:(A.map (·.1)).Nodup
  val:∀ e∈A,∀ o,vU o e.2.2=fQ dn e.1 o 0
  has:∀ x∈dn,∃ e∈A,e.1=x.cls
  zP:∀ e∈A,0≤e.1∧e.1<R
theorem GI.nil {R b0:Nat} {μ:Mem} (h:μ b0=some (.map [])):GI R [] [] b0 μ:=⟨h,by simp,by simp,by simp,by simp,by simp,by simp,by simp⟩
theorem GI.new {R:Nat} {dn:List Ld} {A:List og} {b0:Nat} {μ:Mem} (h:GI R dn A b0 μ) {c:Int} (hcR:0≤c∧c<R) (hc:∀ e∈A,e.1≠c) {b:Nat} (hb:μ b=none):GI R dn (A++[(c,b,[])]) b0 (oh (oh μ b (.map [])) b0 (.map (iE (tc c (.map (some b)) (gE A))))):=by
  have pP:b≠b0:=fun e=>by rw[e,h.top] at hb;cases hb
  have pI:∀ e∈A,e.2.1≠b:=fun e he e2=>by have:=h.sub e he;rw[e2,hb] at this;cases this
  refine⟨by rw[EP,O' c b A hc],fun e he=>?_,fun e he=>?_,fun e he e' o6 hh=>?_,?_,fun e he o=>?_,fun x hx=>?_,fun e he=>?_⟩
  · rcases cy.1 he with he | he
    · rw[vV _ _ (h.zO e he),vV _ _ (pI e he)];exact h.sub e he
    · simp only[ek] at he;subst he
      rw[vV _ _ pP,EP];rfl
  · rcases cy.1 he with he | he
    · exact h.zO e he
    · simp only[ek] at he;subst he;exact pP
  · rcases cy.1 he with he | he<;>rcases cy.1 o6 with o6 | o6
    · exact h.inj e he e' o6 hh
    · simp only[ek] at o6;subst o6;exact absurd hh (pI e he)
    · simp only[ek] at he;subst he;exact absurd hh.symm (pI e' o6)
    · simp only[ek] at he o6;rw[he,o6]
  · rw[List.map_append,List.nodup_append]
    refine⟨h.keys,by simp,fun a ha b' cU=>?_⟩
    obtain ⟨e,he,rfl⟩:=b7.1 ha
    simp only[cR,List.map_nil,ek] at cU
    rw[cU];exact hc e he
  · rcases cy.1 he with he | he
    · exact h.val e he o
    · simp only[ek] at he;subst he
      rw[Iu]
      · rfl
      · intro x hx rM
        obtain ⟨e,he,uB⟩:=h.has x hx
        exact hc e he (uB.trans rM)
  · obtain ⟨e,he,uB⟩:=h.has x hx
    exact⟨e,List.mem_append_left _ he,uB⟩
  · rcases cy.1 he with he | he
    · exact h.zP e he
    · simp only[ek] at he;subst he;exact hcR
def fh (c o w:Int) (A:List og):List og:=A.map fun e=>if e.1=c then (e.1,e.2.1,xK o w e.2.2) else e
theorem aa8 (c o w:Int) (A:List og):gE (fh c o w A)=gE A:=by
  unfold gE fh
  rw[yC]
  refine lP fun e _=>?_
  simp only[Function.comp]
  split<;>rfl
theorem GI.put {R:Nat} {dn:List Ld} {A:List og} {b0:Nat} {μ:Mem} (h:GI R dn A b0 μ) {x:Ld} {e0:og} (nk:e0∈A) (hc:e0.1=x.cls):GI R (dn++[x]) (fh x.cls x.opt x.wt A) b0 (oh μ e0.2.1 (.map (iE (tc x.opt (.int .i64 x.wt) (vE e0.2.2))))):=by
  have uniq:∀ e∈A,e.1=x.cls→e=e0:=fun e he hh=>by
    have hk:=h.keys
    obtain ⟨i,hi,rfl⟩:=sm.1 he
    obtain ⟨j,hj,rfl⟩:=sm.1 nk
    have:i=j:=(List.getElem_inj (h₀:=by simpa using hi) (h₁:=by simpa using hj) hk).1 (by simp only[List.getElem_map];rw[hh,hc])
    subst this;rfl
  have one:∀ e∈fh x.cls x.opt x.wt A,(e=(e0.1,e0.2.1,xK x.opt x.wt e0.2.2))∨(e∈A∧e.1≠x.cls):=fun e he=>by
    obtain ⟨e',o6,rfl⟩:=b7.1 he
    by_cases hh:e'.1=x.cls
    · left;rw[if_pos hh,uniq e' o6 hh]
    · right;rw[if_neg hh];exact⟨o6,hh⟩
  have pI:∀ e∈A,e.1≠x.cls→e.2.1≠e0.2.1:=fun e he hh e2=>hh (by rw[h.inj e he e0 nk e2,hc])
  refine⟨by rw[vV _ _ (h.zO e0 nk).symm,aa8];exact h.top,fun e he=>?_,fun e he=>?_,fun e he e' o6 hh=>?_,?_,fun e he o=>?_,fun y hy=>?_,fun e he=>?_⟩
  · rcases one e he with rfl | ⟨h1,h2⟩
    · rw[EP,O8]
    · rw[vV _ _ (pI e h1 h2)];exact h.sub e h1
  · rcases one e he with rfl | ⟨h1,h2⟩
    · exact h.zO e0 nk
    · exact h.zO e h1
  · rcases one e he with rfl | ⟨h1,h2⟩<;>rcases one e' o6 with rfl | ⟨h3,h4⟩
    · rfl
    · exact absurd hh.symm (pI e' h3 h4)
    · exact absurd hh (pI e h1 h2)
    · exact h.inj e h1 e' h3 hh
  · have:(fh x.cls x.opt x.wt A).map (·.1)=A.map (·.1):=by
      unfold fh
      rw[yC]
      refine lP fun e _=>?_
      simp only[Function.comp]
      split<;>rfl
    rw[this];exact h.keys
  · rw[O5]
    rcases one e he with rfl | ⟨h1,h2⟩
    · dsimp only
      rw[O9,h.val e0 nk o]
      by_cases ho:x.opt=o
      · rw[if_pos ho,if_pos ⟨hc.symm,ho⟩]
      · rw[if_neg ho,if_neg (fun e=>ho e.2)]
    · rw[if_neg (fun e=>h2 e.1.symm)];exact h.val e h1 o
  · have mem:∀ e∈A,∃ e'∈fh x.cls x.opt x.wt A,e'.1=e.1:=fun e he=>⟨_,List.mem_map_of_mem he,by split<;>rfl⟩
    rcases cy.1 hy with hy | hy
    · obtain ⟨e,he,uB⟩:=h.has y hy
      obtain ⟨e',k1,k2⟩:=mem e he
      exact⟨e',k1,k2.trans uB⟩
    · simp only[ek] at hy;subst hy
      obtain ⟨e',k1,k2⟩:=mem e0 nk
      exact⟨e',k1,k2.trans hc⟩
  · rcases one e he with rfl | ⟨h1,h2⟩
    · exact h.zP e0 nk
    · exact h.zP e h1
def zQ (f:Int→Int):List og→Int
  | []=>0
  | e::r=>f e.1+zQ f r
theorem Iy (f:Int→Int) (n:Nat):∀ A:List og,(A.map (·.1)).Nodup→(∀ e∈A,0≤e.1∧e.1<n)→zQ f A=bz (fun i=>if∃e∈A,e.1=(i:Int) then f i else 0) n
  | [],_,_=>by
    rw[jo (g:=fun _=>0) n (fun i _=>by simp)]
    have:∀ n,bz (fun _=>0) n=0:=fun n=>by induction n with | zero=>rfl | succ n ih=>rw[bz,ih];rfl
    rw[this];rfl
  | e::r,hn,hr=>by
    rw[cR,List.nodup_cons] at hn
    rw[zQ,Iy f n r hn.2 fun x hx=>hr x (by simp[hx])]
    have h0:=hr e (by simp)
    have aa9:¬∃x∈r,x.1=((e.1.toNat:Nat):Int):=by
      rintro ⟨x,hx,hh⟩
      rw[sx h0.1] at hh
      exact hn.1 (b7.2 ⟨x,hx,hh⟩)
    have:=zL (fun i=>if∃x∈r,x.1=(i:Int) then f i else 0) e.1.toNat (f e.1) n
    rw[if_pos (by omega)] at this
    rw[Int.add_comm,← this]
    refine jo n fun i hi=>?_
    by_cases h:i=e.1.toNat
    · subst h
      rw[if_pos rfl,if_neg aa9,if_pos ⟨e,by simp,by omega⟩,sx h0.1];omega
    · rw[if_neg h]
      have:(∃ x∈e::r,x.1=(i:Int))↔∃ x∈r,x.1=(i:Int):=by
        constructor
        · rintro ⟨x,hx,hh⟩
          rcases bZ.1 hx with rfl | hx
          · omega
          · exact⟨x,hx,hh⟩
        · rintro ⟨x,hx,hh⟩;exact⟨x,by simp[hx],hh⟩
      simp only[this]
theorem Pa:∀ A:List og,zQ (fun _=>1) A=A.length
  | []=>rfl
  | e::r=>by rw[zQ,Pa r,dH];omega
theorem GI.len {R:Nat} {dn:List Ld} {A:List og} {b0:Nat} {μ:Mem} (h:GI R dn A b0 μ):A.length≤R:=by
  have h1:=Iy (fun _=>1) R A h.keys h.zP
  rw[Pa] at h1
  have h2:=Iw (f:=fun i=>if∃e∈A,e.1=(i:Int) then (1:Int) else 0) (B:=1) R fun i _=>by split<;>omega
  omega
theorem GI.sum {dn:List Ld} {A:List og} {b0:Nat} {μ:Mem} {left:List (List Bool)} (h:GI left.length dn A b0 μ):zQ (fun c=>mP dn c (left.getD c.toNat [])) A=jR dn 0 left 0:=by
  rw[Iy _ left.length A h.keys h.zP,zN,wJ]
  refine jo _ fun i _=>?_
  simp only[Nat.zero_add,eT]
  by_cases hh :∃e∈A,e.1=(i:Int)
  · rw[if_pos hh]
  · rw[if_neg hh,O7]
    intro x hx rM
    obtain ⟨e,he,uB⟩:=h.has x hx
    exact hh ⟨e,he,uB.trans rM⟩
theorem GI.other {R:Nat} {dn:List Ld} {A:List og} {b0:Nat} {μ:Mem} (h:GI R dn A b0 μ) {r:Nat} (g:Gh) (hr:∀ l,μ r≠some (.map l)):GI R dn A b0 (oh μ r g) :=
  ⟨by rw[vV _ _ (fun e=>hr _ (e ▸ h.top))];exact h.top,fun e he=>by rw[vV _ _ (fun e2=>hr _ (e2 ▸ h.sub e he))];exact h.sub e he,h.zO,h.inj,h.keys,h.val,h.has,h.zP⟩
theorem Pb (l:List Ld) (c:Int) (is:Bool):∀ (row:List Bool) (i:Nat) (b:Int),ew l c i (row++[is]) b =
    if is=true∧(ew l c i row b<0∨fQ l c (i+row.length:Nat) 0<ew l c i row b) then fQ l c (i+row.length:Nat) 0 else ew l c i row b
  | [],i,b=>rfl
  | x::r,i,b=>by
    show ew l c (i+1) (r++[is]) _=_
    rw[Pb l c is r (i+1),ew,dH,show i+1+r.length=i+(r.length+1) by omega]
def LE (a b:List Int):Prop:=a.length=b.length∧∀ i,a.getD i 0≤b.getD i 0
theorem LE.refl (a:List Int):LE a a:=⟨rfl,fun _=>eo _⟩
theorem vW (l:List Int) (n i:Nat) (x:Int):(l.set n x).getD i 0=if n=i∧i<l.length then x else l.getD i 0:=by
  rw[ay,List.getElem?_set,ay]
  by_cases h:n=i
  · subst h
    by_cases h2:n<l.length
    · rw[if_pos rfl,if_pos h2,if_pos ⟨rfl,h2⟩];rfl
    · rw[if_pos rfl,if_neg h2,if_neg (fun h=>h2 h.2),du (by omega)]
  · rw[if_neg h,if_neg (fun h'=>h h'.1)]
theorem LE.add {a b:List Int} (h:LE a b) {r c d:Int} (Pe:c≤d):LE (eZ a r c) (eZ b r d):=by
  refine⟨by simp only[eZ,bm];exact h.1,fun i=>?_⟩
  rw[eZ,eZ,vW,vW,h.1]
  have:=h.2 i
  have:=h.2 r.toNat
  split
  · unfold dQ;omega
  · exact h.2 i
theorem LE.up {R:Int} {a b:List Int} (h:LE a b) (hb:iX R b) {r c:Int} (hc:0≤c):LE a (eZ b r c):=by
  refine⟨by simp only[eZ,bm];exact h.1,fun i=>?_⟩
  rw[eZ,vW]
  have h1:=h.2 i
  have h2:=hb.get i
  unfold bP at h2
  split
  · rename_i hh
    rw[hh.1];unfold dQ;omega
  · exact h1
def Up (p q:List Int):Prop:=p.length=q.length∧∀ j,p.getD j 0=q.getD j 0∨p.getD j 0<0
theorem aa' {most bE s t:Int} (hp:0≤bE) (h:s≤t):kP most bE s≤kP most bE t:=by
  unfold kP
  have h1:(s - most) * bE≤(t - most) * bE:=Int.mul_le_mul_of_nonneg_right (by omega) hp
  split
  · split
    · exact eo _
    · have:0≤(t - most) * bE:=Int.mul_nonneg (by omega) hp
      omega
  · rw[if_neg (by omega)];omega
theorem Up.set {p:List Int} {c:Nat} (o:Int) (h:p.getD c 0 = -1):Up p (p.set c o):=by
  refine⟨by simp,fun j=>?_⟩
  rw[vW]
  split
  · rename_i hh
    rw[← hh.1,h];omega
  · exact .inl rfl
theorem PM.set {m:ah} {p:List Int} (h:PM m p) {c:Nat} {o:Int} (ho:o = -1∨eP m (c:Nat) o=true):PM m (p.set c o):=by
  refine⟨by rw[bm];exact h.len,fun j hj=>?_⟩
  rw[bm] at hj
  rw[vW]
  split
  · rename_i hh
    rw[← hh.1];exact ho
  · exact h.get j hj
def Iz (fC:List Bool) (r:Int):Bool:=fC.getD r.toNat false
def Pf:ah:=⟨[],[],[],0⟩
def Cut (fC:List Bool) (a b:List Int):Prop:=b.length=a.length∧∀ i:Nat,b.getD i 0=if Iz fC i=true then a.getD i 0 else 0
theorem Cut.add {fC:List Bool} {a b:List Int} (h:Cut fC a b) {r c:Int} (hr:0≤r):Cut fC (eZ a r c) (if Iz fC r=true then eZ b r c else b):=by
  have eV:((r.toNat:Nat):Int)=r:=sx hr
  refine⟨by split<;>simp only[eZ,bm]<;>exact h.1,fun i=>?_⟩
  have hi:=h.2 i
  have rj:=h.2 r.toNat
  rw[eV] at rj
  by_cases hk:Iz fC r=true
  · rw[if_pos hk]
    rw[if_pos hk] at rj
    rw[eZ,eZ,vW,vW,rj,h.1]
    by_cases lZ:r.toNat=i∧i<a.length
    · rw[if_pos lZ,if_pos lZ,if_pos]
      rw[← lZ.1,eV];exact hk
    · rw[if_neg lZ,if_neg lZ];exact hi
  · rw[if_neg hk,eZ,vW]
    by_cases lZ:r.toNat=i∧i<a.length
    · rw[if_pos lZ]
      rw[← lZ.1,eV,if_neg hk] at hi
      rw[← lZ.1,eV,if_neg hk];exact hi
    · rw[if_neg lZ];exact hi
theorem aba {R:Int} {q q':Option (Int × Int)} (h:∀ y,q'=some y→∃ x,q=some x∧y.1≤x.1):∀ {l:List (Int × Int)},dF R q l=true→dF R q' l=true
  | [],_=>by cases q'<;>rfl
  | c::r,hl=>by
    rw[dF.eq_def] at hl ⊢
    simp only[bh] at hl ⊢
    refine⟨⟨hl.1.1,?_⟩,hl.2⟩
    cases q' with
    | none=>rfl
    | some y =>
      obtain ⟨x,rfl,hx⟩:=h y rfl
      have:=hl.1.2
      simp only[decide_eq_true_eq] at this ⊢;omega
theorem IA {R:Int} (p:Int × Int→Bool):∀ {l:List (Int × Int)} {q:Option (Int × Int)},dF R q l=true→dF R q (l.filter p)=true
  | [],q,h=>h
  | c::r,q,h=>by
    have h0:=h
    rw[dF.eq_def] at h
    simp only[bh] at h
    rw[Gt]
    split
    · rw[dF.eq_def]
      simp only[bh]
      exact⟨h.1,IA p h.2⟩
    · refine aba (q:=some c) (fun y hy=>⟨c,rfl,?_⟩) (IA p h.2)
      subst hy
      have:=h.1.2
      simp only[decide_eq_true_eq] at this;omega
theorem abb {a b c:Pr} (h:mS a b<0) (k:mS b c<0):mS a c<0:=by
  rw[Ir] at *;omega
theorem abc {m:ah} {q q':Option Pr} (h:∀ y,q'=some y→∃ x,q=some x∧(∀ c,mS x c<0→mS y c<0)):∀ {l:List Pr},eI m q l=true→eI m q' l=true
  | [],_=>by cases q'<;>rfl
  | c::r,hl=>by
    rw[eI.eq_def] at hl ⊢
    simp only[bh] at hl ⊢
    refine⟨⟨hl.1.1,?_⟩,hl.2⟩
    cases q' with
    | none=>rfl
    | some y =>
      obtain ⟨x,rfl,hx⟩:=h y rfl
      have:=hl.1.2
      simp only[decide_eq_true_eq] at this ⊢;exact hx c this
theorem IB {m:ah} (p:Pr→Bool):∀ {l:List Pr} {q:Option Pr},eI m q l=true→eI m q (l.filter p)=true
  | [],q,h=>h
  | c::r,q,h=>by
    rw[eI.eq_def] at h
    simp only[bh] at h
    rw[Gt]
    split
    · rw[eI.eq_def]
      simp only[bh]
      exact⟨h.1,IB p h.2⟩
    · refine abc (q:=some c) (fun y hy=>⟨c,rfl,fun d hd=>?_⟩) (IB p h.2)
      subst hy
      have:=h.1.2
      simp only[decide_eq_true_eq] at this
      exact abb this hd
end T

