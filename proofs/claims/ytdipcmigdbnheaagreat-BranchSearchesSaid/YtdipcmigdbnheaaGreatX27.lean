import Derived.Test.YtdipcmigdbnheaaGreatX14
import Derived.Test.YtdipcmigdbnheaaGreatX13
import Derived.Test.YtdipcmigdbnheaaGreatX26
set_option linter.unusedVariables false
set_option linter.unusedSimpArgs false
set_option linter.unnecessarySimpa false
set_option linter.unusedSectionVars false
set_option maxHeartbeats 64000000
set_option maxRecDepth 20000
open List renaming mem_cons→bW,not_mem_nil→lX,range→bn,getD_eq_getElem?_getD→ay,getElem?_map→bR,getElem?_range→jT,ext_getElem?→km,getElem?_set→bO,length_map→eD,getElem?_eq_none→dM,replicate→aW,getElem?_replicate→rW,all_eq_true→eW,mem_range→og,getD_cons_succ→ep,getElem?_set_self→D9,mem_iff_getElem→te,getElem?_eq_getElem→bm,getElem?_set_ne→cz,length_set→bF,nodup_append→rZ,mem_singleton→ee,mem_append→dh,nodup_nil→G4,mem_or_eq_of_mem_set→pY,any_eq_true→kW,range'→lU,mem_filter→BD,nodup_iff_pairwise_ne→L7
open Option renaming map_some→eC,getD_some→gw
open Bool renaming eq_false_iff→zJ,false_and→qI,true_and→gV,and_eq_true→a7,or_eq_true→jE,false_eq_true→iJ,and_true→DZ
open Nat renaming zero_add→eK,lt_or_ge→dG
open Int renaming zero_add→tq
open Go Go.Am
namespace T
structure Nd where
  cls:Int
  kids:List Int
  cX:List Mv
  b5:List Int
  cells:List (List (Int × Int))
  deriving Inhabited
def I5 (l:List (Int × Int)):List AV:=[.tree 2 (rowsOf bP l)]
instance:Row I5 1:=⟨fun _=>rfl,fun x v hv=>by
  simp only[I5,bW,lX,or_false] at hv
  subst hv;exact .inr ⟨_,_,rfl⟩⟩
def aL (x:Nd):List AV:=[.lit (.int .i64 x.cls),.tree 1 (ints x.kids),.tree 4 (rowsOf fZ x.cX),.tree 1 (ints x.b5),.tree 1 (rowsOf I5 x.cells)]
instance:Row aL 5:=⟨fun _=>rfl,fun x v hv=>by
  simp only[aL,bW,lX,or_false] at hv
  rcases hv with rfl | rfl | rfl | rfl | rfl
  · exact .inl ⟨_,rfl,rfl⟩
  all_goals exact .inr ⟨_,_,rfl⟩⟩
def aM (P:List Nd):List AV:=[.tree 5 (rowsOf aL P)]
structure PB (P:List Nd):Prop where
  Ay:P.length<9223372036854775808
  kids:∀ x∈P,x.kids.length<9223372036854775808
  cX:∀ x∈P,x.cX.length<9223372036854775808
  b5:∀ x∈P,x.b5.length<9223372036854775808
  cells:∀ x∈P,x.cells.length<9223372036854775808
  cell:∀ x∈P,∀ l∈x.cells,l.length<9223372036854775808
def lh (m:ae) (x:Nd):Bool :=
  if x.cls = -1 then decide (x.kids.length=0∧(x.b5.length=0→x.cells.length=0)∧(0<x.b5.length→x.cX.length=0))
  else decide (0≤x.cls∧x.cls<m.cls.length∧x.kids.length=(m.cls.getD x.cls.toNat default).length∧x.cX.length=0∧x.b5.length=0∧x.cells.length=0)
def kI (n i:Nat) (k:Int):Bool:=decide ((i:Int)<k∧k<n)
def jM (m:ae) (n i:Nat) (x:Nd):Bool:=lh m x && x.kids.all (kI n i)
def eQ (P:List Nd):List Int:=P.flatMap (·.kids)
def jc (n:Nat) (l:List Int):List Int:=(bn n).map fun (j:Nat)=>(l.count (j:Int):Int)
def iG (m:ae) (P:List Nd):Bool :=
  decide (1≤P.length∧P.length≤20000) && ((bn P.length).all fun i=>jM m P.length i (P.getD i default)) && !((jc P.length (eQ P)).drop 1).any (fun x=>x != 1)
theorem yM (n:Nat) (l:List Int):(jc n l).length=n:=by simp[jc]
theorem Fq {n:Nat} (l:List Int) {j:Nat} (h:j<n):(jc n l).getD j 0=(l.count (j:Int):Int):=by
  unfold jc
  rw[ay,bR,jT h];rfl
theorem acm (n:Nat) (l:List Int) (k:Nat) (h:k<n):jc n (l++[(k:Int)])=(jc n l).set k ((jc n l).getD k 0+1):=by
  apply km
  intro j
  rw[bO,Fq l h]
  unfold jc
  rw[bR,eD,List.length_range]
  by_cases hj:j<n
  · rw[jT hj,eC,List.count_append]
    by_cases e:k=j
    · subst e;rw[if_pos rfl,if_pos h];simp
    · rw[if_neg e,bR,jT hj,eC]
      have:((k:Int) == (j:Int))=false:=by rw[beq_eq_false_iff_ne];omega
      simp[List.count_cons,this]
  · rw[dM (by simpa using hj)]
    split
    · omega
    · rw[dM (by simpa using hj)];rfl
theorem ach (n:Nat):jc n []=aW n 0:=by
  apply km
  intro j
  unfold jc
  rw[bR,rW]
  by_cases hj:j<n
  · rw[jT hj,if_pos hj];rfl
  · rw[dM (by simpa using hj),if_neg hj];rfl
theorem Ar {m:ae} {x:Nd} (hm:VM m) (h:lh m x=true):x.kids.length≤24:=by
  unfold lh at h
  split at h
  · rw[decide_eq_true_eq] at h;omega
  · rw[decide_eq_true_eq] at h
    have:=hm.opt _ (az (l:=m.cls) (i:=x.cls.toNat) (d:=default) (by omega))
    omega
theorem QR {m:ae} {n:Nat} (hm:VM m):∀ (P:List Nd),(∀ x∈P,lh m x=true)→(eQ P).length≤24 * P.length
  | [],_=>by simp[eQ]
  | x::r,h=>by
    have h1:=Ar hm (h x (by simp))
    have h2:=QR (n:=n) hm r fun y hy=>h y (by simp[hy])
    unfold eQ at h2 ⊢
    rw[List.flatMap_cons,List.length_append,List.length_cons];omega
theorem ack {n:Nat} {l:List Int} {j:Nat} (h:j<n):0≤(jc n l).getD j 0∧(jc n l).getD j 0≤l.length:=by
  rw[Fq l h]
  have:=List.count_le_length (a:=(j:Int)) (l:=l)
  omega
theorem IU (P:List Nd) (x:Nd):eQ (P++[x])=eQ P++x.kids:=by unfold eQ;rw[List.flatMap_append];simp
theorem QQ {m:ae} {P:List Nd} {i:Nat} (hi:i<P.length) (h:jM m P.length i (P.getD i default)=false):iG m P=false:=by
  unfold iG
  have:((bn P.length).all fun i=>jM m P.length i (P.getD i default))=false:=by
    rw[zJ]
    intro h2
    rw[eW] at h2
    rw[h2 i (og.2 hi)] at h
    cases h
  rw[this,Bool.and_false,qI]
theorem QP {m:ae} {P:List Nd} (h:¬(1≤P.length∧P.length≤20000)):iG m P=false:=by
  unfold iG;rw[decide_eq_false h,qI,qI]
theorem Fj {m:ae} {P:List Nd} (h:1≤P.length∧P.length≤20000) (ha:∀ i,i<P.length→jM m P.length i (P.getD i default)=true):iG m P = !((jc P.length (eQ P)).drop 1).any (fun x=>x != 1):=by
  unfold iG
  have:((bn P.length).all fun i=>jM m P.length i (P.getD i default))=true:=by
    rw[eW];intro i hi;exact ha i (og.1 hi)
  rw[this,decide_eq_true h,gV,gV]
theorem Rj:∀ (l:List Int) (i:Nat) (x:Int),i<l.length→g9 (l.set i x)=g9 l - l.getD i 0+x
  | [],i,x,h=>by simp at h
  | y::r,0,x,_=>by simp only[List.set_cons_zero,g9,List.getD_cons_zero];omega
  | y::r,i+1,x,h=>by
    have:=Rj r i x (by simpa using h)
    simp only[List.set_cons_succ,g9,ep];omega
structure Rel (R:Int) (out:List Int) (s:SC) (n:Nat):Prop where
  ok:fj R out
  b0:0≤s.1
  c0:0≤s.2∧s.2≤1048576 * n
  eq:s.1=0→g9 out=s.2
  ff:0<s.1→1099511627776∈out
theorem Rel.mono {R:Int} {out:List Int} {s:SC} {n k:Nat} (h:Rel R out s n) (hk:n≤k):Rel R out s k :=
  ⟨h.ok,h.b0,by have:=h.c0;omega,h.eq,h.ff⟩
theorem Rel.add {R:Int} {out:List Int} {s:SC} {n k:Nat} (h:Rel R out s n) {r d c t:Int} (hr:0≤r∧r<R) (ht:0≤t)
    (hc:(c=1099511627776∧d=if 0<t then 1099511627776 else 0)∨(c≠1099511627776∧d=c * t∧0≤d∧d≤1048576 * k)) (hb:n+k<1048576) :
    Rel R (ed out r d) (pI s c t) (n+k):=by
  have dE:aS d:=by
    unfold aS
    rcases hc with ⟨_,h⟩ | ⟨_,_,h1,h2⟩
    · rw[h];split<;>omega
    · omega
  have hlen:=h.ok.1
  have hi:r.toNat<out.length:=by omega
  have hg:=h.ok.get r.toNat
  have cd:=az (d:=(0:Int)) hi
  have hs:=I6 h.ok.2 _ cd
  have k9:=Rj out r.toNat (cS (out.getD r.toNat 0) d) hi
  have lD:=h.c0
  have nW:=h.b0
  have CE:cS (out.getD r.toNat 0) d∈ed out r d:=by
    unfold ed
    have:(out.set r.toNat (cS (out.getD r.toNat 0) d)).getD r.toNat 0=cS (out.getD r.toNat 0) d:=by
      rw[ay,D9 hi];rfl
    have I7:=az (l:=out.set r.toNat (cS (out.getD r.toNat 0) d)) (i:=r.toNat) (d:=0) (by simpa using hi)
    rwa [this] at I7
  have Rk:1099511627776∈out→1099511627776∈ed out r d:=by
    intro hm
    obtain ⟨j,hj,Rl⟩:=te.1 hm
    by_cases Rm:r.toNat=j
    · subst Rm
      have:out.getD r.toNat 0=1099511627776:=by rw[ay,bm hj];exact Rl
      rw[this] at CE
      have e:cS 1099511627776 d=1099511627776:=by unfold aS at dE;unfold cS;omega
      rwa [e] at CE
    · have:(ed out r d).getD j 0=1099511627776:=by
        unfold ed
        rw[ay,cz Rm,bm hj];exact Rl
      have I7:=az (l:=ed out r d) (i:=j) (d:=0) (by unfold ed;simpa using hj)
      rwa [this] at I7
  unfold aS at hg dE
  rcases hc with ⟨I8,hd⟩ | ⟨I8,hd,Qj,Rn⟩
  · unfold pI
    rw[if_pos I8]
    refine⟨h.ok.add (by unfold aS;exact dE),by dsimp only;omega,by dsimp only;omega,fun hz=>?_,fun hz=>?_⟩
    · dsimp only at hz ⊢
      have:d=0:=by rw[hd,if_neg (by omega)]
      rw[← h.eq (by omega)]
      unfold ed
      rw[k9]
      unfold cS
      omega
    · dsimp only at hz
      by_cases htz:0<t
      · have:cS (out.getD r.toNat 0) d=1099511627776:=by rw[hd,if_pos htz];unfold cS;omega
        rwa [this] at CE
      · exact Rk (h.ff (by omega))
  · unfold pI
    rw[if_neg I8,← hd]
    refine⟨h.ok.add (by unfold aS;exact dE),by dsimp only;omega,by dsimp only;omega,fun hz=>?_,fun hz=>?_⟩
    · dsimp only at hz ⊢
      have he:=h.eq hz
      unfold ed
      rw[k9]
      unfold cS
      omega
    · exact Rk (h.ff hz)
theorem Ro {m:ae}:∀ (plan:List Int) (i:Nat),(∀ j,j<plan.length→plan.getD j 0 = -1∨ez m ((i+j:Nat):Int) (plan.getD j 0)=true)→oR m i plan=true
  | [],_,_=>rfl
  | o::r,i,h=>by
    rw[oR,a7,jE,decide_eq_true_eq]
    refine⟨by simpa using h 0 (by simp),Ro r (i+1) fun j hj=>?_⟩
    have:=h (j+1) (by simpa using hj)
    rwa [ep,show i+(j+1)=i+1+j by omega] at this
theorem Rp {m:ae} {plan:List Int} (h:PM m plan):oS m plan=true:=by
  rw[oS,if_neg (by rw[h.len];simp)]
  exact Ro plan 0 fun j hj=>by rw[eK];exact h.get j hj
theorem Qp {m:ae} {plan:List Int} (hm:VM m) (hp:PM m plan):rn m plan=(gY (gZ m plan) 0,gZ m plan,0):=by
  rw[rn,if_neg (by rw[iu.2 hm];simp),if_neg (by rw[Rp hp];simp)]
  rfl
theorem ab0 {m:ae} {plan:List Int} (hm:VM m) (hp:FP m plan):mK m plan=0:=by
  unfold mK
  rw[if_neg (by rw[iu.2 hm];simp),Rp hp.pm,if_neg]
  simp only[Bool.not_true,Bool.false_or,Bool.not_eq_true]
  cases h:plan.contains (-1) with
  | false=>rfl
  | true =>
    obtain ⟨j,hj,e⟩:=te.1 (List.contains_iff_mem.1 h)
    have:=cV.1 (hp.get j hj)
    rw[ay,bm hj] at this
    simp only[gw] at this
    omega
def rj (m:ae) (a x b y:Int) (p:Pr):Bool:=decide (p.fst=a∧p.snd=b∧jP m p x y=1099511627776)
def pG (m:ae) (a x b y:Int):Bool:=if b<a then m.ah.any (rj m b y a x) else m.ah.any (rj m a x b y)
theorem Rf {m:ae} {a x b y:Int} (h:a≠b):pG m a x b y=pG m b y a x:=by
  unfold pG
  by_cases h1:b<a
  · rw[if_pos h1,if_neg (by omega)]
  · rw[if_neg h1,if_pos (by omega)]
structure CI (m:ae) (plan out mv:List Int):Prop where
  fp:FP m out
  nd:mv.Nodup
  rg:∀ x∈mv,0≤x∧x<out.length
  un:∀ y:Nat,y<out.length→¬ (y:Int)∈mv→out.getD y 0=plan.getD y 0
theorem I9:∀ {n:Nat} {l:List Int},l.Nodup→(∀ x∈l,0≤x∧x<n)→l.length≤n
  | 0,l,h,hr=>by
    cases l with
    | nil=>simp
    | cons x r=>have:=hr x (by simp);omega
  | n+1,l,h,hr=>by
    by_cases hm:(n:Int)∈l
    · have h1:=List.length_erase_of_mem hm
      have h2:=I9 (n:=n) (h.erase (n:Int)) fun x hx=>by
        have h3:=(List.Nodup.mem_erase_iff h).1 hx
        have:=hr x h3.2
        omega
      omega
    · have:=I9 (n:=n) h fun x hx=>by
        have:=hr x hx
        have:x≠n:=fun e=>hm (e ▸ hx)
        omega
      omega
theorem CI.len {m:ae} {plan out mv:List Int} (h:CI m plan out mv):mv.length≤out.length:=I9 h.nd h.rg
theorem CI.step {m:ae} {plan out mv:List Int} (h:CI m plan out mv) {y:Nat} (hy:y<out.length) (hm:¬ (y:Int)∈mv) {o:Int} (ho:ez m (y:Nat) o=true):CI m plan (out.set y o) (mv++[(y:Int)]):=by
  refine⟨?_,?_,?_,?_⟩
  · refine⟨by rw[bF];exact h.fp.len,fun j hj=>?_⟩
    rw[bF] at hj
    by_cases e:y=j
    · subst e
      rw[ay,D9 hj]
      exact ho
    · rw[ay,cz e,← ay]
      exact h.fp.get j hj
  · rw[rZ]
    refine⟨h.nd,by simp,fun a ha b hb=>?_⟩
    rw[ee] at hb
    subst hb
    intro e;subst e;exact hm ha
  · intro x hx
    rw[bF]
    rcases dh.1 hx with hx | hx
    · exact h.rg x hx
    · rw[ee.1 hx];omega
  · intro j hj hn
    rw[bF] at hj
    rw[dh,not_or,ee] at hn
    rw[ay,cz (by omega),← ay]
    exact h.un j hj hn.1
def nZ (c o:Int) (y:Int × Int):Bool:=decide (y=(c,o))
def ue (m:ae) (a b:Int × Int):Bool:=decide (a.1=b.1) || pG m a.1 a.2 b.1 b.2
def wT (m:ae) (g:List Int) (l:List (Int × Int)) (i:Nat):Bool:=g.contains (l.getD i default).1 && ez m (l.getD i default).1 (l.getD i default).2 && (l.take i).all (ue m (l.getD i default))
def vq (m:ae) (g:List Int) (l:List (Int × Int)):Bool:=(bn l.length).all (wT m g l)
def CF (m:ae) (g:List Int):Bool:=(bn g.length).all fun i=>decide (0≤g.getD i 0∧g.getD i 0<m.cls.length∧(i=0∨g.getD (i - 1) 0<g.getD i 0))
def vp (left:List (List Bool)) (cells:List (List (Int × Int))) (c:Int):Bool :=
  (bn (left.getD c.toNat default).length).all fun o=>!(left.getD c.toNat default).getD o false || cells.any fun l=>l.any (nZ c o)
def lL (m:ae) (x:Nd) (left:List (List Bool)):Bool :=
  CF m x.b5 && decide (x.cells.length<x.b5.length) && x.cells.all (vq m x.b5) && x.b5.all (vp left x.cells)
theorem yO {n:Nat} {f:Nat→Bool}:(bn n).all f=true↔∀ i,i<n→f i=true:=by
  rw[eW]
  exact⟨fun h i hi=>h i (og.2 hi),fun h i hi=>h i (og.1 hi)⟩
theorem all_false {α:Type} {l:List α} {f:α→Bool} {x:α} (hx:x∈l) (h:f x=false):l.all f=false:=by
  rw[zJ];intro h2
  rw[eW] at h2
  rw[h2 x hx] at h;cases h
theorem I' {n:Nat} {f:Nat→Bool} {i:Nat} (hi:i<n) (h:f i=false):(bn n).all f=false:=all_false (og.2 hi) h
theorem Re {m:ae} {g:List Int} (h:CF m g=true):∀ c∈g,0≤c∧c<m.cls.length:=fun c hc=>by
  obtain ⟨i,hi,rfl⟩:=List.getElem_of_mem hc
  have:=yO.1 h i hi
  rw[decide_eq_true_eq,ay,bm hi] at this
  exact⟨this.1,this.2.1⟩
theorem acO {m:ae} {x:Nd} {left:List (List Bool)} (h:CF m x.b5=false):lL m x left=false:=by unfold lL;rw[h];rfl
theorem acP {m:ae} {x:Nd} {left:List (List Bool)} (h:¬x.cells.length<x.b5.length):lL m x left=false:=by unfold lL;rw[decide_eq_false h];simp
theorem acQ {m:ae} {x:Nd} {left:List (List Bool)} (h:x.cells.all (vq m x.b5)=false):lL m x left=false:=by unfold lL;rw[h];simp
theorem acR {m:ae} {x:Nd} {left:List (List Bool)} (h:x.b5.all (vp left x.cells)=false):lL m x left=false:=by unfold lL;rw[h];simp
theorem acS {m:ae} {x:Nd} {left:List (List Bool)} (h1:CF m x.b5=true) (h2:x.cells.length<x.b5.length) (h3:x.cells.all (vq m x.b5)=true) (h4:x.b5.all (vp left x.cells)=true):lL m x left=true:=by unfold lL;rw[h1,decide_eq_true h2,h3,h4];rfl
def CG (l:List (Int × Int)) (s:Int):Int:=(l.map (·.2)).foldl cS s
def vt (m:ae):Nat→List Int→Int→Int
  | _,[],s=>s
  | i,o::r,s=>vt m (i+1) r (if o<0 then s else CG ((m.cls.getD i default).getD o.toNat default).ch s)
def vu (m:ae) (plan:List Int):List Pr→Int→Int
  | [],s=>s
  | p::r,s=>vu m plan r (if 0≤plan.getD p.fst.toNat 0∧0≤plan.getD p.snd.toNat 0 then cS s (jP m p (plan.getD p.fst.toNat 0) (plan.getD p.snd.toNat 0)) else s)
def sM (plan:List Int) (c:Ct):Int:=max (dX plan c.aA 0 - c.most) 0
def wU (plan:List Int):List Ct→Int→Int
  | [],s=>s
  | c::r,s=>wU plan r (cS s (rp (sM plan c) c.bg))
def AB (m:ae) (plan:List Int):Int:=wU plan m.av (vu m plan m.ah (vt m 0 plan 0))
theorem Rq {c:Ct} {plan:List Int} (h:fK c.bg=true):rp (sM plan c) c.bg=iZ c.most c.bg (dX plan c.aA 0):=by
  unfold fK at h
  rw[decide_eq_true_eq] at h
  unfold rp sM iZ
  generalize dX plan c.aA 0=s
  by_cases h1:s≤c.most
  · rw[if_pos (by omega),if_pos h1]
  · rw[if_neg (by omega),if_neg h1,show max (s - c.most) 0=s - c.most by omega]
    by_cases h2:1099511627776≤c.bg
    · rw[if_pos h2]
      have:1 * 1099511627776≤(s - c.most) * c.bg:=Int.mul_le_mul (by omega) h2 (by omega) (by omega)
      omega
    · rw[if_neg h2]
theorem Sat.cut {R:Int} {out:List Int} {s d:Int} (h:Sat R out (s+d)) (hs:aS s) (hd:aS d):Sat R out (cS s d):=by
  have:=oT hs hd
  unfold aS at this hs hd
  exact h.le this.1 (by unfold cS;omega)
theorem Rr:∀ (l:List (Int × Int)) (s:Int),(∀ c∈l,aS c.2)→aS s→aS (CG l s)
  | [],s,_,h=>h
  | c::r,s,hc,h=>by
    show aS (CG r (cS s c.2))
    exact Rr r _ (fun x hx=>hc x (by simp[hx])) (oT h (hc c (by simp)))
theorem Rs {m:ae} (hm:VM m) (i k:Nat):∀ c∈((m.cls.getD i default).getD k default).ch,iP m.rules c.1=true∧fK c.2=true:=by
  rcases dG i m.cls.length with hi | hi
  · have hl:=az (l:=m.cls) (i:=i) (d:=default) hi
    rcases dG k (m.cls.getD i default).length with hk | hk
    · exact vv (hm.mf _ hl _ (az (d:=default) hk))
    · rw[ay (l:=m.cls.getD i default),dM hk];intro c hc;cases hc
  · rw[ay (l:=m.cls),dM hi];intro c hc;cases hc
theorem Ja {m:ae} (hm:VM m):∀ (plan:List Int) (i:Nat) (out:List Int) (s:Int),Sat m.rules out s→aS s→Sat m.rules (j8 m i plan out) (vt m i plan s)∧aS (vt m i plan s)
  | [],i,out,s,h,hs=>⟨h,hs⟩
  | o::r,i,out,s,h,hs=>by
    rw[j8,vt]
    by_cases ho:o<0
    · rw[if_pos ho,if_pos ho];exact Ja hm r _ _ _ h hs
    · rw[if_neg ho,if_neg ho]
      have hc:=Rs hm i o.toNat
      have h1:=Jb _ out 0 s hc (Int.le_refl _) hs (by rw[tq];exact h)
      rw[tq] at h1
      exact Ja hm r _ _ _ h1 (Rr _ _ (fun c hx=>g7 (hc c hx).2) hs)
theorem Jc {m:ae} {plan:List Int}:∀ (l:List Pr) (out:List Int) (s:Int),(∀ p∈l,eG m p=true)→Sat m.rules out s→aS s→Sat m.rules (lM m plan l out) (vu m plan l s)∧aS (vu m plan l s)
  | [],out,s,_,h,hs=>⟨h,hs⟩
  | p::r,out,s,hg,h,hs=>by
    rw[lM,vu]
    have ca:=hg p (by simp)
    obtain ⟨q1,q2,q3,q4,q5⟩:=iY ca
    by_cases hc:0≤plan.getD p.fst.toNat 0∧0≤plan.getD p.snd.toNat 0
    · rw[if_pos hc,if_pos hc]
      have he:=vo ca (plan.getD p.fst.toNat 0) (plan.getD p.snd.toNat 0)
      exact Jc r _ _ (fun x hx=>hg x (by simp[hx])) ((h.add q1 he).cut hs he) (oT hs he)
    · rw[if_neg hc,if_neg hc]
      exact Jc r _ _ (fun x hx=>hg x (by simp[hx])) h hs
theorem Rt {m:ae} {plan:List Int}:∀ (l:List Ct) (out:List Int) (s:Int),(∀ c∈l,fP m c=true)→Sat m.rules out s→aS s→Sat m.rules (lN plan l out) (wU plan l s)∧aS (wU plan l s)
  | [],out,s,_,h,hs=>⟨h,hs⟩
  | c::r,out,s,hg,h,hs=>by
    rw[lN,wU]
    obtain ⟨q1,q2,q3,q4⟩:=ju (hg c (by simp))
    have he:=wR (most:=c.most) (sum:=dX plan c.aA 0) (g7 q3)
    rw[Rq q3]
    exact Rt r _ _ (fun x hx=>hg x (by simp[hx])) ((h.add q1 he).cut hs he) (oT hs he)
theorem acT {m:ae} (hm:VM m) (plan:List Int):AB m plan=gY (gZ m plan) 0:=by
  have h0:Sat m.rules (aW m.rules.toNat 0) 0:=by
    refine⟨fj.rep hm.mP.1,by decide,?_⟩
    have:∀ k,g9 (aW k 0)=0:=by
      intro k
      induction k with
      | zero=>rfl
      | succ k ih=>rw[List.replicate_succ,g9,ih];rfl
    rw[this]
  have h1:=Ja hm plan 0 _ _ h0 (by unfold aS;decide)
  have h2:=Jc (plan:=plan) m.ah _ _ (fY hm.pr) h1.1 h1.2
  have h3:=Rt (plan:=plan) m.av _ _ hm.ct h2.1 h2.2
  have uf:=CH (AD hm plan).2 (n:=0) (by unfold aS;decide)
  have he:=h3.1.eq
  have hs:=h3.2
  change min (g9 (gZ m plan)) _=min (AB m plan) _ at he
  change aS (AB m plan) at hs
  unfold aS at hs
  rw[uf,tq,he]
  omega
def rq (m:ae) (plan:List Int):Int:=gY (gZ m plan) 0
def ry (m:ae) (plan:List Int) (c k:Nat):Int:=rq m (plan.set c (k:Int))
def ql (f:Nat→Int):Nat→Nat→Int→Int→Int
  | 0,_,_,b=>b
  | n+1,k,l,b=>if f k<l then ql f n (k+1) (f k) k else ql f n (k+1) l b
def wV (f:Nat→Int):Nat→Nat→Int→Int
  | 0,_,a=>a
  | n+1,k,a=>if f k<1099511627776 then wV f n (k+1) (a+1) else wV f n (k+1) a
def kK (m:ae) (plan:List Int) (c:Nat):Int:=ql (ry m plan c) (m.cls.getD c default).length 0 1099511627776 (-1)
def wW (m:ae) (plan:List Int) (c:Nat):Int:=wV (ry m plan c) (m.cls.getD c default).length 0 0
theorem Jd (f:Nat→Int):∀ (n k:Nat) (l b:Int),(-1≤b∧b<k)→-1≤ql f n k l b∧ql f n k l b<(k+n:Nat)
  | 0,k,_,b,h=>⟨h.1,by rw[ql,Nat.add_zero];exact h.2⟩
  | n+1,k,l,b,h=>by
    rw[ql,show k+(n+1)=k+1+n by omega]
    split
    · exact Jd f n (k+1) _ _ ⟨by omega,by omega⟩
    · exact Jd f n (k+1) _ _ ⟨h.1,by omega⟩
theorem acU (m:ae) (plan:List Int) (c:Nat) : -1≤kK m plan c∧kK m plan c<(m.cls.getD c default).length:=by
  have:=Jd (ry m plan c) (m.cls.getD c default).length 0 1099511627776 (-1) ⟨by omega,by omega⟩
  rw[eK] at this
  exact this
theorem Ru {m:ae} {plan:List Int} (h:PM m plan) {c:Nat} {o:Int} (ho:o = -1∨ez m (c:Nat) o=true):PM m (plan.set c o):=⟨by rw[bF];exact h.len,fun j hj=>by
  rw[bF] at hj
  by_cases ky:c=j
  · subst ky
    rw[ay,D9 hj,gw];exact ho
  · rw[ay,cz ky,← ay];exact h.get j hj⟩
theorem Je {m:ae} {plan:List Int} (h:PM m plan) {c:Nat} (hc:c<m.cls.length):PM m (plan.set c (kK m plan c)):=by
  refine Ru h ?_
  have:=acU m plan c
  by_cases h1:kK m plan c = -1
  · exact .inl h1
  · exact .inr (cV.2 ⟨by omega,by omega,by omega,by rw[Int.toNat_natCast];exact this.2⟩)
def vw (m:ae):List Int:=aW m.cls.length (-1)
theorem Rv (m:ae):PM m (vw m):=⟨by unfold vw;simp,fun j hj=>.inl (by
  unfold vw at hj ⊢
  rw[List.length_replicate] at hj
  rw[ay,rW,if_pos hj];rfl)⟩
def AE (c:Ct):Bool:=decide (c.bg=1099511627776)
def yP (p:Pr):Bool:=p.aP.any fun n=>decide (n=1099511627776)
def AF (c:Ct) (a:Int):Bool:=c.aA.any fun l=>decide (l.cls=a)
def yQ (m:ae) (a b:Int):Bool:=(m.ah.any fun p=>decide (p.fst=min a b∧p.snd=max a b) && yP p) || (m.av.any fun c=>AE c && AF c a && AF c b)
def CJ (m:ae) (a:Nat):Nat→Nat→Int→Int
  | 0,_,n=>n
  | f+1,b,n=>CJ m a f (b+1) (if a≠b∧yQ m a b=true then n+1 else n)
def sN (m:ae):List Int:=(bn m.cls.length).map fun a=>CJ m a m.cls.length 0 0
def qm (l:List Int) (k:Int):List Int:=if k∈l then l else l++[k]
def AG (bx:List (List Int)) (a b:Int):List (List Int) :=
  if a=b then bx else
    let n1:=bx.set a.toNat (qm (bx.getD a.toNat []) b)
    n1.set b.toNat (qm (n1.getD b.toNat []) a)
def wX:List Pr→List (List Int)→List (List Int)
  | [],s=>s
  | p::r,s=>wX r (if yP p=true then AG s p.fst p.snd else s)
def wY (a:Int):List Ld→List (List Int)→List (List Int)
  | [],s=>s
  | l::r,s=>wY a r (AG s a l.cls)
def wZ (ls:List Ld):List Ld→List (List Int)→List (List Int)
  | [],s=>s
  | l::r,s=>wZ ls r (wY l.cls ls s)
def w5:List Ct→List (List Int)→List (List Int)
  | [],s=>s
  | c::r,s=>w5 r (if AE c=true then wZ c.aA c.aA s else s)
def CK (m:ae):List (List Int):=w5 m.av (wX m.ah (aW m.cls.length []))
structure NS (n:Nat) (R:Int→Int→Prop) (s:List (List Int)):Prop where
  len:s.length=n
  nd:∀ l∈s,l.Nodup
  mem:∀ a,a<n→∀ b,b∈s.getD a []↔(R a b∧(a:Int)≠b)
theorem Rx {l:List Int} {k x:Int}:x∈qm l k↔x∈l∨x=k:=by
  unfold qm
  split
  · rename_i h
    constructor
    · exact .inl
    · rintro (h1 | rfl)
      · exact h1
      · exact h
  · simp
theorem Ry {l:List Int} {k:Int} (h:l.Nodup):(qm l k).Nodup:=by
  unfold qm
  split
  · exact h
  · rename_i hk
    rw[rZ]
    exact⟨h,by simp,fun a ha b hb=>by rw[ee.1 hb];exact fun e=>hk (e ▸ ha)⟩
theorem ug {α:Type} (l:List α) (i k:Nat) (x d:α) (hi:i<l.length):(l.set i x).getD k d=if i=k then x else l.getD k d:=by
  simp only[ay,bO]
  by_cases h:i=k
  · subst h;simp[hi]
  · simp[h]
theorem NS.join {n:Nat} {R:Int→Int→Prop} {s:List (List Int)} (h:NS n R s) {a b:Int} (ha:0≤a∧a<n) (hb:0≤b∧b<n):NS n (fun x y=>R x y∨(x=a∧y=b)∨(x=b∧y=a)) (AG s a b):=by
  unfold AG
  by_cases gq:a=b
  · rw[if_pos gq]
    refine⟨h.len,h.nd,fun x hx y=>?_⟩
    rw[h.mem x hx y]
    constructor
    · rintro ⟨h1,h2⟩;exact⟨.inl h1,h2⟩
    · rintro ⟨h1 | ⟨h1,h2⟩ | ⟨h1,h2⟩,h3⟩
      · exact⟨h1,h3⟩
      · exact absurd (h1.trans (gq.trans h2.symm)) h3
      · exact absurd (h1.trans (gq.symm.trans h2.symm)) h3
  · rw[if_neg gq]
    dsimp only
    have hl:=h.len
    have b8:a.toNat≠b.toNat:=by omega
    refine⟨by simp[hl],fun l ns=>?_,fun x hx y=>?_⟩
    · have bC:∀ k,(s.getD k []).Nodup:=fun k=>by
        rcases dG k s.length with hk | hk
        · exact h.nd _ (az hk)
        · rw[ay,dM hk];exact G4
      rcases pY ns with h1 | h1
      · rcases pY h1 with h2 | h2
        · exact h.nd _ h2
        · rw[h2];exact Ry (bC _)
      · rw[h1,ug _ _ _ _ _ (by omega),if_neg b8];exact Ry (bC _)
    · rw[ug _ _ _ _ _ (by rw[bF];omega)]
      by_cases h1:b.toNat=x
      · rw[if_pos h1,ug _ _ _ _ _ (by omega),if_neg b8,Rx,h1,h.mem x hx y]
        constructor
        · rintro (⟨h2,h3⟩ | h2)
          · exact⟨.inl h2,h3⟩
          · exact⟨.inr (.inr ⟨by omega,h2⟩),by omega⟩
        · rintro ⟨h2 | ⟨h2,h3⟩ | ⟨h2,h3⟩,h4⟩
          · exact .inl ⟨h2,h4⟩
          · omega
          · exact .inr h3
      · rw[if_neg h1,ug _ _ _ _ _ (by omega)]
        by_cases h2:a.toNat=x
        · rw[if_pos h2,Rx,h2,h.mem x hx y]
          constructor
          · rintro (⟨h3,h4⟩ | h3)
            · exact⟨.inl h3,h4⟩
            · exact⟨.inr (.inl ⟨by omega,h3⟩),by omega⟩
          · rintro ⟨h3 | ⟨h3,h4⟩ | ⟨h3,h4⟩,h5⟩
            · exact .inl ⟨h3,h5⟩
            · exact .inr h4
            · omega
        · rw[if_neg h2,h.mem x hx y]
          constructor
          · rintro ⟨h3,h4⟩;exact⟨.inl h3,h4⟩
          · rintro ⟨h3 | ⟨h3,h4⟩ | ⟨h3,h4⟩,h5⟩
            · exact⟨h3,h5⟩
            · omega
            · omega
theorem NS.congr {n:Nat} {R R':Int→Int→Prop} {s:List (List Int)} (h:NS n R s) (hr:∀ x y:Int,x≠y→(R x y↔R' x y)):NS n R' s:=⟨h.len,h.nd,fun a ha b=>by
  rw[h.mem a ha b]
  constructor
  · rintro ⟨h1,h2⟩;exact⟨(hr _ _ h2).1 h1,h2⟩
  · rintro ⟨h1,h2⟩;exact⟨(hr _ _ h2).2 h1,h2⟩⟩
theorem Jf {m:ae}:∀ (l:List Pr) (R:Int→Int→Prop) (s:List (List Int)),(∀ p∈l,eG m p=true)→NS m.cls.length R s →
    NS m.cls.length (fun x y=>R x y∨∃ p∈l,yP p=true∧((x=p.fst∧y=p.snd)∨(x=p.snd∧y=p.fst))) (wX l s)
  | [],R,s,_,h=>h.congr fun x y _=>by simp
  | p::r,R,s,hp,h=>by
    rw[wX]
    obtain ⟨q1,q2,q3,q4,q5⟩:=iY (hp p (by simp))
    by_cases hf:yP p=true
    · rw[if_pos hf]
      refine (Jf r _ _ (fun x hx=>hp x (by simp[hx])) (h.join (a:=p.fst) (b:=p.snd) (by omega) (by omega))).congr fun x y _=>?_
      simp only[bW,exists_eq_or_imp,hf,true_and]
      rw[or_assoc]
    · rw[if_neg hf]
      refine (Jf r _ _ (fun x hx=>hp x (by simp[hx])) h).congr fun x y _=>?_
      simp only[bW,exists_eq_or_imp,hf,iJ,false_and,false_or]
theorem Rz {n:Nat} {a:Int} (ha:0≤a∧a<n):∀ (l:List Ld) (R:Int→Int→Prop) (s:List (List Int)),(∀ x∈l,0≤x.cls∧x.cls<n)→NS n R s →
    NS n (fun x y=>R x y∨∃ q∈l,(x=a∧y=q.cls)∨(x=q.cls∧y=a)) (wY a l s)
  | [],R,s,_,h=>h.congr fun x y _=>by simp
  | q::r,R,s,hp,h=>by
    rw[wY]
    refine (Rz ha r _ _ (fun x hx=>hp x (by simp[hx])) (h.join ha (hp q (by simp)))).congr fun x y _=>?_
    simp only[bW,exists_eq_or_imp]
    rw[or_assoc]
theorem RA {n:Nat} {ls:List Ld} (RB:∀ x∈ls,0≤x.cls∧x.cls<n):∀ (l:List Ld) (R:Int→Int→Prop) (s:List (List Int)),(∀ x∈l,0≤x.cls∧x.cls<n)→NS n R s →
    NS n (fun x y=>R x y∨∃ p∈l,∃ q∈ls,(x=p.cls∧y=q.cls)∨(x=q.cls∧y=p.cls)) (wZ ls l s)
  | [],R,s,_,h=>h.congr fun x y _=>by simp
  | p::r,R,s,hp,h=>by
    rw[wZ]
    refine (RA RB r _ _ (fun x hx=>hp x (by simp[hx])) (Rz (hp p (by simp)) ls _ _ RB h)).congr fun x y _=>?_
    simp only[bW,exists_eq_or_imp]
    rw[or_assoc]
theorem Jg {m:ae} {c:Ct} (hc:fP m c=true):∀ x∈c.aA,0≤x.cls∧x.cls<m.cls.length:=fun x hx=>by
  have:=(kF (ju hc).2.2.2 x hx).1
  have:=cV.1 this
  omega
theorem Jh {m:ae}:∀ (l:List Ct) (R:Int→Int→Prop) (s:List (List Int)),(∀ c∈l,fP m c=true)→NS m.cls.length R s →
    NS m.cls.length (fun x y=>R x y∨∃ c∈l,AE c=true∧AF c x=true∧AF c y=true) (w5 l s)
  | [],R,s,_,h=>h.congr fun x y _=>by simp
  | c::r,R,s,hp,h=>by
    rw[w5]
    have hl:=Jg (hp c (by simp))
    by_cases hf:AE c=true
    · rw[if_pos hf]
      refine (Jh r _ _ (fun x hx=>hp x (by simp[hx])) (RA hl c.aA _ _ hl h)).congr fun x y _=>?_
      simp only[bW,exists_eq_or_imp,hf,true_and]
      rw[or_assoc]
      refine or_congr Iff.rfl (or_congr ?_ Iff.rfl)
      unfold AF
      simp only[kW,decide_eq_true_eq]
      constructor
      · rintro ⟨p,w6,q,hq,(⟨h1,h2⟩ | ⟨h1,h2⟩)⟩
        · exact⟨⟨p,w6,h1.symm⟩,⟨q,hq,h2.symm⟩⟩
        · exact⟨⟨q,hq,h1.symm⟩,⟨p,w6,h2.symm⟩⟩
      · rintro ⟨⟨p,w6,h1⟩,⟨q,hq,h2⟩⟩
        exact⟨p,w6,q,hq,.inl ⟨h1.symm,h2.symm⟩⟩
    · rw[if_neg hf]
      refine (Jh r _ _ (fun x hx=>hp x (by simp[hx])) h).congr fun x y _=>?_
      simp only[bW,exists_eq_or_imp,hf,iJ,false_and,false_or]
theorem acV {m:ae} (hm:VM m):NS m.cls.length (fun x y=>yQ m x y=true) (CK m):=by
  have h0:NS m.cls.length (fun _ _=>False) (aW m.cls.length []):=by
    refine⟨by simp,fun l hl=>by rw[(List.mem_replicate.1 hl).2];exact G4,fun a ha b=>?_⟩
    rw[ay,rW,if_pos ha];simp
  refine (Jh m.av _ _ hm.ct (Jf m.ah _ _ (fY hm.pr) h0)).congr fun x y jZ=>?_
  unfold yQ
  rw[jE,kW,kW,false_or]
  refine or_congr ?_ ?_
  · constructor
    · rintro ⟨p,hp,hf,h⟩
      obtain ⟨q1,q2,q3,q4,q5⟩:=iY (fY hm.pr p hp)
      refine⟨p,hp,?_⟩
      rw[hf,DZ,decide_eq_true_eq]
      omega
    · rintro ⟨p,hp,h⟩
      rw[a7,decide_eq_true_eq] at h
      exact⟨p,hp,h.2,by omega⟩
  · constructor
    · rintro ⟨c,hc,h1,h2,h3⟩;exact⟨c,hc,by rw[h1,h2,h3];rfl⟩
    · rintro ⟨c,hc,h⟩
      simp only[a7] at h
      exact⟨c,hc,h.1.1,h.1.2,h.2⟩
theorem RC (m:ae) (a:Nat):∀ (f b:Nat) (n:Int),CJ m a f b n=n+((lU b f).countP fun b=>decide (a≠b) && yQ m a b:Nat)
  | 0,b,n=>by simp[CJ]
  | f+1,b,n=>by
    rw[CJ,RC m a f,List.range'_succ,List.countP_cons]
    by_cases h1:a≠b∧yQ m a b=true
    · rw[if_pos h1]
      simp only[h1.2,DZ,decide_eq_true_eq]
      rw[if_pos h1.1];omega
    · rw[if_neg h1,if_neg (by rw[a7,decide_eq_true_eq];exact h1)];omega
theorem acW {m:ae} (hm:VM m):(CK m).map (fun l=>(l.length:Int))=sN m:=by
  have h:=acV hm
  apply List.ext_getElem
  · simp[sN,h.len]
  · intro a h1 h2
    have ha:a<m.cls.length:=by simpa [h.len] using h1
    have hs:a<(CK m).length:=by rw[h.len];exact ha
    simp only[sN,List.getElem_map,List.getElem_range]
    rw[RC]
    have cd:=h.mem a ha
    have bC:=h.nd _ (List.getElem_mem hs)
    rw[ay,bm hs,gw] at cd
    generalize (CK m)[a]=l at *
    have hp:l.Perm (((lU 0 m.cls.length).filter fun b=>decide (a≠b) && yQ m a b).map (fun b:Nat=>(b:Int))):=by
      rw[List.perm_ext_iff_of_nodup bC]
      · intro x
        rw[cd x,List.mem_map]
        constructor
        · rintro ⟨h3,h4⟩
          have hx:0≤x∧x<m.cls.length:=by
            unfold yQ at h3
            rw[jE,kW,kW] at h3
            rcases h3 with ⟨p,hp,h5⟩ | ⟨c,hc,h5⟩
            · rw[a7,decide_eq_true_eq] at h5
              obtain ⟨q1,q2,q3,q4,q5⟩:=iY (fY hm.pr p hp)
              omega
            · simp only[a7] at h5
              have h6:=h5.2
              unfold AF at h6
              rw[kW] at h6
              obtain ⟨q,hq,h7⟩:=h6
              rw[decide_eq_true_eq] at h7
              have:=Jg (hm.ct c hc) q hq
              omega
          refine⟨x.toNat,?_,by omega⟩
          rw[BD,List.mem_range'_1]
          refine⟨by omega,?_⟩
          rw[a7,decide_eq_true_eq,show ((x.toNat:Nat):Int)=x by omega]
          exact⟨by omega,h3⟩
        · rintro ⟨b,hb,rfl⟩
          rw[BD,a7,decide_eq_true_eq] at hb
          exact⟨hb.2.2,by have:=hb.2.1;omega⟩
      · rw[L7,List.pairwise_map]
        refine (List.Pairwise.filter _ (L7.1 List.nodup_range')).imp fun jZ e=>jZ (by omega)
    rw[hp.length_eq,eD,← List.countP_eq_length_filter]
    omega
end T

