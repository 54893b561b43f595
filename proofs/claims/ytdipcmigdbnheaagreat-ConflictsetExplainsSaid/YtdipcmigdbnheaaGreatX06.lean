import Derived.Test.YtdipcmigdbnheaaGreatX05
import Derived.Laws.IdiomRangeMap
set_option linter.all false
set_option maxHeartbeats 0
set_option maxRecDepth 20000
open List renaming range→aW,range'→og,range_eq_range'→xh,range'_succ→xg,range'_append→J5,mem_of_getElem?→iD,getElem?_drop→qc,length_take→eN,getElem?_take_of_lt→J2,mem_cons→cB,not_mem_nil→kI,getElem?_eq_some_iff→a8,getElem?_set→cA,length_set→bF,nodup_range→Gt,getD_eq_getElem?_getD→aA,getElem?_append_left→cT,getElem?_append_right→fV
open Array renaming getElem?_eq_some_iff→qf,length_toList→vO,getElem?_setIfInBounds_ne→xj,getD_eq_getD_getElem?→gm
open Nat renaming one_mul→tx,zero_add→gn,le_refl→aN,sub_self→hJ,lt_or_ge→fK,lt_of_lt_of_le→J9,lt_irrefl→BF
open Bool renaming and_eq_true→bw,false_eq_true→jQ
open Option renaming some→dI
namespace Go.Am
variable {P:Program} {N n0:Nat} {σ:St} {Q:Exit->St->Prop}
def tT:Exit->Bool
 |.normal=>true
 |_=>false
def AH(id:Nat):Exit->Bool
 |.normal=>true
 |.exit j=>j==id
 |_=>false
def HP{e:Exit}(h:tT e=false):e≠.normal:=by intro h2;subst h2;simp[tT]at h
def LJ{id:Nat}{e:Exit}(h:AH id e=false):e≠.normal/\e≠.exit id:=by
 constructor
 ·intro h2;subst h2;simp[AH]at h
 ·intro h2;subst h2;simp[AH]at h
theorem rk{id:Nat}{ops:Array Oper}{y:Code}(h:∀ K:St->Prop,(∀ s,W P N n0 y Q s->K s)->opsL P ops ops.toList K σ)(hd:gU N ops=true:=by decide):W P N n0 (.seq (.region id ops false) y) Q σ:=xG hd h
theorem TE{id:Nat}{ops:Array Oper}(h:∀ K:St->Prop,(∀ s,Q .normal s->K s)->opsL P ops ops.toList K σ)(hd:gU N ops=true:=by decide):W P N n0 (.region id ops false) Q σ:=adY hd h
theorem rd{id:Nat}{ops:Array Oper}{y:Code}(h:∀ K:St->Prop,(∀ s,W P N n0 y Q s->K s)->opsL P ops ops.toList K σ)(hm:P.follows .mixedOrders=true:=by rfl)(hd:gU N ops=true:=by decide)(ht:Ai ops=true:=by decide +kernel):W P N n0 (.seq (.region id ops true) y) Q σ:=adZ hm hd ht h
theorem rde{id:Nat}{ops:Array Oper}(h:∀ K:St->Prop,(∀ s,Q .normal s->K s)->opsL P ops ops.toList K σ)(hm:P.follows .mixedOrders=true:=by rfl)(hd:gU N ops=true:=by decide)(ht:Ai ops=true:=by decide +kernel):W P N n0 (.region id ops true) Q σ:=ad0 hm hd ht h
theorem rb{id:Nat}{ops:Array Oper}{y:Code}(h:∀ K:St->Prop,(∀ s,W P N n0 y Q s->K s)->tR P ops ops.toList K σ)(hm:P.follows .mixedOrders=true:=by rfl)(hd:gU N ops=true:=by decide)(ht:HH ops=true:=by decide +kernel):W P N n0 (.seq (.region id ops true) y) Q σ:=afi hm hd ht h
theorem Ev{id:Nat}{ops:Array Oper}(h:∀ K:St->Prop,(∀ s,Q .normal s->K s)->tR P ops ops.toList K σ)(hm:P.follows .mixedOrders=true:=by rfl)(hd:gU N ops=true:=by decide)(ht:HH ops=true:=by decide +kernel):W P N n0 (.region id ops true) Q σ:=afj hm hd ht h
theorem ra{id:Nat}{ops:Array Oper}{y:Code}(h:∀ K:St->Prop,(∀ s,W P N n0 y Q s->K s)->tQ P ops ops.toList K σ)(hm:P.follows .mixedOrders=true:=by rfl)(hd:gU N ops=true:=by decide)(ht:HG ops=true:=by decide +kernel):W P N n0 (.seq (.region id ops true) y) Q σ:=aff hm hd ht h
theorem Ew{id:Nat}{ops:Array Oper}(h:∀ K:St->Prop,(∀ s,Q .normal s->K s)->tQ P ops ops.toList K σ)(hm:P.follows .mixedOrders=true:=by rfl)(hd:gU N ops=true:=by decide)(ht:HG ops=true:=by decide +kernel):W P N n0 (.region id ops true) Q σ:=afg hm hd ht h
def Wk{x y:Code}(h:∀ Q':Exit->St->Prop,(∀ s,W P N n0 y Q s->Q' .normal s)->(∀ e s,tT e=false->Q e s->Q' e s)->W P N n0 x Q' σ):W P N n0 (.seq x y) Q σ :=
 W_k λQ' h1 h2=>h Q' h1 λe s he=>h2 e s (HP he)
def Wb{id:Nat}{c:Code}(h:∀ Q':Exit->St->Prop,(∀ s,Q .normal s->Q' .normal s)->(∀ s,Q .normal s->Q' (.exit id) s)->(∀ e s,AH id e=false->Q e s->Q' e s)->W P N n0 c Q' σ):W P N n0 (.block id c) Q σ :=
 adV λQ' h1 h2 h3=>h Q' h1 h2 λe s he=>h3 e s (LJ he).1 (LJ he).2
theorem Wc{c:Operand}{x y:Code}{t:Bool}(ht:t=true->W P N n0 x Q σ)(hf:t=false->W P N n0 y Q σ)(hc:ev σ c=.lit (.bool t):=by(simp only[Go.Am.oE,Go.Am.Lc,↓reduceIte,Nat.reduceEqDiff,Nat.reduceBEq];exact rfl)):W P N n0 (.cond c x y) Q σ:=D0 hc ht hf
def aM{α:Type}{c:Code}(S:α->St)(I:α->Prop)(M:α->Nat)(x0:α)(hI:I x0)(h0:aF n0 σ (S x0))(round:∀ x,I x->∀ Q':Exit->St->Prop,(∀ s y,I y->M y<M x->aF n0 s (S y)->Q' .normal s)->(∀ e s,tT e=false->Q e s->Q' e s)->W P N n0 c Q' (S x)):W P N n0 (.loop c) Q σ :=
 adU S I M x0 hI h0 λx hx Q' h1 h2=>round x hx Q' h1 λe s he=>h2 e s (HP he)
end Go.Am
namespace Go.Am
variable {P:Program} {N n0:Nat} {σ:St} {Q:Exit->St->Prop}
def afB{K0:St->Prop}(n m:Nat){ops:Array Oper}(hd:gU N ops=true)(o o2:Oper)(ho:ops[n]?=some o)(eX:ops[n+1+m]?=some o2){os:List Ob}{γ0:Cx}{a:Act}{w:World}{R:Exit->Act->World->Prop}(ax:iH N os γ0 σ a w)(HQ:∀ σ' a' w',K0 σ'->iH N os γ0 σ' a' w'->R .normal a' w')(h:opsL P ops (ops.toList.take n) (we P o (opsL P ops ((ops.toList.drop (n+1)).take m) (we P o2 (opsL P ops (ops.toList.drop (n+1+m+1)) K0)))) σ):
  wpOps P ops R (aW ops.size) a w:=by
 have KX:n+1+m<ops.size:=(qf.1 eX).1;have e:aW ops.size=og 0 (ops.toList.take n).length++(n::(og (n+1) ((ops.toList.drop (n+1)).take m).length++((n+1+m)::og (n+1+m+1) (ops.toList.drop (n+1+m+1)).length))):=by
  rw[xh,<- xg];have h1:((ops.toList.drop (n+1)).take m).length=m:=aar;have h2:(ops.toList.take n).length=n:=aar;have h3:(ops.toList.drop (n+1+m+1)).length=ops.size-(n+1+m+1):=GF;rw[h1,h2,h3];have a1:=J5 (s:=n+1) (m:=m) (n:=ops.size-(n+1+m+1)+1) (step:=1);simp only[tx]at a1;rw[a1,<- xg];have a2:=J5 (s:=0) (m:=n) (n:=m+(ops.size-(n+1+m+1)+1)+1) (step:=1);simp only[gn,tx]at a2;rw[a2];congr 1;omega
 rw[e];refine Al _ a w ?_;refine uO (sI hd) (K:=we P o (opsL P ops ((ops.toList.drop (n+1)).take m) (we P o2 (opsL P ops (ops.toList.drop (n+1+m+1)) K0)))) (λσ' a' w' hk ed=>?_) (ops.toList.take n) 0 σ a w (λk hk=>?_) h ax
 ·show wpOps P ops _ _ a' w';rw[wpOps_cons];unfold wpOp;simp only[ho];have hw:Region.wanted o (yielded ops a'.tmps)=true:=by simp[Region.wanted,hk.1]
  rw[if_pos hw];left;refine Lx hk ed (sI hd o (iD (by simpa using ho))) (λσ2 a2 w2 b9 zh=>?_);refine Al _ a2 w2 ?_;refine uO (sI hd) (K:=we P o2 (opsL P ops (ops.toList.drop (n+1+m+1)) K0)) (λσ' a' w' hk ed=>?_) ((ops.toList.drop (n+1)).take m) (n+1) σ2 a2 w2 (λk hk=>?_) b9 zh
  ·show wpOps P ops _ _ a' w';rw[wpOps_cons];unfold wpOp;simp only[eX];have hw:Region.wanted o2 (yielded ops a'.tmps)=true:=by simp[Region.wanted,hk.1]
   rw[if_pos hw];left;refine Lx hk ed (sI hd o2 (iD (by simpa using eX))) (λσ2 a2 w2 b9 zh=>?_);refine uO (sI hd) (K:=K0) (λEu a3 w3 mQ nj=>HQ Eu a3 w3 mQ nj) (ops.toList.drop (n+1+m+1)) (n+1+m+1) σ2 a2 w2 (λk hk=>?_) b9 zh;rw[qc];simp
  ·simp only[eN,List.length_drop,vO]at hk;rw[J2 GC,qc];simp
 ·simp only[eN,vO]at hk;rw[J2 GC];simp
def afC(n m:Nat){id:Nat}{ops:Array Oper}(hd:gU N ops=true)(o o2:Oper)(ho:ops[n]?=some o)(eX:ops[n+1+m]?=some o2)(h:∀ K:St->Prop,(∀ s,Q .normal s->K s)->opsL P ops (ops.toList.take n) (we P o (opsL P ops ((ops.toList.drop (n+1)).take m) (we P o2 (opsL P ops (ops.toList.drop (n+1+m+1)) K)))) σ):W P N n0 (.region id ops false) Q σ:=by
 intro os γ0 a w hn ax;refine wp_region ?_;exact afB n m hd o o2 ho eX ax (λEu a3 w3 mQ nj=>⟨Eu,mQ,nj⟩) (h _ (λ_ h=>h))
end Go.Am
namespace Go.Am
variable {P:Program} {N n0:Nat} {σ:St} {Q:Exit->St->Prop}
class Head (p:Prop):Prop where
 on:True
section
variable {ops:Array Oper} {o:Oper} {l:List Oper} {K:St->Prop}
instance:Head (opsL P ops (o::l) K σ):=⟨trivial⟩
instance {qs:List Nat}{t:PT}:Head (ku P ops qs t K σ):=⟨trivial⟩
instance {qs:List Nat}{i:Nat}:Head (sR P ops qs i (o::l) K σ):=⟨trivial⟩
instance:Head (tQ P ops (o::l) K σ):=⟨trivial⟩
instance:Head (tR P ops (o::l) K σ):=⟨trivial⟩
end
def gO{p:Prop}[Head p](h:p):p:=h
class HR (p:Prop) (b:outParam Bool) (A B:outParam Prop):Prop where
 sp:(b=true->A)->(b=false->B)->p
instance {o:Oper}{K:St->Prop}{b want:Bool}:HR (pK P o K b want σ) b (pK P o K true want σ) (pK P o K false want σ):=⟨aen⟩
instance {q:Bool}{o:Oper}{K:St->Prop}{b want:Bool}:HR (qo q P o K b want σ) b (qo q P o K true want σ) (qo q P o K false want σ):=⟨adS⟩
def gS{p:Prop}{b:Bool}{A B:Prop}[h:HR p b A B](h1:b=true->A)(h2:b=false->B):p:=h.sp h1 h2
def HS:Code->Option Exit
 |.skip=>some .normal
 |.label _=>some .normal
 |.exit id=>some (.exit id)
 |.ret=>some .ret
 |_=>none
def Wz{c:Code}{e:Exit}(hc:HS c=some e)(h:Q e σ):W P N n0 c Q σ:=by
 cases c<;>simp[HS]at hc;all_goals subst hc
 all_goals first|exact DZ h|exact aej h|exact aek h|exact aei h
def HT(P:Program)(d:Bool)(ops:Array Oper):Bool:=!d||(P.follows .mixedOrders&&Ai ops)
theorem rr{id:Nat}{ops:Array Oper}{d:Bool}{y:Code}(h:∀ K:St->Prop,(∀ s,W P N n0 y Q s->K s)->opsL P ops ops.toList K σ)(ht:HT P d ops=true:=by decide +kernel)(hd:gU N ops=true:=by decide):W P N n0 (.seq (.region id ops d) y) Q σ:=by
 cases d
 ·exact rk h hd
 ·have h2:P.follows .mixedOrders=true/\Ai ops=true:=by simpa [HT] using ht
  exact rd h h2.1 hd h2.2
theorem wo{id:Nat}{ops:Array Oper}{d:Bool}(h:∀ K:St->Prop,(∀ s,Q .normal s->K s)->opsL P ops ops.toList K σ)(ht:HT P d ops=true:=by decide +kernel)(hd:gU N ops=true:=by decide):W P N n0 (.region id ops d) Q σ:=by
 cases d
 ·exact TE h hd
 ·have h2:P.follows .mixedOrders=true/\Ai ops=true:=by simpa [HT] using ht
  exact rde h h2.1 hd h2.2
class Ex (rows:List (List AV)) (sz:outParam Nat):Prop where
 wid:∀ row∈rows,row.length=sz
 cC:∀ row∈rows,∀ v∈row,(∃ x,v=AV.lit x)\/∃ s r,v=AV.tree s r
instance (xs:List Int):Ex (ints xs) 1:=⟨rH _,sL _⟩
instance (xs:List Bool):Ex (aX xs) 1:=⟨DQ _,Hb _⟩
instance (xs:List (List Int)):Ex (ij xs) 1:=⟨Qw _,Qv _⟩
instance {α:Type}{enc:α->List AV}{sz:Nat}[Row enc sz](xs:List α):Ex (rowsOf enc xs) sz:=⟨gr _,kW _⟩
theorem aJ.fz{kp:Nat->Prop}{ρ:Nat->Nat}{id sz len:Nat}{rows:List (List AV)}[h:Ex rows sz](ho:σ.aa[id]?=some (.arr sz rows))(hl:len=rows.length)(tF:¬ kp id:=by first|exact iK (by decide)|decide):aJ σ kp ρ true (.tree sz rows) (.ref id sz 0 len):=aJ.cC ho h.wid hl tF h.cC
theorem aF.se(au:List Nat)(snap:Bool){l:List (Nat×AV)}{co:List Ob}(ho:qt (bL σ.aa.length au) σ.aa au co)(h:tH (aJ σ (kept au co) (bL σ.aa.length au) snap) σ.env l)(bX:au.Nodup:=by decide)(hn:n0<=au.length:=by decide)(dt:∀ i,i<n0->au.getD i 0=i:=by decide):aF n0 σ ⟨Am.aw l,co⟩:=aF.au au snap l co bX ho hn dt h
theorem LK(au:List Nat)(snap:Bool){v res:AV}{bI:List Ob}(ho:qt (bL σ.aa.length au) σ.aa au bI)(h:aJ σ (kept au bI) (bL σ.aa.length au) snap res v)(bX:au.Nodup:=by decide)(hn:n0<=au.length:=by decide)(dt:∀ i,i<n0->au.getD i 0=i:=by decide):pF n0 σ v res bI:=cZ au snap bX ho hn dt h
end Go.Am
namespace Go.Am
def TF:ew []=.bJ []:=rfl
def TG(a b:AV)(l:List AV):ew (a::b::l)=.bJ (a::b::l):=rfl
end Go.Am
namespace Go.Am
variable {P:Program} {N n0:Nat} {σ:St}
inductive PF where
 |nil
 |take (i:Nat) (t:PF)
 |both (i:Nat) (t:PF) (j:Nat) (u:PF)
 |three (i:Nat) (t:PF) (j:Nat) (u:PF) (k:Nat) (v:PF)
 |four (i:Nat) (t:PF) (j:Nat) (u:PF) (k:Nat) (v:PF) (l:Nat) (w:PF)
def PF.ok(ops:Array Oper)(qs:List Nat):PF->Nat->Array Bool->Bool
 |.nil,n,a6=>n==0&&(Region.ready .any ops a6).isEmpty
 |.take _ _,0,_=>false
 |.take i t,n+1,a6=>G1 ops qs a6 i (Kw ops i)&&t.ok ops qs n (a6.setIfInBounds i true)
 |.both _ _ _ _,0,_=>false
 |.both i t j u,n+1,a6=>(Region.ready .any ops a6==[i,j])&&t.ok ops qs n (a6.setIfInBounds i true)&&u.ok ops qs n (a6.setIfInBounds j true)
 |.three _ _ _ _ _ _,0,_=>false
 |.three i t j u k v,n+1,a6=>(Region.ready .any ops a6==[i,j,k])&&t.ok ops qs n (a6.setIfInBounds i true)&&u.ok ops qs n (a6.setIfInBounds j true)&&v.ok ops qs n (a6.setIfInBounds k true)
 |.four _ _ _ _ _ _ _ _,0,_=>false
 |.four i t j u k v l w,n+1,a6=>(Region.ready .any ops a6==[i,j,k,l])&&t.ok ops qs n (a6.setIfInBounds i true)&&u.ok ops qs n (a6.setIfInBounds j true)&&v.ok ops qs n (a6.setIfInBounds k true)&&w.ok ops qs n (a6.setIfInBounds l true)
def ka(P:Program)(ops:Array Oper)(qs:List Nat):PF->(St->Prop)->St->Prop
 |.nil,K,σ=>K σ
 |.take i t,K,σ=>dj P ops qs i (ka P ops qs t K) σ
 |.both i t j u,K,σ=>dj P ops qs i (ka P ops qs t K) σ/\dj P ops qs j (ka P ops qs u K) σ
 |.three i t j u k v,K,σ=>dj P ops qs i (ka P ops qs t K) σ/\dj P ops qs j (ka P ops qs u K) σ/\dj P ops qs k (ka P ops qs v K) σ
 |.four i t j u k v l w,K,σ=>dj P ops qs i (ka P ops qs t K) σ/\dj P ops qs j (ka P ops qs u K) σ/\dj P ops qs k (ka P ops qs v K) σ/\dj P ops qs l (ka P ops qs w K) σ
def u9{ops:Array Oper}{qs:List Nat}{K:St->Prop}:∀ (t:PF) (n:Nat) (a6:Array Bool) (σ:St),t.ok ops qs n a6=true->ka P ops qs t K σ->uK P ops qs K n a6 σ
 |.nil,n,a6,σ,h,hp=>by
  simp only[PF.ok,bw,beq_iff_eq,List.isEmpty_iff]at h;obtain⟨rfl,h⟩:=h;exact⟨h,hp⟩
 |.take _ _,0,_,_,h,_=>by simp[PF.ok]at h
 |.take i t,n+1,a6,σ,h,hp=>by
  simp only[PF.ok,bw]at h;exact P8 h.1 (oo (λs hs=>u9 t n _ s h.2 hs) hp)
 |.both _ _ _ _,0,_,_,h,_=>by simp[PF.ok]at h
 |.both i t j u,n+1,a6,σ,h,hp=>by
  simp only[PF.ok,bw,beq_iff_eq]at h;obtain⟨⟨h1,h2⟩,h3⟩:=h;refine⟨λe=>by rw[h1]at e;simp at e,λk hk=>?_⟩;rw[h1]at hk;simp only[cB,kI,or_false]at hk;rcases hk with rfl|rfl
  ·exact oo (λs hs=>u9 t n _ s h2 hs) hp.1
  ·exact oo (λs hs=>u9 u n _ s h3 hs) hp.2
 |.three _ _ _ _ _ _,0,_,_,h,_=>by simp[PF.ok]at h
 |.three i t j u k v,n+1,a6,σ,h,hp=>by
  simp only[PF.ok,bw,beq_iff_eq]at h;obtain⟨⟨⟨h1,h2⟩,h3⟩,h4⟩:=h;refine⟨λe=>by rw[h1]at e;simp at e,λx hk=>?_⟩;rw[h1]at hk;simp only[cB,kI,or_false]at hk;rcases hk with rfl|rfl|rfl
  ·exact oo (λs hs=>u9 t n _ s h2 hs) hp.1
  ·exact oo (λs hs=>u9 u n _ s h3 hs) hp.2.1
  ·exact oo (λs hs=>u9 v n _ s h4 hs) hp.2.2
 |.four _ _ _ _ _ _ _ _,0,_,_,h,_=>by simp[PF.ok]at h
 |.four i t j u k v l w,n+1,a6,σ,h,hp=>by
  simp only[PF.ok,bw,beq_iff_eq]at h;obtain⟨⟨⟨⟨h1,h2⟩,h3⟩,h4⟩,h5⟩:=h;refine⟨λe=>by rw[h1]at e;simp at e,λx hk=>?_⟩;rw[h1]at hk;simp only[cB,kI,or_false]at hk;rcases hk with rfl|rfl|rfl|rfl
  ·exact oo (λs hs=>u9 t n _ s h2 hs) hp.1
  ·exact oo (λs hs=>u9 u n _ s h3 hs) hp.2.1
  ·exact oo (λs hs=>u9 v n _ s h4 hs) hp.2.2.1
  ·exact oo (λs hs=>u9 w n _ s h5 hs) hp.2.2.2
def afD{id:Nat}{ops:Array Oper}{Q:Exit->St->Prop}(qs:List Nat)(t:PF)(hm:P.follows .mixedOrders=true)(hd:gU N ops=true)(ht:t.ok ops qs ops.size (Array.replicate ops.size false)=true)(h:ka P ops qs t (Q .normal) σ):W P N n0 (.region id ops true) Q σ :=
 P7 qs hm hd (u9 t _ _ σ ht h)
section
variable {ops:Array Oper} {qs:List Nat} {K:St->Prop} {i j k l:Nat} {t u v w:PF}
def Ey:ka P ops qs .nil K σ=K σ:=rfl
def HU:ka P ops qs (.take i t) K σ=dj P ops qs i (ka P ops qs t K) σ:=rfl
def HV:ka P ops qs (.both i t j u) K σ=(dj P ops qs i (ka P ops qs t K) σ/\dj P ops qs j (ka P ops qs u K) σ):=rfl
def HW:ka P ops qs (.three i t j u k v) K σ=(dj P ops qs i (ka P ops qs t K) σ/\dj P ops qs j (ka P ops qs u K) σ/\dj P ops qs k (ka P ops qs v K) σ):=rfl
def HX:ka P ops qs (.four i t j u k v l w) K σ=(dj P ops qs i (ka P ops qs t K) σ/\dj P ops qs j (ka P ops qs u K) σ/\dj P ops qs k (ka P ops qs v K) σ/\dj P ops qs l (ka P ops qs w K) σ):=rfl
end
def Fc:=aaL @Ey @HU @HV @HW @HX
end Go.Am
namespace Go.Am
variable {P:Program} {N n0:Nat} {σ:St}
def TH(dst:Option Tmp)(t:TypeId)(a:Operand)(tt:TypeId)(p:String)(af:Array Edge)(g:Option (Nat×Bool))(K:St->Prop):nf true P ⟨dst,.load t a,tt,p,af,g⟩ σ K=uH P t dst K σ (ev σ a):=rfl
def Lq:=aaF @TH @uH.eq_1
def aF.mR(d id:Nat){cells:List AV}(ho:σ.aa[id]?=some (.var cells))(hd:σ.env d=.ptr id 0 0)(mK:∀ v∈cells,(∃ x,v=.lit x)\/∃ s r,v=.tree s r):aF n0 σ ⟨j8 σ.env d (.cq cells),σ.aa.set id .gone⟩:=by
 intro os γ0 γ _ hs hf;have Ab:id<σ.aa.length:=(a8.1 ho).1
 let aO:Cx:={ γ with Z:=λb=>γ.Z b\/∃ o cap,γ.blk id=some (b,o,cap) }
 let eE:=σ.aa.set id .gone
 have hU:∀ i,eE[i]?=if i=id then some .gone else σ.aa[i]?:=by
  intro i;show(σ.aa.set id _)[i]?=_;rw[cA];by_cases h1:i=id
  ·subst h1;simp[Ab]
  ·simp[Ne.symm h1,h1]
 have hR:∀ v cv,aC σ.aa γ.w γ.Z γ.blk v cv->aC eE aO.w aO.Z aO.blk v cv:=λv cv hv =>
  hv.mono (λb hb=>⟨.inl hb,rfl⟩) (λi o hi=>by
   rw[hU];by_cases h1:i=id
   ·left;rw[if_pos h1]
   ·rw[if_neg h1];by_cases hg:o=.gone
    ·subst hg;exact .inl hi
    ·exact .inr ⟨rfl,o,hi,Ob.lk hg⟩)
 have cY:∀ i,Live eE i->Live σ.aa i/\i≠id:=by
  rintro i⟨o,hi,hg⟩;rw[hU]at hi;split at hi
  ·simp at hi;exact absurd hi.symm hg
  ·rename_i h2;exact⟨⟨o,hi,hg⟩,h2⟩
 have qn:Live σ.aa id:=⟨_,ho,GF⟩;obtain⟨b,cap,cur,t,h1,h2,h3,h4⟩:=hs.fL _ _ ho;have tD:=hs.aw d;rw[hd]at tD;have kP:aC eE aO.w aO.Z aO.blk (.cq cells) (γ.tmps.getD d Go.undef):=by
  generalize γ.tmps.getD d Go.undef=cv at tD;cases tD with
  |cC _ _ h=>cases h
  |ov _ _ _ _ h=>rw[ho]at h;simp at h
  |oZ _ _ b2 anA anB h hb =>
   rw[h1]at hb;simp only[dI.injEq,Prod.mk.injEq]at hb;obtain⟨rfl,_,_⟩:=hb;refine .cq cells b 0 (λj=>cur.getD j Go.undef) (.inr ⟨0,cap,h1⟩) (λj x hx=>?_) (λj x hx=>?_)
   ·rw[gn];exact BZ h2 (by rw[h3];exact(a8.1 hx).1)
   ·have dZ:cL σ (λy=>y≠id) x x:=by
     rcases mK x (iD hx) with⟨v,rfl⟩|⟨s,r,rfl⟩
     ·exact .lit v
     ·exact .tree s r
    exact dZ.DF hs (γc:=aO) (λb hb=>.inl hb) rfl (λx b o cap dt _ hb=>.inr ⟨o,cap,by rw[show id=x by simpa using(Decidable.not_not.1 dt).symm];exact hb⟩) _ (h4 j x hx)
  |pJ _ _ _ _ _ _ _ _ h=>rw[ho]at h;simp at h
 refine⟨aO,rfl,rfl,⟨λk=>?_,?_,λi j b o c o' c' hi hj=>hs.inj i j b o c o' c' (cY i hi).1 (cY j hj).1,?_,?_⟩,?_⟩
 ·show aC eE aO.w aO.Z aO.blk (j8 σ.env d (.cq cells) k) (γ.tmps.getD k Go.undef);simp only[j8];split
  ·rename_i e;subst e;exact kP
  ·exact hR _ _ (hs.aw k)
 ·intro i o hi;have hi':eE[i]?=some o:=hi;rw[hU]at hi';split at hi'
  ·simp only[dI.injEq]at hi';subst hi';trivial
  ·by_cases hg:o=.gone
   ·subst hg;trivial
   ·exact(hs.fL i o hi').mono hR rfl (λ_ _ _ _=>rfl)
 ·rintro b ⟨i,o,c',hi,hb⟩ (hz|⟨o',cap,du⟩)
  ·exact hs.nz b ⟨i,o,c',(cY i hi).1,hb⟩ hz
  ·exact(cY i hi).2 (hs.inj i id b o c' o' cap (cY i hi).1 qn hb du)
 ·rintro b (hz|⟨o,cap,hb⟩)
  ·exact hs.jh b hz
  ·exact hs.blt qn hb
 ·refine⟨hf.oh,hf.tape,hf.output,hf.size,hf.az,λb hb=>.inl (hf.z0 b hb),?_,?_,by show os.length<=eE.length;simp[eE];exact hf.len,?_⟩
  ·rintro b (hz|⟨o,cap,hb⟩)
   ·exact hf.z1 b hz
   ·exact .inr (hf.own b ⟨id,o,cap,qn,hb⟩)
  ·rintro b ⟨i,o,c',hi,hb⟩;exact hf.own b ⟨i,o,c',(cY i hi).1,hb⟩
  ·intro i hi hl;obtain⟨h1,x,x',hx,dw,hk⟩:=hf.mL i hi (cY i hl).1;have jT:Live eE i:=hl;obtain⟨o,eX,tE⟩:=jT;refine⟨h1,x,o,hx,eX,?_⟩;rw[hU]at eX;split at eX
   ·simp at eX;exact absurd eX.symm tE
   ·rw[dw]at eX;simp only[dI.injEq]at eX;subst eX;exact hk
end Go.Am
namespace Go.Am
variable {P:Program} {N n0:Nat} {σ:St}
inductive Gh where
 |map (ents:List (Value×Value))
 |iter (mb since:Nat) (seen:List Nat)
def Gh.At(w:World)(b:Nat):Gh->Prop
 |.map ents=>w.heap[b]?=some (.map (dT ents) ents.length)
 |.iter mb since seen=>w.heap[b]?=some (.mapIter (some mb) since seen.toArray since)
def Gh.At.heap{w w':World}{b:Nat}{g:Gh}(h:g.At w b)(e:w'.heap[b]?=w.heap[b]?):g.At w' b:=by
 cases g<;>exact e.trans h
def Gh.At.lt{w:World}{b:Nat}{g:Gh}(h:g.At w b):b<w.heap.size:=by
 cases g<;>exact(qf.1 h).1
abbrev Mem:=Nat->Option Gh
def mo(μ:Mem)(b:Nat)(g:Gh):Mem:=λk=>if k=b then some g else μ k
def zi(μ:Mem)(b:Nat)(g:Gh):mo μ b g b=some g:=by simp[mo]
def wq(μ:Mem){b c:Nat}(g:Gh)(h:c≠b):mo μ b g c=μ c:=by simp[mo,h]
def Cj:Mem:=λ_=>none
structure sS(μ:Mem)(os:List Ob)(γ0 γ:Cx):Prop where
 gh:∀ b g,μ b=some g->g.At γ.w b
 fresh:∀ b g,μ b=some g->γ0.w.heap.size<=b
 Ck:∀ b g,μ b=some g->¬ γ.Z b
 xL:∀ b g,μ b=some g->¬ qz os γ.blk b
def sS.nil(os:List Ob)(γ0 γ:Cx):sS Cj os γ0 γ:=⟨by simp[Cj],by simp[Cj],by simp[Cj],by simp[Cj]⟩
def sS.az{μ:Mem}{os os':List Ob}{γ0 γ aO:Cx}(h:sS μ os γ0 γ)(hf:Fr os γ os' aO):sS μ os' γ0 aO :=
 ⟨λb g hp=>(h.gh b g hp).heap (hf.az _ (h.gh b g hp).lt (h.xL b g hp)),h.fresh,λb g hp hz=>by
  rcases hf.z1 _ hz with h1|h1|h1
  ·exact h.Ck b g hp h1
  ·exact h.xL b g hp h1
  ·have:=(h.gh b g hp).lt;omega,λb g hp ho=>by
  rcases hf.own _ ho with h1|h1
  ·exact h.xL b g hp h1
  ·have:=(h.gh b g hp).lt;omega⟩
def sS.le{μ eO:Mem}{os:List Ob}{γ0 γ:Cx}(h:sS μ os γ0 γ)(hl:∀ b g,eO b=some g->μ b=some g):sS eO os γ0 γ :=
 ⟨λb g hp=>h.gh b g (hl b g hp),λb g hp=>h.fresh b g (hl b g hp),λb g hp=>h.Ck b g (hl b g hp),λb g hp=>h.xL b g (hl b g hp)⟩
def jE(N:Nat)(os:List Ob)(γ0:Cx)(σ:St)(μ:Mem)(a:Act)(w:World):Prop :=
 a.defers=[]/\a.tmps.size=N/\∃ γ,γ.w=w/\γ.tmps=a.tmps/\bS σ γ/\Fr os γ0 σ.aa γ/\sS μ σ.aa γ0 γ
def WM(P:Program)(N n0:Nat)(c:Code)(Q:Exit->St->Mem->Prop)(σ:St)(μ:Mem):Prop :=
 ∀ (os:List Ob) (γ0:Cx) (a:Act) (w:World),os.length=n0->jE N os γ0 σ μ a w->c.wp P (λe a' w'=>∃ σ' eO,Q e σ' eO/\jE N os γ0 σ' eO a' w') a w
variable {Q:Exit->St->Mem->Prop} {μ:Mem}
def afE{c:Code}(h:W P N σ.aa.length c (λe s=>Q e s μ) σ):WM P N n0 c Q σ μ:=by
 rintro os γ0 a w hn⟨iU,bx,γ,rfl,ha,hs,hf,hm⟩;refine wp_mono (h σ.aa γ a γ.w rfl ⟨iU,bx,γ,rfl,ha,hs,Fr.refl _ _⟩) ?_;rintro e a' w'⟨σ',hq,LL,LM,aO,rfl,nk,jg,gX⟩;exact⟨σ',μ,hq,LL,LM,aO,rfl,nk,jg,hf.trans gX,hm.az gX⟩
def xM{c:Code}{e:Exit}(hc:HS c=some e)(h:Q e σ μ):WM P N n0 c Q σ μ:=by
 cases c<;>simp[HS]at hc;all_goals subst hc
 all_goals first
  |exact λ_ _ _ _ _ ax=>wp_skip ⟨σ,μ,h,ax⟩
  |exact λ_ _ _ _ _ ax=>wp_label ⟨σ,μ,h,ax⟩
  |exact λ_ _ _ _ _ ax=>wp_exit ⟨σ,μ,h,ax⟩
  |exact λ_ _ _ _ _ ax=>wp_ret ⟨σ,μ,h,ax⟩
def afF{x y:Code}(Q1:Exit->St->Mem->Prop)(h:WM P N n0 x Q1 σ μ)(hn:∀ s m,Q1 .normal s m->WM P N n0 y Q s m)(he:∀ e s m,e≠.normal->Q1 e s m->Q e s m):WM P N n0 (.seq x y) Q σ μ:=by
 intro os γ0 a w hl ax;refine wp_seq (wp_mono (h os γ0 a w hl ax) ?_);rintro e a' w'⟨σ',eO,h1,h2⟩;cases e with
 |normal=>exact hn _ _ h1 os γ0 a' w' hl h2
 |exit id=>exact⟨σ',eO,he _ _ _ GF h1,h2⟩
 |goto l=>exact⟨σ',eO,he _ _ _ GF h1,h2⟩
 |ret=>exact⟨σ',eO,he _ _ _ GF h1,h2⟩
 |panic c=>exact⟨σ',eO,he _ _ _ GF h1,h2⟩
 |outgrown=>exact⟨σ',eO,he _ _ _ GF h1,h2⟩
def vc{x y:Code}(h:∀ Q':Exit->St->Mem->Prop,(∀ s m,WM P N n0 y Q s m->Q' .normal s m)->(∀ e s m,tT e=false->Q e s m->Q' e s m)->WM P N n0 x Q' σ μ):WM P N n0 (.seq x y) Q σ μ :=
 afF (λe s m=>(e=.normal->WM P N n0 y Q s m)/\(e≠.normal->Q e s m)) (h _ (λs m h=>⟨λ_=>h,λh=>absurd rfl h⟩) (λe s m he h=>⟨λe2=>absurd e2 (HP he),λ_=>h⟩)) (λs m h=>h.1 rfl) (λe s m he h=>h.2 he)
def afG{c:Operand}{x y:Code}{t:Bool}(hc:ev σ c=.lit (.bool t))(ht:t=true->WM P N n0 x Q σ μ)(hf:t=false->WM P N n0 y Q σ μ):WM P N n0 (.cond c x y) Q σ μ:=by
 intro os γ0 a w hn ax;have bD:a.eval c=.bool t:=by
  obtain⟨_,_,γ,rfl,ha,hs,_⟩:=ax;have:=uS hs ha c;rw[hc]at this;exact this.dz
 exact wp_cond_split bD (λh=>ht h os γ0 a w hn ax) (λh=>hf h os γ0 a w hn ax)
def zj{id:Nat}{c:Code}(h:∀ Q':Exit->St->Mem->Prop,(∀ s m,Q .normal s m->Q' .normal s m)->(∀ s m,Q .normal s m->Q' (.exit id) s m)->(∀ e s m,AH id e=false->Q e s m->Q' e s m)->WM P N n0 c Q' σ μ):WM P N n0 (.block id c) Q σ μ:=by
 intro os γ0 a w hn ax;have h':=h (λe s m=>(e=.exit id->Q .normal s m)/\(e≠.exit id->Q e s m)) (λs m h=>⟨λe=>by simp at e,λ_=>h⟩) (λs m h=>⟨λ_=>h,λe=>absurd rfl e⟩) (λe s m he h=>⟨λe2=>absurd e2 (LJ he).2,λ_=>h⟩);refine wp_block (wp_mono (h' os γ0 a w hn ax) ?_);rintro e a' w'⟨σ',eO,h1,h2⟩;cases e with
 |exit yP =>
  simp only[Exit.inBlock];split
  ·rename_i he;exact⟨σ',eO,h1.1 (by rw[he]),h2⟩
  ·rename_i he;exact⟨σ',eO,h1.2 (λe=>he (by simpa using e)),h2⟩
 |normal=>exact⟨σ',eO,h1.2 GF,h2⟩
 |goto l=>exact⟨σ',eO,h1.2 GF,h2⟩
 |ret=>exact⟨σ',eO,h1.2 GF,h2⟩
 |panic c=>exact⟨σ',eO,h1.2 GF,h2⟩
 |outgrown=>exact⟨σ',eO,h1.2 GF,h2⟩
def nV(n0:Nat)(σ σ':St):Prop:=∀ (os:List Ob) (γ0 γ:Cx),os.length=n0->bS σ γ->Fr os γ0 σ.aa γ ->
 ∃ aO,aO.w=γ.w/\aO.tmps=γ.tmps/\bS σ' aO/\Fr os γ0 σ'.aa aO/\(∀ b,aO.Z b->γ.Z b\/qz σ.aa γ.blk b)/\∀ b,qz σ'.aa aO.blk b->qz σ.aa γ.blk b
def nV.TI{σ':St}(h:nV n0 σ σ'){os:List Ob}{γ0:Cx}{a:Act}{w:World}(hn:os.length=n0)(ax:jE N os γ0 σ μ a w):jE N os γ0 σ' μ a w:=by
 obtain⟨h1,h2,γ,rfl,h3,h4,h5,h6⟩:=ax;obtain⟨aO,e1,e2,e3,e4,e5,e6⟩:=h os γ0 γ hn h4 h5;refine⟨h1,h2,aO,e1,e2.trans h3,e3,e4,λb g hp=>(h6.gh b g hp).heap (by rw[e1]),h6.fresh,λb g hp hz=>?_,λb g hp ho=>h6.xL b g hp (e6 _ ho)⟩;rcases e5 _ hz with h|h
 ·exact h6.Ck b g hp h
 ·exact h6.xL b g hp h
def afH{c:Code}{σ':St}(h:nV n0 σ σ')(hw:WM P N n0 c Q σ' μ):WM P N n0 c Q σ μ :=
 λos γ0 a w hn ax=>hw os γ0 a w hn (h.TI hn ax)
def nV.aw(l:List (Nat×AV))(os:List Ob)(ho:σ.aa=os)(h:Has σ.env l):nV n0 σ ⟨aw l,os⟩:=by
 subst ho;intro os γ0 γ _ hs hf;refine⟨γ,rfl,rfl,⟨λk=>?_,hs.fL,hs.inj,hs.nz,hs.jh⟩,hf,λ_ h=>.inl h,λ_ h=>h⟩;rcases G3 l k with h'|⟨p,hp,rfl,h'⟩
 ·show aC _ _ _ _ (Am.aw l k) _;rw[h'];exact .undef _
 ·show aC _ _ _ _ (Am.aw l p.1) _;rw[h',<- h.mem p hp];exact hs.aw p.1
theorem nV.se(au:List Nat)(snap:Bool){l:List (Nat×AV)}{co:List Ob}(ho:qt (bL σ.aa.length au) σ.aa au co)(h:tH (aJ σ (kept au co) (bL σ.aa.length au) snap) σ.env l)(bX:au.Nodup:=by decide)(hn:n0<=au.length:=by decide)(dt:∀ i,i<n0->au.getD i 0=i:=by decide):nV n0 σ ⟨Am.aw l,co⟩:=by
 intro os γ0 γ xF hs hf;obtain⟨h1,h2,h3⟩:=ho.spec;obtain⟨aO,a1,a2,a3,a4⟩:=hs.select au snap co bX h1 h2 h3 (Am.aw l) γ.tmps (fun k=>by
  rcases G3 l k with h'|⟨p,hp,rfl,h'⟩
  ·exact .inl h'
  ·right;rw[h'];exact⟨_,h.mem p hp,hs.aw p.1⟩)
 obtain⟨b1,b2,b3,b4⟩:=a4;refine⟨aO,a1,a2,a3,hf.select (by omega) h1 (fun i hi=>dt i (by omega)) a1 ⟨b1,b2,b3,b4⟩,b3,?_⟩;rintro b⟨i,o,c,hi,hb⟩;have br:=hi.lt;rw[b1 i br]at hb;exact⟨_,o,c,(b4 i hi).1,hb⟩
def LN{α:Type}{c:Code}(S:α->St)(I:α->Mem->Prop)(M:α->Nat)(x0:α)(hI:I x0 μ)(h0:nV n0 σ (S x0))(round:∀ x m0,I x m0->∀ Q':Exit->St->Mem->Prop,(∀ s m y,I y m->M y<M x->nV n0 s (S y)->Q' .normal s m)->(∀ e s m,tT e=false->Q e s m->Q' e s m)->WM P N n0 c Q' (S x) m0):WM P N n0 (.loop c) Q σ μ:=by
 refine afH h0 ?_;intro os γ0 a w hn ax b k cs;have key:∀ n x m0 a w,M x=n->I x m0->jE N os γ0 (S x) m0 a w ->
   ∃ e a' w',(∃ σ' eO,Q e σ' eO/\jE N os γ0 σ' eO a' w')/\Arrives P (lone (b.at a (.code c::.inLoop c::k)) cs w) b k cs e a' w':=by
  intro n
  induction n using Nat.strongRecOn with
  |_ n ih =>
   intro x m0 a w hm hI ax;have hr:=round x m0 hI (λe s m=>(e=.normal->∃ y,I y m/\M y<M x/\nV n0 s (S y))/\(e≠.normal->Q e s m)) (λs m y h1 h2 h3=>⟨λ_=>⟨y,h1,h2,h3⟩,λh=>absurd rfl h⟩)
    (λe s m he h=>⟨λe2=>absurd e2 (HP he),λ_=>h⟩)
   obtain⟨e,sJ,tI,⟨σ',eO,hq,ed⟩,jm⟩:=hr os γ0 a w hn ax b (.inLoop c::k) cs;cases e with
   |normal =>
    obtain⟨y,Ky,br,ht⟩:=hq.1 rfl;obtain⟨Kz,KA,KB,KC,KD⟩:=ih (M y) GC y _ sJ tI rfl Ky (ht.TI hn ed);exact⟨Kz,KA,KB,KC,.of_steps (Steps.trans jm (.one step_inLoop)) KD⟩
   |exit id=>exact⟨_,sJ,tI,⟨σ',eO,hq.2 GF,ed⟩,.pass (x:=.inLoop c) rfl (λ_ _=>.inl GF) jm⟩
   |goto l=>exact⟨_,sJ,tI,⟨σ',eO,hq.2 GF,ed⟩,.pass (x:=.inLoop c) rfl (λ_ _=>.inl GF) jm⟩
   |ret=>exact⟨_,sJ,tI,⟨σ',eO,hq.2 GF,ed⟩,.pass (x:=.inLoop c) rfl (λ_ _=>.inl GF) jm⟩
   |panic ch=>exact⟨_,sJ,tI,⟨σ',eO,hq.2 GF,ed⟩,.pass (x:=.inLoop c) rfl (λ_ _=>.inl GF) jm⟩
   |outgrown=>exact⟨_,sJ,tI,⟨σ',eO,hq.2 GF,ed⟩,.pass (x:=.inLoop c) rfl (λ_ _=>.inl GF) jm⟩
 obtain⟨e,a',w',hq,jm⟩:=key _ x0 _ a w rfl hI ax;exact⟨e,a',w',hq,.of_steps (.one step_loop) jm⟩
def afI{c:Code}{Q:Exit->St->Prop}(h:WM P N n0 c (λe s _=>Q e s) σ Cj):W P N n0 c Q σ:=by
 rintro os γ0 a w hn⟨h1,h2,γ,rfl,h3,h4,h5⟩;refine wp_mono (h os γ0 a γ.w hn ⟨h1,h2,γ,rfl,h3,h4,h5,sS.nil _ _ _⟩) ?_;rintro e a' w'⟨σ',eO,hq,k1,k2,aO,rfl,k3,k4,k5,k6⟩;exact⟨σ',hq,k1,k2,aO,rfl,k3,k4,k5⟩
end Go.Am
namespace Go.Am
variable {P:Program} {N n0:Nat} {σ:St}
def iE(L:List (Int×Value)):List (Value×Value):=L.map λp=>(.int .i64 p.1,p.2)
def lv(x:Int)(v:Value):List (Int×Value)->List (Int×Value)
 |[]=>[(x,v)]
 |p::r=>if p.1=x then(x,v)::r else p::lv x v r
def oH(x:Int):List (Int×Value)->Option Value
 |[]=>none
 |p::r=>if p.1=x then some p.2 else oH x r
def sT(x:Int):List (Int×Value)->Nat->Option (Nat×Value)
 |[],_=>none
 |p::r,i=>if p.1=x then some (i,p.2) else sT x r (i+1)
def TJ(x:Int):∀ (L:List (Int×Value)) (i:Nat),(sT x L i).map (·.2)=oH x L
 |[],_=>rfl
 |p::r,i=>by
  rw[sT,oH];split
  ·rfl
  ·exact TJ x r (i+1)
def TK(x:Int)(v:Value):∀ (L:List (Int×Value)) (i:Nat),sT x L i=none->lv x v L=L++[(x,v)]
 |[],_,_=>rfl
 |p::r,i,h=>by
  rw[sT]at h;split at h
  ·cases h
  ·rename_i hp;rw[lv,if_neg hp,TK x v r (i+1) h];rfl
def TL(x:Int)(v:Value):∀ (L:List (Int×Value)) (i j:Nat) (u:Value),sT x L i=some (j,u)->i<=j/\L[j-i]?=some (x,u)/\lv x v L=L.set (j-i) (x,v)
 |[],_,_,_,h=>by cases h
 |p::r,i,j,u,h=>by
  rw[sT]at h;split at h
  ·rename_i hp;simp only[dI.injEq,Prod.mk.injEq]at h;obtain⟨rfl,rfl⟩:=h;refine⟨aN _,?_,?_⟩
   ·rw[hJ];simp[<- hp]
   ·rw[hJ,lv,if_pos hp];rfl
  ·rename_i hp;obtain⟨h1,h2,h3⟩:=TL x v r (i+1) j u h;have e:j-i=(j-(i+1))+1:=GC;refine⟨GC,?_,?_⟩
   ·rw[e,List.getElem?_cons_succ];exact h2
   ·rw[e,lv,if_neg hp,h3];rfl
def TN{k:TypeDesc}(hk:k=.int .i64)(x:Int):∀ (L:List (Int×Value)) (f:Nat->Nat) (i:Nat),Instr.findNow k (.int .i64 x) ((iE L).mapIdx λi p=>(⟨p.1,p.2,f i⟩:MapEntry)) i=some (sT x L i)
 |[],_,_=>rfl
 |p::r,f,i=>by
  subst hk;simp only[iE,List.map_cons,List.mapIdx_cons,Instr.findNow,Instr.sameNow,if_true,sT];by_cases h:p.1=x
  ·rw[if_pos h];subst h;simp
  ·rw[if_neg h];have:(x==p.1)=false:=by simpa using λe=>h e.symm
   rw[this];simpa [iE] using TN rfl x r (λj=>f (j+1)) (i+1)
def run_findKey{kt:TypeId}(hk:P.underlying kt=some (.int .i64))(x:Int)(L:List (Int×Value))(w:World):(Instr.findKey kt (.int .i64 x) (dT (iE L)).toList).run P w=.ok (sT x L 0) w:=by
 have h:=TN (k:=.int .i64) rfl x L id 0;simp only[id]at h;simp[Instr.findKey,run_underlying hk,uG,h]
def run_checkKey{kt:TypeId}(hk:P.underlying kt=some (.int .i64))(e:Bool)(x:Int)(w:World):(Instr.checkKey e 10000 kt (.int .i64 x)).run P w=.ok () w:=by
 have h:∀ d:Nat,(Instr.checkKey e (d+1) kt (.int .i64 x)).run P w=.ok () w:=λd=>by simp[Instr.checkKey,run_underlying hk]
 exact h 9999
def afJ{t kt et:TypeId}(ht:P.underlying t=some (.map kt et))(hk:P.underlying kt=some (.int .i64)){z:Value}{w:World}(hz:(zeroValue et).run P w=.ok z w){b n:Nat}{L:List (Int×Value)}(hb:w.heap[b]?=some (.map (dT (iE L)) n))(x:Int):(Instr.lookup t (.map (some b)) (.int .i64 x) false).run P w=.ok ((oH x L).getD z) w:=by
 rw[<- TJ x L 0];simp only[Instr.lookup,Sem.run_bind,run_underlying ht,MapKept.run_getObj_map hb,run_checkKey hk,run_findKey hk,Result.andThen_ok,Sem.run_pure];cases h:sT x L 0 with
 |none=>simp[hz]
 |some q=>simp
def afK{t kt et:TypeId}(ht:P.underlying t=some (.map kt et))(hk:P.underlying kt=some (.int .i64)){z:Value}{w:World}(hz:(zeroValue et).run P w=.ok z w)(x:Int):
  (Instr.lookup t (.map none) (.int .i64 x) false).run P w=.ok z w:=by
 have h:=run_findKey (P:=P) hk x [] w;have e:(dT (iE [])).toList=(#[]:Array MapEntry).toList:=rfl;rw[e]at h;simp only[Instr.lookup,Sem.run_bind,run_underlying ht,run_checkKey hk,h,Result.andThen_ok,Sem.run_pure];simp[sT,hz]
def afL{t kt et:TypeId}(ht:P.underlying t=some (.map kt et))(hk:P.underlying kt=some (.int .i64)){w:World}{b:Nat}{L:List (Int×Value)}(hb:w.heap[b]?=some (.map (dT (iE L)) L.length))(x:Int)(v:Value):
  (Instr.mapUpdate t (.map (some b)) (.int .i64 x) v).run P w=.ok () { w with heap:=w.heap.setIfInBounds b (.map (dT (iE (lv x v L))) (lv x v L).length) }:=by
 simp only[Instr.mapUpdate,Sem.run_bind,run_underlying ht,MapKept.run_getObj_map hb,run_checkKey hk,run_findKey hk,Result.andThen_ok];cases h:sT x L 0 with
 |none =>
  have h2:=TK x v L 0 h;have e:=K7 (iE L) (.int .i64 x,v);rw[show(iE L).length=L.length by simp[iE]]at e;simp only[MapKept.run_setObj_map _ hb,e,h2,show iE (L++[(x,v)])=iE L++[(.int .i64 x,v)] by simp[iE],List.length_append,List.length_singleton]
 |some q =>
  obtain⟨j,u⟩:=q;obtain⟨_,h2,h3⟩:=TL x v L 0 j u h;rw[Nat.sub_zero]at h2 h3;have D4:(((dT (iE L))[j]?).map (·.key)).getD (.int .i64 x)=.int .i64 x:=by
   simp[dT,iE,h2]
  have DD:Instr.sameBits 10000 (.int .i64 x) (.int .i64 x)=true:=by simp[Instr.sameBits]
  have dP:(Instr.keyThatStays (.int .i64 x) (.int .i64 x)).run P w=.ok (.int .i64 x) w:=by simp[Instr.keyThatStays,DD]
  have e:=Ho (iE L) j (λe=>{ e with key:=.int .i64 x,val:=v }) (.int .i64 x,v) (λq _=>rfl);have e2:(iE L).set j (.int .i64 x,v)=iE (lv x v L):=by rw[h3];simp[iE,List.map_set]
  simp only[D4,Sem.run_bind,dP,Result.andThen_ok,MapKept.run_setObj_map _ hb];rw[e,e2,h3,bF]
def afM{t kt et:TypeId}(ht:P.underlying t=some (.map kt et)){w:World}{b n:Nat}{es:Array MapEntry}(hb:w.heap[b]?=some (.map es n)):
  (Instr.range t (.map (some b))).run P w=.ok (.pointer (some ⟨w.heap.size,0,none⟩)) (w.alloc (.mapIter (some b) n #[] n)):=run_range_map w t kt et b es n ht hb
def TO{ents:List (Value×Value)}{x:MapEntry}(h:x∈(dT ents).toList):x.born<ents.length/\ents[x.born]?=some (x.key,x.val):=by
 rw[uG]at h;obtain⟨i,hi,rfl⟩:=List.mem_mapIdx.1 h;exact⟨hi,by simp[hi]⟩
def afN{w:World}{r b n:Nat}{seen:List Nat}{ents:List (Value×Value)}(hn:n=ents.length)(hr:w.heap[r]?=some (.mapIter (some b) n seen.toArray n))(hb:w.heap[b]?=some (.map (dT ents) n))(ty:TypeId):
  ((∀ j<ents.length,j∈seen)/\(Instr.next (.pointer (some ⟨r,0,none⟩)) false ty).run P w=.ok (.tuple #[.bool false]) w) \/
  ∃ j p d,ents[j]?=some p/\j ∉ seen/\(Instr.next (.pointer (some ⟨r,0,none⟩)) false ty).run P w=.ok (.tuple #[.bool true,p.1,p.2]) { w with heap:=w.heap.setIfInBounds r (.mapIter (some b) n (seen++[j]).toArray n),drawn:=d }:=by
 subst hn;have hold:∀ x∈(dT ents).toList,x.born<ents.length:=λx hx=>(TO hx).1;simp only[Instr.next,getObj,Sem.run_bind,Sem.run,hr,hb,Result.andThen,next_test_false seen.toArray (dT ents) ents.length ents.length hold (aN _),jQ,if_false];have hL:∀ x,x∈((dT ents).filter λe=>!seen.toArray.contains e.born).toList↔x∈(dT ents).toList/\x.born ∉ seen:=by
  intro x;simp
 have bO:∀ x∈((dT ents).filter λe=>!seen.toArray.contains e.born).toList,x.born<ents.length:=λx hx=>hold x ((hL x).1 hx).1;generalize (dT ents).filter (λe=>!seen.toArray.contains e.born)=L at bO hL ⊢;have e1:L.filter (λx=>decide (x.born<ents.length))=L:=Array.filter_eq_self.2 (λx hx=>by simpa using bO x (by simpa using hx));have e2:L.filter (λx=>decide (x.born >= ents.length)) = #[]:=by
  rw[Array.filter_eq_empty_iff];intro x hx;have:=bO x (by simpa using hx);simp;omega
 simp only[e1,e2,Array.append_empty];by_cases h0:L.size=0
 ·left;have:L = #[]:=Array.eq_empty_of_size_eq_zero h0;subst this;refine⟨λj hj=>?_,?_⟩
  ·cases hc:decide (j∈seen) with
   |true=>exact of_decide_eq_true hc
   |false =>
    have yW:=of_decide_eq_false hc;have:=(hL ⟨(ents[j]).1,(ents[j]).2,j⟩).2 ⟨by rw[uG];exact List.mem_mapIdx.2 ⟨j,hj,rfl⟩,yW⟩;simp at this
  ·simp[choose,Sem.run,Question.forced]
 ·right;have dO:L.isEmpty=false:=by simp[Array.isEmpty,h0]
  simp only[dO,jQ,if_false,Array.empty_append,Array.size_map];have ek :∃(j:Nat) (d:Nat),j<L.size/\(choose (Question.mapNext L.size)).run P w=.ok j { w with drawn:=d }:=by
   by_cases hf:L.size<=1
   ·exact⟨0,w.drawn,GC,by simp[choose,Sem.run,Question.forced,hf]⟩
   ·exact⟨_,w.drawn+1,Nat.mod_lt _ GC,by
     simp only[choose,Sem.run,Question.forced,decide_eq_true_eq,hf,if_false,Question.cut];rfl⟩
  obtain⟨j,d,hj,fN⟩:=ek;have hx:=(hL L[j]).1 GF;obtain⟨h1,h2⟩:=TO hx.1;refine⟨L[j].born,_,d,h2,hx.2,?_⟩;simp only[fN,Array.getElem?_map,Array.getElem?_eq_getElem hj,Option.map_some,Sem.run_bind,Result.andThen];simp only[setObj,Sem.run,hr,List.push_toArray];rfl
def afO{w:World}{r b n j:Nat}{seen:List Nat}{ents:List (Value×Value)}{p:Value×Value}(hn:n=ents.length)(hr:w.heap[r]?=some (.mapIter (some b) n (seen++[j]).toArray n))(hb:w.heap[b]?=some (.map (dT ents) n))(hp:ents[j]?=some p):(Instr.entry (.pointer (some ⟨r,0,none⟩))).run P w=.ok (.tuple #[p.1,p.2]) w:=by
 have hj:=(a8.1 hp).1;have hm:(⟨p.1,p.2,j⟩:MapEntry)∈(dT ents).toList:=by
  rw[uG];refine List.mem_mapIdx.2 ⟨j,hj,?_⟩;rw[List.getElem?_eq_getElem hj]at hp;simp only[dI.injEq]at hp;rw[hp]
 have bX:((dT ents).toList.map (·.born)).Nodup:=by
  rw[uG];have:(ents.mapIdx λi p=>(⟨p.1,p.2,i⟩:MapEntry)).map (·.born)=aW ents.length:=by
   apply List.ext_getElem?;intro i;simp only[List.getElem?_map,List.getElem?_mapIdx];rcases fK i ents.length with h|h
   ·simp[h]
   ·simp[h]
  rw[this];exact Gt
 have hf:(dT ents).find? (·.born==j)=some ⟨p.1,p.2,j⟩:=by rw[<- Array.find?_toList];exact find_born ⟨p.1,p.2,j⟩ _ bX hm
 simp only[Instr.entry,getObj,Sem.run_bind,Sem.run,hr,hb,Result.andThen,List.back?_toArray,List.getLast?_append,List.getLast?_singleton,Option.some_or,bne_self_eq_false,jQ,if_false,hf];rfl
def afP(w:World)(t kt et:TypeId)(a:Option Nat)(ht:P.underlying t=some (.map kt et)):(binOp .eql t (.map a) (.map none)).run P w=.ok (.bool a.isNone) w:=by
 have h:∀ d:Nat,(Op.equalIn (d+1) t (.map a) (.map none)).run P w=.ok a.isNone w:=λd=>by
  cases a<;>simp[Op.equalIn,run_underlying ht]
 simp[binOp,Op.equal,Op.maxDepth,h]
def afQ(w:World)(t kt et:TypeId)(a:Option Nat)(ht:P.underlying t=some (.map kt et)):(binOp .neq t (.map a) (.map none)).run P w=.ok (.bool (!a.isNone)) w:=by
 have h:∀ d:Nat,(Op.equalIn (d+1) t (.map a) (.map none)).run P w=.ok a.isNone w:=λd=>by
  cases a<;>simp[Op.equalIn,run_underlying ht]
 simp[binOp,Op.equal,Op.maxDepth,h]
end Go.Am
namespace Go.Am
variable {P:Program} {N n0:Nat} {σ:St}
def bS.Ez{γ:Cx}(h:bS σ γ){w':World}{b:Nat}(hz:¬ γ.Z b)(ho:¬ qz σ.aa γ.blk b)(hk:∀ k,k≠b->k<γ.w.heap.size->w'.heap[k]?=γ.w.heap[k]?)(bx:γ.w.heap.size<=w'.heap.size):bS σ { γ with w:=w' }:=by
 have hR:∀ v cv,aC σ.aa γ.w γ.Z γ.blk v cv->aC σ.aa w' γ.Z γ.blk v cv:=λv cv hv =>
  hv.mono (λk LP=>⟨LP,hk k (λe=>hz (e▸LP)) (h.jh k LP)⟩) (λi x hx=>by
   by_cases bP:x=.gone
   ·subst bP;exact .inl hx
   ·exact .inr ⟨rfl,x,hx,Ob.lk bP⟩)
 refine⟨λk=>hR _ _ (h.aw k),λi o hi=>?_,h.inj,h.nz,λk aK=>J9 (h.jh k aK) bx⟩;by_cases bP:o=.gone
 ·subst bP;trivial
 ·exact(h.fL i o hi).mono hR rfl (λk x c hb=>hk k (λe=>ho ⟨i,x,c,⟨o,hi,bP⟩,e▸hb⟩) (h.blt ⟨o,hi,bP⟩ hb))
def Fr.Ez{os:List Ob}{γ0 γ:Cx}(h:Fr os γ0 σ.aa γ){w':World}{b:Nat}(hb:γ0.w.heap.size<=b)(hk:∀ k,k≠b->k<γ.w.heap.size->w'.heap[k]?=γ.w.heap[k]?)(bx:γ.w.heap.size<=w'.heap.size)(h1:w'.os=γ.w.os)(h2:w'.tape=γ.w.tape)(h3:w'.output=γ.w.output):Fr os γ0 σ.aa { γ with w:=w' } :=
 ⟨h1.trans h.oh,h2.trans h.tape,h3.trans h.output,Nat.le_trans h.size bx,λk aK ho=>(hk k GC (J9 aK h.size)).trans (h.az k aK ho),h.z0,h.z1,h.own,h.len,h.mL⟩
def sS.Ez{μ:Mem}{os:List Ob}{γ0 γ:Cx}(h:sS μ os γ0 γ){w':World}{b:Nat}{g:Gh}(hz:¬ γ.Z b)(ho:¬ qz os γ.blk b)(hb:γ0.w.heap.size<=b)(hk:∀ k,k≠b->k<γ.w.heap.size->w'.heap[k]?=γ.w.heap[k]?)(hg:g.At w' b):sS (mo μ b g) os γ0 { γ with w:=w' }:=by
 have one:∀ k g',mo μ b g k=some g'->(k=b/\g'=g)\/(k≠b/\μ k=some g'):=λk g' h'=>by
  by_cases e:k=b
  ·subst e;rw[zi]at h';exact .inl ⟨rfl,by simpa using h'.symm⟩
  ·rw[wq μ g e]at h';exact .inr ⟨e,h'⟩
 refine⟨λk g' h'=>?_,λk g' h'=>?_,λk g' h'=>?_,λk g' h'=>?_⟩<;>rcases one k g' h' with⟨rfl,rfl⟩|⟨e,h2⟩
 ·exact hg
 ·exact(h.gh k g' h2).heap (hk k e (h.gh k g' h2).lt)
 ·exact hb
 ·exact h.fresh k g' h2
 ·exact hz
 ·exact h.Ck k g' h2
 ·exact ho
 ·exact h.xL k g' h2
variable {μ:Mem}
def HY(P:Program)(t:TypeId):Prop:=∃ kt et,P.underlying t=some (.map kt et)/\P.underlying kt=some (.int .i64)
def xN(P:Program)(t:TypeId):Prop:=∃ kt et,P.underlying t=some (.map kt et)
def HZ(P:Program)(t:TypeId)(z:Value):Prop:=∃ kt et,P.underlying t=some (.map kt et)/\P.underlying kt=some (.int .i64)/\∀ w:World,(zeroValue et).run P w=.ok z w
def tU(P:Program)(o:Oper)(op:BinOp)(t:TypeId)(x y:AV)(σ:St)(μ:Mem)(K:St->Mem->Prop):Prop :=
 match x with
 |.lit (.map a)=>xN P t/\y=.lit (.map none)/\match op with|.eql=>K (σ.put o.dst (.lit (.bool a.isNone))) μ|.neq=>K (σ.put o.dst (.lit (.bool (!a.isNone)))) μ|_=>False
 |_=>aZ P o σ λs=>K s μ
def zl(P:Program)(o:Oper)(args:List AV)(dC:List TypeId)(σ:St)(μ:Mem)(K:St->Mem->Prop):Prop :=
 match args with
 |[.lit (.map (some b))]=>∃ t ents,dC=[t]/\xN P t/\μ b=some (.map ents)/\K (σ.put o.dst (aaC (ents.length:Nat))) μ
 |_=>aZ P o σ λs=>K s μ
def gv(P:Program)(o:Oper)(σ:St)(μ:Mem)(K:St->Mem->Prop):Prop :=
 match o.op with
 |.makeMap _ none=>∀ b,μ b=none->K (σ.put o.dst (.lit (.map (some b)))) (mo μ b (.map []))
 |.lookup t x i false=>∃ n z,ev σ i=aaC n/\HZ P t z /\
   ((ev σ x=.lit (.map none)/\K (σ.put o.dst (.lit z)) μ)\/∃ b L,ev σ x=.lit (.map (some b))/\μ b=some (.map (iE L))/\K (σ.put o.dst (.lit ((oH n L).getD z))) μ)
 |.mapUpdate t m k x=>∃ b n L v,HY P t/\ev σ m=.lit (.map (some b))/\ev σ k=aaC n/\ev σ x=.lit v/\μ b=some (.map (iE L))/\K (σ.put o.dst .undef) (mo μ b (.map (iE (lv n v L))))
 |.range t x=>∃ b ents,xN P t/\ev σ x=.lit (.map (some b))/\μ b=some (.map ents)/\∀ r,μ r=none->K (σ.put o.dst (.lit (.pointer (some ⟨r,0,none⟩)))) (mo μ r (.iter b ents.length []))
 |.next x false=>∃ r b seen ents,ev σ x=.lit (.pointer (some ⟨r,0,none⟩))/\μ r=some (.iter b ents.length seen)/\μ b=some (.map ents) /\
   ((∀ j<ents.length,j∈seen)->K (σ.put o.dst (.bJ [.lit (.bool false)])) μ) /\
   ∀ j p,ents[j]?=some p->j ∉ seen->K (σ.put o.dst (.bJ [.lit (.bool true),.lit p.1,.lit p.2])) (mo μ r (.iter b ents.length (seen++[j])))
 |.entry x=>∃ r b seen j ents p,ev σ x=.lit (.pointer (some ⟨r,0,none⟩))/\μ r=some (.iter b ents.length (seen++[j]))/\μ b=some (.map ents)/\ents[j]?=some p/\K (σ.put o.dst (.bJ [.lit p.1,.lit p.2])) μ
 |.binOp op t x y _=>tU P o op t (ev σ x) (ev σ y) σ μ K
 |.call ⟨.builtin .len,args,dC⟩=>zl P o (args.toList.map (ev σ)) dC.toList σ μ K
 |_=>aZ P o σ λs=>K s μ
def jE.afR{os:List Ob}{γ0:Cx}{a:Act}{w:World}(h:jE N os γ0 σ μ a w):∃γ:Cx,iH N σ.aa γ σ a w/\∀ σ' a' w',iH N σ.aa γ σ' a' w'->jE N os γ0 σ' μ a' w':=by
 obtain⟨iU,bx,γ,rfl,ha,hs,hf,hm⟩:=h;refine⟨γ,⟨iU,bx,γ,rfl,ha,hs,Fr.refl _ _⟩,?_⟩;rintro σ' a' w'⟨LL,LM,aO,rfl,nk,jg,gX⟩;exact⟨LL,LM,aO,rfl,nk,jg,hf.trans gX,hm.az gX⟩
def jE.AI{os:List Ob}{γ0:Cx}{a:Act}{w:World}(h:jE N os γ0 σ μ a w){o:Oper}(hd:∀ d,o.dst=some d->d<N){v:AV}{cv:Value}(hv:∀ γ:Cx,γ.w=w->bS σ γ->aC σ.aa γ.w γ.Z γ.blk v cv):jE N os γ0 (σ.put o.dst v) μ (a.put o.dst cv) w:=by
 obtain⟨iU,bx,γ,rfl,ha,hs,hf,hm⟩:=h;refine⟨by rw[put_defers];exact iU,by rw[uI];exact bx,{ γ with tmps:=(a.put o.dst cv).tmps },rfl,rfl,sH hs ha (λd h=>by rw[bx];exact hd d h) (hv γ rfl hs),?_,?_⟩
 ·rw[rF];exact hf.put _
 ·rw[rF];exact⟨hm.gh,hm.fresh,hm.Ck,hm.xL⟩
def jE.block{os:List Ob}{γ0:Cx}{a:Act}{w w':World}(h:jE N os γ0 σ μ a w){b:Nat}{g:Gh}(hb:(∃ g',μ b=some g')\/b=w.heap.size)(hk:∀ k,k≠b->k<w.heap.size->w'.heap[k]?=w.heap[k]?)(bx:w.heap.size<=w'.heap.size)(h1:w'.os=w.os)(h2:w'.tape=w.tape)(h3:w'.output=w.output)(hg:g.At w' b):jE N os γ0 σ (mo μ b g) a w':=by
 obtain⟨iU,xO,γ,rfl,ha,hs,hf,hm⟩:=h;have du:¬ γ.Z b/\¬ qz σ.aa γ.blk b/\γ0.w.heap.size<=b:=by
  rcases hb with⟨g',tJ⟩|rfl
  ·exact⟨hm.Ck _ _ tJ,hm.xL _ _ tJ,hm.fresh _ _ tJ⟩
  ·refine⟨λhz=>BF _ (hs.jh _ hz),?_,hf.size⟩;rintro⟨i,o,c,hl,hb⟩;exact BF _ (hs.blt hl hb)
 exact⟨iU,xO,{ γ with w:=w' },rfl,ha,hs.Ez du.1 du.2.1 hk bx,hf.Ez du.2.2 hk bx h1 h2 h3,hm.Ez du.1 du.2.1 du.2.2 hk hg⟩
def jE.ev{os:List Ob}{γ0:Cx}{a:Act}{w:World}(h:jE N os γ0 σ μ a w){x:Operand}{v:Value}(hx:ev σ x=.lit v):a.eval x=v:=by
 obtain⟨_,_,γ,rfl,ha,hs,_⟩:=h;have:=uS hs ha x;rw[hx]at this;exact this.dz
def jE.at{os:List Ob}{γ0:Cx}{a:Act}{w:World}(h:jE N os γ0 σ μ a w){b:Nat}{g:Gh}(hb:μ b=some g):g.At w b:=by
 obtain⟨_,_,γ,rfl,ha,hs,_,hm⟩:=h;exact hm.gh _ _ hb
def jE.none{os:List Ob}{γ0:Cx}{a:Act}{w:World}(h:jE N os γ0 σ μ a w):μ w.heap.size=none:=by
 cases hb:μ w.heap.size with
 |none=>rfl
 |some g=>exact absurd (h.at hb).lt (BF _)
def TP(L:List (Int×Value)):(iE L).length=L.length:=by simp[iE]
def TQ{os:List Ob}{γ0:Cx}{o:Oper}{K:St->Mem->Prop}(h:gv P o σ μ K){a:Act}{w:World}(ax:jE N os γ0 σ μ a w)(hd:∀ d,o.dst=some d->d<N){Q:Exit->Act->World->Prop}{next:Act->World->Prop}(hn:∀ σ' eO a' w',K σ' eO->jE N os γ0 σ' eO a' w'->next a' w'):o.wp P a w next Q:=by
 have gen:aZ P o σ (λs=>K s μ)->o.wp P a w next Q:=λhg=>by
  obtain⟨γ,h1,h2⟩:=ax.afR;exact yN hg h1 hd (λσ' a' w' hK ed=>hn _ _ _ _ hK (h2 _ _ _ ed))
 have lit:∀ (v:Value) w',(execOp a.eval o).run P w=.ok (.value v) w'->∀ eO,jE N os γ0 σ eO a w'->K (σ.put o.dst (.lit v)) eO->o.wp P a w next Q:=λv w' hr eO ed hK=>by
  unfold Oper.wp;rw[hr];exact hn _ _ _ _ hK (ed.AI hd (λγ _ _=>aC.lit v))
 obtain⟨dst,op,type,pos,after,guard⟩:=o;unfold gv at h;cases op
 case makeMap t r =>
  cases r with
  |some r=>exact gen h
  |none =>
   refine lit (.map (some w.heap.size)) (w.alloc (.map #[] 0)) (by simp[execOp,Instr.makeMap]) _ ?_ (h w.heap.size ax.none);exact ax.block (.inr rfl) (λk _ hk=>by rw[heap_alloc_old _ _ hk]) (by show w.heap.size<=(w.heap.push _).size;simp) rfl rfl rfl (by rw[Gh.At,heap_alloc_new];rfl)
 case lookup t x i ok =>
  cases ok with
  |true=>exact gen h
  |false =>
   obtain⟨n,z,hi,⟨kt,et,ht,hk,hz⟩,h⟩:=h;rcases h with⟨hx,hK⟩|⟨b,L,hx,hb,hK⟩
   ·exact lit z w (by simp[execOp,ax.ev hx,ax.ev hi,afK ht hk (hz w)]) μ ax hK
   ·exact lit _ w (by simp[execOp,ax.ev hx,ax.ev hi,afJ ht hk (hz w) (ax.at hb)]) μ ax hK
 case mapUpdate t m k x =>
  obtain⟨b,n,L,v,⟨kt,et,ht,hk⟩,hm,hi,hx,hb,hK⟩:=h;have zm:=ax.at hb;rw[Gh.At,TP]at zm;have br:=(qf.1 zm).1;have hr:=afL (P:=P) ht hk zm n v;unfold Oper.wp;have gF:(execOp a.eval ⟨dst,.mapUpdate t m k x,type,pos,after,guard⟩).run P w=.ok .skip { w with heap:=w.heap.setIfInBounds b (.map (dT (iE (lv n v L))) (lv n v L).length) }:=by
   simp[execOp,ax.ev hm,ax.ev hi,ax.ev hx,hr]
  rw[gF];have nT:jE N os γ0 σ (mo μ b (.map (iE (lv n v L)))) a { w with heap:=w.heap.setIfInBounds b (.map (dT (iE (lv n v L))) (lv n v L).length) }:=by
   refine ax.block (.inl ⟨_,hb⟩) (λk hk _=>?_) GF rfl rfl rfl ?_
   ·simp[xj (Ne.symm hk)]
   ·rw[Gh.At,TP];simp[br]
  exact hn _ _ _ _ hK (nT.AI hd (λγ _ _=>.undef _))
 case range t x =>
  obtain⟨b,ents,⟨kt,et,ht⟩,hx,hb,hK⟩:=h;refine lit (.pointer (some ⟨w.heap.size,0,none⟩)) (w.alloc (.mapIter (some b) ents.length #[] ents.length)) (by simp[execOp,ax.ev hx,afM ht (ax.at hb)]) _ ?_ (hK w.heap.size ax.none);exact ax.block (.inr rfl) (λk _ hk=>by rw[heap_alloc_old _ _ hk]) (by show w.heap.size<=(w.heap.push _).size;simp) rfl rfl rfl (by rw[Gh.At,heap_alloc_new])
 case next x s =>
  cases s with
  |true=>exact gen h
  |false =>
   obtain⟨r,b,seen,ents,hx,hr,hb,h1,h2⟩:=h;have br:=(ax.at hr).lt;rcases afN (P:=P) rfl (ax.at hr) (ax.at hb) type with⟨k1,k2⟩|⟨j,p,d,k1,k2,k3⟩
   ·have gF:(execOp a.eval ⟨dst,.next x false,type,pos,after,guard⟩).run P w=.ok (.value (.tuple #[.bool false])) w:=by simp[execOp,ax.ev hx,k2]
    unfold Oper.wp;rw[gF];exact hn _ _ _ _ (h1 k1) (ax.AI hd (λγ _ _=>.bJ _ _ rfl (λi y hi=>by
     cases i with
     |zero=>simp at hi;subst hi;exact aC.lit _
     |succ i=>simp at hi)))
   ·have gF:(execOp a.eval ⟨dst,.next x false,type,pos,after,guard⟩).run P w=.ok (.value (.tuple #[.bool true,p.1,p.2])) { w with heap:=w.heap.setIfInBounds r (.mapIter (some b) ents.length (seen++[j]).toArray ents.length),drawn:=d }:=by simp[execOp,ax.ev hx,k3]
    unfold Oper.wp;rw[gF];have nT:jE N os γ0 σ (mo μ r (.iter b ents.length (seen++[j]))) a { w with heap:=w.heap.setIfInBounds r (.mapIter (some b) ents.length (seen++[j]).toArray ents.length),drawn:=d }:=by
     refine ax.block (.inl ⟨_,hr⟩) (λk hk _=>?_) GF rfl rfl rfl ?_
     ·simp[xj (Ne.symm hk)]
     ·rw[Gh.At];simp[br]
    refine hn _ _ _ _ (h2 j p k1 k2) (nT.AI hd (λγ _ _=>.bJ _ _ rfl (λi y hi=>?_)))
    ·match i,hi with
     |0,hi=>simp at hi;subst hi;exact aC.lit _
     |1,hi=>simp at hi;subst hi;exact aC.lit _
     |2,hi=>simp at hi;subst hi;exact aC.lit _
     |i+3,hi=>simp at hi
 case entry x =>
  obtain⟨r,b,seen,j,ents,p,hx,hr,hb,hp,hK⟩:=h;have gF:(execOp a.eval ⟨dst,.entry x,type,pos,after,guard⟩).run P w=.ok (.value (.tuple #[p.1,p.2])) w:=by simp[execOp,ax.ev hx,afO (P:=P) rfl (ax.at hr) (ax.at hb) hp]
  unfold Oper.wp;rw[gF];exact hn _ _ _ _ hK (ax.AI hd (λγ _ _=>.bJ _ _ rfl (λi y hi=>by
   match i,hi with
   |0,hi=>simp at hi;subst hi;exact aC.lit _
   |1,hi=>simp at hi;subst hi;exact aC.lit _
   |i+2,hi=>simp at hi)))
 case binOp op t x y yt =>
  replace h:tU P _ op t (Am.ev σ x) (Am.ev σ y) σ μ K:=h
  unfold tU at h;split at h
  ·rename_i m hx;obtain⟨⟨kt,et,ht⟩,hy,h⟩:=h;split at h
   ·exact lit _ w (by simp[execOp,ax.ev hx,ax.ev hy,eqGuard_at_map,afP w t kt et m ht]) μ ax h
   ·exact lit _ w (by simp[execOp,ax.ev hx,ax.ev hy,eqGuard_at_map,afQ w t kt et m ht]) μ ax h
   ·exact h.elim
  ·exact gen h
 case call c =>
  obtain⟨callee,args,dC⟩:=c;cases callee with
  |value f=>exact gen h
  |invoke r m=>exact gen h
  |builtin b =>
   cases b
   case len =>
    replace h:zl P _ (args.toList.map (Am.ev σ)) dC.toList σ μ K:=h
    unfold zl at h;split at h
    ·rename_i b hx;obtain⟨t,ents,zm,⟨kt,et,ht⟩,hb,hK⟩:=h;obtain⟨x,hax,KV⟩:∃x,args.toList=[x]/\Am.ev σ x=.lit (.map (some b)):=by
      cases ha:args.toList with
      |nil=>rw[ha]at hx;simp at hx
      |cons x r =>
       rw[ha]at hx;cases r with
       |nil=>exact⟨x,rfl,by simpa using hx⟩
       |cons y r=>simp at hx
     have ea:args = #[x]:=by rw[<- Array.toArray_toList (xs:=args),hax]
     have eb:dC = #[t]:=by rw[<- Array.toArray_toList (xs:=dC),zm]
     subst ea;subst eb;have afT:=ax.at hb;exact lit _ w (by simp[execOp,resolve,invoke,builtin,Builtin.len_,ax.ev KV,run_underlying ht,MapKept.run_getObj_map afT,dT,goInt]) μ ax hK
    ·exact gen h
   all_goals exact gen h
 all_goals exact gen h
def pR(P:Program)(o:Oper)(K:St->Mem->Prop)(b want:Bool)(σ:St)(μ:Mem):Prop:=(b=want->gv P o σ μ K)/\(b≠want->K (σ.put o.dst (.lit (.tuple #[]))) μ)
def qH(P:Program)(ops:Array Oper):List Oper->(St->Mem->Prop)->St->Mem->Prop
 |[],K,σ,μ=>K σ μ
 |o::r,K,σ,μ =>
  match o.guard with
  |none=>gv P o σ μ (qH P ops r K)
  |some (j,want) =>
   match (ops[j]?).bind (·.dst) with
   |none=>False
   |some d =>
    match σ.env d with
    |.lit (.bool b)=>pR P o (qH P ops r K) b want σ μ
    |.lit (.tuple vs)=>vs = #[]/\qH P ops r K (σ.put o.dst (.lit (.tuple #[]))) μ
    |_=>False
def EA{os:List Ob}{γ0:Cx}{ops:Array Oper}(hd:∀ o∈ops.toList,∀ d,o.dst=some d->d<N){K:St->Mem->Prop}{Q:Exit->Act->World->Prop}(hQ:∀ σ' eO a' w',K σ' eO->jE N os γ0 σ' eO a' w'->Q .normal a' w'):∀ (l:List Oper) (i:Nat) (σ:St) (μ:Mem) (a:Act) (w:World),ops.toList.drop i=l->qH P ops l K σ μ->jE N os γ0 σ μ a w ->
   wpOps P ops Q (og i l.length) a w
 |[],i,σ,μ,a,w,_,h,ax=>by simpa [wpOps] using hQ _ _ _ _ h ax
 |o::r,i,σ,μ,a,w,hl,h,ax=>by
  have hi:ops[i]?=some o:=by
   have:(ops.toList.drop i)[0]?=some o:=by rw[hl];rfl
   simpa using this
  have hr:ops.toList.drop (i+1)=r:=by
   have:=congrArg List.tail hl;simpa [List.tail_drop] using this
  have bO:o∈ops.toList:=iD (by simpa using hi);rw[List.length_cons,xg,wpOps_cons];unfold wpOp;simp only[hi];unfold qH at h;cases hg:o.guard with
  |none =>
   simp only[hg]at h;have hw:Region.wanted o (yielded ops a.tmps)=true:=by simp[Region.wanted,hg]
   rw[if_pos hw];left;exact TQ h ax (hd o bO) (λσ' eO a' w' hK ed=>EA hd hQ r (i+1) σ' eO a' w' hr hK ed)
  |some jw =>
   obtain⟨j,want⟩:=jw;simp only[hg]at h;cases eY:(ops[j]?).bind (·.dst) with
   |none=>simp[eY]at h
   |some d =>
    simp only[eY]at h;have hv:∀ v,σ.env d=.lit v->a.tmps.getD d Go.undef=v:=λv he=>by
     have:=ax.ev (x:=.tmp d) (v:=v) (by simpa [ev] using he);simpa [Act.eval] using this
    split at h
    ·rename_i b he;have hv:=hv _ he;have hy:yielded ops a.tmps j=some b:=by
      unfold yielded;rw[eY];have:a.tmps[d]?=some (.bool b):=by
       rw[gm]at hv;cases hx:a.tmps[d]? with
       |none=>rw[hx]at hv;simp[Go.undef]at hv
       |some y=>rw[hx]at hv;simp at hv;rw[hv]
      simp[this]
     by_cases iv:b=want
     ·have hw:Region.wanted o (yielded ops a.tmps)=true:=by simp[Region.wanted,hg,hy,iv]
      rw[if_pos hw];left;exact TQ (h.1 iv) ax (hd o bO) (λσ' eO a' w' hK ed=>EA hd hQ r (i+1) σ' eO a' w' hr hK ed)
     ·have hw:Region.wanted o (yielded ops a.tmps)=false:=by simp[Region.wanted,hg,hy,iv]
      rw[if_neg (by rw[hw];simp)];exact EA hd hQ r (i+1) _ _ _ _ hr (h.2 iv) (ax.AI (hd o bO) (λγ _ _=>aC.lit _))
    ·rename_i vs he;have hv:=hv _ he;have hy:yielded ops a.tmps j=none:=by
      unfold yielded;rw[eY];rw[gm]at hv;cases hx:a.tmps[d]? with
      |none=>simp[hx]
      |some y=>rw[hx]at hv;simp at hv;subst hv;simp[hx]
     have hw:Region.wanted o (yielded ops a.tmps)=false:=by simp[Region.wanted,hg,hy]
     rw[if_neg (by rw[hw];simp)];exact EA hd hQ r (i+1) _ _ _ _ hr h.2 (ax.AI (hd o bO) (λγ _ _=>aC.lit _))
    ·exact h.elim
def TR{id:Nat}{ops:Array Oper}{Q:Exit->St->Mem->Prop}(hd:gU N ops=true)(h:qH P ops ops.toList (Q .normal) σ μ):WM P N n0 (.region id ops false) Q σ μ:=by
 intro os γ0 a w _ ax;refine wp_region ?_;have:=EA (P:=P) (N:=N) (os:=os) (γ0:=γ0) (ops:=ops) (sI hd) (K:=Q .normal) (Q:=λe a' w'=>∃ σ' eO,Q e σ' eO/\jE N os γ0 σ' eO a' w') (λσ' eO a' w' hK ed=>⟨σ',eO,hK,ed⟩)
  ops.toList 0 σ μ a w rfl h ax
 rw[xh];simpa using this
end Go.Am
namespace Go.Am
variable {P:Program} {N n0:Nat} {σ:St} {μ:Mem} {Q:Exit->St->Mem->Prop}
theorem mr{id:Nat}{ops:Array Oper}{y:Code}(h:∀ K:St->Mem->Prop,(∀ s m,WM P N n0 y Q s m->K s m)->qH P ops ops.toList K σ μ)(hd:gU N ops=true:=by decide):WM P N n0 (.seq (.region id ops false) y) Q σ μ :=
 vc fun Q' h1 _=>TR hd (h _ h1)
theorem AJ{id:Nat}{ops:Array Oper}(h:∀ K:St->Mem->Prop,(∀ s m,Q .normal s m->K s m)->qH P ops ops.toList K σ μ)(hd:gU N ops=true:=by decide):WM P N n0 (.region id ops false) Q σ μ :=
 TR hd (h _ fun _ _ h=>h)
theorem mc{c:Operand}{x y:Code}{t:Bool}(ht:t=true->WM P N n0 x Q σ μ)(hf:t=false->WM P N n0 y Q σ μ)(hc:ev σ c=.lit (.bool t):=by(simp only[Go.Am.oE,Go.Am.Lc,↓reduceIte,Nat.reduceEqDiff,Nat.reduceBEq];exact rfl)):WM P N n0 (.cond c x y) Q σ μ:=afG hc ht hf
def ml{c y:Code}(h:∀ Q':Exit->St->Prop,(∀ s,WM P N n0 y Q s μ->Q' .normal s)->(∀ e s,tT e=false->Q e s μ->Q' e s)->W P N σ.aa.length c Q' σ):WM P N n0 (.seq c y) Q σ μ :=
 vc λQ' h1 h2=>afE (h (λe s=>Q' e s μ) (λs=>h1 s μ) (λe s=>h2 e s μ))
section
variable {ops:Array Oper} {o:Oper} {l:List Oper} {K:St->Mem->Prop}
instance:Head (qH P ops (o::l) K σ μ):=⟨trivial⟩
def afU{b want:Bool}(h1:b=true->pR P o K true want σ μ)(h2:b=false->pR P o K false want σ μ):pR P o K b want σ μ:=by
 cases b
 ·exact h2 rfl
 ·exact h1 rfl
instance {b want:Bool}:HR (pR P o K b want σ μ) b (pR P o K true want σ μ) (pR P o K false want σ μ):=⟨afU⟩
def TS:pR P o K true true σ μ=gv P o σ μ K:=by simp[pR]
def TT:pR P o K false false σ μ=gv P o σ μ K:=by simp[pR]
def TU:pR P o K true false σ μ=K (σ.put o.dst (.lit (.tuple #[]))) μ:=by simp[pR]
def TV:pR P o K false true σ μ=K (σ.put o.dst (.lit (.tuple #[]))) μ:=by simp[pR]
def TW:qH P ops [] K σ μ=K σ μ:=rfl
variable {dst:Option Tmp} {tt:TypeId} {p:String} {af:Array Edge} {g:Option (Nat×Bool)}
def TX(x:Operand):gv P ⟨dst,.move x,tt,p,af,g⟩ σ μ K=aZ P ⟨dst,.move x,tt,p,af,g⟩ σ (λs=>K s μ):=rfl
def TY(x:Operand):gv P ⟨dst,.assign x,tt,p,af,g⟩ σ μ K=aZ P ⟨dst,.assign x,tt,p,af,g⟩ σ (λs=>K s μ):=rfl
def TZ(x y z:Operand):gv P ⟨dst,.pick x y z,tt,p,af,g⟩ σ μ K=aZ P ⟨dst,.pick x y z,tt,p,af,g⟩ σ (λs=>K s μ):=rfl
def T1(e:TypeId):gv P ⟨dst,.alloc e,tt,p,af,g⟩ σ μ K=aZ P ⟨dst,.alloc e,tt,p,af,g⟩ σ (λs=>K s μ):=rfl
def T2(e:TypeId)(x:Operand):gv P ⟨dst,.box e x,tt,p,af,g⟩ σ μ K=aZ P ⟨dst,.box e x,tt,p,af,g⟩ σ (λs=>K s μ):=rfl
def T3(t:TypeId)(l:Array (Nat×Operand)):gv P ⟨dst,.build t l,tt,p,af,g⟩ σ μ K=aZ P ⟨dst,.build t l,tt,p,af,g⟩ σ (λs=>K s μ):=rfl
def T4(t:TypeId)(n:Nat)(l:Array (Nat×Operand)):gv P ⟨dst,.buildSlice t n l,tt,p,af,g⟩ σ μ K=aZ P ⟨dst,.buildSlice t n l,tt,p,af,g⟩ σ (λs=>K s μ):=rfl
def T5(t:TypeId)(x:Operand):gv P ⟨dst,.load t x,tt,p,af,g⟩ σ μ K=aZ P ⟨dst,.load t x,tt,p,af,g⟩ σ (λs=>K s μ):=rfl
def T6(t:TypeId)(x y:Operand):gv P ⟨dst,.store t x y,tt,p,af,g⟩ σ μ K=aZ P ⟨dst,.store t x y,tt,p,af,g⟩ σ (λs=>K s μ):=rfl
def T7(u:UnOp)(t:TypeId)(x:Operand):gv P ⟨dst,.unOp u t x,tt,p,af,g⟩ σ μ K=aZ P ⟨dst,.unOp u t x,tt,p,af,g⟩ σ (λs=>K s μ):=rfl
def T8(f:Fn)(x y:Array Operand):gv P ⟨dst,.makeFunc f x y,tt,p,af,g⟩ σ μ K=aZ P ⟨dst,.makeFunc f x y,tt,p,af,g⟩ σ (λs=>K s μ):=rfl
def T9(t:TypeId)(x y:Operand):gv P ⟨dst,.makeSlice t x y,tt,p,af,g⟩ σ μ K=aZ P ⟨dst,.makeSlice t x y,tt,p,af,g⟩ σ (λs=>K s μ):=rfl
def T'(t:TypeId)(x:Operand)(lo hi mx:Option Operand):gv P ⟨dst,.slice t x lo hi mx,tt,p,af,g⟩ σ μ K=aZ P ⟨dst,.slice t x lo hi mx,tt,p,af,g⟩ σ (λs=>K s μ):=rfl
def Ua(t:TypeId)(x:Operand)(n:Nat):gv P ⟨dst,.field t x n,tt,p,af,g⟩ σ μ K=aZ P ⟨dst,.field t x n,tt,p,af,g⟩ σ (λs=>K s μ):=rfl
def Ub(t:TypeId)(x:Operand)(n:Nat):gv P ⟨dst,.fieldAddr t x n,tt,p,af,g⟩ σ μ K=aZ P ⟨dst,.fieldAddr t x n,tt,p,af,g⟩ σ (λs=>K s μ):=rfl
def Uc(t:TypeId)(x y:Operand):gv P ⟨dst,.indexAddr t x y,tt,p,af,g⟩ σ μ K=aZ P ⟨dst,.indexAddr t x y,tt,p,af,g⟩ σ (λs=>K s μ):=rfl
def Ud(x:Operand):gv P ⟨dst,.nilCheck x,tt,p,af,g⟩ σ μ K=aZ P ⟨dst,.nilCheck x,tt,p,af,g⟩ σ (λs=>K s μ):=rfl
def Ue(x:Operand)(n:Nat):gv P ⟨dst,.extract x n,tt,p,af,g⟩ σ μ K=aZ P ⟨dst,.extract x n,tt,p,af,g⟩ σ (λs=>K s μ):=rfl
def Uf(s d:TypeId)(x:Operand):gv P ⟨dst,.convert s d x,tt,p,af,g⟩ σ μ K=aZ P ⟨dst,.convert s d x,tt,p,af,g⟩ σ (λs=>K s μ):=rfl
def Ug(f:Operand)(args:Array Operand)(dC:Array TypeId):gv P ⟨dst,.call ⟨.value f,args,dC⟩,tt,p,af,g⟩ σ μ K=aZ P ⟨dst,.call ⟨.value f,args,dC⟩,tt,p,af,g⟩ σ (λs=>K s μ):=rfl
def Uh(args:Array Operand)(dC:Array TypeId):gv P ⟨dst,.call ⟨.builtin .append,args,dC⟩,tt,p,af,g⟩ σ μ K=aZ P ⟨dst,.call ⟨.builtin .append,args,dC⟩,tt,p,af,g⟩ σ (λs=>K s μ):=rfl
def Ui(args:Array Operand)(dC:Array TypeId):gv P ⟨dst,.call ⟨.builtin .min,args,dC⟩,tt,p,af,g⟩ σ μ K=aZ P ⟨dst,.call ⟨.builtin .min,args,dC⟩,tt,p,af,g⟩ σ (λs=>K s μ):=rfl
def Uj(args:Array Operand)(dC:Array TypeId):gv P ⟨dst,.call ⟨.builtin .max,args,dC⟩,tt,p,af,g⟩ σ μ K=aZ P ⟨dst,.call ⟨.builtin .max,args,dC⟩,tt,p,af,g⟩ σ (λs=>K s μ):=rfl
def Uk(args:Array Operand)(dC:Array TypeId):gv P ⟨dst,.call ⟨.builtin .copy,args,dC⟩,tt,p,af,g⟩ σ μ K=aZ P ⟨dst,.call ⟨.builtin .copy,args,dC⟩,tt,p,af,g⟩ σ (λs=>K s μ):=rfl
def Ul(args:Array Operand)(dC:Array TypeId):gv P ⟨dst,.call ⟨.builtin .len,args,dC⟩,tt,p,af,g⟩ σ μ K=zl P ⟨dst,.call ⟨.builtin .len,args,dC⟩,tt,p,af,g⟩ (args.toList.map (ev σ)) dC.toList σ μ K:=rfl
def Um(op:BinOp)(t:TypeId)(x y:Operand)(yt:TypeId):gv P ⟨dst,.binOp op t x y yt,tt,p,af,g⟩ σ μ K=tU P ⟨dst,.binOp op t x y yt,tt,p,af,g⟩ op t (ev σ x) (ev σ y) σ μ K:=rfl
def Un(k:IntKind)(n:Int)(op:BinOp)(t:TypeId)(y:AV):tU P o op t (.lit (.int k n)) y σ μ K=aZ P o σ (λs=>K s μ):=rfl
def Uo(b:Bool)(op:BinOp)(t:TypeId)(y:AV):tU P o op t (.lit (.bool b)) y σ μ K=aZ P o σ (λs=>K s μ):=rfl
def Uq(a:Option Addr)(n c:Nat)(op:BinOp)(t:TypeId)(y:AV):tU P o op t (.lit (.slice a n c)) y σ μ K=aZ P o σ (λs=>K s μ):=rfl
def Ur(s:Nat)(r:List (List AV))(op:BinOp)(t:TypeId)(y:AV):tU P o op t (.tree s r) y σ μ K=aZ P o σ (λs=>K s μ):=rfl
def Us(l:List AV)(op:BinOp)(t:TypeId)(y:AV):tU P o op t (.agg l) y σ μ K=aZ P o σ (λs=>K s μ):=rfl
def Ut(a b c d:Nat)(op:BinOp)(t:TypeId)(y:AV):tU P o op t (.ref a b c d) y σ μ K=aZ P o σ (λs=>K s μ):=rfl
def Uu(a:Option Nat)(t:TypeId)(y:AV):tU P o .eql t (.lit (.map a)) y σ μ K=(xN P t/\y=.lit (.map none)/\K (σ.put o.dst (.lit (.bool a.isNone))) μ):=rfl
def Uv(a:Option Nat)(t:TypeId)(y:AV):tU P o .neq t (.lit (.map a)) y σ μ K=(xN P t/\y=.lit (.map none)/\K (σ.put o.dst (.lit (.bool (!a.isNone)))) μ):=rfl
def Uw(s:Nat)(r:List (List AV))(t:List TypeId):zl P o [.tree s r] t σ μ K=aZ P o σ (λs=>K s μ):=rfl
def Ux(a b c d:Nat)(t:List TypeId):zl P o [.ref a b c d] t σ μ K=aZ P o σ (λs=>K s μ):=rfl
def Uy(a:Option Addr)(n c:Nat)(t:List TypeId):zl P o [.lit (.slice a n c)] t σ μ K=aZ P o σ (λs=>K s μ):=rfl
def Uz(b:Nat)(t:List TypeId):zl P o [.lit (.map (some b))] t σ μ K =∃t1 ents,t=[t1]/\xN P t1/\μ b=some (.map ents)/\K (σ.put o.dst (aaC (ents.length:Nat))) μ:=rfl
def UA:qH P ops (o::l) K σ μ=(match o.guard with|none=>gv P o σ μ (qH P ops l K)|some (j,want)=>match (ops[j]?).bind (·.dst) with|none=>False|some d=>match σ.env d with|.lit (.bool b)=>pR P o (qH P ops l K) b want σ μ|.lit (.tuple vs)=>vs = #[]/\qH P ops l K (σ.put o.dst (.lit (.tuple #[]))) μ|_=>False):=by rw[qH]<;>rfl
def UB(a:Option Nat):eZ (.map a)=.lit (.map a):=rfl
end
def Mc:=aaZ @UB @TX @TY @TZ @T1 @T2 @T3 (aaZ @T4 @T5 @T6 @T7 @T8 @T9 @T' (aaZ @Ua @Ub @Uc @Ud @Ue @Uf @Ug (aaZ @Uh @Ui @Uj @Uk @Ul @Um @Un (aaZ @Uo @Uq @Ur @Us @Ut @Uu @Uv (aaZ @Uw @Ux @Uy @Uz @UA @TW @TS (aaG @TT @TU @TV))))))
end Go.Am
namespace Go.Am
variable {P:Program} {N n0:Nat} {σ:St} {μ:Mem} {K:St->Mem->Prop} {dst:Option Tmp} {tt:TypeId} {p:String} {af:Array Edge} {g:Option (Nat×Bool)}
def UC{t:TypeId}(h:∀ b,μ b=none->K (σ.put dst (.lit (.map (some b)))) (mo μ b (.map []))):gv P ⟨dst,.makeMap t none,tt,p,af,g⟩ σ μ K:=h
def EB{t:TypeId}{x i:Operand}{b:Nat}{n:Int}{z:Value}(hx:ev σ x=.lit (.map (some b)))(hi:ev σ i=aaC n)(hz:HZ P t z){L:List (Int×Value)}(hb:μ b=some (.map (iE L)))(hK:K (σ.put dst (.lit ((oH n L).getD z))) μ):gv P ⟨dst,.lookup t x i false,tt,p,af,g⟩ σ μ K:=⟨n,z,hi,hz,.inr ⟨b,L,hx,hb,hK⟩⟩
def LQ{t:TypeId}{m k x:Operand}{b:Nat}{n:Int}{v:Value}(hm:ev σ m=.lit (.map (some b)))(hi:ev σ k=aaC n)(hx:ev σ x=.lit v)(hk:HY P t){L:List (Int×Value)}(hb:μ b=some (.map (iE L)))(hK:K (σ.put dst .undef) (mo μ b (.map (iE (lv n v L))))):gv P ⟨dst,.mapUpdate t m k x,tt,p,af,g⟩ σ μ K:=⟨b,n,L,v,hk,hm,hi,hx,hb,hK⟩
def afV{t:TypeId}{x:Operand}{b:Nat}(hx:ev σ x=.lit (.map (some b)))(hk:xN P t){ents:List (Value×Value)}(hb:μ b=some (.map ents))(hK:∀ r,μ r=none->K (σ.put dst (.lit (.pointer (some ⟨r,0,none⟩)))) (mo μ r (.iter b ents.length []))):gv P ⟨dst,.range t x,tt,p,af,g⟩ σ μ K:=⟨b,ents,hk,hx,hb,hK⟩
def afW{x:Operand}{r b:Nat}{seen:List Nat}{ents:List (Value×Value)}(hx:ev σ x=.lit (.pointer (some ⟨r,0,none⟩)))(hr:μ r=some (.iter b ents.length seen))(hb:μ b=some (.map ents))(h1:(∀ j<ents.length,j∈seen)->K (σ.put dst (.bJ [.lit (.bool false)])) μ)(h2:∀ j p,ents[j]?=some p->j ∉ seen->K (σ.put dst (.bJ [.lit (.bool true),.lit p.1,.lit p.2])) (mo μ r (.iter b ents.length (seen++[j])))):gv P ⟨dst,.next x false,tt,p,af,g⟩ σ μ K:=⟨r,b,seen,ents,hx,hr,hb,h1,h2⟩
def afX{x:Operand}{r b j:Nat}{seen:List Nat}{ents:List (Value×Value)}{q:Value×Value}(hx:ev σ x=.lit (.pointer (some ⟨r,0,none⟩)))(hr:μ r=some (.iter b ents.length (seen++[j])))(hb:μ b=some (.map ents))(hp:ents[j]?=some q)(hK:K (σ.put dst (.bJ [.lit q.1,.lit q.2])) μ):gv P ⟨dst,.entry x,tt,p,af,g⟩ σ μ K:=⟨r,b,seen,j,ents,q,hx,hr,hb,hp,hK⟩
def nV.refl:nV n0 σ σ:=λos γ0 γ _ hs hf=>⟨γ,rfl,rfl,hs,hf,λ_ h=>.inl h,λ_ h=>h⟩
end Go.Am
namespace Go.Am
variable {P:Program} {N n0:Nat} {σ:St}
def rP{f:FuncId}{args:List AV}{dst:Option Tmp}{K:St->Prop}{jk:AV->List Ob->Prop}(h:fh P f args σ.aa jk)(hK:∀ res bI,jk res bI->σ.aa.length<=bI.length/\K ((⟨σ.env,bI⟩:St).put dst res)):lP P f args dst K σ:=by
 refine⟨aW σ.aa.length,false,args,σ.aa,jk,h,⟨Gt,GF,?_,rfl,?_⟩,λres bI hp=>⟨GF,?_⟩⟩
 ·intro j o hj;have br:=(a8.1 hj).1;rw[yR,DP];simpa [aA,List.getElem?_range br] using hj
 ·intro j c d hc hd;rw[hc]at hd;simp only[dI.injEq]at hd;subst hd;exact .eq (by rw[yR,yQ])
 ·obtain⟨hl,hK⟩:=hK res bI hp;rw[yR,yQ];have:bI.map (cg (λj=>j))=bI:=by
   have h:cg (λj=>j)=id:=by funext o;exact DP o
   simp[h]
  rw[this,Qg _ _ hl];exact hK
def LR{Q:Exit->St->Prop}(n:Nat){id:Nat}{ops:Array Oper}(hd:gU N ops=true)(h:∀ K K1:St->Prop,(∀ s,Q .normal s->K s)->(∀ s s1,aF n0 s s1->opsL P ops (ops.toList.drop n) K s1->K1 s)->opsL P ops (ops.toList.take n) K1 σ):W P N n0 (.region id ops false) Q σ:=by
 intro os γ0 a w hn ax;refine wp_region ?_;exact ad2 (sI hd) hn (K:=Q .normal) (K1:=λs=>∃ s1,aF n0 s s1/\opsL P ops (ops.toList.drop n) (Q .normal) s1) (λσ' a' w' hK ed=>⟨σ',hK,ed⟩) n (λs h=>h) σ a w (h _ _ (λ_ h=>h) (λs s1 h1 h2=>⟨s1,h1,h2⟩)) ax
def ao.afY{f:FuncId}{sz:Nat}{pre post:List AV}{aa bI:List Ob}{res:AV}(h:ao P f (pre++.tree sz []::post) aa res bI):ao P f (pre++.lit (.slice none 0 0)::post) aa res bI:=by
 refine⟨h.1,λγ bx hs=>h.2 γ (by simpa using bx) ⟨λk=>?_,hs.fL,hs.inj,hs.nz,hs.jh⟩⟩;have:=hs.aw k;dsimp only at this ⊢;by_cases hk:k=pre.length
 ·subst hk;have e1:(pre++AV.lit (.slice none 0 0)::post).getD pre.length .undef=.lit (.slice none 0 0):=GF;have e2:(pre++AV.tree sz []::post).getD pre.length .undef=.tree sz []:=GF;rw[e1]at this;rw[e2,this.dz];exact .cC _ _ (.nil _ _ _)
 ·have e:(pre++AV.tree sz []::post).getD k .undef=(pre++AV.lit (.slice none 0 0)::post).getD k .undef:=by
   simp only[aA];congr 1;rcases fK k pre.length with h1|h1
   ·rw[cT h1,cT h1]
   ·rw[fV h1,fV h1,show k-pre.length=(k-pre.length-1)+1 by omega];rfl
  rw[e];exact this
end Go.Am
namespace Go.Am
variable {P:Program} {N n0:Nat} {σ:St} {Q:Exit->St->Prop}
def aF.LS(a id r0 c sz H0:Nat){R:List (List AV)}{cells:List AV}{rows:List (List AV)}(ho:σ.aa[id]?=some (.arr H0 R))(bq:R[r0]?=some cells)(ha:σ.aa[a]?=some (.arr sz rows))(hc:cells[c]?=some (.ref a sz 0 rows.length))(Eo:a≠id)(hw:∀ row∈rows,row.length=sz)(mK:∀ row∈rows,∀ v∈row,(∃ x,v=.lit x)\/∃ s r,v=.tree s r):aF n0 σ ⟨σ.env,(σ.aa.set a .gone).set id (.arr H0 (R.set r0 (cells.set c (.tree sz rows))))⟩:=by
 intro os γ0 γ _ hs hf;have Ab:id<σ.aa.length:=(a8.1 ho).1;have fX:a<σ.aa.length:=(a8.1 ha).1
 let aO:Cx:={ γ with Z:=λb=>γ.Z b\/∃ o cap,γ.blk a=some (b,o,cap) }
 let eE:=(σ.aa.set a .gone).set id (.arr H0 (R.set r0 (cells.set c (.tree sz rows))))
 have hU:∀ i,eE[i]?=if i=id then some (.arr H0 (R.set r0 (cells.set c (.tree sz rows)))) else if i=a then some .gone else σ.aa[i]?:=by
  intro i;show((σ.aa.set a .gone).set id _)[i]?=_;rw[cA,cA];by_cases h1:i=id
  ·subst h1;simp[Ab]
  ·by_cases h2:i=a
   ·subst h2;simp[Ne.symm h1,h1,fX]
   ·simp[Ne.symm h1,Ne.symm h2,h1,h2]
 have hR:∀ v cv,aC σ.aa γ.w γ.Z γ.blk v cv->aC eE aO.w aO.Z aO.blk v cv:=λv cv hv =>
  hv.mono (λb hb=>⟨.inl hb,rfl⟩) (λi o hi=>by
   rw[hU];by_cases h1:i=id
   ·subst h1;rw[ho]at hi;simp only[dI.injEq]at hi;subst hi;right;exact⟨rfl,_,by rw[if_pos rfl],by simp[Ob.fB]⟩
   ·rw[if_neg h1];by_cases h2:i=a
    ·left;rw[if_pos h2]
    ·rw[if_neg h2];by_cases hg:o=.gone
     ·subst hg;exact .inl hi
     ·exact .inr ⟨rfl,o,hi,Ob.lk hg⟩)
 have cY:∀ i,Live eE i->Live σ.aa i/\i≠a:=by
  rintro i⟨o,hi,hg⟩;rw[hU]at hi;split at hi
  ·rename_i h1;subst h1;exact⟨⟨_,ho,GF⟩,Ne.symm Eo⟩
  ·split at hi
   ·simp at hi;exact absurd hi.symm hg
   ·rename_i h2;exact⟨⟨o,hi,hg⟩,h2⟩
 have qn:Live σ.aa a:=⟨_,ha,GF⟩;refine⟨aO,rfl,rfl,⟨λk=>hR _ _ (hs.aw k),?_,λi j b o c o' c' hi hj=>hs.inj i j b o c o' c' (cY i hi).1 (cY j hj).1,?_,?_⟩,?_⟩
 ·intro i o hi;have hi':eE[i]?=some o:=hi;rw[hU]at hi';split at hi'
  ·rename_i h1;subst h1;simp only[dI.injEq]at hi';subst hi';obtain⟨h0,hr,bk⟩:=hs.fL _ _ ho;have AF:r0<R.length:=(a8.1 bq).1;refine⟨h0,λrow xP=>?_,?_⟩
   ·rcases List.mem_or_eq_of_mem_set xP with h|h
    ·exact hr row h
    ·subst h;rw[bF];exact hr cells (iD bq)
   ·rcases bk with⟨h1,h2⟩|⟨b,o,cap,cur,t,h1,h2,h3,h4,h5,h6⟩
    ·exact absurd (show r0<0 by rw[h2]at AF;exact AF) (Nat.not_lt_zero _)
    ·refine .inr ⟨b,o,cap,cur,t,h1,h2,h3,by rw[bF];exact h4,h5,λr k v hv=>?_⟩;unfold cellAt at hv;rw[cA]at hv;by_cases e:r0=r
     ·subst e;rw[if_pos rfl,if_pos AF,Option.bind_some,cA]at hv;split at hv
      ·rename_i e;subst e;split at hv
       ·simp only[dI.injEq]at hv;subst hv;have dZ:cL σ (λx=>x≠a) (.tree sz rows) (.ref a sz 0 rows.length):=cL.flat ha hw rfl GF mK;exact .cC _ _ (dZ.DF hs (γc:=aO) (λb hb=>.inl hb) rfl (λx b o cap dt _ hb=>.inr ⟨o,cap,by rw[show a=x by simpa using(Decidable.not_not.1 dt).symm];exact hb⟩) _ (h6 r0 c _ (by unfold cellAt;rw[bq];exact hc)))
       ·simp at hv
      ·exact hR _ _ (h6 r0 k v (by unfold cellAt;rw[bq];exact hv))
     ·rw[if_neg e]at hv;exact hR _ _ (h6 r k v hv)
  ·split at hi'
   ·simp only[dI.injEq]at hi';subst hi';trivial
   ·by_cases hg:o=.gone
    ·subst hg;trivial
    ·exact(hs.fL i o hi').mono hR rfl (λ_ _ _ _=>rfl)
 ·rintro b ⟨i,o,c',hi,hb⟩ (hz|⟨o',cap,du⟩)
  ·exact hs.nz b ⟨i,o,c',(cY i hi).1,hb⟩ hz
  ·exact(cY i hi).2 (hs.inj i a b o c' o' cap (cY i hi).1 qn hb du)
 ·rintro b (hz|⟨o,cap,hb⟩)
  ·exact hs.jh b hz
  ·exact hs.blt qn hb
 ·refine⟨hf.oh,hf.tape,hf.output,hf.size,hf.az,λb hb=>.inl (hf.z0 b hb),?_,?_,by show os.length<=eE.length;simp[eE];exact hf.len,?_⟩
  ·rintro b (hz|⟨o,cap,hb⟩)
   ·exact hf.z1 b hz
   ·exact .inr (hf.own b ⟨a,o,cap,qn,hb⟩)
  ·rintro b ⟨i,o,c',hi,hb⟩;exact hf.own b ⟨i,o,c',(cY i hi).1,hb⟩
  ·intro i hi hl;obtain⟨h1,x,x',hx,dw,hk⟩:=hf.mL i hi (cY i hl).1;have D5:=(cY i hl).2;have jT:Live eE i:=hl;obtain⟨o,eX,tE⟩:=jT;refine⟨h1,x,o,hx,eX,?_⟩;rw[hU]at eX;split at eX
   ·rename_i e;subst e;rw[ho]at dw;simp only[dI.injEq]at dw eX;subst dw;subst eX;refine Ob.Lu hk (by simp[Ob.fB])
   ·rw[dw]at eX;simp only[dI.injEq]at eX;subst eX;exact hk
end Go.Am

