import Derived.Test.YtfoopmojjjpapaaGreatX12
import Derived.Test.YtfoopmojjjpapaaGreatX13
set_option linter.all false
set_option maxHeartbeats 0
set_option maxRecDepth 20000
open List renaming range→bn,range'→lH,range'_succ→uU,range'_append→EU,mem_of_getElem?→gk,getElem?_drop→mI,length_take→e8,getElem?_take_of_lt→ES,mem_cons→bj,not_mem_nil→gU
open Nat renaming one_mul→wz
open Array renaming length_toList→qR
open Bool renaming and_eq_true→aZ
namespace Go.Am
variable {P:Program} {N n0:Nat} {σ:St} {Q:Exit->St->Prop}
def uq:Exit->Bool
 |.normal=>true
 |_=>false
def zI(id:Nat):Exit->Bool
 |.normal=>true
 |.exit j=>j==id
 |_=>false
def Gg{e:Exit}(h:uq e=false):e≠.normal:=by intro h2;subst h2;simp[uq]at h
def Kg{id:Nat}{e:Exit}(h:zI id e=false):e≠.normal/\e≠.exit id:=by
 constructor
 ·intro h2;subst h2;simp[zI]at h
 ·intro h2;subst h2;simp[zI]at h
theorem rk{id:Nat}{ops:Array Oper}{y:Code}(h:∀ K:St->Prop,(∀ s,W P N n0 y Q s->K s)->opsL P ops ops.toList K σ)(hd:eU N ops=true:=by decide):W P N n0 (.seq (.region id ops false) y) Q σ:=Jr hd h
theorem Kh{id:Nat}{ops:Array Oper}(h:∀ K:St->Prop,(∀ s,Q .normal s->K s)->opsL P ops ops.toList K σ)(hd:eU N ops=true:=by decide):W P N n0 (.region id ops false) Q σ:=acB hd h
theorem rd{id:Nat}{ops:Array Oper}{y:Code}(h:∀ K:St->Prop,(∀ s,W P N n0 y Q s->K s)->opsL P ops ops.toList K σ)(hm:P.follows .mixedOrders=true:=by rfl)(hd:eU N ops=true:=by decide)(ht:zd ops=true:=by decide +kernel):W P N n0 (.seq (.region id ops true) y) Q σ:=acC hm hd ht h
theorem rde{id:Nat}{ops:Array Oper}(h:∀ K:St->Prop,(∀ s,Q .normal s->K s)->opsL P ops ops.toList K σ)(hm:P.follows .mixedOrders=true:=by rfl)(hd:eU N ops=true:=by decide)(ht:zd ops=true:=by decide +kernel):W P N n0 (.region id ops true) Q σ:=acD hm hd ht h
theorem rb{id:Nat}{ops:Array Oper}{y:Code}(h:∀ K:St->Prop,(∀ s,W P N n0 y Q s->K s)->sL P ops ops.toList K σ)(hm:P.follows .mixedOrders=true:=by rfl)(hd:eU N ops=true:=by decide)(ht:F5 ops=true:=by decide +kernel):W P N n0 (.seq (.region id ops true) y) Q σ:=adZ hm hd ht h
theorem Da{id:Nat}{ops:Array Oper}(h:∀ K:St->Prop,(∀ s,Q .normal s->K s)->sL P ops ops.toList K σ)(hm:P.follows .mixedOrders=true:=by rfl)(hd:eU N ops=true:=by decide)(ht:F5 ops=true:=by decide +kernel):W P N n0 (.region id ops true) Q σ:=ad0 hm hd ht h
theorem ra{id:Nat}{ops:Array Oper}{y:Code}(h:∀ K:St->Prop,(∀ s,W P N n0 y Q s->K s)->sK P ops ops.toList K σ)(hm:P.follows .mixedOrders=true:=by rfl)(hd:eU N ops=true:=by decide)(ht:F4 ops=true:=by decide +kernel):W P N n0 (.seq (.region id ops true) y) Q σ:=adW hm hd ht h
theorem Db{id:Nat}{ops:Array Oper}(h:∀ K:St->Prop,(∀ s,Q .normal s->K s)->sK P ops ops.toList K σ)(hm:P.follows .mixedOrders=true:=by rfl)(hd:eU N ops=true:=by decide)(ht:F4 ops=true:=by decide +kernel):W P N n0 (.region id ops true) Q σ:=adX hm hd ht h
def Wk{x y:Code}(h:∀ Q':Exit->St->Prop,(∀ s,W P N n0 y Q s->Q' .normal s)->(∀ e s,uq e=false->Q e s->Q' e s)->W P N n0 x Q' σ):W P N n0 (.seq x y) Q σ :=
 W_k λQ' h1 h2=>h Q' h1 λe s he=>h2 e s (Gg he)
def Wb{id:Nat}{c:Code}(h:∀ Q':Exit->St->Prop,(∀ s,Q .normal s->Q' .normal s)->(∀ s,Q .normal s->Q' (.exit id) s)->(∀ e s,zI id e=false->Q e s->Q' e s)->W P N n0 c Q' σ):W P N n0 (.block id c) Q σ :=
 acy λQ' h1 h2 h3=>h Q' h1 h2 λe s he=>h3 e s (Kg he).1 (Kg he).2
theorem Wc{c:Operand}{x y:Code}{t:Bool}(ht:t=true->W P N n0 x Q σ)(hf:t=false->W P N n0 y Q σ)(hc:ev σ c=.lit (.bool t):=by(simp only[Go.Am.sM,Go.Am.Lc,↓reduceIte,Nat.reduceEqDiff,Nat.reduceBEq];exact rfl)):W P N n0 (.cond c x y) Q σ:=PZ hc ht hf
def aU{α:Type}{c:Code}(S:α->St)(I:α->Prop)(M:α->Nat)(x0:α)(hI:I x0)(h0:aF n0 σ (S x0))(round:∀ x,I x->∀ Q':Exit->St->Prop,(∀ s y,I y->M y<M x->aF n0 s (S y)->Q' .normal s)->(∀ e s,uq e=false->Q e s->Q' e s)->W P N n0 c Q' (S x)):W P N n0 (.loop c) Q σ :=
 acx S I M x0 hI h0 λx hx Q' h1 h2=>round x hx Q' h1 λe s he=>h2 e s (Gg he)
end Go.Am
namespace Go.Am
variable {P:Program} {N n0:Nat} {σ:St} {Q:Exit->St->Prop}
def aeK{K0:St->Prop}(n m:Nat){ops:Array Oper}(hd:eU N ops=true)(o o2:Oper)(ho:ops[n]?=some o)(c9:ops[n+1+m]?=some o2){os:List Ob}{γ0:Cx}{a:Act}{w:World}{R:Exit->Act->World->Prop}(ay:fq N os γ0 σ a w)(aeL:∀ σ' a' w',K0 σ'->fq N os γ0 σ' a' w'->R .normal a' w')(h:opsL P ops (ops.toList.take n) (sN P o (opsL P ops ((ops.toList.drop (n+1)).take m) (sN P o2 (opsL P ops (ops.toList.drop (n+1+m+1)) K0)))) σ):
  wpOps P ops R (bn ops.size) a w:=by
 have qg:n+1+m<ops.size:=(Array.getElem?_eq_some_iff.1 c9).1;have e:bn ops.size=lH 0 (ops.toList.take n).length++(n::(lH (n+1) ((ops.toList.drop (n+1)).take m).length++((n+1+m)::lH (n+1+m+1) (ops.toList.drop (n+1+m+1)).length))):=by
  rw[List.range_eq_range',<- uU];have h1:((ops.toList.drop (n+1)).take m).length=m:=NS;have h2:(ops.toList.take n).length=n:=NS;have h3:(ops.toList.drop (n+1+m+1)).length=ops.size-(n+1+m+1):=Iy;rw[h1,h2,h3];have a1:=EU (s:=n+1) (m:=m) (n:=ops.size-(n+1+m+1)+1) (step:=1);simp only[wz]at a1;rw[a1,<- uU];have a2:=EU (s:=0) (m:=n) (n:=m+(ops.size-(n+1+m+1)+1)+1) (step:=1);simp only[Nat.zero_add,wz]at a2;rw[a2];congr 1;omega
 rw[e];refine xQ _ a w ?_;refine qZ (nx hd) (K:=sN P o (opsL P ops ((ops.toList.drop (n+1)).take m) (sN P o2 (opsL P ops (ops.toList.drop (n+1+m+1)) K0)))) (λσ' a' w' hk cP=>?_) (ops.toList.take n) 0 σ a w (λk hk=>?_) h ay
 ·show wpOps P ops _ _ a' w';rw[wpOps_cons];unfold wpOp;simp only[ho];have hw:Region.wanted o (yielded ops a'.tmps)=true:=by simp[Region.wanted,hk.1]
  rw[if_pos hw];left;refine F6 hk cP (nx hd o (gk (by simpa using ho))) (λσ2 a2 w2 bd zD=>?_);refine xQ _ a2 w2 ?_;refine qZ (nx hd) (K:=sN P o2 (opsL P ops (ops.toList.drop (n+1+m+1)) K0)) (λσ' a' w' hk cP=>?_) ((ops.toList.drop (n+1)).take m) (n+1) σ2 a2 w2 (λk hk=>?_) bd zD
  ·show wpOps P ops _ _ a' w';rw[wpOps_cons];unfold wpOp;simp only[c9];have hw:Region.wanted o2 (yielded ops a'.tmps)=true:=by simp[Region.wanted,hk.1]
   rw[if_pos hw];left;refine F6 hk cP (nx hd o2 (gk (by simpa using c9))) (λσ2 a2 w2 bd zD=>?_);refine qZ (nx hd) (K:=K0) (λzE a3 w3 fU zF=>aeL zE a3 w3 fU zF) (ops.toList.drop (n+1+m+1)) (n+1+m+1) σ2 a2 w2 (λk hk=>?_) bd zD;rw[mI];simp
  ·simp only[e8,List.length_drop,qR]at hk;rw[ES Ix,mI];simp
 ·simp only[e8,qR]at hk;rw[ES Ix];simp
def aeM(n m:Nat){id:Nat}{ops:Array Oper}(hd:eU N ops=true)(o o2:Oper)(ho:ops[n]?=some o)(c9:ops[n+1+m]?=some o2)(h:∀ K:St->Prop,(∀ s,Q .normal s->K s)->opsL P ops (ops.toList.take n) (sN P o (opsL P ops ((ops.toList.drop (n+1)).take m) (sN P o2 (opsL P ops (ops.toList.drop (n+1+m+1)) K)))) σ):W P N n0 (.region id ops false) Q σ:=by
 intro os γ0 a w hn ay;refine wp_region ?_;exact aeK n m hd o o2 ho c9 ay (λzE a3 w3 fU zF=>⟨zE,fU,zF⟩) (h _ (λ_ h=>h))
end Go.Am
namespace Go.Am
variable {P:Program} {N n0:Nat} {σ:St} {Q:Exit->St->Prop}
class Head (p:Prop):Prop where
 on:True
section
variable {ops:Array Oper} {o:Oper} {l:List Oper} {K:St->Prop}
instance:Head (opsL P ops (o::l) K σ):=⟨trivial⟩
instance {qs:List Nat}{t:PT}:Head (jx P ops qs t K σ):=⟨trivial⟩
instance {qs:List Nat}{i:Nat}:Head (rj P ops qs i (o::l) K σ):=⟨trivial⟩
instance:Head (sK P ops (o::l) K σ):=⟨trivial⟩
instance:Head (sL P ops (o::l) K σ):=⟨trivial⟩
end
def gO{p:Prop}[Head p](h:p):p:=h
class Gi (p:Prop) (b:outParam Bool) (A B:outParam Prop):Prop where
 sp:(b=true->A)->(b=false->B)->p
instance {o:Oper}{K:St->Prop}{b want:Bool}:Gi (od P o K b want σ) b (od P o K true want σ) (od P o K false want σ):=⟨acY⟩
instance {q:Bool}{o:Oper}{K:St->Prop}{b want:Bool}:Gi (o5 q P o K b want σ) b (o5 q P o K true want σ) (o5 q P o K false want σ):=⟨acv⟩
def gS{p:Prop}{b:Bool}{A B:Prop}[h:Gi p b A B](h1:b=true->A)(h2:b=false->B):p:=h.sp h1 h2
def Gj:Code->Option Exit
 |.skip=>some .normal
 |.label _=>some .normal
 |.exit id=>some (.exit id)
 |.ret=>some .ret
 |_=>none
def Wz{c:Code}{e:Exit}(hc:Gj c=some e)(h:Q e σ):W P N n0 c Q σ:=by
 cases c<;>simp[Gj]at hc;all_goals subst hc
 all_goals first|exact PY h|exact acU h|exact acV h|exact acT h
def Gk(P:Program)(d:Bool)(ops:Array Oper):Bool:=!d||(P.follows .mixedOrders&&zd ops)
theorem rr{id:Nat}{ops:Array Oper}{d:Bool}{y:Code}(h:∀ K:St->Prop,(∀ s,W P N n0 y Q s->K s)->opsL P ops ops.toList K σ)(ht:Gk P d ops=true:=by decide +kernel)(hd:eU N ops=true:=by decide):W P N n0 (.seq (.region id ops d) y) Q σ:=by
 cases d
 ·exact rk h hd
 ·have h2:P.follows .mixedOrders=true/\zd ops=true:=by simpa [Gk] using ht
  exact rd h h2.1 hd h2.2
theorem rq{id:Nat}{ops:Array Oper}{d:Bool}(h:∀ K:St->Prop,(∀ s,Q .normal s->K s)->opsL P ops ops.toList K σ)(ht:Gk P d ops=true:=by decide +kernel)(hd:eU N ops=true:=by decide):W P N n0 (.region id ops d) Q σ:=by
 cases d
 ·exact Kh h hd
 ·have h2:P.follows .mixedOrders=true/\zd ops=true:=by simpa [Gk] using ht
  exact rde h h2.1 hd h2.2
class Dc (rows:List (List AV)) (sz:outParam Nat):Prop where
 wid:∀ row∈rows,row.length=sz
 cG:∀ row∈rows,∀ v∈row,(∃ x,v=AV.lit x)\/∃ s r,v=AV.tree s r
instance (xs:List Int):Dc (ints xs) 1:=⟨tY _,wN _⟩
instance (xs:List Bool):Dc (bm xs) 1:=⟨Fp _,I' _⟩
instance (xs:List (List Int)):Dc (fc xs) 1:=⟨acF _,acE _⟩
instance {α:Type}{enc:α->List AV}{sz:Nat}[Row enc sz](xs:List α):Dc (rowsOf enc xs) sz:=⟨ig _,my _⟩
theorem bw.fz{kp:Nat->Prop}{ρ:Nat->Nat}{id sz len:Nat}{rows:List (List AV)}[h:Dc rows sz](ho:σ.aa[id]?=some (.arr sz rows))(hl:len=rows.length)(r9:¬ kp id:=by first|exact kh (by decide)|decide):bw σ kp ρ true (.tree sz rows) (.ref id sz 0 len):=bw.cG ho h.wid hl r9 h.cG
theorem aF.se(aj:List Nat)(snap:Bool){l:List (Nat×AV)}{co:List Ob}(ho:oZ (bq σ.aa.length aj) σ.aa aj co)(h:sq (bw σ (kept aj co) (bq σ.aa.length aj) snap) σ.env l)(bU:aj.Nodup:=by decide)(hn:n0<=aj.length:=by decide)(bO:∀ i,i<n0->aj.getD i 0=i:=by decide):aF n0 σ ⟨Am.an l,co⟩:=aF.aj aj snap l co bU ho hn bO h
theorem aey(aj:List Nat)(snap:Bool){v res:AV}{a8:List Ob}(ho:oZ (bq σ.aa.length aj) σ.aa aj a8)(h:bw σ (kept aj a8) (bq σ.aa.length aj) snap res v)(bU:aj.Nodup:=by decide)(hn:n0<=aj.length:=by decide)(bO:∀ i,i<n0->aj.getD i 0=i:=by decide):nW n0 σ v res a8:=j1 aj snap bU ho hn bO h
end Go.Am
namespace Go.Am
def TB:dv []=.bu []:=rfl
def TC(a b:AV)(l:List AV):dv (a::b::l)=.bu (a::b::l):=rfl
end Go.Am
namespace Go.Am
variable {P:Program} {N n0:Nat} {σ:St}
inductive PF where
 |nil
 |take (i:Nat) (t:PF)
 |both (i:Nat) (t:PF) (j:Nat) (u:PF)
 |three (i:Nat) (t:PF) (j:Nat) (u:PF) (k:Nat) (v:PF)
 |four (i:Nat) (t:PF) (j:Nat) (u:PF) (k:Nat) (v:PF) (l:Nat) (w:PF)
def PF.ok(ops:Array Oper)(qs:List Nat):PF->Nat->Array Bool->Bool
 |.nil,n,aE=>n==0&&(Region.ready .any ops aE).isEmpty
 |.take _ _,0,_=>false
 |.take i t,n+1,aE=>Fb ops qs aE i (IX ops i)&&t.ok ops qs n (aE.setIfInBounds i true)
 |.both _ _ _ _,0,_=>false
 |.both i t j u,n+1,aE=>(Region.ready .any ops aE==[i,j])&&t.ok ops qs n (aE.setIfInBounds i true)&&u.ok ops qs n (aE.setIfInBounds j true)
 |.three _ _ _ _ _ _,0,_=>false
 |.three i t j u k v,n+1,aE=>(Region.ready .any ops aE==[i,j,k])&&t.ok ops qs n (aE.setIfInBounds i true)&&u.ok ops qs n (aE.setIfInBounds j true)&&v.ok ops qs n (aE.setIfInBounds k true)
 |.four _ _ _ _ _ _ _ _,0,_=>false
 |.four i t j u k v l w,n+1,aE=>(Region.ready .any ops aE==[i,j,k,l])&&t.ok ops qs n (aE.setIfInBounds i true)&&u.ok ops qs n (aE.setIfInBounds j true)&&v.ok ops qs n (aE.setIfInBounds k true)&&w.ok ops qs n (aE.setIfInBounds l true)
def jm(P:Program)(ops:Array Oper)(qs:List Nat):PF->(St->Prop)->St->Prop
 |.nil,K,σ=>K σ
 |.take i t,K,σ=>bZ P ops qs i (jm P ops qs t K) σ
 |.both i t j u,K,σ=>bZ P ops qs i (jm P ops qs t K) σ/\bZ P ops qs j (jm P ops qs u K) σ
 |.three i t j u k v,K,σ=>bZ P ops qs i (jm P ops qs t K) σ/\bZ P ops qs j (jm P ops qs u K) σ/\bZ P ops qs k (jm P ops qs v K) σ
 |.four i t j u k v l w,K,σ=>bZ P ops qs i (jm P ops qs t K) σ/\bZ P ops qs j (jm P ops qs u K) σ/\bZ P ops qs k (jm P ops qs v K) σ/\bZ P ops qs l (jm P ops qs w K) σ
def uu{ops:Array Oper}{qs:List Nat}{K:St->Prop}:∀ (t:PF) (n:Nat) (aE:Array Bool) (σ:St),t.ok ops qs n aE=true->jm P ops qs t K σ->tW P ops qs K n aE σ
 |.nil,n,aE,σ,h,hp=>by
  simp only[PF.ok,aZ,beq_iff_eq,List.isEmpty_iff]at h;obtain⟨rfl,h⟩:=h;exact⟨h,hp⟩
 |.take _ _,0,_,_,h,_=>by simp[PF.ok]at h
 |.take i t,n+1,aE,σ,h,hp=>by
  simp only[PF.ok,aZ]at h;exact Pg h.1 (mN (λs hs=>uu t n _ s h.2 hs) hp)
 |.both _ _ _ _,0,_,_,h,_=>by simp[PF.ok]at h
 |.both i t j u,n+1,aE,σ,h,hp=>by
  simp only[PF.ok,aZ,beq_iff_eq]at h;obtain⟨⟨h1,h2⟩,h3⟩:=h;refine⟨λe=>by rw[h1]at e;simp at e,λk hk=>?_⟩;rw[h1]at hk;simp only[bj,gU,or_false]at hk;rcases hk with rfl|rfl
  ·exact mN (λs hs=>uu t n _ s h2 hs) hp.1
  ·exact mN (λs hs=>uu u n _ s h3 hs) hp.2
 |.three _ _ _ _ _ _,0,_,_,h,_=>by simp[PF.ok]at h
 |.three i t j u k v,n+1,aE,σ,h,hp=>by
  simp only[PF.ok,aZ,beq_iff_eq]at h;obtain⟨⟨⟨h1,h2⟩,h3⟩,h4⟩:=h;refine⟨λe=>by rw[h1]at e;simp at e,λx hk=>?_⟩;rw[h1]at hk;simp only[bj,gU,or_false]at hk;rcases hk with rfl|rfl|rfl
  ·exact mN (λs hs=>uu t n _ s h2 hs) hp.1
  ·exact mN (λs hs=>uu u n _ s h3 hs) hp.2.1
  ·exact mN (λs hs=>uu v n _ s h4 hs) hp.2.2
 |.four _ _ _ _ _ _ _ _,0,_,_,h,_=>by simp[PF.ok]at h
 |.four i t j u k v l w,n+1,aE,σ,h,hp=>by
  simp only[PF.ok,aZ,beq_iff_eq]at h;obtain⟨⟨⟨⟨h1,h2⟩,h3⟩,h4⟩,h5⟩:=h;refine⟨λe=>by rw[h1]at e;simp at e,λx hk=>?_⟩;rw[h1]at hk;simp only[bj,gU,or_false]at hk;rcases hk with rfl|rfl|rfl|rfl
  ·exact mN (λs hs=>uu t n _ s h2 hs) hp.1
  ·exact mN (λs hs=>uu u n _ s h3 hs) hp.2.1
  ·exact mN (λs hs=>uu v n _ s h4 hs) hp.2.2.1
  ·exact mN (λs hs=>uu w n _ s h5 hs) hp.2.2.2
def aeN{id:Nat}{ops:Array Oper}{Q:Exit->St->Prop}(qs:List Nat)(t:PF)(hm:P.follows .mixedOrders=true)(hd:eU N ops=true)(ht:t.ok ops qs ops.size (Array.replicate ops.size false)=true)(h:jm P ops qs t (Q .normal) σ):W P N n0 (.region id ops true) Q σ :=
 Pe qs hm hd (uu t _ _ σ ht h)
section
variable {ops:Array Oper} {qs:List Nat} {K:St->Prop} {i j k l:Nat} {t u v w:PF}
def sU:jm P ops qs .nil K σ=K σ:=rfl
def uv:jm P ops qs (.take i t) K σ=bZ P ops qs i (jm P ops qs t K) σ:=rfl
def uw:jm P ops qs (.both i t j u) K σ=(bZ P ops qs i (jm P ops qs t K) σ/\bZ P ops qs j (jm P ops qs u K) σ):=rfl
def ux:jm P ops qs (.three i t j u k v) K σ=(bZ P ops qs i (jm P ops qs t K) σ/\bZ P ops qs j (jm P ops qs u K) σ/\bZ P ops qs k (jm P ops qs v K) σ):=rfl
def uy:jm P ops qs (.four i t j u k v l w) K σ=(bZ P ops qs i (jm P ops qs t K) σ/\bZ P ops qs j (jm P ops qs u K) σ/\bZ P ops qs k (jm P ops qs v K) σ/\bZ P ops qs l (jm P ops qs w K) σ):=rfl
end
end Go.Am

