import Derived.Test.YtodilglobhifaaaDoorX33
import Derived.Test.YtodilglobhifaaaDoorX24
set_option linter.all false
set_option maxHeartbeats 0
set_option maxRecDepth 20000
open List renaming mem_append→bn,mem_map→bS,getElem?_eq_some_iff→aF,mem_iff_getElem→lJ,getElem?_set_ne→cV,mem_cons→cI,map_cons→km,cons_append→kR,nodup_cons→sL,map_nil→pG,getElem?_cons_succ→sH,getD_cons_succ→fJ,getElem?_map→bR,getD_eq_getElem?_getD→an,getElem?_eq_getElem→aN,getElem?_cons_zero→nh,getElem?_eq_none→gI
open Option renaming some→cB,map_some→fV
open Go Go.Am Go.Proofs
namespace T
def CV(q:Nat×Nat):List AV:=[.ref q.1 1 0 q.2]
structure dE(B:List (Nat×Ob))(D:List (Nat×Nat))(S:List (List Bool))(os:List Ob):Prop where
 base:∀ b∈B,os[b.1]?=some b.2
 len:D.length=S.length
 row:∀ j,j<D.length->os[(D.getD j default).1]?=some (.arr 1 (bP (S.getD j default)))/\(S.getD j default).length=(D.getD j default).2
 nd:(B.map (·.1)++D.map (·.1)).Nodup
section
variable {B:List (Nat×Ob)} {D:List (Nat×Nat)} {S:List (List Bool)} {os:List Ob}
def dE.app(h:dE B D S os)(l:List Ob):dE B D S (os++l):=⟨λb hb=>aA (h.base b hb) l,h.len,λj hj=>⟨aA (h.row j hj).1 l,(h.row j hj).2⟩,h.nd⟩
def dE.fresh(h:dE B D S os){p:Nat}(hp:os.length<=p):p ∉ B.map (·.1)++D.map (·.1):=λhh=>by
 rw[bn]at hh;rcases hh with hh|hh
 ·obtain⟨q,hq,rfl⟩:=bS.1 hh;have:=(aF.1 (h.base q hq)).1;omega
 ·obtain⟨q,hq,rfl⟩:=bS.1 hh;obtain⟨k,hk,rfl⟩:=lJ.1 hq;have h1:=(h.row k hk).1;have a1:D.getD k default=D[k]:=by simp[hk]
  rw[a1]at h1;have:=(aF.1 h1).1;omega
def dE.other(h:dE B D S os){i:Nat}(hi:i ∉ B.map (·.1)++D.map (·.1))(y:Ob):dE B D S (os.set i y):=by
 rw[bn,not_or]at hi;refine⟨λb hb=>?_,h.len,λk hk=>⟨?_,(h.row k hk).2⟩,h.nd⟩
 ·rw[cV (λe=>hi.1 (bS.2 ⟨b,hb,e.symm⟩))];exact h.base b hb
 ·rw[cV (λe=>hi.2 (bS.2 ⟨D.getD k default,aO hk,e.symm⟩))];exact(h.row k hk).1
def dE.add(h:dE B D S os){k:Nat}{x:Ob}(hk:os[k]?=some x)(hf:k ∉ B.map (·.1)++D.map (·.1)):dE ((k,x)::B) D S os :=
 ⟨λb hb=>by rcases cI.1 hb with rfl|hb;exact hk;exact h.base b hb,h.len,h.row,by
  rw[km,kR,sL];exact⟨hf,h.nd⟩⟩
def dE.b0{a:Nat×Ob}(h:dE (a::B) D S os):os[a.1]?=some a.2:=h.base a Eb
def dE.b1{a b:Nat×Ob}(h:dE (a::b::B) D S os):os[b.1]?=some b.2:=h.base b Eb
def dE.b2{a b c:Nat×Ob}(h:dE (a::b::c::B) D S os):os[c.1]?=some c.2:=h.base c Eb
def dE.b3{a b c d:Nat×Ob}(h:dE (a::b::c::d::B) D S os):os[d.1]?=some d.2:=h.base d Eb
def dE.start(x y:Ob):dE [(0,x),(2,.arr 1 []),(1,y)] [] [] [x,y,.arr 1 []]:=⟨Eb,rfl,Eb,(show([0,2,1]:List Nat).Nodup by decide)⟩
def dE.put{i:Nat}{x:Ob}(h:dE ((i,x)::B) D S os)(y:Ob):dE ((i,y)::B) D S (os.set i y):=by
 have hn:=h.nd;rw[km,kR,sL]at hn;have hx:=h.base (i,x) Eb;have h2:dE B D S os:=⟨λb hb=>h.base b (by simp[hb]),h.len,h.row,hn.2⟩;exact(h2.other hn.1 y).add (g6 hx) hn.1
def dE.drop{i:Nat}{x:Ob}(h:dE ((i,x)::B) D S os):dE B D S os/\i ∉ B.map (·.1)++D.map (·.1):=by
 have hn:=h.nd;rw[km,kR,sL]at hn;exact⟨⟨λb hb=>h.base b (by simp[hb]),h.len,h.row,hn.2⟩,hn.1⟩
def dE.snoc{p:Nat}{r:List Bool}(h:dE ((p,.arr 1 (bP r))::B) D S os):dE B (D++[(p,r.length)]) (S++[r]) os:=by
 obtain⟨h2,hf⟩:=h.drop;have hp:=h.base (p,.arr 1 (bP r)) Eb;refine⟨h2.base,by simp[h2.len],λj hj=>?_,?_⟩
 ·rw[yY,yY,<- h2.len];by_cases h1:j<D.length
  ·rw[if_pos h1,if_pos h1];exact h2.row j h1
  ·have:j=D.length:=by simp at hj;omega
   rw[if_neg h1,if_neg h1,if_pos this,if_pos this];exact⟨hp,rfl⟩
 ·rw[List.map_append,<- List.append_assoc,List.nodup_append];refine⟨h2.nd,Eb,λa ha b hb=>?_⟩;simp only[km,pG,List.mem_singleton]at hb;subst hb;exact λe=>hf (e▸ha)
end
def ub(p:Nat):List (List Bool)->List (List AV)
 |[]=>[]
 |r::t=>[.ref p 1 0 r.length]::ub (p+1) t
def CW(S:List (List Bool)):List Ob:=S.map λr=>.arr 1 (bP r)
def KF(S:List (List Bool)):(CW S).length=S.length:=List.length_map _
def KG:∀ (p:Nat) (S:List (List Bool)),(ub p S).length=S.length
 |_,[]=>rfl
 |p,r::t=>by simp only[ub,List.length_cons,KG (p+1) t]
def KH:∀ (p:Nat) (S:List (List Bool)) (j:Nat),j<S.length->(ub p S)[j]?=some [.ref (p+j) 1 0 (S.getD j default).length]
 |_,[],j,h=>by simp at h
 |p,r::t,0,h=>rfl
 |p,r::t,j+1,h=>by
  rw[ub,sH,KH (p+1) t j (by simpa using h)];rw[show p+1+j=p+(j+1) by omega,fJ]
def Q7{B:List (Nat×Ob)}{D:List (Nat×Nat)}{S:List (List Bool)}{os:List Ob}(h:dE B D S os){j:Nat}(hj:j<S.length):(rowsOf CV D)[j]?=some [.ref (D.getD j default).1 1 0 (S.getD j default).length]:=by
 have hd:=h.len;have h2:=(h.row j z8).2;rw[h2];unfold rowsOf;rw[bR,an,aN z8];rfl
def dE.ret{D:List (Nat×Nat)}{S:List (List Bool)}{os:List Ob}{x:Ob}{oi:Nat}(h:dE [(0,x),(oi,.arr 1 (rowsOf CV D))] D S os)(hx:∀ ρ,bf ρ x=x)(hg:x≠.gone)(e:Nat->AV):
  jV 1 ⟨e,os⟩ (.ref oi 1 0 S.length) (.ref 1 1 0 S.length) (x::.arr 1 (ub 2 S)::CW S):=by
 have hd:=h.len;have h0:=h.base (0,x) Eb;have h1:=h.base (oi,.arr 1 (rowsOf CV D)) Eb;dsimp only at h0 h1;have hl:∀ i∈0::oi::D.map (·.1),i<os.length:=λi hi=>by
  rcases cI.1 hi with rfl|hi
  ·exact(aF.1 h0).1
  rcases cI.1 hi with rfl|hi
  ·exact(aF.1 h1).1
  obtain⟨q,hq,rfl⟩:=bS.1 hi;obtain⟨k,hk,rfl⟩:=lJ.1 hq;have h3:=(h.row k hk).1;have a1:D.getD k default=D[k]:=by simp[hk]
  rw[a1]at h3;exact(aF.1 h3).1
 have Q8:∀ j,j<S.length->a9 os.length (0::oi::D.map (·.1)) (2+j)=(D.getD j default).1:=λj hj=>by
  unfold a9;rw[if_pos UU,show 2+j=j+1+1 by omega,fJ,fJ,an,bR,an,aN z8];rfl
 refine⟨0::oi::D.map (·.1),false,by simpa using h.nd,by simp[KF,hd],λj o hj=>.inr ?_,hl,Eb,λi hi=>?_,.eq ?_⟩
 ·match j with
  |0 =>
   simp only[nh,cB.injEq]at hj;subst hj;rw[hx];exact h0
  |1 =>
   simp only[sH,nh,cB.injEq]at hj;subst hj;refine h1.trans (congrArg some ?_);rw[bf];refine congrArg _ (List.ext_getElem? λi=>?_);rw[bR];by_cases hi:i<S.length
   ·rw[Q7 h hi,KH 2 S i hi,fV,km,pG,aG,Q8 i hi]
   ·rw[gI (by simp[rowsOf];omega),gI (by rw[KG];omega)];rfl
  |j+2 =>
   simp only[sH]at hj;have eE:j<S.length:=by have:=(aF.1 hj).1;rwa [KF]at this
   have h3:=(h.row j z8).1;unfold CW at hj;rw[bR,aN eE]at hj;simp only[fV,cB.injEq]at hj;subst hj;rw[s8];have e1:(0::oi::D.map (·.1)).getD (j+2) 0=(D.getD j default).1:=by
    rw[fJ,fJ,an,bR,an,aN z8];rfl
   have e2:S.getD j default=S[j]:=by rw[an,aN eE];rfl
   rw[e1,<- e2];exact h3
 ·have:i=0:=z8;subst this;rfl
 ·rw[aG];have:a9 os.length (0::oi::D.map (·.1)) 1=oi:=by unfold a9;rw[if_pos Eb];rfl
  rw[this]
end T

