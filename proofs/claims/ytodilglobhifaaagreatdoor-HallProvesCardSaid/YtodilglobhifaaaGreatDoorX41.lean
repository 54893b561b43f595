import Derived.Test.YtodilglobhifaaaGreatDoorX19
set_option linter.all false
set_option maxHeartbeats 0
set_option maxRecDepth 20000
open List renaming mem_append→bE,mem_map→cF,getElem?_eq_some_iff→aN,mem_iff_getElem→n6,getElem?_set_ne→dz,mem_cons→cI,map_cons→lg,cons_append→ew,nodup_cons→vo,map_nil→sB,mem_singleton→bK,getElem?_cons_succ→vj,getD_cons_succ→gY,getElem?_map→cm,getD_eq_getElem?_getD→ax,getElem?_eq_getElem→aT,getElem?_cons_zero→qV,ext_getElem?→pR,getElem?_eq_none→fO,length→E6,getElem?_set→bT
open Option renaming some→cL,map_some→fN
open Go Go.Am
namespace T
def Iu(q:Nat×Nat):List AV:=[.ref q.1 1 0 q.2]
structure ei(B:List (Nat×Ob))(D:List (Nat×Nat))(S:List (List Bool))(os:List Ob):Prop where
 base:∀ b∈B,os[b.1]?=some b.2
 len:D.length=S.length
 row:∀ j,j<D.length->os[(D.getD j default).1]?=some (.arr 1 (b8 (S.getD j default)))/\(S.getD j default).length=(D.getD j default).2
 nd:(B.map (·.1)++D.map (·.1)).Nodup
section
variable {B:List (Nat×Ob)} {D:List (Nat×Nat)} {S:List (List Bool)} {os:List Ob}
def ei.app(h:ei B D S os)(l:List Ob):ei B D S (os++l):=⟨λb hb=>aA (h.base b hb) l,h.len,λj hj=>⟨aA (h.row j hj).1 l,(h.row j hj).2⟩,h.nd⟩
def ei.fresh(h:ei B D S os){p:Nat}(hp:os.length<=p):p ∉ B.map (·.1)++D.map (·.1):=λhh=>by
 rw[bE]at hh;rcases hh with hh|hh
 ·obtain⟨q,hq,rfl⟩:=cF.1 hh;have:=(aN.1 (h.base q hq)).1;omega
 ·obtain⟨q,hq,rfl⟩:=cF.1 hh;obtain⟨k,hk,rfl⟩:=n6.1 hq;have h1:=(h.row k hk).1;have a1:D.getD k default=D[k]:=by simp[hk]
  rw[a1]at h1;have:=(aN.1 h1).1;omega
def ei.other(h:ei B D S os){i:Nat}(hi:i ∉ B.map (·.1)++D.map (·.1))(y:Ob):ei B D S (os.set i y):=by
 rw[bE,not_or]at hi;refine⟨λb hb=>?_,h.len,λk hk=>⟨?_,(h.row k hk).2⟩,h.nd⟩
 ·rw[dz (λe=>hi.1 (cF.2 ⟨b,hb,e.symm⟩))];exact h.base b hb
 ·rw[dz (λe=>hi.2 (cF.2 ⟨D.getD k default,aF hk,e.symm⟩))];exact(h.row k hk).1
def ei.add(h:ei B D S os){k:Nat}{x:Ob}(hk:os[k]?=some x)(hf:k ∉ B.map (·.1)++D.map (·.1)):ei ((k,x)::B) D S os :=
 ⟨λb hb=>by rcases cI.1 hb with rfl|hb;exact hk;exact h.base b hb,h.len,h.row,by
  rw[lg,ew,vo];exact⟨hf,h.nd⟩⟩
def ei.b0{a:Nat×Ob}(h:ei (a::B) D S os):os[a.1]?=some a.2:=h.base a Jy
def ei.b1{a b:Nat×Ob}(h:ei (a::b::B) D S os):os[b.1]?=some b.2:=h.base b Jy
def ei.b2{a b c:Nat×Ob}(h:ei (a::b::c::B) D S os):os[c.1]?=some c.2:=h.base c Jy
def ei.b3{a b c d:Nat×Ob}(h:ei (a::b::c::d::B) D S os):os[d.1]?=some d.2:=h.base d Jy
def ei.start(x y:Ob):ei [(0,x),(2,.arr 1 []),(1,y)] [] [] [x,y,.arr 1 []]:=⟨Jy,rfl,Jy,(show([0,2,1]:List Nat).Nodup by decide)⟩
def ei.put{i:Nat}{x:Ob}(h:ei ((i,x)::B) D S os)(y:Ob):ei ((i,y)::B) D S (os.set i y):=by
 have hn:=h.nd;rw[lg,ew,vo]at hn;have hx:=h.base (i,x) Jy;have h2:ei B D S os:=⟨λb hb=>h.base b (by simp[hb]),h.len,h.row,hn.2⟩;exact(h2.other hn.1 y).add (jI hx) hn.1
def ei.drop{i:Nat}{x:Ob}(h:ei ((i,x)::B) D S os):ei B D S os/\i ∉ B.map (·.1)++D.map (·.1):=by
 have hn:=h.nd;rw[lg,ew,vo]at hn;exact⟨⟨λb hb=>h.base b (by simp[hb]),h.len,h.row,hn.2⟩,hn.1⟩
def ei.swap{a b:Nat×Ob}(h:ei (a::b::B) D S os):ei (b::a::B) D S os :=
 ⟨λc hc=>h.base c (by simp only[cI]at hc ⊢;rcases hc with hc|hc|hc<;>simp[hc]),h.len,h.row,by
  have:=h.nd;simp only[lg,ew,vo,cI,not_or]at this ⊢;exact⟨⟨Ne.symm this.1.1,this.2.1⟩,this.1.2,this.2.2⟩⟩
def ei.snoc{p:Nat}{r:List Bool}(h:ei ((p,.arr 1 (b8 r))::B) D S os):ei B (D++[(p,r.length)]) (S++[r]) os:=by
 obtain⟨h2,hf⟩:=h.drop;have hp:=h.base (p,.arr 1 (b8 r)) Jy;refine⟨h2.base,by simp[h2.len],λj hj=>?_,?_⟩
 ·rw[Df,Df,<- h2.len];by_cases h1:j<D.length
  ·rw[if_pos h1,if_pos h1];exact h2.row j h1
  ·have:j=D.length:=by simp at hj;omega
   rw[if_neg h1,if_neg h1,if_pos this,if_pos this];exact⟨hp,rfl⟩
 ·rw[List.map_append,<- List.append_assoc,List.nodup_append];refine⟨h2.nd,Jy,λa ha b hb=>?_⟩;simp only[lg,sB,bK]at hb;subst hb;exact λe=>hf (e▸ha)
end
def yo(p:Nat):List (List Bool)->List (List AV)
 |[]=>[]
 |r::t=>[.ref p 1 0 r.length]::yo (p+1) t
def Iv(S:List (List Bool)):List Ob:=S.map λr=>.arr 1 (b8 r)
def Tx(S:List (List Bool)):(Iv S).length=S.length:=List.length_map _
def Tz:∀ (p:Nat) (S:List (List Bool)),(yo p S).length=S.length
 |_,[]=>rfl
 |p,r::t=>by simp only[yo,List.length_cons,Tz (p+1) t]
def TA:∀ (p:Nat) (S:List (List Bool)) (j:Nat),j<S.length->(yo p S)[j]?=some [.ref (p+j) 1 0 (S.getD j default).length]
 |_,[],j,h=>by simp at h
 |p,r::t,0,h=>rfl
 |p,r::t,j+1,h=>by
  rw[yo,vj,TA (p+1) t j (by simpa using h)];rw[show p+1+j=p+(j+1) by omega,gY]
def abM{B:List (Nat×Ob)}{D:List (Nat×Nat)}{S:List (List Bool)}{os:List Ob}(h:ei B D S os){j:Nat}(hj:j<S.length):(rowsOf Iu D)[j]?=some [.ref (D.getD j default).1 1 0 (S.getD j default).length]:=by
 have hd:=h.len;have h2:=(h.row j Bv).2;rw[h2];unfold rowsOf;rw[cm,ax,aT Bv];rfl
def ei.ret{D:List (Nat×Nat)}{S:List (List Bool)}{os:List Ob}{x:Ob}{oi:Nat}(h:ei [(0,x),(oi,.arr 1 (rowsOf Iu D))] D S os)(hx:∀ ρ,bD ρ x=x)(hg:x≠.gone)(e:Nat->AV):
  mK 1 ⟨e,os⟩ (.ref oi 1 0 S.length) (.ref 1 1 0 S.length) (x::.arr 1 (yo 2 S)::Iv S):=by
 have hd:=h.len;have h0:=h.base (0,x) Jy;have h1:=h.base (oi,.arr 1 (rowsOf Iu D)) Jy;dsimp only at h0 h1;have hl:∀ i∈0::oi::D.map (·.1),i<os.length:=λi hi=>by
  rcases cI.1 hi with rfl|hi
  ·exact(aN.1 h0).1
  rcases cI.1 hi with rfl|hi
  ·exact(aN.1 h1).1
  obtain⟨q,hq,rfl⟩:=cF.1 hi;obtain⟨k,hk,rfl⟩:=n6.1 hq;have h3:=(h.row k hk).1;have a1:D.getD k default=D[k]:=by simp[hk]
  rw[a1]at h3;exact(aN.1 h3).1
 have abN:∀ j,j<S.length->bu os.length (0::oi::D.map (·.1)) (2+j)=(D.getD j default).1:=λj hj=>by
  unfold bu;rw[if_pos aak,show 2+j=j+1+1 by omega,gY,gY,ax,cm,ax,aT Bv];rfl
 refine⟨0::oi::D.map (·.1),false,by simpa using h.nd,by simp[Tx,hd],λj o hj=>.inr ?_,hl,Jy,λi hi=>?_,.eq ?_⟩
 ·match j with
  |0 =>
   simp only[qV,cL.injEq]at hj;subst hj;rw[hx];exact h0
  |1 =>
   simp only[vj,qV,cL.injEq]at hj;subst hj;refine h1.trans (congrArg some ?_);rw[bD];refine congrArg _ (pR λi=>?_);rw[cm];by_cases hi:i<S.length
   ·rw[abM h hi,TA 2 S i hi,fN,lg,sB,aU,abN i hi]
   ·rw[fO (by simp[rowsOf];omega),fO (by rw[Tz];omega)];rfl
  |j+2 =>
   simp only[vj]at hj;have fF:j<S.length:=by have:=(aN.1 hj).1;rwa [Tx]at this
   have h3:=(h.row j Bv).1;unfold Iv at hj;rw[cm,aT fF]at hj;simp only[fN,cL.injEq]at hj;subst hj;rw[zm];have e1:(0::oi::D.map (·.1)).getD (j+2) 0=(D.getD j default).1:=by
    rw[gY,gY,ax,cm,ax,aT Bv];rfl
   have e2:S.getD j default=S[j]:=by rw[ax,aT fF];rfl
   rw[e1,<- e2];exact h3
 ·have:i=0:=Bv;subst this;rfl
 ·rw[aU];have:bu os.length (0::oi::D.map (·.1)) 1=oi:=by unfold bu;rw[if_pos Jy];rfl
  rw[this]
def nI.Iw{R:AV->AV->Prop}{f:Nat->List AV}{g:Nat->List AV}:∀ {cs ds:List (List AV)},cs.length=ds.length->(∀ (j:Nat) c d,cs[j]?=some c->ds[j]?=some d->kJ R c d)->nI R cs ds
 |[],[],_,_=>trivial
 |[],_::_,h,_=>by simp at h
 |_::_,[],h,_=>by simp at h
 |c::cs,d::ds,h,k=>⟨k 0 c d rfl rfl,nI.Iw (f:=f) (g:=g) (by simpa using h) λj c d hc hd=>k (j+1) c d (by simpa using hc) (by simpa using hd)⟩
def abO{σ:St}{kp:Nat->Prop}{id:Nat}{bs:List Bool}(ho:σ.aa[id]?=some (.arr 1 (b8 bs)))(hk:¬ kp id):df σ kp (.tree 1 (b8 bs)) (.ref id 1 0 bs.length) :=
 df.mk ho (by simp[b8]) hk (Nu _) (nI.Iw (f:=λ_=>[]) (g:=λ_=>[]) rfl λj c d hc hd=>by
  rw[hc]at hd;cases hd;unfold b8 at hc;rw[cm]at hc;cases hb:bs[j]? with
  |none=>rw[hb]at hc;cases hc
  |some b=>rw[hb]at hc;simp only[fN,cL.injEq]at hc;subst hc;exact⟨.lit _,trivial⟩)
def AY(w o:Nat):List Bool:=(List.replicate w false).set o true
def wx(left:List (List Bool))(c o:Nat):List (List Bool):=left.set c (AY (left.getD c default).length o)
def TB(w o:Nat):(AY w o).length=w:=by simp[AY]
def aaT(left:List (List Bool))(c o:Nat):(wx left c o).map E6=left.map E6:=by
 unfold wx;apply pR;intro j;rw[cm,cm,bT];split
 ·rename_i e;subst e;split
  ·rename_i h2;rw[aT h2];simp[TB,h2]
  ·rename_i h2;rw[fO Bv]
 ·rfl
def abP{σ:St}{kp:Nat->Prop}{c d:List AV}(h:∀ v∈c,(∃ x,v=AV.lit x)\/∃ s r,v=AV.tree s r)(e:d=c):kJ (df σ kp) c d:=by
 subst e
 induction d with
 |nil=>trivial
 |cons v l ih =>
  refine⟨?_,ih λx hx=>h x (by simp[hx])⟩;rcases h v Jy with⟨x,rfl⟩|⟨s,r,rfl⟩
  ·exact .lit _
  ·exact .tree _ _
def abQ{σ:St}{kp:Nat->Prop}{oi k c:Nat}{left:List (List Bool)}{r:List Bool}(hc:c<left.length)(ho:σ.aa[oi]?=some (.arr 1 ((rowsOf bl left).set c [.ref k 1 0 r.length])))(hk:¬ kp oi)(hr:σ.aa[k]?=some (.arr 1 (b8 r)))(l9:¬ kp k):
  df σ kp (.tree 1 (rowsOf bl (left.set c r))) (.ref oi 1 0 left.length) :=
 df.mk ho (by simp[rowsOf]) hk (nD _) (nI.Iw (f:=λ_=>[]) (g:=λ_=>[]) (by simp[rowsOf]) λj x d hx hd=>by
  unfold rowsOf at hx hd;rw[cm,bT]at hx;rw[bT]at hd;by_cases e:c=j
  ·subst e;rw[if_pos rfl,if_pos hc]at hx;rw[if_pos rfl,if_pos (by simpa using hc)]at hd;cases hx;cases hd;exact⟨abO hr l9,trivial⟩
  ·rw[if_neg e]at hx hd;rw[cm]at hd;rw[hx]at hd;simp only[cL.injEq]at hd;cases hl:left[j]? with
   |none=>rw[hl]at hx;cases hx
   |some y =>
    rw[hl]at hx;simp only[fN,cL.injEq]at hx;subst hx;exact abP (λv hv=>by simp only[bl,bK]at hv;exact .inr ⟨_,_,hv⟩) hd.symm)
end T

