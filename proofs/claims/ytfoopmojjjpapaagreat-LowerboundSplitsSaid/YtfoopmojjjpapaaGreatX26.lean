import Derived.Test.YtfoopmojjjpapaaGreatX20
set_option linter.all false
set_option maxHeartbeats 0
set_option maxRecDepth 20000
open List renaming mem_append→cG,mem_map→bY,getElem?_eq_some_iff→aY,mem_iff_getElem→wU,getElem?_set_ne→gT,mem_cons→bu,map_cons→ez,cons_append→dw,nodup_cons→nC,nodup_append→pE,map_nil→oP,mem_singleton→cS,getElem?_cons_succ→vB,getD_cons_succ→gB,length→nF,getElem?_map→bM,getD_eq_getElem?_getD→ay,getElem?_eq_getElem→bx,getElem?_cons_zero→wZ,ext_getElem?→lq,getElem?_eq_none→dN,set_cons_succ→rG,getElem?_set→bU
open Nat renaming add_zero→jK
open Option renaming some→cH,map_some→fc
open Go Go.Am
namespace T
def nu(q:Nat×Nat):List AV:=[.ref q.1 1 0 q.2]
def acf(D:List (Nat×Nat))(p n:Nat):rowsOf nu D++[[AV.ref p 1 0 n]]=rowsOf nu (D++[(p,n)]):=by simp[rowsOf,nu]
structure dI(B:List (Nat×Ob))(D:List (Nat×Nat))(S:List (List Bool))(os:List Ob):Prop where
 base:∀ b∈B,os[b.1]?=some b.2
 len:D.length=S.length
 row:∀ j,j<D.length->os[(D.getD j default).1]?=some (.arr 1 (aV (S.getD j default)))/\(S.getD j default).length=(D.getD j default).2
 nd:(B.map (·.1)++D.map (·.1)).Nodup
section
variable {B:List (Nat×Ob)} {D:List (Nat×Nat)} {S:List (List Bool)} {os:List Ob}
def dI.app(h:dI B D S os)(l:List Ob):dI B D S (os++l):=⟨λb hb=>aR (h.base b hb) l,h.len,λj hj=>⟨aR (h.row j hj).1 l,(h.row j hj).2⟩,h.nd⟩
def dI.fresh(h:dI B D S os){p:Nat}(hp:os.length<=p):p ∉ B.map (·.1)++D.map (·.1):=λhh=>by
 rw[cG]at hh;rcases hh with hh|hh
 ·obtain⟨q,hq,rfl⟩:=bY.1 hh;have:=(aY.1 (h.base q hq)).1;omega
 ·obtain⟨q,hq,rfl⟩:=bY.1 hh;obtain⟨k,hk,rfl⟩:=wU.1 hq;have h1:=(h.row k hk).1;have a1:D.getD k default=D[k]:=by simp[hk]
  rw[a1]at h1;have:=(aY.1 h1).1;omega
def dI.other(h:dI B D S os){i:Nat}(hi:i ∉ B.map (·.1)++D.map (·.1))(y:Ob):dI B D S (os.set i y):=by
 rw[cG,not_or]at hi;refine⟨λb hb=>?_,h.len,λk hk=>⟨?_,(h.row k hk).2⟩,h.nd⟩
 ·rw[gT (λe=>hi.1 (bY.2 ⟨b,hb,e.symm⟩))];exact h.base b hb
 ·rw[gT (λe=>hi.2 (bY.2 ⟨D.getD k default,aF hk,e.symm⟩))];exact(h.row k hk).1
def dI.add(h:dI B D S os){k:Nat}{x:Ob}(hk:os[k]?=some x)(hf:k ∉ B.map (·.1)++D.map (·.1)):dI ((k,x)::B) D S os :=
 ⟨λb hb=>by rcases bu.1 hb with rfl|hb;exact hk;exact h.base b hb,h.len,h.row,by
  rw[ez,dw,nC];exact⟨hf,h.nd⟩⟩
def dI.b0{a:Nat×Ob}(h:dI (a::B) D S os):os[a.1]?=some a.2:=h.base a G9
def dI.b1{a b:Nat×Ob}(h:dI (a::b::B) D S os):os[b.1]?=some b.2:=h.base b G9
def dI.b2{a b c:Nat×Ob}(h:dI (a::b::c::B) D S os):os[c.1]?=some c.2:=h.base c G9
def dI.b3{a b c d:Nat×Ob}(h:dI (a::b::c::d::B) D S os):os[d.1]?=some d.2:=h.base d G9
def dI.start(x y:Ob):dI [(0,x),(2,.arr 1 []),(1,y)] [] [] [x,y,.arr 1 []]:=⟨G9,rfl,G9,(show([0,2,1]:List Nat).Nodup by decide)⟩
def dI.put{i:Nat}{x:Ob}(h:dI ((i,x)::B) D S os)(y:Ob):dI ((i,y)::B) D S (os.set i y):=by
 have hn:=h.nd;rw[ez,dw,nC]at hn;have hx:=h.base (i,x) G9;have h2:dI B D S os:=⟨λb hb=>h.base b (by simp[hb]),h.len,h.row,hn.2⟩;exact(h2.other hn.1 y).add (nr hx) hn.1
def dI.drop{i:Nat}{x:Ob}(h:dI ((i,x)::B) D S os):dI B D S os/\i ∉ B.map (·.1)++D.map (·.1):=by
 have hn:=h.nd;rw[ez,dw,nC]at hn;exact⟨⟨λb hb=>h.base b (by simp[hb]),h.len,h.row,hn.2⟩,hn.1⟩
def dI.swap{a b:Nat×Ob}(h:dI (a::b::B) D S os):dI (b::a::B) D S os :=
 ⟨λc hc=>h.base c (by simp only[bu]at hc ⊢;rcases hc with hc|hc|hc<;>simp[hc]),h.len,h.row,by
  have:=h.nd;simp only[ez,dw,nC,bu,not_or]at this ⊢;exact⟨⟨Ne.symm this.1.1,this.2.1⟩,this.1.2,this.2.2⟩⟩
def dI.snoc{p:Nat}{r:List Bool}(h:dI ((p,.arr 1 (aV r))::B) D S os):dI B (D++[(p,r.length)]) (S++[r]) os:=by
 obtain⟨h2,hf⟩:=h.drop;have hp:=h.base (p,.arr 1 (aV r)) G9;refine⟨h2.base,by simp[h2.len],λj hj=>?_,?_⟩
 ·rw[IT,IT,<- h2.len];by_cases h1:j<D.length
  ·rw[if_pos h1,if_pos h1];exact h2.row j h1
  ·have:j=D.length:=by simp at hj;omega
   rw[if_neg h1,if_neg h1,if_pos this,if_pos this];exact⟨hp,rfl⟩
 ·rw[List.map_append,<- List.append_assoc,pE];refine⟨h2.nd,G9,λa ha b hb=>?_⟩;simp only[ez,oP,cS]at hb;subst hb;exact λe=>hf (e▸ha)
end
def lh(p:Nat):List (List Bool)->List (List AV)
 |[]=>[]
 |r::t=>[.ref p 1 0 r.length]::lh (p+1) t
def rf(S:List (List Bool)):List Ob:=S.map λr=>.arr 1 (aV r)
def Jy(S:List (List Bool)):(rf S).length=S.length:=List.length_map _
def Jz:∀ (p:Nat) (S:List (List Bool)),(lh p S).length=S.length
 |_,[]=>rfl
 |p,r::t=>by simp only[lh,List.length_cons,Jz (p+1) t]
def Gk:∀ (p:Nat) (S:List (List Bool)) (j:Nat),j<S.length->(lh p S)[j]?=some [.ref (p+j) 1 0 (S.getD j default).length]
 |_,[],j,h=>by simp at h
 |p,r::t,0,h=>rfl
 |p,r::t,j+1,h=>by
  rw[lh,vB,Gk (p+1) t j (by simpa using h)];rw[show p+1+j=p+(j+1) by omega,gB]
def ak9{S T:List (List Bool)}(p:Nat)(h:S.map nF=T.map nF):lh p S=lh p T:=by
 induction S generalizing T p with
 |nil=>cases T with
  |nil=>rfl
  |cons=>simp at h
 |cons r S ih=>cases T with
  |nil=>simp at h
  |cons t T =>
   simp only[ez,List.cons.injEq]at h;rw[lh,lh,h.1,ih (p+1) h.2]
def ak'(ρ:Nat->Nat)(S:List (List Bool)):∀ (q p:Nat),(∀ j,j<S.length->ρ (p+j)=q+j)->(lh p S).map (List.map (br ρ))=lh q S:=by
 induction S with
 |nil=>intro q p _;rfl
 |cons r t ih =>
  intro q p h;have h0:=h 0 G9;rw[jK,jK]at h0;rw[lh,lh,ez,ez,oP,br,h0];refine congrArg _ (ih (q+1) (p+1) λj hj=>?_);have:=h (j+1) (by simpa using hj);rw[show p+1+j=p+(j+1) by omega,this];omega
def ala(ρ:Nat->Nat)(S:List (List Bool)):(rf S).map (bO ρ)=rf S:=by
 unfold rf;rw[List.map_map];refine List.map_congr_left λr _=>?_;show bO ρ (.arr 1 (aV r))=_;exact CX _ _ _
def JA{B:List (Nat×Ob)}{D:List (Nat×Nat)}{S:List (List Bool)}{os:List Ob}(h:dI B D S os){j:Nat}(hj:j<S.length):(rowsOf nu D)[j]?=some [.ref (D.getD j default).1 1 0 (S.getD j default).length]:=by
 have hd:=h.len;have h2:=(h.row j Ey).2;rw[h2];unfold rowsOf;rw[bM,ay,bx Ey];rfl
def dI.ret{D:List (Nat×Nat)}{S:List (List Bool)}{os:List Ob}{x:Ob}{oi:Nat}(h:dI [(0,x),(oi,.arr 1 (rowsOf nu D))] D S os)(hx:∀ ρ,bO ρ x=x)(hg:x≠.gone)(e:Nat->AV):
  oU 1 ⟨e,os⟩ (.ref oi 1 0 S.length) (.ref 1 1 0 S.length) (x::.arr 1 (lh 2 S)::rf S):=by
 have hd:=h.len;have h0:=h.base (0,x) G9;have h1:=h.base (oi,.arr 1 (rowsOf nu D)) G9;dsimp only at h0 h1;have hl:∀ i∈0::oi::D.map (·.1),i<os.length:=λi hi=>by
  rcases bu.1 hi with rfl|hi
  ·exact(aY.1 h0).1
  rcases bu.1 hi with rfl|hi
  ·exact(aY.1 h1).1
  obtain⟨q,hq,rfl⟩:=bY.1 hi;obtain⟨k,hk,rfl⟩:=wU.1 hq;have h3:=(h.row k hk).1;have a1:D.getD k default=D[k]:=by simp[hk]
  rw[a1]at h3;exact(aY.1 h3).1
 have OL:∀ j,j<S.length->bE os.length (0::oi::D.map (·.1)) (2+j)=(D.getD j default).1:=λj hj=>by
  unfold bE;rw[if_pos Hj,show 2+j=j+1+1 by omega,gB,gB,ay,bM,ay,bx Ey];rfl
 refine⟨0::oi::D.map (·.1),false,by simpa using h.nd,by simp[Jy,hd],λj o hj=>.inr ?_,hl,G9,λi hi=>?_,.eq ?_⟩
 ·match j with
  |0 =>
   simp only[wZ,cH.injEq]at hj;subst hj;rw[hx];exact h0
  |1 =>
   simp only[vB,wZ,cH.injEq]at hj;subst hj;refine h1.trans (congrArg some ?_);rw[bO];refine congrArg _ (lq λi=>?_);rw[bM];by_cases hi:i<S.length
   ·rw[JA h hi,Gk 2 S i hi,fc,ez,oP,br,OL i hi]
   ·rw[dN (by simp[rowsOf];omega),dN (by rw[Jz];omega)];rfl
  |j+2 =>
   simp only[vB]at hj;have iw:j<S.length:=by have:=(aY.1 hj).1;rwa [Jy]at this
   have h3:=(h.row j Ey).1;unfold rf at hj;rw[bM,bx iw]at hj;simp only[fc,cH.injEq]at hj;subst hj;rw[CX];have e1:(0::oi::D.map (·.1)).getD (j+2) 0=(D.getD j default).1:=by
    rw[gB,gB,ay,bM,ay,bx Ey];rfl
   have e2:S.getD j default=S[j]:=by rw[ay,bx iw];rfl
   rw[e1,<- e2];exact h3
 ·have:i=0:=Ey;subst this;rfl
 ·rw[br];have:bE os.length (0::oi::D.map (·.1)) 1=oi:=by unfold bE;rw[if_pos G9];rfl
  rw[this]
def nO(x:Ob)(A:List (List AV))(Y:List (List Bool)):List Ob:=x::.arr 1 A::rf Y
def nOk(x:Ob)(A:List (List AV)){Y:List (List Bool)}{i:Nat}(h:i<Y.length):(nO x A Y)[2+i]?=some (.arr 1 (aV (Y.getD i default))):=by
 unfold nO;rw[show 2+i=i+1+1 by omega,vB,vB];unfold rf;rw[bM,ay,bx h];rfl
def nOs(x:Ob)(A:List (List AV))(Y:List (List Bool))(i:Nat)(r:List Bool):(nO x A Y).set (2+i) (.arr 1 (aV r))=nO x A (Y.set i r):=by
 unfold nO rf;rw[show 2+i=i+1+1 by omega,rG,rG,List.map_set]
def lV.Fi{R:AV->AV->Prop}{f:Nat->List AV}{g:Nat->List AV}:∀ {cs ds:List (List AV)},cs.length=ds.length->(∀ (j:Nat) c d,cs[j]?=some c->ds[j]?=some d->jN R c d)->lV R cs ds
 |[],[],_,_=>trivial
 |[],_::_,h,_=>by simp at h
 |_::_,[],h,_=>by simp at h
 |c::cs,d::ds,h,k=>⟨k 0 c d rfl rfl,lV.Fi (f:=f) (g:=g) (by simpa using h) λj c d hc hd=>k (j+1) c d (by simpa using hc) (by simpa using hd)⟩
def acg{σ:St}{kp:Nat->Prop}{id:Nat}{bs:List Bool}(ho:σ.aa[id]?=some (.arr 1 (aV bs)))(hk:¬ kp id):cX σ kp (.tree 1 (aV bs)) (.ref id 1 0 bs.length) :=
 cX.mk ho (by simp[aV]) hk (Lz _) (lV.Fi (f:=λ_=>[]) (g:=λ_=>[]) rfl λj c d hc hd=>by
  rw[hc]at hd;cases hd;unfold aV at hc;rw[bM]at hc;cases hb:bs[j]? with
  |none=>rw[hb]at hc;cases hc
  |some b=>rw[hb]at hc;simp only[fc,cH.injEq]at hc;subst hc;exact⟨.lit _,trivial⟩)
theorem ald{σ:St}{kp:Nat->Prop}{oi:Nat}{A:List (List AV)}{S:List (List Bool)}(ho:σ.aa[oi]?=some (.arr 1 A))(hk:¬ kp oi)(hA:A.length=S.length)(h:∀ j,j<S.length->∃ id,A[j]?=some [.ref id 1 0 (S.getD j default).length]/\σ.aa[id]?=some (.arr 1 (aV (S.getD j default)))/\¬ kp id):cX σ kp (.tree 1 (rowsOf aA S)) (.ref oi 1 0 S.length) :=
 cX.mk ho hA.symm hk (iA _) (lV.Fi (f:=fun _=>[]) (g:=fun _=>[]) (by simp[rowsOf,hA]) fun j c d hc hd=>by
  unfold rowsOf at hc;rw[List.getElem?_map]at hc;have hj:j<S.length:=by
   cases hb:S[j]? with
   |none=>rw[hb]at hc;cases hc
   |some b=>exact(List.getElem?_eq_some_iff.1 hb).1
  obtain⟨id,h1,h2,h3⟩:=h j hj;rw[h1]at hd;simp only[Option.some.injEq]at hd;subst hd;rw[List.getElem?_eq_getElem hj]at hc;simp only[Option.map_some,Option.some.injEq]at hc;subst hc;have e2:S.getD j default=S[j]:=by rw[List.getD_eq_getElem?_getD,List.getElem?_eq_getElem hj];rfl
  rw[e2]at h2 ⊢;exact⟨acg h2 h3,trivial⟩)
def re(w o:Nat):List Bool:=(List.replicate w false).set o true
def cM(left:List (List Bool))(c o:Nat):List (List Bool):=left.set c (re (left.getD c default).length o)
def OI(w o:Nat):(re w o).length=w:=by simp[re]
def D1(left:List (List Bool))(c o:Nat):(cM left c o).map nF=left.map nF:=by
 unfold cM;apply lq;intro j;rw[bM,bM,bU];split
 ·rename_i e;subst e;split
  ·rename_i h2;rw[bx h2];simp[OI,h2]
  ·rename_i h2;rw[dN Ey]
 ·rfl
def Vq{σ:St}{kp:Nat->Prop}{c d:List AV}(h:∀ v∈c,(∃ x,v=AV.lit x)\/∃ s r,v=AV.tree s r)(e:d=c):jN (cX σ kp) c d:=by
 subst e
 induction d with
 |nil=>trivial
 |cons v l ih =>
  refine⟨?_,ih λx hx=>h x (by simp[hx])⟩;rcases h v G9 with⟨x,rfl⟩|⟨s,r,rfl⟩
  ·exact .lit _
  ·exact .tree _ _
def akT{σ:St}{kp:Nat->Prop}{oi k c:Nat}{left:List (List Bool)}{r:List Bool}(hc:c<left.length)(ho:σ.aa[oi]?=some (.arr 1 ((rowsOf aA left).set c [.ref k 1 0 r.length])))(hk:¬ kp oi)(hr:σ.aa[k]?=some (.arr 1 (aV r)))(A6:¬ kp k):
  cX σ kp (.tree 1 (rowsOf aA (left.set c r))) (.ref oi 1 0 left.length) :=
 cX.mk ho (by simp[rowsOf]) hk (iA _) (lV.Fi (f:=λ_=>[]) (g:=λ_=>[]) (by simp[rowsOf]) λj x d hx hd=>by
  unfold rowsOf at hx hd;rw[bM,bU]at hx;rw[bU]at hd;by_cases e:c=j
  ·subst e;rw[if_pos rfl,if_pos hc]at hx;rw[if_pos rfl,if_pos (by simpa using hc)]at hd;cases hx;cases hd;exact⟨acg hr A6,trivial⟩
  ·rw[if_neg e]at hx hd;rw[bM]at hd;rw[hx]at hd;simp only[cH.injEq]at hd;cases hl:left[j]? with
   |none=>rw[hl]at hx;cases hx
   |some y =>
    rw[hl]at hx;simp only[fc,cH.injEq]at hx;subst hx;exact Vq (λv hv=>by simp only[aA,cS]at hv;exact .inr ⟨_,_,hv⟩) hd.symm)
def dI.ale(x:Ob):dI [(1,.arr 1 []),(0,x)] [] [] [x,.arr 1 []]:=⟨G9,rfl,G9,(show([1,0]:List Nat).Nodup by decide)⟩
def dI.alf{D:List (Nat×Nat)}{S:List (List Bool)}{os:List Ob}{oi:Nat}(h:dI [(oi,.arr 1 (rowsOf nu D))] D S os)(e:Nat->AV):
  oU 0 ⟨e,os⟩ (.ref oi 1 0 S.length) (.ref 0 1 0 S.length) (.arr 1 (lh 1 S)::rf S):=by
 have hd:=h.len;have h1:=h.base (oi,.arr 1 (rowsOf nu D)) G9;dsimp only at h1;have hl:∀ i∈oi::D.map (·.1),i<os.length:=λi hi=>by
  rcases bu.1 hi with rfl|hi
  ·exact(aY.1 h1).1
  obtain⟨q,hq,rfl⟩:=bY.1 hi;obtain⟨k,hk,rfl⟩:=wU.1 hq;have h3:=(h.row k hk).1;have a1:D.getD k default=D[k]:=by simp[hk]
  rw[a1]at h3;exact(aY.1 h3).1
 have OL:∀ j,j<S.length->bE os.length (oi::D.map (·.1)) (1+j)=(D.getD j default).1:=λj hj=>by
  unfold bE;rw[if_pos Hj,show 1+j=j+1 by omega,gB,ay,bM,ay,bx Ey];rfl
 refine⟨oi::D.map (·.1),false,by simpa using h.nd,by simp[Jy,hd],λj o hj=>.inr ?_,hl,G9,λi hi=>?_,.eq ?_⟩
 ·match j with
  |0 =>
   simp only[wZ,cH.injEq]at hj;subst hj;refine h1.trans (congrArg some ?_);rw[bO];refine congrArg _ (lq λi=>?_);rw[bM];by_cases hi:i<S.length
   ·rw[JA h hi,Gk 1 S i hi,fc,ez,oP,br,OL i hi]
   ·rw[dN (by simp[rowsOf];omega),dN (by rw[Jz];omega)];rfl
  |j+1 =>
   simp only[vB]at hj;have iw:j<S.length:=by have:=(aY.1 hj).1;rwa [Jy]at this
   have h3:=(h.row j Ey).1;unfold rf at hj;rw[bM,bx iw]at hj;simp only[fc,cH.injEq]at hj;subst hj;rw[CX];have e1:(oi::D.map (·.1)).getD (j+1) 0=(D.getD j default).1:=by
    rw[gB,ay,bM,ay,bx Ey];rfl
   have e2:S.getD j default=S[j]:=by rw[ay,bx iw];rfl
   rw[e1,<- e2];exact h3
 ·omega
 ·rw[br];have:bE os.length (oi::D.map (·.1)) 0=oi:=by unfold bE;rw[if_pos G9];rfl
  rw[this]
def dI.setRow{B:List (Nat×Ob)}{D:List (Nat×Nat)}{S:List (List Bool)}{os:List Ob}(h:dI B D S os){j:Nat}(hj:j<S.length){r:List Bool}(hr:r.length=(S.getD j default).length):
  dI B D (S.set j r) (os.set (D.getD j default).1 (.arr 1 (aV r))):=by
 have pJ:j<D.length:=by rw[h.len];exact hj
 have bG:=pE.1 h.nd;have hDj:D.getD j default=D[j]:=by simp[pJ]
 have bR:(D.getD j default).1∈D.map (·.1):=by rw[hDj];exact bY.2 ⟨_,List.getElem_mem pJ,rfl⟩
 refine⟨λb hb=>?_,by rw[List.length_set];exact h.len,λk hk=>?_,h.nd⟩
 ·rw[gT ?_]
  ·exact h.base b hb
  ·intro e;exact bG.2.2 _ (bY.2 ⟨b,hb,rfl⟩) _ bR e.symm
 ·obtain⟨h1,h2⟩:=h.row k hk;by_cases e:k=j
  ·subst e;have aX:=(aY.1 h1).1;have hg:(S.set k r).getD k default=r:=by rw[ay,bU,if_pos rfl,if_pos hj];rfl
   rw[bU,if_pos rfl,if_pos aX,hg];exact⟨rfl,hr.trans h2⟩
  ·have hg:(S.set j r).getD k default=S.getD k default:=by rw[ay,gT (Ne.symm e),<- ay]
   rw[hg,gT ?_]
   ·exact⟨h1,h2⟩
   ·intro e2;have JB:D.getD k default=D[k]:=by simp[hk]
    rw[hDj,JB]at e2;have hp:=List.pairwise_iff_getElem.1 bG.2.1;rcases Nat.lt_or_gt_of_ne e with hl|hl
    ·exact hp k j (by simpa using hk) (by simpa using pJ) hl (by simpa using e2.symm)
    ·exact hp j k (by simpa using pJ) (by simpa using hk) hl (by simpa using e2)
end T

