import Derived.Test.YtfoopmojjjpapaaGreatX24
set_option linter.all false
set_option maxHeartbeats 0
set_option maxRecDepth 20000
open List renaming mem_append→cC,mem_map→b8,getElem?_eq_some_iff→aR,mem_iff_getElem→wy,getElem?_set_ne→gV,mem_cons→bj,map_cons→fV,cons_append→dh,nodup_cons→nr,append_assoc→bC,map_nil→nu,getElem?_cons_succ→rW,getD_cons_succ→fM,length→kI,getElem?_map→b9,getD_eq_getElem?_getD→aB,getElem?_eq_getElem→bT,getElem?_cons_zero→uW,getElem?_eq_none→gj,set_cons_succ→wD,take_zero→nU,getElem_of_mem→qX,length_take→e8,all_eq_true→gH,take_length→Cy,length_drop→xG
open Nat renaming add_zero→iq,zero_le→aT,not_lt_zero→u4
open Option renaming some→cm,map_some→gY
open Bool renaming eq_false_iff→Cs
open Go Go.Am Go.Proofs
namespace T
def uO(q:Nat×Nat):List AV:=[.ref q.1 1 0 q.2]
def Zj(D:List (Nat×Nat))(p n:Nat):rowsOf uO D++[[AV.ref p 1 0 n]]=rowsOf uO (D++[(p,n)]):=by simp[rowsOf,uO]
structure eM(B:List (Nat×Ob))(D:List (Nat×Nat))(S:List (List Bool))(os:List Ob):Prop where
 base:∀ b∈B,os[b.1]?=some b.2
 len:D.length=S.length
 row:∀ j,j<D.length->os[(D.getD j default).1]?=some (.arr 1 (bm (S.getD j default)))/\(S.getD j default).length=(D.getD j default).2
 nd:(B.map (·.1)++D.map (·.1)).Nodup
section
variable {B:List (Nat×Ob)} {D:List (Nat×Nat)} {S:List (List Bool)} {os:List Ob}
def eM.app(h:eM B D S os)(l:List Ob):eM B D S (os++l):=⟨λb hb=>aL (h.base b hb) l,h.len,λj hj=>⟨aL (h.row j hj).1 l,(h.row j hj).2⟩,h.nd⟩
def eM.fresh(h:eM B D S os){p:Nat}(hp:os.length<=p):p ∉ B.map (·.1)++D.map (·.1):=λhh=>by
 rw[cC]at hh;rcases hh with hh|hh
 ·obtain⟨q,hq,rfl⟩:=b8.1 hh;have:=(aR.1 (h.base q hq)).1;omega
 ·obtain⟨q,hq,rfl⟩:=b8.1 hh;obtain⟨k,hk,rfl⟩:=wy.1 hq;have h1:=(h.row k hk).1;have a1:D.getD k default=D[k]:=by simp[hk]
  rw[a1]at h1;have:=(aR.1 h1).1;omega
def eM.other(h:eM B D S os){i:Nat}(hi:i ∉ B.map (·.1)++D.map (·.1))(y:Ob):eM B D S (os.set i y):=by
 rw[cC,not_or]at hi;refine⟨λb hb=>?_,h.len,λk hk=>⟨?_,(h.row k hk).2⟩,h.nd⟩
 ·rw[gV (λe=>hi.1 (b8.2 ⟨b,hb,e.symm⟩))];exact h.base b hb
 ·rw[gV (λe=>hi.2 (b8.2 ⟨D.getD k default,aG hk,e.symm⟩))];exact(h.row k hk).1
def eM.add(h:eM B D S os){k:Nat}{x:Ob}(hk:os[k]?=some x)(hf:k ∉ B.map (·.1)++D.map (·.1)):eM ((k,x)::B) D S os :=
 ⟨λb hb=>by rcases bj.1 hb with rfl|hb;exact hk;exact h.base b hb,h.len,h.row,by
  rw[fV,dh,nr];exact⟨hf,h.nd⟩⟩
def eM.b0{a:Nat×Ob}(h:eM (a::B) D S os):os[a.1]?=some a.2:=h.base a Iy
def eM.b1{a b:Nat×Ob}(h:eM (a::b::B) D S os):os[b.1]?=some b.2:=h.base b Iy
def eM.b2{a b c:Nat×Ob}(h:eM (a::b::c::B) D S os):os[c.1]?=some c.2:=h.base c Iy
def eM.b3{a b c d:Nat×Ob}(h:eM (a::b::c::d::B) D S os):os[d.1]?=some d.2:=h.base d Iy
def eM.start(x y:Ob):eM [(0,x),(2,.arr 1 []),(1,y)] [] [] [x,y,.arr 1 []]:=⟨Iy,rfl,Iy,(show([0,2,1]:List Nat).Nodup by decide)⟩
def eM.put{i:Nat}{x:Ob}(h:eM ((i,x)::B) D S os)(y:Ob):eM ((i,y)::B) D S (os.set i y):=by
 have hn:=h.nd;rw[fV,dh,nr]at hn;have hx:=h.base (i,x) Iy;have h2:eM B D S os:=⟨λb hb=>h.base b (by simp[hb]),h.len,h.row,hn.2⟩;exact(h2.other hn.1 y).add (lZ hx) hn.1
def eM.drop{i:Nat}{x:Ob}(h:eM ((i,x)::B) D S os):eM B D S os/\i ∉ B.map (·.1)++D.map (·.1):=by
 have hn:=h.nd;rw[fV,dh,nr]at hn;exact⟨⟨λb hb=>h.base b (by simp[hb]),h.len,h.row,hn.2⟩,hn.1⟩
def eM.swap{a b:Nat×Ob}(h:eM (a::b::B) D S os):eM (b::a::B) D S os :=
 ⟨λc hc=>h.base c (by simp only[bj]at hc ⊢;rcases hc with hc|hc|hc<;>simp[hc]),h.len,h.row,by
  have:=h.nd;simp only[fV,dh,nr,bj,not_or]at this ⊢;exact⟨⟨Ne.symm this.1.1,this.2.1⟩,this.1.2,this.2.2⟩⟩
def eM.snoc{p:Nat}{r:List Bool}(h:eM ((p,.arr 1 (bm r))::B) D S os):eM B (D++[(p,r.length)]) (S++[r]) os:=by
 obtain⟨h2,hf⟩:=h.drop;have hp:=h.base (p,.arr 1 (bm r)) Iy;refine⟨h2.base,by simp[h2.len],λj hj=>?_,?_⟩
 ·rw[GH,GH,<- h2.len];by_cases h1:j<D.length
  ·rw[if_pos h1,if_pos h1];exact h2.row j h1
  ·have:j=D.length:=by simp at hj;omega
   rw[if_neg h1,if_neg h1,if_pos this,if_pos this];exact⟨hp,rfl⟩
 ·rw[List.map_append,<- bC,List.nodup_append];refine⟨h2.nd,Iy,λa ha b hb=>?_⟩;simp only[fV,nu,List.mem_singleton]at hb;subst hb;exact λe=>hf (e▸ha)
end
def jS(p:Nat):List (List Bool)->List (List AV)
 |[]=>[]
 |r::t=>[.ref p 1 0 r.length]::jS (p+1) t
def tD(S:List (List Bool)):List Ob:=S.map λr=>.arr 1 (bm r)
def HE(S:List (List Bool)):(tD S).length=S.length:=List.length_map _
def Ek:∀ (p:Nat) (S:List (List Bool)),(jS p S).length=S.length
 |_,[]=>rfl
 |p,r::t=>by simp only[jS,List.length_cons,Ek (p+1) t]
def El:∀ (p:Nat) (S:List (List Bool)) (j:Nat),j<S.length->(jS p S)[j]?=some [.ref (p+j) 1 0 (S.getD j default).length]
 |_,[],j,h=>by simp at h
 |p,r::t,0,h=>rfl
 |p,r::t,j+1,h=>by
  rw[jS,rW,El (p+1) t j (by simpa using h)];rw[show p+1+j=p+(j+1) by omega,fM]
def aiV{S T:List (List Bool)}(p:Nat)(h:S.map kI=T.map kI):jS p S=jS p T:=by
 induction S generalizing T p with
 |nil=>cases T with
  |nil=>rfl
  |cons=>simp at h
 |cons r S ih=>cases T with
  |nil=>simp at h
  |cons t T =>
   simp only[fV,List.cons.injEq]at h;rw[jS,jS,h.1,ih (p+1) h.2]
def aiW(ρ:Nat->Nat)(S:List (List Bool)):∀ (q p:Nat),(∀ j,j<S.length->ρ (p+j)=q+j)->(jS p S).map (List.map (bf ρ))=jS q S:=by
 induction S with
 |nil=>intro q p _;rfl
 |cons r t ih =>
  intro q p h;have h0:=h 0 Iy;rw[iq,iq]at h0;rw[jS,jS,fV,fV,nu,bf,h0];refine congrArg _ (ih (q+1) (p+1) λj hj=>?_);have:=h (j+1) (by simpa using hj);rw[show p+1+j=p+(j+1) by omega,this];omega
def aiX(ρ:Nat->Nat)(S:List (List Bool)):(tD S).map (bH ρ)=tD S:=by
 unfold tD;rw[List.map_map];refine List.map_congr_left λr _=>?_;show bH ρ (.arr 1 (bm r))=_;exact A8 _ _ _
def Zk{B:List (Nat×Ob)}{D:List (Nat×Nat)}{S:List (List Bool)}{os:List Ob}(h:eM B D S os){j:Nat}(hj:j<S.length):(rowsOf uO D)[j]?=some [.ref (D.getD j default).1 1 0 (S.getD j default).length]:=by
 have hd:=h.len;have h2:=(h.row j Ix).2;rw[h2];unfold rowsOf;rw[b9,aB,bT Ix];rfl
def eM.ret{D:List (Nat×Nat)}{S:List (List Bool)}{os:List Ob}{x:Ob}{oi:Nat}(h:eM [(0,x),(oi,.arr 1 (rowsOf uO D))] D S os)(hx:∀ ρ,bH ρ x=x)(hg:x≠.gone)(e:Nat->AV):
  nW 1 ⟨e,os⟩ (.ref oi 1 0 S.length) (.ref 1 1 0 S.length) (x::.arr 1 (jS 2 S)::tD S):=by
 have hd:=h.len;have h0:=h.base (0,x) Iy;have h1:=h.base (oi,.arr 1 (rowsOf uO D)) Iy;dsimp only at h0 h1;have hl:∀ i∈0::oi::D.map (·.1),i<os.length:=λi hi=>by
  rcases bj.1 hi with rfl|hi
  ·exact(aR.1 h0).1
  rcases bj.1 hi with rfl|hi
  ·exact(aR.1 h1).1
  obtain⟨q,hq,rfl⟩:=b8.1 hi;obtain⟨k,hk,rfl⟩:=wy.1 hq;have h3:=(h.row k hk).1;have a1:D.getD k default=D[k]:=by simp[hk]
  rw[a1]at h3;exact(aR.1 h3).1
 have Mp:∀ j,j<S.length->bq os.length (0::oi::D.map (·.1)) (2+j)=(D.getD j default).1:=λj hj=>by
  unfold bq;rw[if_pos NS,show 2+j=j+1+1 by omega,fM,fM,aB,b9,aB,bT Ix];rfl
 refine⟨0::oi::D.map (·.1),false,by simpa using h.nd,by simp[HE,hd],λj o hj=>.inr ?_,hl,Iy,λi hi=>?_,.eq ?_⟩
 ·match j with
  |0 =>
   simp only[uW,cm.injEq]at hj;subst hj;rw[hx];exact h0
  |1 =>
   simp only[rW,uW,cm.injEq]at hj;subst hj;refine h1.trans (congrArg some ?_);rw[bH];refine congrArg _ (List.ext_getElem? λi=>?_);rw[b9];by_cases hi:i<S.length
   ·rw[Zk h hi,El 2 S i hi,gY,fV,nu,bf,Mp i hi]
   ·rw[gj (by simp[rowsOf];omega),gj (by rw[Ek];omega)];rfl
  |j+2 =>
   simp only[rW]at hj;have gA:j<S.length:=by have:=(aR.1 hj).1;rwa [HE]at this
   have h3:=(h.row j Ix).1;unfold tD at hj;rw[b9,bT gA]at hj;simp only[gY,cm.injEq]at hj;subst hj;rw[A8];have e1:(0::oi::D.map (·.1)).getD (j+2) 0=(D.getD j default).1:=by
    rw[fM,fM,aB,b9,aB,bT Ix];rfl
   have e2:S.getD j default=S[j]:=by rw[aB,bT gA];rfl
   rw[e1,<- e2];exact h3
 ·have:i=0:=Ix;subst this;rfl
 ·rw[bf];have:bq os.length (0::oi::D.map (·.1)) 1=oi:=by unfold bq;rw[if_pos Iy];rfl
  rw[this]
def nO(x:Ob)(A:List (List AV))(Y:List (List Bool)):List Ob:=x::.arr 1 A::tD Y
def nOk(x:Ob)(A:List (List AV)){Y:List (List Bool)}{i:Nat}(h:i<Y.length):(nO x A Y)[2+i]?=some (.arr 1 (bm (Y.getD i default))):=by
 unfold nO;rw[show 2+i=i+1+1 by omega,rW,rW];unfold tD;rw[b9,aB,bT h];rfl
def nOs(x:Ob)(A:List (List AV))(Y:List (List Bool))(i:Nat)(r:List Bool):(nO x A Y).set (2+i) (.arr 1 (bm r))=nO x A (Y.set i r):=by
 unfold nO tD;rw[show 2+i=i+1+1 by omega,wD,wD,List.map_set]
def kL.D9{R:AV->AV->Prop}{f:Nat->List AV}{g:Nat->List AV}:∀ {cs ds:List (List AV)},cs.length=ds.length->(∀ (j:Nat) c d,cs[j]?=some c->ds[j]?=some d->ju R c d)->kL R cs ds
 |[],[],_,_=>trivial
 |[],_::_,h,_=>by simp at h
 |_::_,[],h,_=>by simp at h
 |c::cs,d::ds,h,k=>⟨k 0 c d rfl rfl,kL.D9 (f:=f) (g:=g) (by simpa using h) λj c d hc hd=>k (j+1) c d (by simpa using hc) (by simpa using hd)⟩
def YS{σ:St}{kp:Nat->Prop}{id:Nat}{bs:List Bool}(ho:σ.aa[id]?=some (.arr 1 (bm bs)))(hk:¬ kp id):cL σ kp (.tree 1 (bm bs)) (.ref id 1 0 bs.length) :=
 cL.mk ho (by simp[bm]) hk (Fp _) (kL.D9 (f:=λ_=>[]) (g:=λ_=>[]) rfl λj c d hc hd=>by
  rw[hc]at hd;cases hd;unfold bm at hc;rw[b9]at hc;cases hb:bs[j]? with
  |none=>rw[hb]at hc;cases hc
  |some b=>rw[hb]at hc;simp only[gY,cm.injEq]at hc;subst hc;exact⟨.lit _,trivial⟩)
theorem ai0{σ:St}{kp:Nat->Prop}{oi:Nat}{A:List (List AV)}{S:List (List Bool)}(ho:σ.aa[oi]?=some (.arr 1 A))(hk:¬ kp oi)(hA:A.length=S.length)(h:∀ j,j<S.length->∃ id,A[j]?=some [.ref id 1 0 (S.getD j default).length]/\σ.aa[id]?=some (.arr 1 (bm (S.getD j default)))/\¬ kp id):cL σ kp (.tree 1 (rowsOf aA S)) (.ref oi 1 0 S.length) :=
 cL.mk ho hA.symm hk (ig _) (kL.D9 (f:=fun _=>[]) (g:=fun _=>[]) (by simp[rowsOf,hA]) fun j c d hc hd=>by
  unfold rowsOf at hc;rw[List.getElem?_map]at hc;have hj:j<S.length:=by
   cases hb:S[j]? with
   |none=>rw[hb]at hc;cases hc
   |some b=>exact(List.getElem?_eq_some_iff.1 hb).1
  obtain⟨id,h1,h2,h3⟩:=h j hj;rw[h1]at hd;simp only[Option.some.injEq]at hd;subst hd;rw[List.getElem?_eq_getElem hj]at hc;simp only[Option.map_some,Option.some.injEq]at hc;subst hc;have e2:S.getD j default=S[j]:=by rw[List.getD_eq_getElem?_getD,List.getElem?_eq_getElem hj];rfl
  rw[e2]at h2 ⊢;exact⟨YS h2 h3,trivial⟩)
def ai1(n:Int):Holds Tryz.prog 128 [N0 n] [] (.lit (.bool (n != 1))) []:=by
 refine Holds.aK 5 0 [.tmp 2] Tryz.func128 ?_;refine Vb X0 ?_;exact aS rfl rfl
def agQ(m:ah)(P:List Nd)(hm:VM m)(hP:PB P):Holds Tryz.prog 95 [.agg (ao m),.agg (cJ P)] [] (.lit (.bool (lY m P))) []:=by
 have z':=hP.Kx;have qE:=hm.cls;generalize au:lY m P=res;refine Holds.aK 136 0 [.tmp 4] Tryz.func95 ?_;by_cases aN:1<=P.length/\P.length<=20000;rotate_left
 ·rw[Wg aN]at au;subst au;((repeat'(first|refine Vb @cJ.eq_1 ?_|(refine V2 @cJ.eq_1 ?_ ?_<;>try with_reducible intro hb)|(refine Xi ?_ ?_<;>try intro ht)|exact Xx|fail)))
  all_goals exact aS rfl rfl
 obtain⟨jH,kZ⟩:=aN;((repeat'(first|refine Vb @cJ.eq_1 ?_|(refine V2 @cJ.eq_1 ?_ ?_<;>try with_reducible intro hb)|(refine Xi ?_ ?_<;>try intro ht)|exact Xx|fail)))
 refine aU (λi:Nat=>(⟨an [(2,.ptr 0 0 0),(3,.ptr 1 0 0),(5,.ref 2 1 0 P.length),(25,.tree 5 (rowsOf bz P)),(26,N0 P.length),(27,N0 i)],[.var (ao m),.var (cJ P),.arr 1 (ints (jQ P.length (jC (P.take i))))]⟩:St))
  (λi=>i<=P.length/\∀ a,a<i->mz m P.length a (P.getD a default)=true) (λi=>P.length-i) 0 ⟨aT _,λa ha=>absurd ha (u4 _)⟩ (by rw[nU];show aF _ _ ⟨_,[_,_,.arr 1 (ints (jQ P.length []))]⟩;rw[afw];exact Xv (X2 @cJ.eq_1 @I8)) ?_
 rintro i⟨hi,gf⟩Ql ak ar;by_cases aq:i<P.length
 ·have cH:=aG (l:=P) (i:=i) (d:=default) aq;have b1:=hP.kids _ cH;have b2:=hP.ew _ cH;have b3:=hP.bh _ cH;have b4:=hP.cells _ cH;have e9:=eZ aq;have HF:∀ l,jC (P.take (i+1))=jC (P.take i)++l↔l=(P.getD i default).kids:=λl=>by rw[e9,afy];exact⟨λh=>(List.append_cancel_left h).symm,λh=>by rw[h]⟩
  have mf:=Wf (m:=m) aq;have hlen:=We (n:=0) hm (P.take i) λy hy=>by
   obtain⟨a,ha,rfl⟩:=qX hy;rw[e8]at ha;have:=gf a Ix;unfold mz at this;rw[Bool.and_eq_true,aB,bT Ix]at this;simpa using this.1
  rw[e8]at hlen;generalize cW:P.getD i default=x at *;obtain⟨c,kids,ew,bh,cells⟩:=x;dsimp only at b1 b2 b3 b4 HF;have HF:=(HF _).2 rfl;have bU:¬(rC m ⟨c,kids,ew,bh,cells⟩=true)->res=false:=λh=>by
   rw[<- au];refine mf ?_;unfold mz;rw[Cs.2 h,Bool.false_and]
  have hkb:∀ j,j<kids.length->¬(uC P.length i (kids.getD j 0)=true)->res=false:=λj hj h=>by
   rw[<- au];refine mf ?_;unfold mz;have:kids.all (uC P.length i)=false:=by
    rw[Cs];intro h2;rw[gH]at h2;exact h (h2 _ (aG hj))
   dsimp only;rw[this,Bool.and_false]
  clear mf;generalize yO:m.cls.getD c.toNat default=wl at *;have HG:0<=c/\c<m.cls.length->wl.length<=24:=λh=>by rw[<- yO];exact hm.opt _ (aG Ix)
  by_cases kB:rC m ⟨c,kids,ew,bh,cells⟩=true;rotate_left
  ·have hr:=bU kB;unfold rC at kB;dsimp only at kB;rw[yO]at kB;by_cases iP:c = -1
   ·rw[if_pos iP,decide_eq_true_eq]at kB;((repeat'(first|refine Va (X3 @cJ.eq_1 @cW @bz.eq_1) ?_|(refine V2 (X3 @cJ.eq_1 @cW @bz.eq_1) ?_ ?_<;>try with_reducible intro hb)|(refine Xi ?_ ?_<;>try intro ht)|exact Xx|fail)))
    all_goals
     repeat(refine Xu ?_)
     ((repeat'(first|refine Vb X0 ?_|fail)))
     exact aS rfl (by rw[hr])
   ·rw[if_neg iP,decide_eq_true_eq]at kB;by_cases ay:0<=c/\c<m.cls.length
    ·have HG:=HG ay;((repeat'(first|refine Va (X5 @cJ.eq_1 @cW @bz.eq_1 @yO @aQ.eq_1) ?_|(refine V2 (X5 @cJ.eq_1 @cW @bz.eq_1 @yO @aQ.eq_1) ?_ ?_<;>try with_reducible intro hb)|(refine Xi ?_ ?_<;>try intro ht)|exact Xx|fail)))
     all_goals
      repeat(refine Xu ?_)
      ((repeat'(first|refine Vb X0 ?_|fail)))
      exact aS rfl (by rw[hr])
    ·((repeat'(first|refine Va (X3 @cJ.eq_1 @cW @bz.eq_1) ?_|(refine V2 (X3 @cJ.eq_1 @cW @bz.eq_1) ?_ ?_<;>try with_reducible intro hb)|(refine Xi ?_ ?_<;>try intro ht)|exact Xx|fail)))
     all_goals
      repeat(refine Xu ?_)
      ((repeat'(first|refine Vb X0 ?_|fail)))
      exact aS rfl (by rw[hr])
  have Le:=Ky hm kB;have ai3:(∀ j,j<kids.length->uC P.length i (kids.getD j 0)=true)->mz m P.length i ⟨c,kids,ew,bh,cells⟩=true:=λh=>by
   unfold mz;rw[kB,Bool.true_and,gH];intro k hk;obtain⟨j,hj,rfl⟩:=qX hk;have:=h j hj;rwa [aB,bT hj]at this
  dsimp only at Le;repeat'(first|((fail_if_success (first|refine ei 7 ?_|refine ej 7 ?_));refine Xr (X3 @cJ.eq_1 @cW @bz.eq_1) ?_;intro K hK)|(refine hK _ ?_;clear hK K)|(refine Xi ?_ ?_<;>try intro ht)|refine Xy ?_|refine Xd ?_ ?_|exact Xx|fail)
  (refine aex ?_);intro Q0 lh nF
  refine pZ ⟨an [(2,.ptr 0 0 0),(3,.ptr 1 0 0),(5,.ref 2 1 0 P.length),(6,N0 i),(7,.ptr 3 0 0),(25,.tree 5 (rowsOf bz P)),(26,N0 P.length),(27,N0 i)],[.var (ao m),.var (cJ P),.arr 1 (ints (jQ P.length (jC (P.take i)))),.var (bz ⟨c,kids,ew,bh,cells⟩)]⟩ lh ?_ (λkey=>?_);rotate_left
  ·(try clear lh)
   unfold rC at kB;dsimp only at kB;rw[yO]at kB;by_cases iP:c = -1
   ·rw[if_pos iP,decide_eq_true_eq]at kB;((repeat'(first|refine Va (X3 @cJ.eq_1 @cW @bz.eq_1) ?_|(refine V2 (X3 @cJ.eq_1 @cW @bz.eq_1) ?_ ?_<;>try with_reducible intro hb)|(refine Xi ?_ ?_<;>try intro ht)|exact Xx|fail)))
    all_goals
     refine key _ ?_;exact Xv (X2 @cJ.eq_1 @bz.eq_1)
   ·rw[if_neg iP,decide_eq_true_eq]at kB;have HG:=HG ⟨kB.1,kB.2.1⟩;((repeat'(first|refine Va (X5 @cJ.eq_1 @cW @bz.eq_1 @yO @aQ.eq_1) ?_|(refine V2 (X5 @cJ.eq_1 @cW @bz.eq_1 @yO @aQ.eq_1) ?_ ?_<;>try with_reducible intro hb)|(refine Xi ?_ ?_<;>try intro ht)|exact Xx|fail)))
    all_goals
     refine key _ ?_;exact Xv (X2 @cJ.eq_1 @bz.eq_1)
  (try clear lh;try clear nF)
  refine Va (X2 @cJ.eq_1 @bz.eq_1) ?_;refine aU (λj:Nat=>(⟨an [(2,.ptr 0 0 0),(3,.ptr 1 0 0),(5,.ref 2 1 0 P.length),(6,N0 i),(25,.tree 5 (rowsOf bz P)),(26,N0 P.length),(27,N0 i),(108,.tree 1 (ints kids)),(109,N0 kids.length),(110,N0 j)],[.var (ao m),.var (cJ P),.arr 1 (ints (jQ P.length (jC (P.take i)++kids.take j)))]⟩:St))
   (λj=>j<=kids.length/\∀ a,a<j->uC P.length i (kids.getD a 0)=true) (λj=>kids.length-j) 0 ⟨aT _,λa ha=>absurd ha (u4 _)⟩ (by rw[nU,List.append_nil];exact Xs false [0,1,2] @cJ.eq_1) ?_
  rintro j⟨hj,Zl⟩c7 br bx;by_cases fe:j<kids.length
  ·have iA:=eZ fe;have hkd:kids.getD j default=kids.getD j 0:=rfl;have ai5:=hkb j fe;rw[hkd]at iA;have ov:(jC (P.take i)++kids.take j).length<=24*P.length+24:=by rw[List.length_append,e8];omega
   generalize kx:kids.getD j 0=k at *;by_cases Em:uC P.length i k=true;rotate_left
   ·have hr:=ai5 Em;unfold uC at Em;rw[decide_eq_true_eq]at Em;((repeat'(first|refine Va (X2 @cJ.eq_1 @kx) ?_|(refine V2 (X2 @cJ.eq_1 @kx) ?_ ?_<;>try with_reducible intro hb)|(refine Xi ?_ ?_<;>try intro ht)|exact Xx|fail)))
    all_goals
     repeat(refine Xu ?_)
     ((repeat'(first|refine Vb X0 ?_|fail)))
     exact aS rfl (by rw[hr])
   have Zm:=Em;unfold uC at Zm;rw[decide_eq_true_eq]at Zm;have Qh:=afx (n:=P.length) (l:=jC (P.take i)++kids.take j) (j:=k.toNat) Ix;have dD:=GA P.length (jC (P.take i)++kids.take j);have eO:=afv P.length (jC (P.take i)++kids.take j) k.toNat Ix;rw[Int.toNat_of_nonneg Ix,bC,<- iA]at eO;((repeat'(first|refine Va (X3 @cJ.eq_1 @kx @dD) ?_|(refine V2 (X3 @cJ.eq_1 @kx @dD) ?_ ?_<;>try with_reducible intro hb)|(refine Xi ?_ ?_<;>try intro ht)|exact Xx|fail)))
   refine br _ (j+1) ⟨Ix,λa ha=>?_⟩ Ix (by rw[eO];exact Xv @cJ.eq_1);by_cases e:a=j
   ·subst e;rw[kx];exact Em
   ·exact Zl a Ix
  ·obtain rfl:j=kids.length:=Ix;rw[Cy,<- HF];((repeat'(first|refine Va X0 ?_|(refine V2 X0 ?_ ?_<;>try with_reducible intro hb)|(refine Xi ?_ ?_<;>try intro ht)|exact Xx|fail)))
   refine bx _ _ rfl ?_;clear br bx c7;repeat(refine Xu ?_)
   refine Va X0 ?_;refine ak _ (i+1) ⟨Ix,λa ha=>?_⟩ Ix (Xv @cJ.eq_1);by_cases e:a=i
   ·subst e;rw[cW];exact ai3 Zl
   ·exact gf a Ix
 ·obtain rfl:i=P.length:=Ix;rw[Cy];have kD:=Wh (m:=m) ⟨jH,kZ⟩ gf;rw[au]at kD;have vV:=QW ((jQ P.length (jC P)).drop 1) 128 [] [] (λx=>x != 1) (by rw[xG,GA];omega) (λx _=>ai1 x);have dD:=GA P.length (jC P);have Ko:(ints (jQ P.length (jC P))).drop 1=ints ((jQ P.length (jC P)).drop 1):=by unfold ints;rw[List.map_drop]
  have vS:((jQ P.length (jC P)).drop 1).length=P.length-1:=by rw[xG,GA]
  ((repeat'(first|refine Va X0 ?_|(refine Xi ?_ ?_<;>try intro ht)|exact Xx|fail)))
  refine ar _ _ rfl ?_;clear ak ar Ql;repeat(refine Xu ?_)
  generalize jQ P.length (jC P)=pc at *;refine cr (σ':=⟨an [(5,.tree 1 (ints pc))],[]⟩) (by rw[<- dD];exact Xs true [] X0) ?_;((repeat'(first|refine Vd (X4 @dD @Ko @vS @Option.map_none.{0,0}) vV ?_|refine VD ?_ ?_|fail)))
  ·intro _;trivial
  exact aS rfl (by rw[kD])
end T

