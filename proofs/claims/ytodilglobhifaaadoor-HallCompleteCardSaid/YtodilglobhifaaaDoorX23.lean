import Derived.Test.YtodilglobhifaaaDoorX19
set_option linter.all false
set_option maxHeartbeats 0
set_option maxRecDepth 20000
open List renaming mem_append→bn,mem_singleton→bB,length_set→bm,getD_eq_getElem?_getD→an,getElem?_append_right→dk,length_append→aJ,length_singleton→lH,append_nil→eY,nil_append→g9,replicate→aw,getElem_of_mem→xi,getElem?_eq_getElem→aN,pairwise_iff_getElem→pI,contains_iff_mem→oh,mem_filter→fI,find?_cons→xj,any_eq_true→ko,getElem?_eq_some_iff→aF,getElem?_set_ne→cV,mem_iff_getElem→lJ
open Nat renaming le_refl→aH,sub_self→kn,sub_zero→lI,add_sub_cancel_left→uG
open Int renaming toNat_of_nonneg→iS,toNat_natCast→bY
open Option renaming getD_some→dg
open Go Go.Am
namespace T
def wo(n:Nat)(ls:List (List Int))(c:Int×Int):List (List Int) :=
 if 0<(ls.getD c.1.toNat []).length/\(ls.getD c.1.toNat []).getD ((ls.getD c.1.toNat []).length-1) 0=(n:Int) then ls else ls.set c.1.toNat (ls.getD c.1.toNat []++[(n:Int)])
def qy(n:Nat):List (Int×Int)->List (List Int)->List (List Int)
 |[],ls=>ls
 |c::r,ls=>qy n r (wo n ls c)
def kL:List (List (Int×Int))->Nat->List (List Int)->List (List Int)
 |[],_,ls=>ls
 |C::r,n,ls=>kL r (n+1) (qy n C ls)
structure HI(N:Nat)(A:List (List (Int×Int)))(D:List (Int×Int))(ls:List (List Int)):Prop where
 len:ls.length=N
 mem:∀ c,c<N->∀ k:Nat,(k:Int)∈ls.getD c []↔(k<A.length/\∃ y∈A.getD k [],y.1=(c:Int))\/(k=A.length/\∃ y∈D,y.1=(c:Int))
 fR:∀ c,∀ x∈ls.getD c [],0<=x/\x<=A.length
 vT:∀ c,(A.length:Int)∈ls.getD c []->(ls.getD c []).getD ((ls.getD c []).length-1) 0=A.length
 rZ:∀ c,(ls.getD c []).length<=A.length+1/\((A.length:Int) ∉ ls.getD c []->(ls.getD c []).length<=A.length)
def HI.step{N:Nat}{A:List (List (Int×Int))}{D:List (Int×Int)}{ls:List (List Int)}(h:HI N A D ls){y:Int×Int}(hy:0<=y.1/\y.1<N):HI N A (D++[y]) (wo A.length ls y):=by
 have C4:y.1.toNat<ls.length:=by rw[h.len];omega
 unfold wo;split
 ·rename_i hc;refine⟨h.len,λc wq k=>?_,h.fR,h.vT,h.rZ⟩;rw[h.mem c wq];constructor
  ·rintro(h1|⟨h1,z,h2,h3⟩)
   ·exact .inl h1
   ·exact .inr ⟨h1,z,by simp[h2],h3⟩
  ·rintro(h1|⟨h1,z,h2,h3⟩)
   ·exact .inl h1
   ·rcases bn.1 h2 with h2|h2
    ·exact .inr ⟨h1,z,h2,h3⟩
    ·rw[bB]at h2;rw[h2]at h3;refine(h.mem c wq k).1 ?_;rw[show c=y.1.toNat by omega,h1,<- hc.2];exact aO z8
 ·rename_i hc;have hn:(A.length:Int) ∉ ls.getD y.1.toNat []:=λhm=>hc ⟨List.length_pos_of_mem hm,h.vT _ hm⟩;have hg:∀ c,(ls.set y.1.toNat (ls.getD y.1.toNat []++[(A.length:Int)])).getD c []=if c=y.1.toNat then ls.getD y.1.toNat []++[(A.length:Int)] else ls.getD c []:=λc=>by
   rw[yW];by_cases e:c=y.1.toNat
   ·rw[if_pos ⟨e,C4⟩,if_pos e]
   ·rw[if_neg (λh=>e h.1),if_neg e]
  refine⟨by rw[bm];exact h.len,λc wq k=>?_,λc x hx=>?_,λc hm=>?_,λc=>?_⟩
  ·rw[hg];by_cases e:c=y.1.toNat
   ·rw[if_pos e,bn,bB,<- e,h.mem c wq];constructor
    ·rintro((h1|⟨h1,z,h2,h3⟩)|h1)
     ·exact .inl h1
     ·exact .inr ⟨h1,z,by simp[h2],h3⟩
     ·exact .inr ⟨z8,y,Eb,z8⟩
    ·rintro(h1|⟨h1,z,h2,h3⟩)
     ·exact .inl (.inl h1)
     ·exact .inr z8
   ·rw[if_neg e,h.mem c wq];constructor
    ·rintro(h1|⟨h1,z,h2,h3⟩)
     ·exact .inl h1
     ·exact .inr ⟨h1,z,by simp[h2],h3⟩
    ·rintro(h1|⟨h1,z,h2,h3⟩)
     ·exact .inl h1
     ·rcases bn.1 h2 with h2|h2
      ·exact .inr ⟨h1,z,h2,h3⟩
      ·rw[bB]at h2;rw[h2]at h3;omega
  ·rw[hg]at hx;split at hx
   ·rcases bn.1 hx with hx|hx
    ·exact h.fR _ x hx
    ·rw[bB]at hx;omega
   ·exact h.fR _ x hx
  ·rw[hg]at hm ⊢;split
   ·rw[an,dk Eb,aJ,lH];simp
   ·rename_i e;rw[if_neg e]at hm;exact h.vT c hm
  ·rw[hg];split
   ·have:=(h.rZ y.1.toNat).2 hn;rw[aJ,lH];exact⟨z8,λhh=>absurd Eb hh⟩
   ·exact h.rZ c
def HI.row{N:Nat}{A:List (List (Int×Int))}:∀ (C D:List (Int×Int)) (ls:List (List Int)),HI N A D ls->(∀ y∈C,0<=y.1/\y.1<N)->HI N A (D++C) (qy A.length C ls)
 |[],D,ls,h,_=>by rw[eY];exact h
 |y::r,D,ls,h,hC=>by
  rw[qy,show D++y::r=D++[y]++r by simp];exact HI.row r _ _ (h.step (hC y Eb)) λz hz=>hC z (by simp[hz])
def HI.next{N:Nat}{A:List (List (Int×Int))}{C:List (Int×Int)}{ls:List (List Int)}(h:HI N A C ls):HI N (A++[C]) [] ls:=by
 have hl:(A++[C]).length=A.length+1:=Eb;have h1:∀ k,k<A.length->(A++[C]).getD k []=A.getD k []:=λk hk=>by
  rw[an,List.getElem?_append_left hk,<- an]
 have h2:(A++[C]).getD A.length []=C:=by
  rw[an,dk (aH _)];simp
 refine⟨h.len,λc hc k=>?_,λc x hx=>?_,λc hm=>?_,λc=>?_⟩
 ·rw[h.mem c hc,hl];constructor
  ·rintro(⟨a,b⟩|⟨a,b⟩)
   ·exact .inl ⟨z8,by rw[h1 k a];exact b⟩
   ·exact .inl ⟨z8,by rw[a,h2];exact b⟩
  ·rintro(⟨a,b⟩|⟨a,b⟩)
   ·by_cases hk:k<A.length
    ·rw[h1 k hk]at b;exact .inl ⟨hk,b⟩
    ·rw[show k=A.length by omega,h2]at b;exact .inr ⟨z8,b⟩
   ·obtain⟨y,hy,_⟩:=b;simp at hy
 ·have:=h.fR c x hx;omega
 ·have:=h.fR c _ hm;omega
 ·have:=(h.rZ c).1;exact⟨z8,λ_=>z8⟩
def HI.all{N:Nat}:∀ (R A:List (List (Int×Int))) (ls:List (List Int)),HI N A [] ls->(∀ C∈R,∀ y∈C,0<=y.1/\y.1<N)->HI N (A++R) [] (kL R A.length ls)
 |[],A,ls,h,_=>by rw[eY];exact h
 |C::r,A,ls,h,hR=>by
  have h1:=(HI.row C [] ls h (hR C Eb)).next;rw[g9]at h1;have h2:=HI.all r (A++[C]) _ h1 λD hD=>hR D (by simp[hD]);rw[List.append_assoc]at h2;rw[kL];rw[aJ]at h2;exact h2
def KC{N:Nat}{A:List (List (Int×Int))}(hA:∀ C∈A,∀ y∈C,0<=y.1/\y.1<N):kI N A (kL A 0 (aw N []))/\∀ c,((kL A 0 (aw N [])).getD c []).length<=A.length+1:=by
 have hg:∀ c,(aw N ([]:List Int)).getD c []=[]:=λc=>rP _ _ _;have h:=HI.all A [] (aw N []) ⟨Eb,λc hc k=>by rw[hg];simp,λc=>by rw[hg];simp,λc=>by rw[hg];simp,λc=>by rw[hg];simp⟩ hA;rw[g9]at h;refine⟨⟨h.len,λc hc k=>?_,λl hl x hx=>?_⟩,λc=>(h.rZ c).1⟩
 ·rw[show kL A 0 (aw N [])=kL A ([]:List (List (Int×Int))).length (aw N []) from rfl,h.mem c hc];constructor
  ·rintro(h1|⟨_,y,hy,_⟩)
   ·exact h1
   ·simp at hy
  ·exact .inl
 ·obtain⟨c,hc,rfl⟩:=xi hl;refine(h.fR c x ?_).1;rw[an];show x∈((kL A 0 (aw N []))[c]?).getD [];rw[aN hc];exact hx
def g7(G:List Int)(c:Int×Int):Bool:=G.contains c.1
def gw(a b:List (Int×Int)):Bool:=decide ((bI a).1<(bI b).1\/((bI a).1=(bI b).1/\(bI a).2<(bI b).2))
def oa(A:List (List (Int×Int)))(D:List Int×List Int):List (List (Int×Int)):=D.2.map λn=>(A.getD n.toNat []).filter (g7 D.1)
def zd(A:List (List (Int×Int)))(L:List (List Int)):List Int×List (List (Int×Int))×Bool :=
 if(jH L A.length).1=[] then([],[],false) else((jH L A.length).1,fD gw (oa A ((jH L A.length).1,(jH L A.length).2.1)) [],true)
def Ln{r:Int}:∀ {l:List Int},(∀ x∈l,0<=x/\x<r)->j' r l=0
 |[],_=>rfl
 |n::l,h=>by
  have:=h n Eb;rw[j',if_neg z8];exact Ln λx hx=>h x (by simp[hx])
def Lo{r:Int}:∀ {left:List (List Int)},(∀ l∈left,l.length<=4096/\∀ x∈l,0<=x/\x<r)->ke r left=0
 |[],_=>rfl
 |l::left,h=>by
  have:=h l Eb;rw[ke,if_neg z8,if_neg (by rw[Ln this.2];decide)];exact Lo λx hx=>h x (by simp[hx])
section
variable {X:List (Int×Int)} {cx:Int×Int->List (Int×Int)} {N:Nat} {A B:List (List (Int×Int))} {L L':List (List Int)}
def kI.RG(h:kI N A L){l:List Int}(hl:l∈L):∀ x∈l,0<=x/\x<A.length:=λx hx=>by
 have h0:=h.fR l hl x hx;obtain⟨c,hc,rfl⟩:=xi hl;have:((x.toNat:Nat):Int)∈L.getD c []:=by
  rw[iS h0,an,aN hc];exact hx
 have:=((h.mem c (by rw[<- h.len];exact hc) _).1 this).1;omega
def kI.check(h:kI N A L)(hN:N<=256)(hA:A.length<=4095)(hs:∀ c,(L.getD c []).length<=4096):T.check L A.length=0:=by
 unfold T.check;rw[if_neg (by rw[h.len];omega),if_neg z8];refine Lo λl hl=>⟨?_,h.RG hl⟩;obtain⟨c,hc,rfl⟩:=xi hl;have:=hs c;rw[an,aN hc]at this;exact this
def kI.left(h:kI N A L)(hN:N<=256)(hA:A.length<=4095)(hs:∀ c,(L.getD c []).length<=4096):dD A.length L:=by
 have:=(B2 (h.check hN hA hs)).1;rwa [bY]at this
def kI.jH(h:kI N A L)(hN:N<=256)(hA:A.length<=4095)(hs:∀ c,(L.getD c []).length<=4096):T.jH L A.length=((dL L A.length).1,(dL L A.length).2,0):=by
 unfold T.jH;rw[if_neg (by rw[h.check hN hA hs];decide),bY]
def pf.aG(hA:pf X cx A)(hB:pf X cx B)(h:kI N A L)(h':kI N B L'):Ci L L' B.length (λk=>B.idxOf (A.getD k [])):=by
 have cR:∀ k,k<A.length->A.getD k []∈B:=λk hk=>(hB.mem _).2 ((hA.mem _).1 (aO hk));have px:∀ k,k<A.length->B.idxOf (A.getD k [])<B.length/\B.getD (B.idxOf (A.getD k [])) []=A.getD k []:=λk hk=>by
  have aZ:=List.idxOf_lt_length_of_mem (cR k hk);refine⟨aZ,?_⟩;rw[an,aN aZ];exact List.getElem_idxOf aZ
 refine⟨by rw[h.len,h'.len],λi hi x hx=>?_,λi j hi hj x y hx hy e=>?_⟩
 ·rw[h.len]at hi;obtain⟨h1,y,h2,h3⟩:=(h.mem i hi x).1 hx;obtain⟨h4,h5⟩:=px x h1;exact⟨h4,(h'.mem i hi _).2 ⟨h4,y,by rw[h5];exact h2,h3⟩⟩
 ·rw[h.len]at hi hj;have h1:=((h.mem i hi x).1 hx).1;have h2:=((h.mem j hj y).1 hy).1;have e2:A.getD x []=A.getD y []:=by rw[<- (px x h1).2,<- (px y h2).2];exact congrArg (λk=>B.getD k []) e
  have hp:=List.nodup_iff_pairwise_ne.1 hA.nd;rw[an,aN h1,an,aN h2]at e2;rcases Nat.lt_trichotomy x y with h|h|h
  ·exact absurd e2 (pI.1 hp x y h1 h2 h)
  ·exact h
  ·exact absurd e2.symm (pI.1 hp y x h2 h1 h)
def RH(iK:CX X cx)(hA:pf X cx A)(h:kI N A L)(hL:dD A.length L)(hX:∀ x∈X,0<=x.1/\x.1<N)(D:List (Int×Int)):
  D∈oa A (dL L A.length)↔∃ C∈A,(∃ y∈C,g7 (dL L A.length).1 y=true)/\D=C.filter (g7 (dL L A.length).1):=by
 obtain⟨av,m,h1,h2,h3,h4,h5⟩:=JN hL;have hG:∀ j:Nat,(j:Int)∈(dL L A.length).1↔av.getD j false=true:=λj=>by rw[h3];exact JO
 have hP:∀ k:Nat,(k:Int)∈(dL L A.length).2↔k<A.length/\∃ y∈A.getD k [],g7 (dL L A.length).1 y=true:=λk=>by
  have e:(k:Int)∈(dL L A.length).2↔m.getD k false=true:=by rw[h3];exact JO
  rw[e,h5];constructor
  ·rintro⟨j,hj,hi,hk⟩;rw[h.len]at hj;obtain⟨a,y,b,c⟩:=(h.mem j hj k).1 hk;exact⟨a,y,b,by unfold g7;rw[c,oh];exact(hG j).2 hi⟩
  ·rintro⟨a,y,b,c⟩;obtain⟨x,hx,e⟩:=(hA.mem _).1 (aO (d:=[]) a);rw[e]at b;have hy:=hX y (iK.sub x hx y b).1;unfold g7 at c;rw[oh]at c;refine⟨y.1.toNat,by rw[h.len];omega,(hG _).1 (by rw[iS hy.1];exact c),(h.mem _ z8 k).2 ⟨a,y,by rw[e];exact b,z8⟩⟩
 unfold oa;rw[List.mem_map];constructor
 ·rintro⟨n,hn,rfl⟩;have h0:0<=n:=by
   rw[h3]at hn;have:=qe _ _ n hn;omega
  have fK:((n.toNat:Nat):Int)∈(dL L A.length).2:=by rw[iS h0];exact hn
  obtain⟨a,b⟩:=(hP _).1 fK;exact⟨_,aO a,b,rfl⟩
 ·rintro⟨C,hC,hy,rfl⟩;obtain⟨k,hk,rfl⟩:=xi hC;have e:A.getD k []=A[k]:=by rw[an,aN hk];rfl
  refine⟨(k:Int),(hP k).2 ⟨hk,by rw[e];exact hy⟩,?_⟩;rw[bY,e]
def zj(X:List (Int×Int))(cx:Int×Int->List (Int×Int))(G:List Int)(D:List (Int×Int)):Prop:=∃ x∈X,D=(cx x).filter (g7 G)/\D≠[]
def zj.hd(iK:CX X cx){G:List Int}{D E:List (Int×Int)}(h:zj X cx G D)(k:zj X cx G E)(e:bI D=bI E):D=E:=by
 obtain⟨x,hx,h1,h2⟩:=h;obtain⟨y,hy,h3,h4⟩:=k;have a:=rX h2;have b:=rX h4;rw[h1]at a;rw[h3,<- h3,<- e,h1]at b;have c:bI (List.filter (g7 G) (cx x))∈cx y:=by
  have b':=rX h4;rw[h3,<- h3,<- e,h1]at b';rw[h3]at b';exact(fI.1 b').1
 have:=iK.meet hx hy (fI.1 a).1 c;rw[h1,h3,this]
def RJ(iK:CX X cx)(hA:pf X cx A)(h:kI N A L)(hL:dD A.length L)(hX:∀ x∈X,0<=x.1/\x.1<N):∀ D∈oa A (dL L A.length),zj X cx (dL L A.length).1 D:=λD hD=>by
 obtain⟨C,hC,⟨y,h1,h2⟩,h3⟩:=(RH iK hA h hL hX D).1 hD;obtain⟨x,hx,e⟩:=(hA.mem C).1 hC;refine⟨x,hx,by rw[h3,e],λe2=>?_⟩;have:y∈C.filter (g7 (dL L A.length).1):=fI.2 ⟨h1,h2⟩;rw[<- h3,e2]at this;simp at this
end
structure Ml(α:Type)where
 key:List Int
 at_:Nat
 l:List α
variable {α:Type}
instance:Inhabited (Ml α):=⟨⟨[],0,[]⟩⟩
def cH(sz:Nat)(M:List (Ml α)):List (List Int×AV):=M.map λx=>(x.key,.ref x.at_ sz 0 x.l.length)
def df(M:List (Ml α))(k:List Int):Option (Ml α):=M.find? λx=>decide (x.key=k)
def zk(sz:Nat)(k:List Int)(M:List (Ml α)):iF k (cH sz M)=(df M k).map λx=>.ref x.at_ sz 0 x.l.length:=by
 unfold iF;have key:∀ (M:List (Ml α)) (i:Nat),(cX k (cH sz M) i=none/\df M k=none)\/∃ q x,cX k (cH sz M) i=some (i+q)/\M[q]?=some x/\df M k=some x:=by
  intro M
  induction M with
  |nil=>intro i;exact .inl ⟨rfl,rfl⟩
  |cons x r ih =>
   intro i;have hf:cX k (cH sz (x::r)) i=if x.key=k then some i else cX k (cH sz r) (i+1):=rfl;have hm:df (x::r) k=if x.key=k then some x else df r k:=by
    unfold df;rw[xj];by_cases h:x.key=k
    ·rw[if_pos h];simp[h]
    ·rw[if_neg h];simp[h]
   rw[hf,hm];by_cases h:x.key=k
   ·rw[if_pos h,if_pos h];exact .inr ⟨0,x,rfl,rfl,rfl⟩
   ·rw[if_neg h,if_neg h];rcases ih (i+1) with h1|⟨q,y,h1,h2,h3⟩
    ·exact .inl h1
    ·exact .inr ⟨q+1,y,by rw[h1];congr 1;omega,by simpa using h2,h3⟩
 rcases key M 0 with⟨h1,h2⟩|⟨q,x,h1,h2,h3⟩
 ·rw[h1,h2];rfl
 ·rw[h1,h3,Nat.zero_add];show((cH sz M)[q]?).map (·.2)=_;unfold cH;rw[List.getElem?_map,h2];rfl
structure sr(m:ae)(p q:Nat)(M:List (Ml Pr))(os:List Ob):Prop where
 fin:os[p]?=some (.var (aP m++[.cJ q]))
 mp:os[q]?=some (.mp 2 (cH 4 M))
 row:∀ k x,df M k=some x->os[x.at_]?=some (.arr 4 (rowsOf bV x.l))
def sr.cg{m:ae}{p q:Nat}{M:List (Ml Pr)}{os ob:List Ob}(h:sr m p q M os)(hk:dM os ob):sr m p q M ob:=⟨hk _ _ h.fin,hk _ _ h.mp,λk x hx=>hk _ _ (h.row k x hx)⟩
def zl(m:ae)(M:List (Ml Pr)):Prop:=∀ a b:Int,m.aj.filter (λp=>decide (p.fst=a/\p.snd=b))=match df M [a,b] with|some x=>x.l|none=>[]
def jI(m:ae)(x:Int×Int):Prop:=(0<=x.1/\x.1<m.cls.length)/\0<=x.2/\x.2<(m.cls.getD x.1.toNat default).length
def zm(m:ae)(x y:Int×Int)(p:Pr):Bool:=decide (l4 m p x.2 y.2=1099511627776)
def RK(m:ae)(x y:Int×Int):m.aj.any (qt m x.1 x.2 y.1 y.2)=(m.aj.filter λp=>decide (p.fst=x.1/\p.snd=y.1)).any (zm m x y):=by
 rw[Bool.eq_iff_iff,ko,ko];constructor
 ·rintro⟨p,h1,h2⟩;unfold qt at h2;rw[decide_eq_true_eq]at h2;exact⟨p,fI.2 ⟨h1,decide_eq_true ⟨h2.1,h2.2.1⟩⟩,decide_eq_true h2.2.2⟩
 ·rintro⟨p,h1,h2⟩;obtain⟨h3,h4⟩:=fI.1 h1;rw[decide_eq_true_eq]at h4;unfold zm at h2;rw[decide_eq_true_eq]at h2;exact⟨p,h3,by unfold qt;rw[decide_eq_true_eq];exact⟨h4.1,h4.2,h2⟩⟩
def py(k:List Int):List AV:=k.map λx=>UX x
def eW{α:Type}(k:List Int)(a:Nat)(l:List α):List (Ml α)->List (Ml α)
 |[]=>[⟨k,a,l⟩]
 |x::r=>if x.key=k then⟨k,a,l⟩::r else x::eW k a l r
def ss{α:Type}(k:List Int)(a:Nat)(l:List α)(k':List Int):∀ G:List (Ml α),df (eW k a l G) k'=if k=k' then some ⟨k,a,l⟩ else df G k'
 |[]=>by
  unfold eW df;rw[xj];by_cases h:k=k'
  ·rw[if_pos h];simp[h]
  ·rw[if_neg h];simp[h]
 |x::r=>by
  have ih:=ss k a l k' r;unfold eW;by_cases hx:x.key=k
  ·rw[if_pos hx];unfold df;rw[xj,xj];by_cases h:k=k'
   ·rw[if_pos h];simp[h]
   ·rw[if_neg h];have:¬ x.key=k':=λe=>h (hx.symm.trans e);simp[h,this]
  ·rw[if_neg hx];unfold df at ih ⊢;rw[xj,xj];by_cases h:x.key=k'
   ·have:¬ k=k':=λe=>hx (h.trans e.symm);rw[if_neg this];simp[h]
   ·simp only[h,decide_false];exact ih
def Lp(l:List Int):∀ (L:List (List Int×AV)) (i:Nat),cX l L (i+1)=(cX l L i).map (·+1)
 |[],i=>rfl
 |p::r,i=>by
  show(if p.1=l then some (i+1) else cX l r (i+1+1))=(if p.1=l then some i else cX l r (i+1)).map (·+1);split
  ·rfl
  ·exact Lp l r (i+1)
def RL(k:List Int)(v:AV)(p:List Int×AV)(L:List (List Int×AV)):Am.bT k v (p::L)=if p.1=k then(k,v)::L else p::Am.bT k v L:=by
 unfold Am.bT;show(match (if p.1=k then some 0 else cX k L 1) with|some i=>(p::L).set i (k,v)|none=>p::L++[(k,v)])=_;by_cases h:p.1=k
 ·rw[if_pos h,if_pos h];rfl
 ·rw[if_neg h,if_neg h,Lp];cases cX k L 0<;>rfl
def wu{α:Type}{sz:Nat}(k:List Int)(a:Nat)(l:List α):∀ G:List (Ml α),Am.bT k (.ref a sz 0 l.length) (cH sz G)=cH sz (eW k a l G)
 |[]=>rfl
 |x::r=>by
  show Am.bT k _ ((x.key,_)::cH sz r)=_;rw[RL,wu k a l r,show eW k a l (x::r)=if x.key=k then⟨k,a,l⟩::r else x::eW k a l r from rfl];dsimp only;by_cases h:x.key=k
  ·rw[if_pos h,if_pos h];rfl
  ·rw[if_neg h,if_neg h];rfl
def C5(l:List Int)(u v:AV)(L:List (List Int×AV)):jz (nu l L) v (Am.bT l u L)=Am.bT l v L:=by
 unfold jz nu Am.bT;cases h:cX l L 0 with
 |none =>
  rw[Option.getD_none];dsimp only;rw[List.set_append_right _ _ (aH _),kn,an,dk (aH _),kn];rfl
 |some q =>
  obtain⟨_,w,hw⟩:=oK h;rw[lI]at hw;have hq:=(aF.1 hw).1;rw[dg];dsimp only;rw[List.set_set,an,List.getElem?_set_self hq];rfl
def C6(l:List Int)(u:AV)(L:List (List Int×AV)):nu l L<(Am.bT l u L).length:=by
 unfold nu Am.bT;cases h:cX l L 0 with
 |none=>simp
 |some q =>
  obtain⟨_,w,hw⟩:=oK h;rw[lI]at hw;have hq:=(aF.1 hw).1;simpa using hq
structure CB(base:List Ob)(gq to tk:Nat)(D:List (Nat×Nat))(S:List (List (Int×Int)))(G:List (Ml (Int×Int)))(ks:List (List Int))(ob:List Ob):Prop where
 kp:dM base ob
 mp:ob[gq]?=some (.mp 4 (cH 2 G))
 out:ob[to]?=some (.arr 1 (rowsOf eT D))
 kl:ob[tk]?=some (.arr 4 (rowsOf py ks))
 ri:RI au ob D S
 gr:∀ k g,df G k=some g->ob[g.at_]?=some (.arr 2 (rowsOf au g.l))
 inj:∀ k k' g g',df G k=some g->df G k'=some g'->g.at_=g'.at_->k=k'
 ud:∀ k g,df G k=some g->∀ d∈D,d.1≠g.at_
 fr:(base.length<=gq/\base.length<=to/\base.length<=tk)/\∀ k g,df G k=some g->base.length<=g.at_
variable {base ob l:List Ob} {gq to tk:Nat} {D:List (Nat×Nat)} {S:List (List (Int×Int))} {G:List (Ml (Int×Int))} {ks:List (List Int)}
def CB.app(h:CB base gq to tk D S G ks ob)(l:List Ob):CB base gq to tk D S G ks (ob++l) :=
 ⟨h.kp.app l,aA h.mp l,aA h.out l,aA h.kl l,h.ri.app l,λk g hg=>aA (h.gr k g hg) l,h.inj,h.ud,h.fr⟩
def CB.start(os:List Ob):CB os os.length (os.length+1) (os.length+2) [] [] [] [] (os++[.mp 4 [],.arr 1 [],.arr 4 []]) :=
 ⟨(dM.refl os).app _,nW _ _ _,nX _ _ 1,nX _ _ 2,RI.nil,λk g h=>(by cases(show(none:Option (Ml (Int×Int)))=some g from h)),λk k' g g' h=>(by cases(show(none:Option (Ml (Int×Int)))=some g from h)),λk g h=>(by cases(show(none:Option (Ml (Int×Int)))=some g from h)),⟨⟨z8,z8,z8⟩,λk g h=>(by cases(show(none:Option (Ml (Int×Int)))=some g from h))⟩⟩
def iN{os:List Ob}{i:Nat}{o:Ob}(h:os[i]?=some o):i<os.length:=(aF.1 h).1
def CB.lone(h:CB base gq to tk D S G ks ob){x:Int×Int}{a b:Nat}(h1:l[a]?=some (.arr 2 (rowsOf au [x])))(h2:l[b]?=some (.arr 1 (rowsOf eT (D++[(ob.length+a,1)])))):
  CB base gq (ob.length+b) tk (D++[(ob.length+a,1)]) (S++[[x]]) G ks (ob.set to .gone++l):=by
 have hr:RI au (ob.set to .gone++l) D S:=(h.ri.kill h.out (by intro l e;cases e)).app l;refine⟨(h.kp.set h.fr.1.2.1).app l,?_,?_,?_,?_,λk g hg=>?_,h.inj,λk g hg d hd=>?_,⟨⟨h.fr.1.1,?_,h.fr.1.2.2⟩,h.fr.2⟩⟩
 ·exact aA (cj h.mp h.out (by intro e;cases e)) l
 ·rw[lv];exact h2
 ·exact aA (cj h.kl h.out (by intro e;cases e)) l
 ·exact RI.snoc (r:=[x]) hr (by rw[lv];exact h1)
 ·exact aA (cj (h.gr k g hg) h.out (by intro e;cases e)) l
 ·rcases bn.1 hd with hd|hd
  ·exact h.ud k g hg d hd
  ·rw[bB]at hd;subst hd;have:=iN (h.gr k g hg);dsimp only;omega
 ·have:=h.kp.len;omega
def CB.key(h:CB base gq to tk D S G ks ob){k:List Int}{b:Nat}(h2:l[b]?=some (.arr 4 (rowsOf py (ks++[k])))):CB base gq to (ob.length+b) D S G (ks++[k]) (ob.set tk .gone++l):=by
 refine⟨(h.kp.set h.fr.1.2.2).app l,?_,?_,?_,(h.ri.kill h.kl (by intro l e;cases e)).app l,λk g hg=>?_,h.inj,h.ud,⟨⟨h.fr.1.1,h.fr.1.2.1,?_⟩,h.fr.2⟩⟩
 ·exact aA (cj h.mp h.kl (by intro e;cases e)) l
 ·exact aA (cj h.out h.kl (by intro e;cases e)) l
 ·rw[lv];exact h2
 ·exact aA (cj (h.gr k g hg) h.kl (by intro e;cases e)) l
 ·have:=h.kp.len;omega
def RI.off{α:Type}{enc:α->List AV}{os:List Ob}{D:List (Nat×Nat)}{S:List (List α)}(h:RI enc os D S){i:Nat}(hi:∀ d∈D,d.1≠i){y:Ob}:RI enc (os.set i y) D S :=
 ⟨h.len,λj hj=>⟨by
  have:i≠(D.getD j default).1:=λe=>hi _ (aO (d:=default) hj) e.symm;rw[cV this];exact(h.row j hj).1,(h.row j hj).2⟩⟩
def CB.more(h:CB base gq to tk D S G ks ob){k:List Int}{g:Ml (Int×Int)}(hg:df G k=some g){x:Int×Int}{b:Nat}(h2:l[b]?=some (.arr 2 (rowsOf au (g.l++[x])))):
  CB base gq to tk D S (eW k (ob.length+b) (g.l++[x]) G) ks ((ob.set g.at_ .gone).set gq (.mp 4 (cH 2 (eW k (ob.length+b) (g.l++[x]) G)))++l):=by
 have cG:=h.gr k g hg;have m1:(ob.set g.at_ .gone)[gq]?=some (.mp 4 (cH 2 G)):=cj h.mp cG (by intro e;cases e);have hl:((ob.set g.at_ .gone).set gq (.mp 4 (cH 2 (eW k (ob.length+b) (g.l++[x]) G)))).length=ob.length:=Eb;have j7:((ob.set g.at_ .gone).set gq (.mp 4 (cH 2 (eW k (ob.length+b) (g.l++[x]) G)))++l)[ob.length+b]?=some (.arr 2 (rowsOf au (g.l++[x]))):=by
  rw[dk z8,hl,uG];exact h2
 refine⟨((h.kp.set (h.fr.2 k g hg)).set h.fr.1.1).app l,aA (g6 m1) l,aA (cj (cj h.out cG (by intro e;cases e)) m1 (by intro e;cases e)) l,aA (cj (cj h.kl cG (by intro e;cases e)) m1 (by intro e;cases e)) l,
  ((h.ri.off (h.ud k g hg)).kill m1 (by intro l e;cases e)).app l,λk' g' aW=>?_,λk1 k2 g1 g2 cP b9 e=>?_,λk' g' aW d hd=>?_,⟨h.fr.1,λk' g' aW=>?_⟩⟩
 all_goals rw[ss]at *
 ·split at aW
  ·injection aW with aW;subst aW;exact j7
  ·rename_i bx;have hx:=h.gr k' g' aW;have:g.at_≠g'.at_:=λe=>bx (h.inj k k' g g' hg aW e);exact aA (cj (o:=.arr 2 (rowsOf au g'.l)) (by rw[cV this];exact hx) m1 (by intro e;cases e)) l
 ·split at cP<;>split at b9
  ·rename_i e1 e2;exact e1.symm.trans e2
  ·injection cP with cP;subst cP;have:=iN (h.gr k2 g2 b9);dsimp only at e;omega
  ·injection b9 with b9;subst b9;have:=iN (h.gr k1 g1 cP);dsimp only at e;omega
  ·exact h.inj k1 k2 g1 g2 cP b9 e
 ·split at aW
  ·injection aW with aW;subst aW;obtain⟨j,hj,rfl⟩:=lJ.1 hd;have h3:=iN (h.ri.row j hj).1;rw[an,aN hj,dg]at h3;dsimp only;omega
  ·exact h.ud k' g' aW d hd
 ·split at aW
  ·injection aW with aW;subst aW;have:=h.kp.len;dsimp only;omega
  ·exact h.fr.2 k' g' aW
def CB.first(h:CB base gq to tk D S G ks ob){k:List Int}{x:Int×Int}{b:Nat}(h2:l[b]?=some (.arr 2 (rowsOf au [x]))):
  CB base gq to tk D S (eW k (ob.length+b) [x] G) ks (ob.set gq (.mp 4 (cH 2 (eW k (ob.length+b) [x] G)))++l):=by
 have m1:=h.mp;have hl:(ob.set gq (.mp 4 (cH 2 (eW k (ob.length+b) [x] G)))).length=ob.length:=Eb;have j7:(ob.set gq (.mp 4 (cH 2 (eW k (ob.length+b) [x] G)))++l)[ob.length+b]?=some (.arr 2 (rowsOf au [x])):=by
  rw[dk z8,hl,uG];exact h2
 refine⟨(h.kp.set h.fr.1.1).app l,aA (g6 m1) l,aA (cj h.out m1 (by intro e;cases e)) l,aA (cj h.kl m1 (by intro e;cases e)) l,
  (h.ri.kill m1 (by intro l e;cases e)).app l,λk' g' aW=>?_,λk1 k2 g1 g2 cP b9 e=>?_,λk' g' aW d hd=>?_,⟨h.fr.1,λk' g' aW=>?_⟩⟩
 all_goals rw[ss]at *
 ·split at aW
  ·injection aW with aW;subst aW;exact j7
  ·exact aA (cj (h.gr k' g' aW) m1 (by intro e;cases e)) l
 ·split at cP<;>split at b9
  ·rename_i e1 e2;exact e1.symm.trans e2
  ·injection cP with cP;subst cP;have:=iN (h.gr k2 g2 b9);dsimp only at e;omega
  ·injection b9 with b9;subst b9;have:=iN (h.gr k1 g1 cP);dsimp only at e;omega
  ·exact h.inj k1 k2 g1 g2 cP b9 e
 ·split at aW
  ·injection aW with aW;subst aW;obtain⟨j,hj,rfl⟩:=lJ.1 hd;have h3:=iN (h.ri.row j hj).1;rw[an,aN hj,dg]at h3;dsimp only;omega
  ·exact h.ud k' g' aW d hd
 ·split at aW
  ·injection aW with aW;subst aW;have:=h.kp.len;dsimp only;omega
  ·exact h.fr.2 k' g' aW
structure mj(m:ae)(M:List (Ml Pr))(n:Nat)(ob:List Ob):Prop where
 o0:ob[0]?=some (.var (aP m))
 o1:ob[1]?=some (.var [.lit (.slice none 0 0)])
 mp:ob[2]?=some (.mp 2 (cH 4 M))
 o3:ob[3]?=some (.var (aP m++[.cJ 2]))
 gr:∀ k g,df M k=some g->ob[g.at_]?=some (.arr 4 (rowsOf bV g.l))/\4<=g.at_
 inj:∀ k k' g g',df M k=some g->df M k'=some g'->g.at_=g'.at_->k=k'
 val:∀ a b:Int,((m.aj.take n).filter λp=>decide (p.fst=a/\p.snd=b))=match df M [a,b] with|some x=>x.l|none=>[]
 len:∀ k g,df M k=some g->g.l.length<=n
variable {m:ae} {M:List (Ml Pr)} {n:Nat} {ob l:List Ob}
def mj.fin(h:mj m M m.aj.length ob):sr m 3 2 M ob/\zl m M:=⟨⟨h.o3,h.mp,λk g hg=>(h.gr k g hg).1⟩,λa b=>by have:=h.val a b;rwa [List.take_length]at this⟩
def mj.start(m:ae):mj m [] 0 [.var (aP m),.var [.lit (.slice none 0 0)],.mp 2 [],.var (aP m++[.cJ 2])] :=
 ⟨rfl,rfl,rfl,rfl,λk g h=>(by cases(show(none:Option (Ml Pr))=some g from h)),λk k' g g' h=>(by cases(show(none:Option (Ml Pr))=some g from h)),λa b=>rfl,λk g h=>(by cases(show(none:Option (Ml Pr))=some g from h))⟩
def Lq{n:Nat}(hn:n<m.aj.length)(a b:Int):((m.aj.take (n+1)).filter λp=>decide (p.fst=a/\p.snd=b))=((m.aj.take n).filter λp=>decide (p.fst=a/\p.snd=b))++if(m.aj.getD n default).fst=a/\(m.aj.getD n default).snd=b then [m.aj.getD n default] else []:=by
 rw[ql hn,List.filter_append,List.filter_cons,List.filter_nil];congr 1;by_cases h:(m.aj.getD n default).fst=a/\(m.aj.getD n default).snd=b
 ·rw[if_pos h,if_pos (decide_eq_true h)]
 ·rw[if_neg h,if_neg (by rw[decide_eq_false h];simp)]
def mj.first(h:mj m M n ob)(hn:n<m.aj.length){k:List Int}(hk:k=[(m.aj.getD n default).fst,(m.aj.getD n default).snd])(jB:df M k=none){b:Nat}(h2:l[b]?=some (.arr 4 (rowsOf bV [m.aj.getD n default]))):
  mj m (eW k (ob.length+b) [m.aj.getD n default] M) (n+1) (ob.set 2 (.mp 2 (cH 4 (eW k (ob.length+b) [m.aj.getD n default] M)))++l):=by
 have m1:=h.mp;have h3:=iN h.o3;have j7:(ob.set 2 (.mp 2 (cH 4 (eW k (ob.length+b) [m.aj.getD n default] M)))++l)[ob.length+b]?=some (.arr 4 (rowsOf bV [m.aj.getD n default])):=by
  rw[lv];exact h2
 refine⟨aA (cj h.o0 m1 (by intro e;cases e)) l,aA (cj h.o1 m1 (by intro e;cases e)) l,aA (g6 m1) l,aA (cj h.o3 m1 (by intro e;cases e)) l,λk' g' aW=>?_,λk1 k2 g1 g2 cP b9 e=>?_,λa c=>?_,λk' g' aW=>?_⟩;all_goals rw[ss]at *
 ·split at aW
  ·injection aW with aW;subst aW;exact⟨j7,UT⟩
  ·exact⟨aA (cj (h.gr k' g' aW).1 m1 (by intro e;cases e)) l,(h.gr k' g' aW).2⟩
 ·split at cP<;>split at b9
  ·rename_i e1 e2;exact e1.symm.trans e2
  ·injection cP with cP;subst cP;have:=iN (h.gr k2 g2 b9).1;dsimp only at e;omega
  ·injection b9 with b9;subst b9;have:=iN (h.gr k1 g1 cP).1;dsimp only at e;omega
  ·exact h.inj k1 k2 g1 g2 cP b9 e
 ·rw[Lq hn];have hv:=h.val a c;by_cases e:(m.aj.getD n default).fst=a/\(m.aj.getD n default).snd=c
  ·have ek:k=[a,c]:=by rw[hk,e.1,e.2]
   rw[<- ek,jB]at hv;rw[if_pos e,if_pos ek,hv];rfl
  ·have ek:¬ k=[a,c]:=λh=>e (by rw[hk]at h;injection h with h1 h2;injection h2 with h2 _;exact⟨h1,h2⟩);rw[if_neg e,if_neg ek,eY,hv]
 ·split at aW
  ·injection aW with aW;subst aW;simp
  ·have:=h.len k' g' aW;omega
def mj.more(h:mj m M n ob)(hn:n<m.aj.length){k:List Int}(hk:k=[(m.aj.getD n default).fst,(m.aj.getD n default).snd]){g:Ml Pr}(hg:df M k=some g){b:Nat}(h2:l[b]?=some (.arr 4 (rowsOf bV (g.l++[m.aj.getD n default])))):
  mj m (eW k (ob.length+b) (g.l++[m.aj.getD n default]) M) (n+1) ((ob.set g.at_ .gone).set 2 (.mp 2 (cH 4 (eW k (ob.length+b) (g.l++[m.aj.getD n default]) M)))++l):=by
 have cG:=(h.gr k g hg).1;have h4:=(h.gr k g hg).2;have h3:=iN h.o3;have m1:(ob.set g.at_ .gone)[2]?=some (.mp 2 (cH 4 M)):=cj h.mp cG (by intro e;cases e);have j7:((ob.set g.at_ .gone).set 2 (.mp 2 (cH 4 (eW k (ob.length+b) (g.l++[m.aj.getD n default]) M)))++l)[ob.length+b]?=some (.arr 4 (rowsOf bV (g.l++[m.aj.getD n default]))):=by
  rw[dk Eb,bm,bm,uG];exact h2
 refine⟨aA (cj (cj h.o0 cG (by intro e;cases e)) m1 (by intro e;cases e)) l,aA (cj (cj h.o1 cG (by intro e;cases e)) m1 (by intro e;cases e)) l,aA (g6 m1) l,aA (cj (cj h.o3 cG (by intro e;cases e)) m1 (by intro e;cases e)) l,λk' g' aW=>?_,λk1 k2 g1 g2 cP b9 e=>?_,λa c=>?_,λk' g' aW=>?_⟩;all_goals rw[ss]at *
 ·split at aW
  ·injection aW with aW;subst aW;exact⟨j7,UT⟩
  ·rename_i bx;have hx:=(h.gr k' g' aW).1;have:g.at_≠g'.at_:=λe=>bx (h.inj k k' g g' hg aW e);exact⟨aA (cj (o:=.arr 4 (rowsOf bV g'.l)) (by rw[cV this];exact hx) m1 (by intro e;cases e)) l,(h.gr k' g' aW).2⟩
 ·split at cP<;>split at b9
  ·rename_i e1 e2;exact e1.symm.trans e2
  ·injection cP with cP;subst cP;have:=iN (h.gr k2 g2 b9).1;dsimp only at e;omega
  ·injection b9 with b9;subst b9;have:=iN (h.gr k1 g1 cP).1;dsimp only at e;omega
  ·exact h.inj k1 k2 g1 g2 cP b9 e
 ·rw[Lq hn];have hv:=h.val a c;by_cases e:(m.aj.getD n default).fst=a/\(m.aj.getD n default).snd=c
  ·have ek:k=[a,c]:=by rw[hk,e.1,e.2]
   rw[<- ek,hg]at hv;rw[if_pos e,if_pos ek,hv]
  ·have ek:¬ k=[a,c]:=λh=>e (by rw[hk]at h;injection h with h1 h2;injection h2 with h2 _;exact⟨h1,h2⟩);rw[if_neg e,if_neg ek,eY,hv]
 ·split at aW
  ·injection aW with aW;subst aW;have:=h.len k g hg;simp;omega
  ·have:=h.len k' g' aW;omega
end T

