import Derived.Test.YtodilglobhifaaaGreatDoorX17
set_option linter.all false
set_option maxHeartbeats 0
set_option maxRecDepth 20000
open List renaming range→bp,mem_filter→kF,mem_singleton→bK,mem_append→bE,mem_cons→cI,contains_iff_mem→pP,nodup_append→sH,mem_map→cF,nodup_iff_pairwise_ne→q6,mem_flatMap→E2,getD_eq_getElem?_getD→ax,length_append→aK,length_singleton→nq,length_set→bm,getElem?_append_left→cG,getElem?_append_right→dy,pairwise_iff_getElem→sI,getElem?_eq_getElem→aT,append_nil→gI,nil_append→dx,append_assoc→bn,replicate→aD,getElem_of_mem→q7,take_add_one→JG,set_append_right→vq
open Bool renaming and_eq_true→bb,true_and→eR,not_eq_true'→jd,not_eq_true→xg
open Nat renaming le_refl→aM,lt_trichotomy→JK
open Int renaming toNat_of_nonneg→oW,toNat_natCast→eu
open Go Go.Am
namespace T
def iG(m:ah)(x:Int×Int):bF:=(m.cls.getD x.1.toNat default).getD x.2.toNat default
def wg(m:ah)(left:List (List Bool))(c:Nat):List (Int×Int) :=
 ((bp (m.cls.getD c default).length).filter λi=>(left.getD c default).getD i false).map λi:Nat=>((c:Int),(i:Int))
def fU(m:ah)(left:List (List Bool)):List (Int×Int):=(bp m.cls.length).flatMap λc=>wg m left c
def oZ(w:Int):Int:=if w=2 then 1 else 0
def Al(w:Int):Int:=if w=2 then 2 else 1
def gD(m:ah)(x:Int×Int):Bool:=decide (0<=(iG m x).room/\0<(iG m x).wk)
def dI(m:ah)(x:Int×Int):List Int:=[(iG m x).room,(iG m x).day,(iG m x).st,oZ (iG m x).wk]
def Dn(m:ah)(x y:Int×Int):Bool :=
 decide (0<=(iG m x).room/\(iG m x).room=(iG m y).room/\(iG m x).day=(iG m y).day/\(iG m x).st=(iG m y).st/\0<(iG m x).wk/\0<(iG m y).wk/\Al (iG m x).wk=Al (iG m y).wk)
def eJ(m:ah)(X:List (Int×Int))(k:List Int):List (Int×Int):=X.filter λx=>gD m x&&decide (dI m x=k)
def Dp(m:ah)(l:List (Int×Int))(i:Nat):Bool:=(l.take i).all (pF m (l.getD i default))
def pG(m:ah)(l:List (Int×Int)):Bool:=(bp l.length).all (Dp m l)
def gF(m:ah)(X:List (Int×Int))(x:Int×Int):List (Int×Int):=if gD m x&&pG m (eJ m X (dI m x)) then eJ m X (dI m x) else [x]
def jy(m:ah):List (Int×Int)->List (List Int)->List (List Int)
 |[],ks=>ks
 |x::r,ks=>jy m r (if gD m x&&!ks.contains (dI m x) then ks++[dI m x] else ks)
def kU(m:ah)(X:List (Int×Int))(k:List Int):List (List (Int×Int)):=if pG m (eJ m X k) then [eJ m X k] else(eJ m X k).map λc=>[c]
def rW(m:ah)(X:List (Int×Int)):List (List (Int×Int)):=(X.filter λx=>!gD m x).map λc=>[c]
def kW(m:ah)(X:List (Int×Int)):List (List (Int×Int)):=rW m X++(jy m X []).flatMap (kU m X)
def x7(m:ah)(X:List (Int×Int))(x:Int×Int):List (Int×Int):=X.filter λy=>decide (y=x)||Dn m x y
def Hs(m:ah)(X:List (Int×Int))(x:Int×Int):List (Int×Int):=if pG m (x7 m X x) then x7 m X x else [x]
def cR(c:List (Int×Int)):Int×Int:=c.getD 0 default
def An(x:Int×Int):List (List (Int×Int))->Nat->Int->Int
 |[],_,at'=>at'
 |c::r,i,at'=>An x r (i+1) (if cR c=x then i else at')
def Ht(m:ah)(X:List (Int×Int))(s:List (List (Int×Int))×List (List Int))(x:Int×Int):List (List (Int×Int))×List (List Int) :=
 let y:=Hs m X x
 let a:=An (cR y) s.1 0 (-1)
 if a<0 then(s.1++[y],s.2.set x.1.toNat (s.2.getD x.1.toNat []++[(s.1.length:Int)])) else(s.1,s.2.set x.1.toNat (s.2.getD x.1.toNat []++[a]))
def Hu(m:ah)(X:List (Int×Int)):List (Int×Int)->List (List (Int×Int))×List (List Int)->List (List (Int×Int))×List (List Int)
 |[],s=>s
 |x::r,s=>Hu m X r (Ht m X s x)
structure CX(X:List (Int×Int))(cx:Int×Int->List (Int×Int)):Prop where
 self:∀ x∈X,x∈cx x
 sub:∀ x∈X,∀ y∈cx x,y∈X/\cx y=cx x
structure tw(X:List (Int×Int))(cx:Int×Int->List (Int×Int))(A:List (List (Int×Int))):Prop where
 nd:A.Nodup
 mem:∀ C,C∈A↔∃ x∈X,C=cx x
def nf{m:ah}{X:List (Int×Int)}{k:List Int}{x:Int×Int}:x∈eJ m X k↔x∈X/\gD m x=true/\dI m x=k:=by
 unfold eJ;rw[kF,bb,decide_eq_true_eq]
def x8(m:ah)(X:List (Int×Int)):CX X (gF m X):=by
 refine⟨λx hx=>?_,λx hx y hy=>?_⟩
 ·unfold gF;split
  ·rename_i h;rw[bb]at h;exact nf.2 ⟨hx,h.1,rfl⟩
  ·simp
 ·unfold gF at hy;split at hy
  ·rename_i h;obtain⟨h1,h2,h3⟩:=nf.1 hy;refine⟨h1,?_⟩;unfold gF;rw[h2,h3];rw[bb]at h;rw[h.1,h.2];rfl
  ·rw[bK]at hy;subst hy;exact⟨hx,rfl⟩
def x9{m:ah}:∀ (X:List (Int×Int)) (ks:List (List Int)) (k:List Int),k∈jy m X ks↔k∈ks\/∃ x∈X,gD m x=true/\dI m x=k
 |[],ks,k=>by simp[jy]
 |x::r,ks,k=>by
  rw[jy,x9 r];constructor
  ·rintro(h|⟨y,h1,h2⟩)
   ·split at h
    ·rename_i hc;rw[bb]at hc;rcases bE.1 h with h|h
     ·exact .inl h
     ·rw[bK]at h;exact .inr ⟨x,Jy,hc.1,h.symm⟩
    ·exact .inl h
   ·exact .inr ⟨y,by simp[h1],h2⟩
  ·rintro(h|⟨y,h1,h2,h3⟩)
   ·left;split
    ·exact List.mem_append_left _ h
    ·exact h
   ·rcases cI.1 h1 with rfl|h1
    ·left;by_cases hc:dI m y∈ks
     ·rw[h3]at hc;split
      ·exact List.mem_append_left _ hc
      ·exact hc
     ·have:(gD m y&&!ks.contains (dI m y))=true:=by
       rw[h2,eR,jd,<- xg,pP];exact hc
      rw[if_pos this,<- h3];simp
    ·exact .inr ⟨y,h1,h2,h3⟩
def RR{m:ah}:∀ (X:List (Int×Int)) (ks:List (List Int)),ks.Nodup->(jy m X ks).Nodup
 |[],ks,h=>h
 |x::r,ks,h=>by
  rw[jy];refine RR r _ ?_;split
  ·rename_i hc;rw[bb,jd,<- xg,pP]at hc;rw[sH];exact⟨h,Jy,λa ha b hb e=>by rw[bK]at hb;subst hb;subst e;exact hc.2 ha⟩
  ·exact h
def Ao{m:ah}{X:List (Int×Int)}{k:List Int}{c:Int×Int}(hc:c∈eJ m X k):gF m X c=if pG m (eJ m X k)=true then eJ m X k else [c]:=by
 obtain⟨h1,h2,h3⟩:=nf.1 hc;unfold gF;rw[h2,h3,eR]
def RS(m:ah){X:List (Int×Int)}(hX:X.Nodup):tw X (gF m X) (kW m X):=by
 have hk:∀ k,k∈jy m X []↔∃ x∈X,gD m x=true/\dI m x=k:=λk=>by rw[x9];simp
 have m7:∀ x,gD m x=false->gF m X x=[x]:=λx h=>by unfold gF;rw[h];rfl
 have oI:∀ k C,C∈kU m X k↔(∃ x∈eJ m X k,C=gF m X x)\/(C=[]/\eJ m X k=[] ):=λk C=>by
  unfold kU;split
  ·rename_i h;rw[bK];constructor
   ·rintro rfl;cases hg:eJ m X k with
    |nil=>exact .inr ⟨rfl,rfl⟩
    |cons c r =>
     have hc:c∈eJ m X k:=by rw[hg];simp
     exact .inl ⟨c,Jy,by rw[Ao hc,if_pos h,hg]⟩
   ·rintro(⟨x,h1,h2⟩|⟨h1,h2⟩)
    ·rw[h2,Ao h1,if_pos h]
    ·rw[h1,h2]
  ·rename_i h;rw[cF];constructor
   ·rintro⟨c,hc,rfl⟩;exact .inl ⟨c,hc,by rw[Ao hc,if_neg h]⟩
   ·rintro(⟨x,h1,h2⟩|⟨h1,h2⟩)
    ·exact⟨x,h1,by rw[h2,Ao h1,if_neg h]⟩
    ·rw[h2]at h;exact absurd rfl h
 have cC:∀ k∈jy m X [],∃ x,x∈eJ m X k:=λk h=>by
  obtain⟨x,h1,h2,h3⟩:=(hk k).1 h;exact⟨x,nf.2 ⟨h1,h2,h3⟩⟩
 refine⟨?_,λC=>?_⟩
 ·unfold kW rW;rw[sH];refine⟨?_,?_,?_⟩
  ·rw[q6,List.pairwise_map];exact((q6.1 hX).filter _).imp λh e=>h (by simpa using e)
  ·rw[q6,List.pairwise_flatMap];refine⟨λk _=>?_,(q6.1 (RR X [] .nil)).imp_of_mem λ{k k'} h1 h2 ng C hC D hD e=>?_⟩
   ·unfold kU;split
    ·simp
    ·rw[List.pairwise_map];exact((q6.1 hX).filter _).imp λh e=>h (by simpa using e)
   ·subst e;rcases(oI k C).1 hC with⟨x,g1,g2⟩|⟨_,g2⟩
    ·rcases(oI k' C).1 hD with⟨y,g3,g4⟩|⟨_,g4⟩
     ·have hx:=(nf.1 g1);have hy:=(nf.1 g3);have Ap:x∈C:=by rw[g2];exact(x8 m X).self x hx.1
      have Zz:x∈eJ m X k':=by
       rw[g4,Ao g3]at Ap;split at Ap
       ·exact Ap
       ·rw[bK]at Ap;subst Ap;exact g3
      exact ng (hx.2.2.symm.trans (nf.1 Zz).2.2)
     ·obtain⟨z,hz⟩:=cC k' h2;rw[g4]at hz;simp at hz
    ·obtain⟨z,hz⟩:=cC k h1;rw[g2]at hz;simp at hz
  ·intro C hC D hD e;subst e;rw[cF]at hC;obtain⟨c,hc,rfl⟩:=hC;rw[kF,jd]at hc;rw[E2]at hD;obtain⟨k,h1,h2⟩:=hD;rcases(oI k [c]).1 h2 with⟨x,g1,g2⟩|⟨g1,_⟩
   ·have hx:=nf.1 g1;have px:x∈[c]:=by rw[g2];exact(x8 m X).self x hx.1
    rw[bK]at px;subst px;rw[hx.2.1]at hc;exact absurd hc.2 aac
   ·cases g1
 ·unfold kW rW;rw[bE,cF,E2];constructor
  ·rintro(⟨c,hc,rfl⟩|⟨k,h1,h2⟩)
   ·rw[kF,jd]at hc;exact⟨c,hc.1,(m7 c hc.2).symm⟩
   ·rcases(oI k C).1 h2 with⟨x,g1,g2⟩|⟨_,g2⟩
    ·exact⟨x,(nf.1 g1).1,g2⟩
    ·obtain⟨z,hz⟩:=cC k h1;rw[g2]at hz;simp at hz
  ·rintro⟨x,hx,rfl⟩;cases hb:gD m x with
   |false=>exact .inl ⟨x,by rw[kF,jd];exact⟨hx,hb⟩,(m7 x hb).symm⟩
   |true=>exact .inr ⟨dI m x,(hk _).2 ⟨x,hx,hb,rfl⟩,(oI _ _).2 (.inl ⟨x,nf.2 ⟨hx,hb,rfl⟩,rfl⟩)⟩
def WK(m:ah):Prop:=∀ x,(iG m x).wk<=3
def RT{α:Type}[DecidableEq α]:∀ {X:List α},X.Nodup->∀ {x:α},x∈X->(X.filter λy=>decide (y=x))=[x]
 |[],_,x,h=>by simp at h
 |a::X,hn,x,h=>by
  rw[List.nodup_cons]at hn;rw[List.filter_cons];rcases cI.1 h with e|h
  ·subst e;rw[if_pos Jy];congr 1;rw[List.filter_eq_nil_iff];intro y hy;simp only[decide_eq_true_eq];intro e;subst e;exact hn.1 hy
  ·rw[if_neg (by simp only[decide_eq_true_eq];intro e;subst e;exact hn.1 h)];exact RT hn.2 h
def RU{a b:Int}(ha:0<a/\a<=3)(hb:0<b/\b<=3):Al a=Al b↔oZ a=oZ b:=by
 unfold Al oZ;split<;>split<;>simp
def RV{m:ah}(hw:WK m){x y:Int×Int}:Dn m x y=true↔gD m x=true/\gD m y=true/\dI m y=dI m x:=by
 unfold Dn gD dI;rw[decide_eq_true_eq,decide_eq_true_eq,decide_eq_true_eq];have h1:=hw x;have h2:=hw y;generalize iG m x=a at *;generalize iG m y=b at *;constructor
 ·rintro⟨c1,c2,c3,c4,c5,c6,c7⟩;refine⟨⟨c1,c5⟩,⟨Bv,c6⟩,?_⟩;rw[c2,c3,c4,(RU ⟨c5,h1⟩ ⟨c6,h2⟩).1 c7]
 ·rintro⟨⟨c1,c2⟩,⟨c3,c4⟩,c5⟩;simp only[List.cons.injEq,and_true]at c5;obtain⟨d1,d2,d3,d4⟩:=c5;exact⟨c1,d1.symm,d2.symm,d3.symm,c2,c4,(RU ⟨c2,h1⟩ ⟨c4,h2⟩).2 d4.symm⟩
def ZA{m:ah}(hw:WK m){X:List (Int×Int)}(hX:X.Nodup){x:Int×Int}(hx:x∈X):Hs m X x=gF m X x:=by
 unfold Hs gF;cases hb:gD m x with
 |true =>
  have:x7 m X x=eJ m X (dI m x):=by
   unfold x7 eJ;refine List.filter_congr λy hy=>?_;rw[Bool.eq_iff_iff,Bool.or_eq_true,decide_eq_true_eq,RV hw,bb,decide_eq_true_eq];constructor
   ·rintro(rfl|⟨_,h1,h2⟩)
    ·exact⟨hb,rfl⟩
    ·exact⟨h1,h2⟩
   ·rintro⟨h1,h2⟩;exact .inr ⟨hb,h1,h2⟩
  rw[this,eR]
 |false =>
  have:x7 m X x=[x]:=by
   unfold x7;rw[<- RT hX hx];refine List.filter_congr λy hy=>?_;have:Dn m x y=false:=by
    rw[<- xg];intro h;rw[((RV hw).1 h).1]at hb;cases hb
   rw[this,Bool.or_false]
  rw[this,Bool.false_and];simp
def Aq{C:List (Int×Int)}(h:C≠[]):cR C∈C:=by
 cases C with
 |nil=>exact absurd rfl h
 |cons a r=>simp[cR]
section
variable {X:List (Int×Int)} {cx:Int×Int->List (Int×Int)}
def CX.ne(h:CX X cx){x:Int×Int}(hx:x∈X):cx x≠[]:=λe=>by have:=h.self x hx;rw[e]at this;simp at this
def CX.hd(h:CX X cx){x y:Int×Int}(hx:x∈X)(hy:y∈X)(e:cR (cx x)=cR (cx y)):cx x=cx y:=by
 have h1:=(h.sub x hx _ (Aq (h.ne hx))).2;have h2:=(h.sub y hy _ (Aq (h.ne hy))).2;rw[<- h1,e,h2]
def CX.meet(h:CX X cx){x y z:Int×Int}(hx:x∈X)(hy:y∈X)(h1:z∈cx x)(h2:z∈cx y):cx x=cx y:=by
 rw[<- (h.sub x hx z h1).2,(h.sub y hy z h2).2]
def RW(x:Int×Int):∀ (cs:List (List (Int×Int))) (i:Nat) (a:Int),(An x cs i a=a/\∀ c∈cs,cR c≠x)\/∃ k,k<cs.length/\An x cs i a=((i+k:Nat):Int)/\cR (cs.getD k default)=x
 |[],i,a=>.inl ⟨rfl,Jy⟩
 |c::r,i,a=>by
  rw[An];rcases RW x r (i+1) (if cR c=x then(i:Int) else a) with⟨h1,h2⟩|⟨k,h1,h2,h3⟩
  ·by_cases hc:cR c=x
   ·rw[if_pos hc]at h1 ⊢;exact .inr ⟨0,Jy,by rw[h1];simp,by simpa using hc⟩
   ·rw[if_neg hc]at h1 ⊢;refine .inl ⟨h1,λd hd=>?_⟩;rcases cI.1 hd with rfl|hd
    ·exact hc
    ·exact h2 d hd
  ·exact .inr ⟨k+1,by rw[List.length_cons];omega,by rw[h2];congr 1;omega,by simpa using h3⟩
end
structure nQ(n:Nat)(A:List (List (Int×Int)))(L:List (List Int)):Prop where
 len:L.length=n
 mem:∀ c,c<n->∀ k:Nat,(k:Int)∈L.getD c []↔k<A.length/\∃ y∈A.getD k [],y.1=(c:Int)
 iz:∀ l∈L,∀ x∈l,0<=x
def Dq{α:Type}(l:List α)(i j:Nat)(v d:α):(l.set i v).getD j d=if j=i/\i<l.length then v else l.getD j d:=by
 simp only[ax,List.getElem?_set];by_cases h:j=i
 ·subst h;by_cases h2:j<l.length
  ·simp[h2]
  ·simp[h2]
 ·rw[if_neg (λe=>h e.symm),if_neg (λe=>h e.1)]
structure wh(X:List (Int×Int))(cx:Int×Int->List (Int×Int))(n:Nat)(D:List (Int×Int))(s:List (List (Int×Int))×List (List Int)):Prop where
 nd:s.1.Nodup
 mem:∀ C,C∈s.1↔∃ x∈D,C=cx x
 len:s.2.length=n
 Ar:∀ c,c<n->∀ k:Nat,(k:Int)∈s.2.getD c []↔k<s.1.length/\∃ x∈D,x.1=(c:Int)/\s.1.getD k []=cx x
 iz:∀ c,∀ x∈s.2.getD c [],0<=x
 wi:∀ c,(s.2.getD c []).length<=D.length
def wh.step{m:ah}{X:List (Int×Int)}(hX:X.Nodup)(hw:WK m){n:Nat}(hn:∀ x∈X,0<=x.1/\x.1<n){D:List (Int×Int)}{s:List (List (Int×Int))×List (List Int)}(h:wh X (gF m X) n D s)(hD:∀ x∈D,x∈X){x:Int×Int}(hx:x∈X):
  wh X (gF m X) n (D++[x]) (Ht m X s x):=by
 have jt:=x8 m X;unfold Ht;rw[ZA hw hX hx];dsimp only;have RX:=hn x hx;obtain⟨cs,ls⟩:=s;have hl:=h.len;have bP:=h.mem;have cp:=h.nd;have ky:=h.Ar;have Hv:=h.iz;have Hw:=h.wi;dsimp only at hl bP cp ky Hv Hw ⊢;have h9:∀ (v:List Int) (c:Nat),c<n->(ls.set x.1.toNat v).getD c []=if(c:Int)=x.1 then v else ls.getD c []:=λv c hc=>by
  rw[Dq];by_cases e:(c:Int)=x.1
  ·rw[if_pos e,if_pos ⟨Bv,Bv⟩]
  ·rw[if_neg e,if_neg (λh=>e Bv)]
 have hr:∀ v:List Int,(∀ y∈v,0<=y)->∀ c,∀ y∈(ls.set x.1.toNat v).getD c [],0<=y:=λv hv c y hy=>by
  rw[Dq]at hy;split at hy
  ·exact hv y hy
  ·exact Hv c y hy
 have hz:∀ v:List Int,v.length<=D.length+1->∀ c,((ls.set x.1.toNat v).getD c []).length<=(D++[x]).length:=λv hv c=>by
  rw[Dq,aK,nq];split
  ·exact hv
  ·have:=Hw c;omega
 have hold:=Hv x.1.toNat;have holds:=Hw x.1.toNat;rcases RW (cR (gF m X x)) cs 0 (-1) with⟨h1,h2⟩|⟨k,h1,h2,h3⟩
 ·rw[h1,if_pos aac];have lC:gF m X x ∉ cs:=λhc=>h2 _ hc rfl;refine⟨?_,λC=>?_,by rw[bm];exact hl,λc hc j=>?_,hr _ (λy hy=>?_),hz _ (by rw[aK,nq];omega)⟩
  ·rw[sH];exact⟨cp,Jy,λa ha b hb e=>by rw[bK]at hb;subst hb;subst e;exact lC ha⟩
  ·rw[bE,bP,bK];constructor
   ·rintro(⟨y,h1,h2⟩|h)
    ·exact⟨y,by simp[h1],h2⟩
    ·exact⟨x,Jy,h⟩
   ·rintro⟨y,h1,h2⟩;rcases bE.1 h1 with h1|h1
    ·exact .inl ⟨y,h1,h2⟩
    ·rw[bK]at h1;rw[h1]at h2;exact .inr h2
  ·rw[h9 _ c hc,aK,nq];have qB:j<cs.length->(cs++[gF m X x]).getD j []=cs.getD j []:=λhj=>by
    rw[ax,cG hj,<- ax]
   have nv:(cs++[gF m X x]).getD cs.length []=gF m X x:=by
    rw[ax,dy (aM _)];simp
   have eE:∀ j,j<cs.length->cs.getD j []≠gF m X x:=λj hj e=>lC (e▸aF hj);by_cases e:(c:Int)=x.1
   ·rw[if_pos e,bE,bK,show x.1.toNat=c by omega,ky c hc];constructor
    ·rintro(⟨h1,y,h2,h3,h4⟩|h1)
     ·exact⟨Bv,y,by simp[h2],h3,by rw[qB h1];exact h4⟩
     ·exact⟨Bv,x,Jy,e.symm,by rw[show j=cs.length by omega];exact nv⟩
    ·rintro⟨h1,y,h2,h3,h4⟩;by_cases hj:j<cs.length
     ·rw[qB hj]at h4;rcases bE.1 h2 with h2|h2
      ·exact .inl ⟨hj,y,h2,h3,h4⟩
      ·rw[bK]at h2;rw[h2]at h4;exact absurd h4 (eE j hj)
     ·exact .inr Bv
   ·rw[if_neg e,ky c hc];constructor
    ·rintro⟨h1,y,h2,h3,h4⟩;exact⟨Bv,y,by simp[h2],h3,by rw[qB h1];exact h4⟩
    ·rintro⟨h1,y,h2,h3,h4⟩;rcases bE.1 h2 with h2|h2
     ·by_cases hj:j<cs.length
      ·exact⟨hj,y,h2,h3,by rw[<- qB hj];exact h4⟩
      ·rw[show j=cs.length by omega,nv]at h4;exact absurd ((bP _).2 ⟨y,h2,h4⟩) lC
     ·rw[bK]at h2;rw[h2]at h3;exact absurd h3.symm e
  ·rcases bE.1 hy with hy|hy
   ·exact hold y hy
   ·rw[bK]at hy;omega
 ·rw[h2,Nat.zero_add,if_neg Bv];obtain⟨y,hy,Hx⟩:=(bP _).1 (aF (l:=cs) (i:=k) (d:=default) h1);have ya:cs.getD k default=gF m X x:=by
   rw[Hx];rw[Hx]at h3;exact jt.hd (hD y hy) hx h3
  have As:cs.getD k []=gF m X x:=ya;refine⟨cp,λC=>?_,by rw[bm];exact hl,λc hc j=>?_,hr _ (λy hy=>?_),hz _ (by rw[aK,nq];omega)⟩
  ·rw[bP];constructor
   ·rintro⟨y,h1,h2⟩;exact⟨y,by simp[h1],h2⟩
   ·rintro⟨y,h1,h2⟩;rcases bE.1 h1 with h1|h1
    ·exact⟨y,h1,h2⟩
    ·rw[bK]at h1;exact⟨_,hy,by rw[h2,h1,<- ya,Hx]⟩
  ·rw[h9 _ c hc];by_cases e:(c:Int)=x.1
   ·rw[if_pos e,bE,bK,show x.1.toNat=c by omega,ky c hc];constructor
    ·rintro(⟨h1,y,h2,h3,h4⟩|h4)
     ·exact⟨h1,y,by simp[h2],h3,h4⟩
     ·have:j=k:=Bv;subst this;exact⟨h1,x,Jy,e.symm,As⟩
    ·rintro⟨h1,y,h2,h3,h4⟩;rcases bE.1 h2 with h2|h2
     ·exact .inl ⟨h1,y,h2,h3,h4⟩
     ·rw[bK]at h2;rw[h2]at h4;right;have zy:j=k:=by
       rcases JK j k with h|h|h
       ·exact absurd (by
         have a:=sI.1 (q6.1 cp) j k Bv Bv h;rw[ax,aT Bv]at h4 As;exact a (by simpa using h4.trans As.symm)) id
       ·exact h
       ·exact absurd (by
         have a:=sI.1 (q6.1 cp) k j Bv Bv h;rw[ax,aT Bv]at h4 As;exact a (by simpa using As.trans h4.symm)) id
      omega
   ·rw[if_neg e,ky c hc];constructor
    ·rintro⟨h1,y,h2,h3,h4⟩;exact⟨h1,y,by simp[h2],h3,h4⟩
    ·rintro⟨h1,y,h2,h3,h4⟩;rcases bE.1 h2 with h2|h2
     ·exact⟨h1,y,h2,h3,h4⟩
     ·rw[bK]at h2;rw[h2]at h3;exact absurd h3.symm e
  ·rcases bE.1 hy with hy|hy
   ·exact hold y hy
   ·rw[bK]at hy;omega
def wh.all{m:ah}{X:List (Int×Int)}(hX:X.Nodup)(hw:WK m){n:Nat}(hn:∀ x∈X,0<=x.1/\x.1<n):∀ (r D:List (Int×Int)) (s:List (List (Int×Int))×List (List Int)),wh X (gF m X) n D s->(∀ x∈D,x∈X)->(∀ x∈r,x∈X)->wh X (gF m X) n (D++r) (Hu m X r s)
 |[],D,s,h,_,_=>by rw[gI];exact h
 |x::r,D,s,h,h1,h2=>by
  rw[Hu,show D++x::r=D++[x]++r by simp];refine wh.all hX hw hn r _ _ (h.step hX hw hn h1 (h2 x Jy)) (λy hy=>?_) (λy hy=>h2 y (by simp[hy]));rcases bE.1 hy with hy|hy
  ·exact h1 y hy
  ·rw[bK]at hy;subst hy;exact h2 _ Jy
def Au(n:Nat)(ls:List (List Int))(c:Int×Int):List (List Int) :=
 if 0<(ls.getD c.1.toNat []).length/\(ls.getD c.1.toNat []).getD ((ls.getD c.1.toNat []).length-1) 0=(n:Int) then ls else ls.set c.1.toNat (ls.getD c.1.toNat []++[(n:Int)])
def uO(n:Nat):List (Int×Int)->List (List Int)->List (List Int)
 |[],ls=>ls
 |c::r,ls=>uO n r (Au n ls c)
def nR:List (List (Int×Int))->Nat->List (List Int)->List (List Int)
 |[],_,ls=>ls
 |C::r,n,ls=>nR r (n+1) (uO n C ls)
structure HI(N:Nat)(A:List (List (Int×Int)))(D:List (Int×Int))(ls:List (List Int)):Prop where
 len:ls.length=N
 mem:∀ c,c<N->∀ k:Nat,(k:Int)∈ls.getD c []↔(k<A.length/\∃ y∈A.getD k [],y.1=(c:Int))\/(k=A.length/\∃ y∈D,y.1=(c:Int))
 iz:∀ c,∀ x∈ls.getD c [],0<=x/\x<=A.length
 Ar:∀ c,(A.length:Int)∈ls.getD c []->(ls.getD c []).getD ((ls.getD c []).length-1) 0=A.length
 wi:∀ c,(ls.getD c []).length<=A.length+1/\((A.length:Int) ∉ ls.getD c []->(ls.getD c []).length<=A.length)
def HI.step{N:Nat}{A:List (List (Int×Int))}{D:List (Int×Int)}{ls:List (List Int)}(h:HI N A D ls){y:Int×Int}(hy:0<=y.1/\y.1<N):HI N A (D++[y]) (Au A.length ls y):=by
 have Dr:y.1.toNat<ls.length:=by rw[h.len];omega
 unfold Au;split
 ·rename_i hc;refine⟨h.len,λc Av k=>?_,h.iz,h.Ar,h.wi⟩;rw[h.mem c Av];constructor
  ·rintro(h1|⟨h1,z,h2,h3⟩)
   ·exact .inl h1
   ·exact .inr ⟨h1,z,by simp[h2],h3⟩
  ·rintro(h1|⟨h1,z,h2,h3⟩)
   ·exact .inl h1
   ·rcases bE.1 h2 with h2|h2
    ·exact .inr ⟨h1,z,h2,h3⟩
    ·rw[bK]at h2;rw[h2]at h3;refine(h.mem c Av k).1 ?_;rw[show c=y.1.toNat by omega,h1,<- hc.2];exact aF Bv
 ·rename_i hc;have hn:(A.length:Int) ∉ ls.getD y.1.toNat []:=λhm=>hc ⟨List.length_pos_of_mem hm,h.Ar _ hm⟩;have hg:∀ c,(ls.set y.1.toNat (ls.getD y.1.toNat []++[(A.length:Int)])).getD c []=if c=y.1.toNat then ls.getD y.1.toNat []++[(A.length:Int)] else ls.getD c []:=λc=>by
   rw[Dq];by_cases e:c=y.1.toNat
   ·rw[if_pos ⟨e,Dr⟩,if_pos e]
   ·rw[if_neg (λh=>e h.1),if_neg e]
  refine⟨by rw[bm];exact h.len,λc Av k=>?_,λc x hx=>?_,λc hm=>?_,λc=>?_⟩
  ·rw[hg];by_cases e:c=y.1.toNat
   ·rw[if_pos e,bE,bK,<- e,h.mem c Av];constructor
    ·rintro((h1|⟨h1,z,h2,h3⟩)|h1)
     ·exact .inl h1
     ·exact .inr ⟨h1,z,by simp[h2],h3⟩
     ·exact .inr ⟨Bv,y,Jy,Bv⟩
    ·rintro(h1|⟨h1,z,h2,h3⟩)
     ·exact .inl (.inl h1)
     ·exact .inr Bv
   ·rw[if_neg e,h.mem c Av];constructor
    ·rintro(h1|⟨h1,z,h2,h3⟩)
     ·exact .inl h1
     ·exact .inr ⟨h1,z,by simp[h2],h3⟩
    ·rintro(h1|⟨h1,z,h2,h3⟩)
     ·exact .inl h1
     ·rcases bE.1 h2 with h2|h2
      ·exact .inr ⟨h1,z,h2,h3⟩
      ·rw[bK]at h2;rw[h2]at h3;omega
  ·rw[hg]at hx;split at hx
   ·rcases bE.1 hx with hx|hx
    ·exact h.iz _ x hx
    ·rw[bK]at hx;omega
   ·exact h.iz _ x hx
  ·rw[hg]at hm ⊢;split
   ·rw[ax,dy Jy,aK,nq];simp
   ·rename_i e;rw[if_neg e]at hm;exact h.Ar c hm
  ·rw[hg];split
   ·have:=(h.wi y.1.toNat).2 hn;rw[aK,nq];exact⟨Bv,λhh=>absurd Jy hh⟩
   ·exact h.wi c
def HI.row{N:Nat}{A:List (List (Int×Int))}:∀ (C D:List (Int×Int)) (ls:List (List Int)),HI N A D ls->(∀ y∈C,0<=y.1/\y.1<N)->HI N A (D++C) (uO A.length C ls)
 |[],D,ls,h,_=>by rw[gI];exact h
 |y::r,D,ls,h,hC=>by
  rw[uO,show D++y::r=D++[y]++r by simp];exact HI.row r _ _ (h.step (hC y Jy)) λz hz=>hC z (by simp[hz])
def HI.next{N:Nat}{A:List (List (Int×Int))}{C:List (Int×Int)}{ls:List (List Int)}(h:HI N A C ls):HI N (A++[C]) [] ls:=by
 have hl:(A++[C]).length=A.length+1:=Jy;have h1:∀ k,k<A.length->(A++[C]).getD k []=A.getD k []:=λk hk=>by
  rw[ax,cG hk,<- ax]
 have h2:(A++[C]).getD A.length []=C:=by
  rw[ax,dy (aM _)];simp
 refine⟨h.len,λc hc k=>?_,λc x hx=>?_,λc hm=>?_,λc=>?_⟩
 ·rw[h.mem c hc,hl];constructor
  ·rintro(⟨a,b⟩|⟨a,b⟩)
   ·exact .inl ⟨Bv,by rw[h1 k a];exact b⟩
   ·exact .inl ⟨Bv,by rw[a,h2];exact b⟩
  ·rintro(⟨a,b⟩|⟨a,b⟩)
   ·by_cases hk:k<A.length
    ·rw[h1 k hk]at b;exact .inl ⟨hk,b⟩
    ·rw[show k=A.length by omega,h2]at b;exact .inr ⟨Bv,b⟩
   ·obtain⟨y,hy,_⟩:=b;simp at hy
 ·have:=h.iz c x hx;omega
 ·have:=h.iz c _ hm;omega
 ·have:=(h.wi c).1;exact⟨Bv,λ_=>Bv⟩
def HI.all{N:Nat}:∀ (R A:List (List (Int×Int))) (ls:List (List Int)),HI N A [] ls->(∀ C∈R,∀ y∈C,0<=y.1/\y.1<N)->HI N (A++R) [] (nR R A.length ls)
 |[],A,ls,h,_=>by rw[gI];exact h
 |C::r,A,ls,h,hR=>by
  have h1:=(HI.row C [] ls h (hR C Jy)).next;rw[dx]at h1;have h2:=HI.all r (A++[C]) _ h1 λD hD=>hR D (by simp[hD]);rw[bn]at h2;rw[nR];rw[aK]at h2;exact h2
def RY{N:Nat}{A:List (List (Int×Int))}(hA:∀ C∈A,∀ y∈C,0<=y.1/\y.1<N):nQ N A (nR A 0 (aD N []))/\∀ c,((nR A 0 (aD N [])).getD c []).length<=A.length+1:=by
 have hg:∀ c,(aD N ([]:List Int)).getD c []=[]:=λc=>wj _ _ _;have h:=HI.all A [] (aD N []) ⟨Jy,λc hc k=>by rw[hg];simp,λc=>by rw[hg];simp,λc=>by rw[hg];simp,λc=>by rw[hg];simp⟩ hA;rw[dx]at h;refine⟨⟨h.len,λc hc k=>?_,λl hl x hx=>?_⟩,λc=>(h.wi c).1⟩
 ·rw[show nR A 0 (aD N [])=nR A ([]:List (List (Int×Int))).length (aD N []) from rfl,h.mem c hc];constructor
  ·rintro(h1|⟨_,y,hy,_⟩)
   ·exact h1
   ·simp at hy
  ·exact .inl
 ·obtain⟨c,hc,rfl⟩:=q7 hl;refine(h.iz c x ?_).1;rw[ax];show x∈((nR A 0 (aD N []))[c]?).getD [];rw[aT hc];exact hx
def iH(G:List Int)(c:Int×Int):Bool:=G.contains c.1
def gG(a b:List (Int×Int)):Bool:=decide ((cR a).1<(cR b).1\/((cR a).1=(cR b).1/\(cR a).2<(cR b).2))
def kX(A:List (List (Int×Int)))(D:List Int×List Int):List (List (Int×Int)):=D.2.map λn=>(A.getD n.toNat []).filter (iH D.1)
def Ds(A:List (List (Int×Int)))(L:List (List Int)):List Int×List (List (Int×Int))×Bool :=
 if(mn L A.length).1=[] then([],[],false) else((mn L A.length).1,gj gG (kX A ((mn L A.length).1,(mn L A.length).2.1)) [],true)
def RZ{r:Int}:∀ {l:List Int},(∀ x∈l,0<=x/\x<r)->m9 r l=0
 |[],_=>rfl
 |n::l,h=>by
  have:=h n Jy;rw[m9,if_neg Bv];exact RZ λx hx=>h x (by simp[hx])
def R0{r:Int}:∀ {left:List (List Int)},(∀ l∈left,l.length<=4096/\∀ x∈l,0<=x/\x<r)->nc r left=0
 |[],_=>rfl
 |l::left,h=>by
  have:=h l Jy;rw[nc,if_neg Bv,if_neg (by rw[RZ this.2];decide)];exact R0 λx hx=>h x (by simp[hx])
section
variable {X:List (Int×Int)} {cx:Int×Int->List (Int×Int)} {N:Nat} {A B:List (List (Int×Int))} {L L':List (List Int)}
def nQ.ZB(h:nQ N A L){l:List Int}(hl:l∈L):∀ x∈l,0<=x/\x<A.length:=λx hx=>by
 have h0:=h.iz l hl x hx;obtain⟨c,hc,rfl⟩:=q7 hl;have:((x.toNat:Nat):Int)∈L.getD c []:=by
  rw[oW h0,ax,aT hc];exact hx
 have:=((h.mem c (by rw[<- h.len];exact hc) _).1 this).1;omega
def nQ.check(h:nQ N A L)(hN:N<=256)(hA:A.length<=4095)(hs:∀ c,(L.getD c []).length<=4096):T.check L A.length=0:=by
 unfold T.check;rw[if_neg (by rw[h.len];omega),if_neg Bv];refine R0 λl hl=>⟨?_,h.ZB hl⟩;obtain⟨c,hc,rfl⟩:=q7 hl;have:=hs c;rw[ax,aT hc]at this;exact this
def nQ.left(h:nQ N A L)(hN:N<=256)(hA:A.length<=4095)(hs:∀ c,(L.getD c []).length<=4096):gQ A.length L:=by
 have:=(G4 (h.check hN hA hs)).1;rwa [eu]at this
def nQ.mn(h:nQ N A L)(hN:N<=256)(hA:A.length<=4095)(hs:∀ c,(L.getD c []).length<=4096):T.mn L A.length=((da L A.length).1,(da L A.length).2,0):=by
 unfold T.mn;rw[if_neg (by rw[h.check hN hA hs];decide),eu]
def tw.aU(hA:tw X cx A)(hB:tw X cx B)(h:nQ N A L)(h':nQ N B L'):R2 L L' B.length (λk=>B.idxOf (A.getD k [])):=by
 have eE:∀ k,k<A.length->A.getD k []∈B:=λk hk=>(hB.mem _).2 ((hA.mem _).1 (aF hk));have Aw:∀ k,k<A.length->B.idxOf (A.getD k [])<B.length/\B.getD (B.idxOf (A.getD k [])) []=A.getD k []:=λk hk=>by
  have bq:=List.idxOf_lt_length_of_mem (eE k hk);refine⟨bq,?_⟩;rw[ax,aT bq];exact List.getElem_idxOf bq
 refine⟨by rw[h.len,h'.len],λi hi x hx=>?_,λi j hi hj x y hx hy e=>?_⟩
 ·rw[h.len]at hi;obtain⟨h1,y,h2,h3⟩:=(h.mem i hi x).1 hx;obtain⟨h4,h5⟩:=Aw x h1;exact⟨h4,(h'.mem i hi _).2 ⟨h4,y,by rw[h5];exact h2,h3⟩⟩
 ·rw[h.len]at hi hj;have h1:=((h.mem i hi x).1 hx).1;have h2:=((h.mem j hj y).1 hy).1;have e2:A.getD x []=A.getD y []:=by rw[<- (Aw x h1).2,<- (Aw y h2).2];exact congrArg (λk=>B.getD k []) e
  have hp:=q6.1 hA.nd;rw[ax,aT h1,ax,aT h2]at e2;rcases JK x y with h|h|h
  ·exact absurd e2 (sI.1 hp x y h1 h2 h)
  ·exact h
  ·exact absurd e2.symm (sI.1 hp y x h2 h1 h)
def R3(jt:CX X cx)(hA:tw X cx A)(h:nQ N A L)(hL:gQ A.length L)(hX:∀ x∈X,0<=x.1/\x.1<N)(D:List (Int×Int)):
  D∈kX A (da L A.length)↔∃ C∈A,(∃ y∈C,iH (da L A.length).1 y=true)/\D=C.filter (iH (da L A.length).1):=by
 obtain⟨aE,m,h1,h2,h3,h4,h5⟩:=Dt hL;have hG:∀ j:Nat,(j:Int)∈(da L A.length).1↔aE.getD j false=true:=λj=>by rw[h3];exact R4
 have hP:∀ k:Nat,(k:Int)∈(da L A.length).2↔k<A.length/\∃ y∈A.getD k [],iH (da L A.length).1 y=true:=λk=>by
  have e:(k:Int)∈(da L A.length).2↔m.getD k false=true:=by rw[h3];exact R4
  rw[e,h5];constructor
  ·rintro⟨j,hj,hi,hk⟩;rw[h.len]at hj;obtain⟨a,y,b,c⟩:=(h.mem j hj k).1 hk;exact⟨a,y,b,by unfold iH;rw[c,pP];exact(hG j).2 hi⟩
  ·rintro⟨a,y,b,c⟩;obtain⟨x,hx,e⟩:=(hA.mem _).1 (aF (d:=[]) a);rw[e]at b;have hy:=hX y (jt.sub x hx y b).1;unfold iH at c;rw[pP]at c;refine⟨y.1.toNat,by rw[h.len];omega,(hG _).1 (by rw[oW hy.1];exact c),(h.mem _ Bv k).2 ⟨a,y,by rw[e];exact b,Bv⟩⟩
 unfold kX;rw[cF];constructor
 ·rintro⟨n,hn,rfl⟩;have h0:0<=n:=by
   rw[h3]at hn;have:=tp _ _ n hn;omega
  have fR:((n.toNat:Nat):Int)∈(da L A.length).2:=by rw[oW h0];exact hn
  obtain⟨a,b⟩:=(hP _).1 fR;exact⟨_,aF a,b,rfl⟩
 ·rintro⟨C,hC,hy,rfl⟩;obtain⟨k,hk,rfl⟩:=q7 hC;have e:A.getD k []=A[k]:=by rw[ax,aT hk];rfl
  refine⟨(k:Int),(hP k).2 ⟨hk,by rw[e];exact hy⟩,?_⟩;rw[eu,e]
def Du(X:List (Int×Int))(cx:Int×Int->List (Int×Int))(G:List Int)(D:List (Int×Int)):Prop:=∃ x∈X,D=(cx x).filter (iH G)/\D≠[]
def Du.hd(jt:CX X cx){G:List Int}{D E:List (Int×Int)}(h:Du X cx G D)(k:Du X cx G E)(e:cR D=cR E):D=E:=by
 obtain⟨x,hx,h1,h2⟩:=h;obtain⟨y,hy,h3,h4⟩:=k;have a:=Aq h2;have b:=Aq h4;rw[h1]at a;rw[h3,<- h3,<- e,h1]at b;have c:cR (List.filter (iH G) (cx x))∈cx y:=by
  have b':=Aq h4;rw[h3,<- h3,<- e,h1]at b';rw[h3]at b';exact(kF.1 b').1
 have:=jt.meet hx hy (kF.1 a).1 c;rw[h1,h3,this]
def ZC(jt:CX X cx)(hA:tw X cx A)(h:nQ N A L)(hL:gQ A.length L)(hX:∀ x∈X,0<=x.1/\x.1<N):∀ D∈kX A (da L A.length),Du X cx (da L A.length).1 D:=λD hD=>by
 obtain⟨C,hC,⟨y,h1,h2⟩,h3⟩:=(R3 jt hA h hL hX D).1 hD;obtain⟨x,hx,e⟩:=(hA.mem C).1 hC;refine⟨x,hx,by rw[h3,e],λe2=>?_⟩;have:y∈C.filter (iH (da L A.length).1):=kF.2 ⟨h1,h2⟩;rw[<- h3,e2]at this;simp at this
end
section
variable {α:Type} [Inhabited α]
def iQ(l:List α)(x:α)(j:Nat):List α:=l.take j++x::l.drop j
def ZD(l:List α)(x:α){j:Nat}(hj:j<=l.length):(iQ l x j).getD j default=x:=by
 unfold iQ;rw[ax,dy aak];simp[Nat.min_eq_left hj]
def ZE(l:List α)(x:α){j:Nat}(hj:j+1<=l.length):(iQ l x (j+1)).getD j default=l.getD j default:=by
 unfold iQ;rw[ax,cG aak,List.getElem?_take,if_pos Bv,<- ax]
def ZF(l:List α)(x:α){j:Nat}(hj:j+1<=l.length):((iQ l x (j+1)).set (j+1) (l.getD j default)).set j x=iQ l x j:=by
 unfold iQ;have h1:l.drop j=l.getD j default::l.drop (j+1):=by
  rw[List.drop_eq_getElem_cons Bv,ax,aT Bv,Option.getD_some]
 have h2:l.take (j+1)=l.take j++[l.getD j default]:=by
  rw[JG,ax];rw[aT Bv];rfl
 rw[h2,h1];have hl:(l.take j).length=j:=aak;rw[bn,vq _ _ Bv,hl,show j+1-j=1 by omega];rw[vq _ _ Bv,hl,Nat.sub_self];rfl
def Ax(l:List α)(x:α)(j:Nat):(iQ l x j).length=l.length+1:=by unfold iQ;simp;omega
def ZG(l:List α)(x:α):iQ l x l.length=l++[x]:=by unfold iQ;simp
def ZH{out rest:List α}{x:α}{j:Nat}(hj:j<=out.length):(iQ out x j++rest).getD j default=x:=by
 rw[ax,cG (by rw[Ax];omega),<- ax,ZD _ _ hj]
def ZI{out rest:List α}{x:α}{j:Nat}(hj:j+1<=out.length):(iQ out x (j+1)++rest).getD j default=out.getD j default:=by
 rw[ax,cG (by rw[Ax];omega),<- ax,ZE _ _ hj]
def R5{out rest:List α}{x:α}{j:Nat}(hj:j+1<=out.length):((iQ out x (j+1)++rest).set (j+1) (out.getD j default)).set j x=iQ out x j++rest:=by
 rw[List.set_append_left _ _ (by rw[Ax];omega),List.set_append_left _ _ (by rw[bm,Ax];omega),ZF _ _ hj]
def ZJ{out rest:List α}{x:α}{j:Nat}(hj:j+1<=out.length):((iQ out x (j+1)++rest).set j x).set (j+1) (out.getD j default)=iQ out x j++rest:=by
 rw[List.set_comm _ _ Bv,R5 hj]
def ZK{lt:α->α->Bool}{xs:List α}{i:Nat}(h:i<xs.length):gj lt (xs.take (i+1)) []=yb lt (xs.getD i default) (gj lt (xs.take i) []):=by
 rw[<- R6];congr 1;rw[JG,ax];rw[aT h];rfl
def Ay(lt:α->α->Bool)(l out:List α):(gj lt l out).length=out.length+l.length:=by
 rw[(Az lt l out).length_eq,aK]
end
def eZ(C:List (Int×Int)):List AV:=[.tree 2 (rowsOf av C)]
def Dv(a b:List (Int×Int)):Int:=mM [gJ (cR a).1 (cR b).1,gJ (cR a).2 (cR b).2]
def ZL(a b:List (Int×Int)):gG a b=decide (Dv a b<0):=by
 unfold gG Dv;congr 1;generalize (cR a).1=p;generalize (cR b).1=q;generalize (cR a).2=r;generalize (cR b).2=s;unfold gJ;rw[eq_iff_iff];simp only[mM];constructor
 ·rintro(h|⟨h1,h2⟩)
  ·rw[if_pos h];simp
  ·subst h1;rw[if_neg (Int.lt_irrefl _),if_neg (Int.lt_irrefl _),if_pos h2];simp
 ·intro h;by_cases h1:p<q
  ·exact .inl h1
  ·rw[if_neg h1]at h;by_cases h2:q<p
   ·rw[if_pos h2]at h;simp at h
   ·rw[if_neg h2]at h;by_cases h3:r<s
    ·exact .inr ⟨Bv,h3⟩
    ·rw[if_neg h3]at h;by_cases h4:s<r
     ·rw[if_pos h4]at h;simp at h
     ·rw[if_neg h4]at h;simp at h
def R7(xs:List (List (Int×Int)))(i:Nat)(C:List (Int×Int)):(rowsOf eZ xs).set i [.tree 2 (rowsOf av C)]=rowsOf eZ (xs.set i C):=Cj (enc:=eZ) xs i C
def R8{l:List (List (Int×Int))}{j k:Nat}(hj:j<l.length)(h:k≠j)(y:List (Int×Int)):(rowsOf eZ (l.set k y))[j]?=some [.tree 2 (rowsOf av (l.getD j default))]:=by
 unfold rowsOf;rw[List.getElem?_map,List.getElem?_set_ne h,ax,aT hj];rfl
instance:Row eZ 1:=⟨λ_=>rfl,λC v hv=>by
 unfold eZ at hv;rw[bK]at hv;subst hv;exact .inr ⟨_,_,rfl⟩⟩
def R9(ρ:Nat->Nat)(S:List (List (Int×Int))):bD ρ (.arr 1 (rowsOf eZ S))=.arr 1 (rowsOf eZ S):=xn ρ 1 S
end T

