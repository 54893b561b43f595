import Derived.Test.YtfoopmojjjpapaaGreatX47
import Derived.Test.YtfoopmojjjpapaaGreatX42
import Derived.Test.YtfoopmojjjpapaaGreatX37
set_option linter.all false
set_option maxHeartbeats 0
set_option maxRecDepth 20000
open List renaming getD_eq_getElem?_getD→aB,getElem?_eq_getElem→bT,getElem?_eq_some_iff→aR,getD_cons_succ→fM,getElem?_map→b9,getElem?_eq_none→gk,getElem?_cons_succ→rW,length_set→bK,getElem?_set→bY,length→kI,map_set→rV,length_replicate→mL,length_map→fX,replicate→aJ,replicate_zero→AN,append_assoc→bC
open Option renaming some→cj,map_some→gY
open Nat renaming le_refl→bc,zero_le→aT,sub_self→iT,add_zero→iq
open Int renaming toNat_natCast→ep
open Go Go.Am Go.Proofs
namespace T
def akK{m:ah}{x:List (List Bool)}(hm:VM m)(h:df m x):BB x:=by
 have hc:=hm.cls;refine⟨by have:=h.1;omega,λr hr=>?_⟩;obtain⟨i,hi,rfl⟩:=List.getElem_of_mem hr;have h2:=h.2 i hi;have h3:=hm.opt _ (aG (l:=m.cls) (i:=i) (d:=default) (by have:=h.1;omega));rw[aB,bT hi,Option.getD_some]at h2;omega
def akL{m:ah}{x:List (List Bool)}{l:List Mv}(hm:VM m)(hf:df m x)(hl:l.length<=12)(hb:∀ y∈l,iC m y=true):bQ m x l=(lq m x (iD m l (S0 m,T0 m)),0):=by
 unfold bQ kn iO;rw[if_neg (by rw[if_neg (by rw[rz.2 hm];simp),if_pos hf];simp),if_neg Iv,if_neg (by rw[List.all_eq_true.2 hb];simp)]
def eM.akM{D:List (Nat×Nat)}{S:List (List Bool)}{os:List Ob}{oi:Nat}(h:eM [(oi,.arr 1 (rowsOf uO D))] D S os)(e:Nat->AV):
  nW 0 ⟨e,os⟩ (.ref oi 1 0 S.length) (.ref 0 1 0 S.length) (.arr 1 (jT 1 S)::tB S):=by
 have hd:=h.len;have h1:=h.base (oi,.arr 1 (rowsOf uO D)) Iw;dsimp only at h1;have hl:∀ i∈oi::D.map (·.1),i<os.length:=λi hi=>by
  rcases List.mem_cons.1 hi with rfl|hi
  ·exact(aR.1 h1).1
  obtain⟨q,hq,rfl⟩:=List.mem_map.1 hi;obtain⟨k,hk,rfl⟩:=List.mem_iff_getElem.1 hq;have h3:=(h.row k hk).1;have a1:D.getD k default=D[k]:=by simp[hk]
  rw[a1]at h3;exact(aR.1 h3).1
 have Mm:∀ j,j<S.length->bq os.length (oi::D.map (·.1)) (1+j)=(D.getD j default).1:=λj hj=>by
  unfold bq;rw[if_pos NP,show 1+j=j+1 by omega,fM,aB,b9,aB,bT Iv];rfl
 refine⟨oi::D.map (·.1),false,by simpa using h.nd,by simp[HB,hd],λj o hj=>.inr ?_,hl,Iw,λi hi=>Iv,.eq ?_⟩
 ·match j with
  |0 =>
   simp only[List.getElem?_cons_zero,cj.injEq]at hj;subst hj;refine h1.trans (congrArg some ?_);rw[bH];refine congrArg _ (List.ext_getElem? λi=>?_);rw[b9];by_cases hi:i<S.length
   ·rw[Zf h hi,Ei 1 S i hi,gY,List.map_cons,List.map_nil,bf,Mm i hi]
   ·rw[gk (by simp[rowsOf];omega),gk (by rw[Eh];omega)];rfl
  |j+1 =>
   simp only[rW]at hj;have gA:j<S.length:=by have:=(aR.1 hj).1;rwa [HB]at this
   have h3:=(h.row j Iv).1;unfold tB at hj;rw[b9,bT gA]at hj;simp only[gY,cj.injEq]at hj;subst hj;rw[A5];have e1:(oi::D.map (·.1)).getD (j+1) 0=(D.getD j default).1:=by
    rw[fM,aB,b9,aB,bT Iv];rfl
   have e2:S.getD j default=S[j]:=by rw[aB,bT gA];rfl
   rw[e1,<- e2];exact h3
 ·rw[bf];have:bq os.length (oi::D.map (·.1)) 0=oi:=by unfold bq;rw[if_pos Iw];rfl
  rw[this]
def tG(x y:Ob)(A:List (List AV))(Y:List (List Bool)):List Ob:=x::nO y A Y
def abf(x y:Ob)(A:List (List AV)){Y:List (List Bool)}{i:Nat}(h:i<Y.length):(tG x y A Y)[3+i]?=some (.arr 1 (bm (Y.getD i default))):=by
 unfold tG;rw[show 3+i=2+i+1 by omega,rW];exact nOk y A h
def akN(x y:Ob)(A:List (List AV))(Y:List (List Bool))(i:Nat)(r:List Bool):(tG x y A Y).set (3+i) (.arr 1 (bm r))=tG x y A (Y.set i r):=by
 unfold tG;rw[show 3+i=2+i+1 by omega,List.set_cons_succ,nOs]
def tH(x y:Ob)(A:List (List AV))(Y:List (List Bool)):(tG x y A Y)[0]?=some x:=rfl
def akO(x y:Ob)(A:List (List AV))(Y:List (List Bool)):(tG x y A Y)[1]?=some y:=rfl
def Az(x y:Ob)(A:List (List AV))(Y:List (List Bool)):(tG x y A Y)[2]?=some (.arr 1 A):=rfl
def qN(r:List Bool)(p:Int):Nat->List Bool
 |0=>r
 |k+1=>(qN r p k).set k ((k:Int)==p)
def iR(S:List (List Bool))(P:List Int):Nat->List (List Bool)
 |0=>S
 |i+1=>(iR S P i).set i (qN ((iR S P i).getD i default) (P.getD i 0) ((iR S P i).getD i default).length)
def xw(m:ah)(P:List Int):List (List Bool):=iR (dO m) P m.cls.length
def Ic(r:List Bool)(p:Int):∀ k,(qN r p k).length=r.length
 |0=>rfl
 |k+1=>by rw[qN,bK,Ic r p k]
def abg(r:List Bool)(p:Int)(j:Nat):∀ k,k<=r.length->(qN r p k).getD j false=if j<k then((j:Int)==p) else r.getD j false
 |0,_=>by rw[if_neg Iv];rfl
 |k+1,h=>by
  rw[qN,aB,bY];by_cases e:k=j
  ·subst e;rw[if_pos rfl,if_pos (by rw[Ic];omega),if_pos Iv];rfl
  ·rw[if_neg e,<- aB,abg r p j k Iv];by_cases e2:j<k
   ·rw[if_pos e2,if_pos Iv]
   ·rw[if_neg e2,if_neg Iv]
def EF(S:List (List Bool))(P:List Int):∀ i,(iR S P i).map kI=S.map kI
 |0=>rfl
 |i+1=>by
  rw[iR,rV,Ic];rcases Nat.lt_or_ge i (iR S P i).length with h|h
  ·have e:((iR S P i).getD i default).length=((iR S P i).map kI).getD i default:=by rw[iX _ _ _ h]
   rw[e,zS];exact EF S P i
  ·rw[List.set_eq_of_length_le (by simpa using h)];exact EF S P i
def Ie(S:List (List Bool))(P:List Int)(j:Nat):∀ i,i<=S.length->(iR S P i).getD j default=if j<i then qN (S.getD j default) (P.getD j 0) (S.getD j default).length else S.getD j default
 |0,_=>by rw[if_neg Iv];rfl
 |i+1,h=>by
  have hl:(iR S P i).length=S.length:=by have:=congrArg kI (EF S P i);simpa using this
  have ih:=Ie S P i i Iv;rw[if_neg Iv]at ih;rw[iR,ih,aB,bY];by_cases e:i=j
  ·subst e;rw[if_pos rfl,if_pos Iv,if_pos Iv];rfl
  ·rw[if_neg e,<- aB,Ie S P j i Iv];by_cases e2:j<i
   ·rw[if_pos e2,if_pos Iv]
   ·rw[if_neg e2,if_neg Iv]
def akP{m:ah}{P:List Int}(hp:FP m P):DF m (xw m P) P:=by
 intro i hi j;have kM:(dO m).length=m.cls.length:=by simp[dO]
 have hr:((dO m).getD i default).length=(m.cls.getD i default).length:=by
  unfold dO;rw[iX _ _ _ hi,mL]
 unfold xw;rw[Ie _ _ _ _ Iv,if_pos hi,abg _ _ _ _ (bc _)];have hg:=kR.1 (hp.get i (by rw[hp.len];exact hi));rw[ep]at hg;by_cases hj:j<((dO m).getD i default).length
 ·rw[if_pos hj];rw[show((j:Int)==P.getD i 0)=decide ((j:Int)=P.getD i 0) from rfl];apply decide_eq_decide.2;omega
 ·rw[if_neg hj,aB,gk Iv];rw[decide_eq_false Iv];rfl
def Nf{m:ah}{P:List Int}:df m (xw m P):=by
 have kM:(dO m).length=m.cls.length:=by simp[dO]
 have h1:=EF (dO m) P m.cls.length;have hl:=congrArg kI h1;simp only[fX]at hl;unfold xw;refine⟨Iv,λi hi=>?_⟩;have h2:((iR (dO m) P m.cls.length).map kI).getD i default=((dO m).map kI).getD i default:=by rw[h1]
 rw[iX _ _ _ hi,iX _ _ _ Iv]at h2;rw[h2];unfold dO;rw[iX _ _ _ Iv,mL]
def jZ(f:List Int->Int×List Int)(c:Nat)(row:List Bool)(P:List Int):Nat->Int×List Int
 |0=>(1099511627776,P)
 |k+1=>if row.getD k false=true then(min (jZ f c row P k).1 (f ((jZ f c row P k).2.set c (k:Int))).1,(f ((jZ f c row P k).2.set c (k:Int))).2) else jZ f c row P k
def gT(m:ah)(left:List (List Bool)):Nat->List Int->Int×List Int
 |0,P=>((bQ m (xw m P) []).1,P)
 |d+1,P=>jZ (gT m left d) (m.cls.length-(d+1)) (left.getD (m.cls.length-(d+1)) default) P (m.cls.getD (m.cls.length-(d+1)) default).length
def DC(m:ah)(left:List (List Bool)):Int:=(gT m left m.cls.length (aJ m.cls.length 0)).1
def Ig{f:List Int->Int×List Int}{n:Nat}(hf:∀ P,P.length=n->(f P).2.length=n)(c:Nat)(row:List Bool){P:List Int}(hP:P.length=n):∀ k,(jZ f c row P k).2.length=n
 |0=>hP
 |k+1=>by
  rw[jZ];split
  ·exact hf _ (by rw[bK];exact Ig hf c row hP k)
  ·exact Ig hf c row hP k
def Ng(m:ah)(left:List (List Bool)){n:Nat}:∀ (d:Nat) (P:List Int),P.length=n->(gT m left d P).2.length=n
 |0,P,h=>h
 |d+1,P,h=>by
  rw[gT];exact Ig (λP hP=>Ng m left d P hP) _ _ h _
def akQ(m:ah)(cA:VM m):Holds Tryz.prog 12 [.agg (ao m)] [] (.ref 0 1 0 m.cls.length) (.arr 1 (jT 1 (dO m))::tB (dO m)):=by
 have h1:=Lx m cA.mb;rw[rz.2 cA]at h1;have qD:=cA.cls;have kM:(dO m).length=m.cls.length:=by simp[dO]
 refine Holds.aK 38 0 [.tmp 2] Tryz.func12 ?_;((repeat'(first|refine Vd @bne_self_eq_false.{0} h1 ?_|(refine Xi ?_ ?_<;>try intro ht)|exact Xx|fail)))
 refine aU (λz:Nat×List Ob×Nat×List (Nat×Nat)=>(⟨an [(1,.ptr 0 0 0),(3,.ref z.2.2.1 1 0 z.2.2.2.length),(4,NX z.1)],z.2.1⟩:St))
  (λz=>z.1<=m.cls.length/\eM [(z.2.2.1,.arr 1 (rowsOf uO z.2.2.2)),(0,.var (ao m))] z.2.2.2 ((dO m).take z.1) z.2.1) (λz=>m.cls.length-z.1)
  (0,[.var (ao m),.arr 1 []],1,[]) ⟨aT _,by simp[rowsOf],rfl,Iw,(show([1,0]:List Nat).Nodup by decide)⟩ ?_ ?_
 ·refine aF.trans (aF.nil 3 1 (by simp only[Kc,simprocAttr]) NF) ?_;exact Xv X0
 rintro⟨i,os,oi,D⟩⟨hi,hB⟩Ql ak ar;dsimp only at hi hB ⊢;have GY:D.length=i:=by rw[hB.len,List.length_take];omega
 have fo:=hB.b0;have fm:=hB.b1;dsimp only at fm fo;by_cases aq:i<m.cls.length
 ·have e9:(dO m).take (i+1)=(dO m).take i++[aJ (m.cls.getD i default).length true]:=by
   rw[eZ Iv];unfold dO;rw[iX _ _ _ aq]
  have uH:=cA.opt _ (aG (d:=default) aq);generalize bd:m.cls.getD i default=c at *;((repeat'(first|refine Va (X3 @fm @bd @aQ.eq_1) ?_|(refine Xi ?_ ?_<;>try intro ht)|exact Xx|fail)))
  refine aU (λk:Nat=>(⟨an [(1,.ptr 0 0 0),(3,.ref oi 1 0 D.length),(4,NX i),(5,.ref os.length 1 0 c.length),(6,NX k)],os++[.arr 1 (bm (aJ k true++aJ (c.length-k) false))]⟩:St))
   (λk=>k<=c.length) (λk=>c.length-k) 0 (aT _) (by simp only[Nat.sub_zero,AN,List.nil_append];exact Xv X0) ?_
  rintro k hk c7 br bx;have cQ:(aJ k true++aJ (c.length-k) false).length=c.length:=NP;by_cases ba:k<c.length
  ·have iK:(aJ k true++aJ (c.length-k) false).set k true=aJ (k+1) true++aJ (c.length-(k+1)) false:=by
    rw[List.set_append_right _ _ Iw,mL,iT,show c.length-k=(c.length-(k+1))+1 by omega,List.replicate_succ,List.set_cons_zero,List.replicate_succ',bC];rfl
   ((repeat'(first|refine Va (X3 @cQ @xS @bF) ?_|(refine Xi ?_ ?_<;>try intro ht)|exact Xx|fail)))
   rw[iK];exact br _ (k+1) Iv Iv (Xv X0)
  ·obtain rfl:k=c.length:=Iv;((repeat'(first|refine Va (X2 @cQ @bF) ?_|(refine Xi ?_ ?_<;>try intro ht)|exact Xx|fail)))
   refine bx _ _ rfl ?_;clear br bx c7;repeat(refine Xu ?_)
   rw[iT,AN,List.append_nil]at *;have hB3:eM [(oi,.arr 1 (rowsOf uO D)),(0,.var (ao m))] (D++[(os.length,c.length)]) ((dO m).take (i+1)) (os++[.arr 1 (bm (aJ c.length true))]):=by
    rw[e9];have h:=((hB.app [.arr 1 (bm (aJ c.length true))]).add (kq _ _ _) (hB.fresh (bc _))).snoc;rw[mL]at h;exact h
   obtain⟨hB4,ee⟩:=hB3.drop;have Ih:=hB3.b0;dsimp only at Ih;generalize os++[.arr 1 (bm (aJ c.length true))]=os2 at *;generalize os.length=p at *;clear fo fm hB;refine Va (X5 @Ih (aM Ih) (iN Ih) @aiR (X4 @bF @bC.{0} @List.length_append.{0} @bK.{0})) ?_;refine ak _ (i+1,os2.set oi .gone++[.arr 1 [[.ref p 1 0 c.length]],.arr 1 (rowsOf uO (D++[(p,c.length)]))],os2.length+1,D++[(p,c.length)]) ⟨NN,?_⟩ NN ?_
   ·refine((hB4.other ee .gone).app _).add ?_ ((hB4.other ee .gone).fresh Iw);rw[oH];rfl
   ·exact Xv X0
 ·rw[List.take_of_length_le Iv]at hB;have M0:i=m.cls.length:=Iv;have ZA:=hB.swap.drop.1;have abj:=ZA.akM;rw[kM]at abj;rw[GY,M0]at *;((repeat'(first|refine Va @fm ?_|(refine Xi ?_ ?_<;>try intro ht)|exact Xx|fail)))
  refine ar _ _ rfl ?_;clear ak ar Ql;repeat(refine Xu ?_)
  refine Vb X0 ?_;exact abj _
def ints_set(P:List Int)(k:Nat)(v:Int):(ints P).set k [NX v]=ints (P.set k v):=by unfold ints;rw[rV]
def akR(m:ah)(left:List (List Bool))(cA:VM m)(P:List Int)(hP:P.length=m.cls.length):
  Holds Tryz.prog 50 [.agg (ao m),.tree 1 (rowsOf aA left),.ref 0 1 0 m.cls.length,NX m.cls.length] [.arr 1 (ints P)] (NX (bQ m (xw m P) []).1) [.arr 1 (ints P)]:=by
 have hA:=akQ m cA;have qD:=cA.cls;have kM:(dO m).length=m.cls.length:=by simp[dO]
 have j5:bH (bq 2 []) (.arr 1 (jT 1 (dO m)))=.arr 1 (jT 3 (dO m)):=by
  rw[bH,aiT (bq 2 []) (dO m) 3 1 (λj hj=>by unfold bq;simp;omega)]
 have hv:=KQ m (xw m P) [] cA.mb (akK cA Nf) NF;have p':=Holds.Dh (pre:=[.agg (ao m),.tree 1 (rowsOf aA (xw m P))]) (post:=[]) hv;have hvS:xw m P=iR (dO m) P m.cls.length:=rfl;rw[hvS]at p' ⊢;generalize (bQ m (iR (dO m) P m.cls.length) []).1=va at *;generalize (bQ m (iR (dO m) P m.cls.length) []).2=ve at *;clear hv;have hrS:∀ i,i<m.cls.length->((dO m).getD i default).length=(m.cls.getD i default).length:=λi hi=>by
  unfold dO;rw[iX _ _ _ hi,mL]
 refine Holds.aK 86 1 [.tmp 8] Tryz.func50 ?_;repeat'(first|((fail_if_success (first|refine ei 2 ?_|refine ej 2 ?_));refine Xr X0 ?_;intro K hK)|refine Xo X0 ?_|(refine hK _ ?_;clear hK K)|(refine Xg X0 ?_ ?_<;>try intro hb)|(refine Xi ?_ ?_<;>try intro ht)|refine XY ?_|refine Xd ?_ ?_|exact Xx|fail)
 refine rp ?_;intro K hK;simp(disch:=omega)only[Ac,↓Pc,simprocAttr];refine jv [] hA NF trivial ⟨.pure rfl,trivial⟩ ?_;simp(disch:=omega)only[Ac,↓Pc,simprocAttr,j5,aiU];refine hK _ ?_;clear hK K;generalize hS:dO m=S at *;((try revert hK K);(repeat'(first|refine Va X0 ?_|(refine V2 X0 ?_ ?_<;>try with_reducible intro hb)|(refine Xi ?_ ?_<;>try intro ht)|refine VD ?_ ?_|exact Xx|fail))<;>try with_reducible intro K hK)
 refine aU (λi:Nat=>(⟨an [(2,.ref 0 1 0 m.cls.length),(4,.ptr 1 0 0),(9,.ref 2 1 0 m.cls.length),(10,NX i)],tG (.arr 1 (ints P)) (.var (ao m)) (jT 3 S) (iR S P i)⟩:St))
  (λi=>i<=m.cls.length) (λi=>m.cls.length-i) 0 (aT _) (by rw[show iR S P 0=S from rfl];unfold tG nO;exact Xv X0) ?_
 rintro i hi Ql ak ar;have hYm:=EF S P i;have EG:=congrArg kI hYm;simp only[fX]at EG;by_cases aq:i<m.cls.length
 ·have kz:=Ei 3 S i Iv;have bG:=hrS i aq;have uH:=cA.opt _ (aG (l:=m.cls) (i:=i) (d:=default) aq);have cQ:((iR S P i).getD i default).length=(S.getD i default).length:=by
   rw[Ie S P i i Iv,if_neg Iv]
  have nX:iR S P (i+1)=(iR S P i).set i (qN ((iR S P i).getD i default) (P.getD i 0) ((iR S P i).getD i default).length):=rfl;rw[cQ]at nX;rw[bG]at kz cQ nX;generalize iR S P i=Y at *;generalize yM:(m.cls.getD i default).length=w at *;((try revert hK K);(repeat'(first|refine Va (X3 @tH @Az @kz) ?_|(refine V2 (X3 @tH @Az @kz) ?_ ?_<;>try with_reducible intro hb)|(refine Xi ?_ ?_<;>try intro ht)|refine VD ?_ ?_|exact Xx|fail))<;>try with_reducible intro K hK)
  refine aU (λk:Nat=>(⟨an [(2,.ref 0 1 0 m.cls.length),(4,.ptr 1 0 0),(9,.ref 2 1 0 m.cls.length),(10,NX i),(11,NX k)],tG (.arr 1 (ints P)) (.var (ao m)) (jT 3 S) (Y.set i (qN (Y.getD i default) (P.getD i 0) k))⟩:St))
   (λk=>k<=w) (λk=>w-k) 0 (aT _) (by rw[show qN (Y.getD i default) (P.getD i 0) 0=Y.getD i default from rfl,zS];exact Xv X0) ?_
  rintro k hk c7 br bx;have hrk:=Ic (Y.getD i default) (P.getD i 0) k;have akU:qN (Y.getD i default) (P.getD i 0) (k+1)=(qN (Y.getD i default) (P.getD i 0) k).set k ((k:Int)==P.getD i 0):=rfl;have akV:k=w->Y.set i (qN (Y.getD i default) (P.getD i 0) k)=iR S P (i+1):=λe=>by rw[nX,e]
  generalize qN (Y.getD i default) (P.getD i 0) k=r at *;have f2:=abf (.arr 1 (ints P)) (.var (ao m)) (jT 3 S) (Y:=Y.set i r) (i:=i) (by rw[bK];omega);rw[uE _ _ _ Iv]at f2;have f3:=λr2=>akN (.arr 1 (ints P)) (.var (ao m)) (jT 3 S) (Y.set i r) i r2;simp only[List.set_set]at f3;unfold ao at f2 f3;by_cases ba:k<w
  ·((try revert hK K);(repeat'(first|refine Va (X5 @Az @tH @kz @f2 (X4 @f3 @xS @hrk @cQ)) ?_|(refine V2 (X5 @Az @tH @kz @f2 (X4 @f3 @xS @hrk @cQ)) ?_ ?_<;>try with_reducible intro hb)|(refine Xi ?_ ?_<;>try intro ht)|refine VD ?_ ?_|exact Xx|fail))<;>try with_reducible intro K hK)
   rw[<- akU];exact br _ (k+1) Iv Iv (Xv X0)
  ·obtain rfl:k=w:=Iv;((try revert hK K);(repeat'(first|refine Va (X4 @Az @tH @kz @f2) ?_|(refine V2 (X4 @Az @tH @kz @f2) ?_ ?_<;>try with_reducible intro hb)|(refine Xi ?_ ?_<;>try intro ht)|refine VD ?_ ?_|exact Xx|fail))<;>try with_reducible intro K hK)
   refine bx _ _ rfl ?_;clear br bx c7;repeat(first|refine Xu ?_)
   ((try revert hK K);(repeat'(first|refine Va @tH ?_|(refine V2 @tH ?_ ?_<;>try with_reducible intro hb)|(refine Xi ?_ ?_<;>try intro ht)|refine VD ?_ ?_|exact Xx|fail))<;>try with_reducible intro K hK)
   exact ak _ (i+1) Iv Iv (by rw[<- akV rfl];exact Xv X0)
 ·obtain rfl:i=m.cls.length:=Iv;have cQ:(jT 3 S).length=(iR S P m.cls.length).length:=by rw[Eh];omega
  have xX:jT 3 S=jT 3 (iR S P m.cls.length):=aiS 3 hYm.symm;have akW:(iR S P m.cls.length).length=m.cls.length:=Iv;generalize iR S P m.cls.length=Y at *;rw[xX];((try revert hK K);(repeat'(first|refine Va @tH ?_|(refine V2 @tH ?_ ?_<;>try with_reducible intro hb)|(refine Xi ?_ ?_<;>try intro ht)|refine VD ?_ ?_|exact Xx|fail))<;>try with_reducible intro K hK)
  refine ar _ _ rfl ?_;clear ak ar Ql;repeat(first|refine Xu ?_)
  repeat'(first|((fail_if_success (first|refine ei 10 ?_|refine ej 10 ?_));refine Xr X0 ?_;intro K hK)|refine Xo X0 ?_|(refine hK _ ?_;clear hK K)|(refine Xg X0 ?_ ?_<;>try intro hb)|(refine Xi ?_ ?_<;>try intro ht)|refine XY ?_|refine Xd ?_ ?_|exact Xx|fail)
  refine rp ?_;intro K hK;simp(disch:=omega)only[Ac,↓Pc,simprocAttr,akO];refine vg [] p' NF trivial ⟨.pure rfl,.snap _ _ rfl ?_,.pure rfl,trivial⟩ rfl Iw ?_
  ·rw[<- akW];exact aiX (Az _ _ _ _) Iw (Eh 3 Y) λa ha=>⟨3+a,Ei 3 Y a ha,abf _ _ _ ha,Iw⟩
  simp(disch:=omega)only[Ac,↓Pc,simprocAttr];refine hK _ ?_;clear hK K;repeat(first|refine Xu ?_)
  ((try revert hK K);(repeat'(first|refine Vb @tH ?_|(refine V2 @tH ?_ ?_<;>try with_reducible intro hb)|(refine Xi ?_ ?_<;>try intro ht)|refine VD ?_ ?_|exact Xx|fail))<;>try with_reducible intro K hK)
  unfold tG;exact Xw false [0] @Nat.zero_lt_succ
def abm(m:ah)(left:List (List Bool))(cA:VM m)(hf:df m left):∀ (d c:Nat) (P:List Int),c+d=m.cls.length->P.length=m.cls.length ->
  Holds Tryz.prog 50 [.agg (ao m),.tree 1 (rowsOf aA left),.ref 0 1 0 m.cls.length,NX c] [.arr 1 (ints P)] (NX (gT m left d P).1) [.arr 1 (ints (gT m left d P).2)]
 |0,c,P,hc,hP=>by
  rw[iq]at hc;subst hc;exact akR m left cA P hP
 |d+1,c,P,hc,hP=>by
  have ih:=abm m left cA hf d (c+1);have qD:=cA.cls;have bG:c<m.cls.length:=Iv;have hw:gT m left (d+1) P=jZ (gT m left d) c (left.getD c default) P (m.cls.getD c default).length:=by rw[gT,show m.cls.length-(d+1)=c by omega]
  have iy:=hf.1;have bN:=hf.2 c Iv;have uH:=cA.opt _ (aG (l:=m.cls) (i:=c) (d:=default) bG);rw[hw];have AW:jZ (gT m left d) c (left.getD c default) P 0=(1099511627776,P):=rfl;generalize au:jZ (gT m left d) c (left.getD c default) P (m.cls.getD c default).length=res;have ov:∀ k,(jZ (gT m left d) c (left.getD c default) P k).2.length=m.cls.length:=λk=>Ig (λP hP=>Ng m left d P hP) _ _ hP k;generalize gr:left.getD c default=row at *;generalize bd:m.cls.getD c default=cl at *;refine Holds.aK 86 1 [.tmp 8] Tryz.func50 ?_;((try revert hK K);(repeat'(first|refine Va X0 ?_|(refine V2 X0 ?_ ?_<;>try with_reducible intro hb)|(refine Xi ?_ ?_<;>try intro ht)|refine VD ?_ ?_|exact Xx|fail))<;>try with_reducible intro K hK)
  all_goals try(exfalso;omega)
  refine aU (λk:Nat=>(⟨an [(1,.tree 1 (rowsOf aA left)),(2,.ref 0 1 0 m.cls.length),(3,NX c),(4,.ptr 1 0 0),(14,NX (jZ (gT m left d) c row P k).1),(15,NX k)],[.arr 1 (ints (jZ (gT m left d) c row P k).2),.var (ao m)]⟩:St))
   (λk=>k<=cl.length) (λk=>cl.length-k) 0 (aT _) (by rw[AW];exact Xv X0) ?_
  rintro k hk Ql ak ar;have hl:=ov k;by_cases ba:k<cl.length
  ·have hs:jZ (gT m left d) c row P (k+1)=if row.getD k false=true then(min (jZ (gT m left d) c row P k).1 (gT m left d ((jZ (gT m left d) c row P k).2.set c (k:Int))).1,(gT m left d ((jZ (gT m left d) c row P k).2.set c (k:Int))).2) else jZ (gT m left d) c row P k:=rfl;have yz:=ak;have A7:=ih ((jZ (gT m left d) c row P k).2.set c (k:Int)) Iv (by rw[bK];exact hl);generalize jZ (gT m left d) c row P k=st at *;obtain⟨least,Q⟩:=st;dsimp only at hl hs A7;have iK:=ints_set Q c (k:Int);by_cases hb:row.getD k false=true
   ·rw[if_pos hb]at hs;generalize gT m left d (Q.set c (k:Int))=st2 at *;obtain⟨v,Q2⟩:=st2;dsimp only at hs A7;rw[show((c+1:Nat):Int)=(c:Int)+1 by push_cast;rfl]at A7;((try revert hK K);(repeat'(first|refine Va (X5 @gr @bd @aA.eq_1 @aQ.eq_1 (X3 @hb @iK @hl)) ?_|(refine V2 (X5 @gr @bd @aA.eq_1 @aQ.eq_1 (X3 @hb @iK @hl)) ?_ ?_<;>try with_reducible intro hb)|(refine Xi ?_ ?_<;>try intro ht)|refine VD ?_ ?_|exact Xx|fail))<;>try with_reducible intro K hK)
    (refine Xn [0] (A7) ?_;simp(disch:=omega)only[Ac,↓Pc,simprocAttr])
    ((try revert hK K);(repeat'(first|refine Va X0 ?_|(refine V2 X0 ?_ ?_<;>try with_reducible intro hb)|(refine Xi ?_ ?_<;>try intro ht)|refine VD ?_ ?_|exact Xx|fail))<;>try with_reducible intro K hK)
    exact ak _ (k+1) Iv Iv (by rw[hs];exact Xv X0)
   ·rw[if_neg hb]at hs;have oF:row.getD k false=false:=by simpa using hb
    ((try revert hK K);(repeat'(first|refine Va (X5 @gr @bd @aA.eq_1 @aQ.eq_1 @oF) ?_|(refine V2 (X5 @gr @bd @aA.eq_1 @aQ.eq_1 @oF) ?_ ?_<;>try with_reducible intro hb)|(refine Xi ?_ ?_<;>try intro ht)|refine VD ?_ ?_|exact Xx|fail))<;>try with_reducible intro K hK)
    exact ak _ (k+1) Iv Iv (by rw[hs];exact Xv X0)
  ·obtain rfl:k=cl.length:=Iv;rw[au]at *;((try revert hK K);(repeat'(first|refine Va (X2 @bd @aQ.eq_1) ?_|(refine V2 (X2 @bd @aQ.eq_1) ?_ ?_<;>try with_reducible intro hb)|(refine Xi ?_ ?_<;>try intro ht)|refine VD ?_ ?_|exact Xx|fail))<;>try with_reducible intro K hK)
   refine ar _ _ rfl ?_;clear ak ar Ql;repeat(first|refine Xu ?_)
   ((try revert hK K);(repeat'(first|refine Vb X0 ?_|(refine V2 X0 ?_ ?_<;>try with_reducible intro hb)|(refine Xi ?_ ?_<;>try intro ht)|refine VD ?_ ?_|exact Xx|fail))<;>try with_reducible intro K hK)
   exact Xw false [0] X0
def agh(m:ah)(left:List (List Bool))(cA:VM m)(hf:df m left):Holds Tryz.prog 20 [.agg (ao m),.tree 1 (rowsOf aA left)] [] (NX (DC m left)) []:=by
 have hw:=abm m left cA hf m.cls.length 0 (aJ m.cls.length 0) Iv Iw;rw[show((0:Nat):Int)=0 from rfl]at hw;unfold DC;generalize gT m left m.cls.length (aJ m.cls.length 0)=w at *;have qD:=cA.cls;refine Holds.aK 14 0 [.tmp 4] Tryz.func20 ?_;((try revert hK K);(repeat'(first|refine Vb X0 ?_|(refine V2 X0 ?_ ?_<;>try with_reducible intro hb)|(refine Xi ?_ ?_<;>try intro ht)|refine VD ?_ ?_|exact Xx|fail))<;>try with_reducible intro K hK)
 (refine Xn [1] (hw) ?_;simp(disch:=omega)only[Ac,↓Pc,simprocAttr])
 ((try revert hK K);(repeat'(first|refine Vb X0 ?_|(refine V2 X0 ?_ ?_<;>try with_reducible intro hb)|(refine Xi ?_ ?_<;>try intro ht)|refine VD ?_ ?_|exact Xx|fail))<;>try with_reducible intro K hK)
 exact aS rfl rfl
structure wj(m:ah)(left:List (List Bool))(c:Nat)(P:List Int):Prop where
 len:P.length=m.cls.length
 get:∀ j,j<c->(0<=P.getD j 0/\P.getD j 0<(m.cls.getD j default).length)/\(left.getD j default).getD (P.getD j 0).toNat false=true
def wj.agree{m:ah}{left:List (List Bool)}{c:Nat}{P Q:List Int}(h:wj m left c P)(hl:Q.length=m.cls.length)(hk:∀ j,j<c->Q.getD j 0=P.getD j 0):wj m left c Q :=
 ⟨hl,λj hj=>by rw[hk j hj];exact h.get j hj⟩
def Nh(P:List Int)(c j:Nat)(v:Int)(h:j≠c):(P.set c v).getD j 0=P.getD j 0:=by
 rw[aB,List.getElem?_set_ne (Ne.symm h),<- aB]
def wj.put{m:ah}{left:List (List Bool)}{c:Nat}{P:List Int}(h:wj m left c P)(hc:c<m.cls.length){k:Nat}(hk:k<(m.cls.getD c default).length)(hb:(left.getD c default).getD k false=true):wj m left (c+1) (P.set c (k:Int)):=by
 refine⟨by rw[bK];exact h.len,λj hj=>?_⟩;by_cases e:j=c
 ·subst e;have e2:(P.set j (k:Int)).getD j 0=(k:Int):=by rw[aB,bY];simp[h.len,hc]
  rw[e2];exact⟨⟨Iv,Iv⟩,by rw[ep];exact hb⟩
 ·rw[Nh _ _ _ _ e];exact h.get j Iv
def wj.full{m:ah}{left:List (List Bool)}{P:List Int}(h:wj m left m.cls.length P):FP m P/\Eu m left P:=by
 refine⟨⟨h.len,λj hj=>?_⟩,λi hi=>(h.get i hi).2⟩;rw[h.len]at hj;have:=h.get j hj;exact kR.2 ⟨Iv,Iv,this.1.1,by rw[ep];exact this.1.2⟩
def Ni{f:List Int->Int×List Int}{c j:Nat}(hj:j<c)(row:List Bool)(P:List Int)(hf:∀ Q,(f Q).2.getD j 0=Q.getD j 0):∀ k,(jZ f c row P k).2.getD j 0=P.getD j 0
 |0=>rfl
 |k+1=>by
  rw[jZ];split
  ·dsimp only;rw[hf,Nh _ _ _ _ Iv];exact Ni hj row P hf k
  ·exact Ni hj row P hf k
def abn(m:ah)(left:List (List Bool)):∀ (d:Nat) (P:List Int) (j:Nat),j+d<m.cls.length->(gT m left d P).2.getD j 0=P.getD j 0
 |0,P,j,h=>rfl
 |d+1,P,j,h=>by
  rw[gT];exact Ni Iv _ _ (λQ=>abn m left d Q j Iv) _
section
variable {m:ah} {left:List (List Bool)} (hm:VM m) {b:Int} (hb:b<=1099511627776) (hP:∀ plan,FP m plan->Eu m left plan->b<=vF (ym m plan) 0)
include hm hb hP
def abo:∀ (d c:Nat) (P:List Int),c+d=m.cls.length->wj m left c P->b<=(gT m left d P).1
 |0,c,P,hc,h=>by
  rw[iq]at hc;subst hc;obtain⟨h1,h2⟩:=h.full;rw[gT];dsimp only;rw[akL hm Nf NF Iw];dsimp only;rw[XK hm h1 _ Nf (akP h1) [] Iw];exact hP P h1 h2
 |d+1,c,P,hc,h=>by
  have e:m.cls.length-(d+1)=c:=Iv;rw[gT,e];have key:∀ k,k<=(m.cls.getD c default).length->b<=(jZ (gT m left d) c (left.getD c default) P k).1/\wj m left c (jZ (gT m left d) c (left.getD c default) P k).2:=by
   intro k
   induction k with
   |zero=>intro _;exact⟨hb,h⟩
   |succ k ih =>
    intro hk;obtain⟨i1,i2⟩:=ih Iv;rw[jZ];split
    ·rename_i hr;have h3:=i2.put Iv (k:=k) Iv hr;have h4:=abo d (c+1) _ Iv h3;refine⟨NN,?_⟩;dsimp only;refine i2.agree (Ng m left d _ h3.len) λj hj=>?_;rw[abn m left d _ j Iv,Nh _ _ _ _ Iv]
    ·exact⟨i1,i2⟩
  exact(key _ (bc _)).1
def af8:b<=DC m left:=abo hm hb hP m.cls.length 0 _ Iv ⟨Iw,λj hj=>absurd hj (Nat.not_lt_zero _)⟩
end
end T

