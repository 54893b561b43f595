import Derived.Test.YtfoopmojjjpapaaGreatX47
import Derived.Test.YtfoopmojjjpapaaGreatX42
import Derived.Test.YtfoopmojjjpapaaGreatX37
set_option linter.all false
set_option maxHeartbeats 0
set_option maxRecDepth 20000
open List renaming getD_eq_getElem?_getD→aB,getElem?_eq_getElem→bT,getElem?_eq_some_iff→aR,getD_cons_succ→fM,getElem?_map→b9,getElem?_eq_none→gj,getElem?_cons_succ→rW,length_set→bK,getElem?_set→bY,length→kI,map_set→rV,length_replicate→mL,length_map→fW,replicate→aJ,replicate_zero→AQ,append_assoc→bC,length_append→bF
open Option renaming some→cm,map_some→gY
open Nat renaming le_refl→bb,zero_le→aT,sub_self→iT,add_zero→iq
open Int renaming toNat_natCast→ep
open Go Go.Am Go.Proofs
namespace T
def akM{m:ah}{x:List (List Bool)}(hm:VM m)(h:df m x):BB x:=by
 have hc:=hm.cls;refine⟨by have:=h.1;omega,λr hr=>?_⟩;obtain⟨i,hi,rfl⟩:=List.getElem_of_mem hr;have h2:=h.2 i hi;have h3:=hm.opt _ (aG (l:=m.cls) (i:=i) (d:=default) (by have:=h.1;omega));rw[aB,bT hi,Option.getD_some]at h2;omega
def akN{m:ah}{x:List (List Bool)}{l:List Mv}(hm:VM m)(hf:df m x)(hl:l.length<=12)(hb:∀ y∈l,iC m y=true):bQ m x l=(lq m x (iF m l (S0 m,T0 m)),0):=by
 unfold bQ kn iO;rw[if_neg (by rw[if_neg (by rw[rA.2 hm];simp),if_pos hf];simp),if_neg Ix,if_neg (by rw[List.all_eq_true.2 hb];simp)]
def eM.akO{D:List (Nat×Nat)}{S:List (List Bool)}{os:List Ob}{oi:Nat}(h:eM [(oi,.arr 1 (rowsOf uO D))] D S os)(e:Nat->AV):
  nW 0 ⟨e,os⟩ (.ref oi 1 0 S.length) (.ref 0 1 0 S.length) (.arr 1 (jS 1 S)::tD S):=by
 have hd:=h.len;have h1:=h.base (oi,.arr 1 (rowsOf uO D)) Iy;dsimp only at h1;have hl:∀ i∈oi::D.map (·.1),i<os.length:=λi hi=>by
  rcases List.mem_cons.1 hi with rfl|hi
  ·exact(aR.1 h1).1
  obtain⟨q,hq,rfl⟩:=List.mem_map.1 hi;obtain⟨k,hk,rfl⟩:=List.mem_iff_getElem.1 hq;have h3:=(h.row k hk).1;have a1:D.getD k default=D[k]:=by simp[hk]
  rw[a1]at h3;exact(aR.1 h3).1
 have Mp:∀ j,j<S.length->bq os.length (oi::D.map (·.1)) (1+j)=(D.getD j default).1:=λj hj=>by
  unfold bq;rw[if_pos NS,show 1+j=j+1 by omega,fM,aB,b9,aB,bT Ix];rfl
 refine⟨oi::D.map (·.1),false,by simpa using h.nd,by simp[HE,hd],λj o hj=>.inr ?_,hl,Iy,λi hi=>Ix,.eq ?_⟩
 ·match j with
  |0 =>
   simp only[List.getElem?_cons_zero,cm.injEq]at hj;subst hj;refine h1.trans (congrArg some ?_);rw[bH];refine congrArg _ (List.ext_getElem? λi=>?_);rw[b9];by_cases hi:i<S.length
   ·rw[Zk h hi,El 1 S i hi,gY,List.map_cons,List.map_nil,bf,Mp i hi]
   ·rw[gj (by simp[rowsOf];omega),gj (by rw[Ek];omega)];rfl
  |j+1 =>
   simp only[rW]at hj;have gA:j<S.length:=by have:=(aR.1 hj).1;rwa [HE]at this
   have h3:=(h.row j Ix).1;unfold tD at hj;rw[b9,bT gA]at hj;simp only[gY,cm.injEq]at hj;subst hj;rw[A8];have e1:(oi::D.map (·.1)).getD (j+1) 0=(D.getD j default).1:=by
    rw[fM,aB,b9,aB,bT Ix];rfl
   have e2:S.getD j default=S[j]:=by rw[aB,bT gA];rfl
   rw[e1,<- e2];exact h3
 ·rw[bf];have:bq os.length (oi::D.map (·.1)) 0=oi:=by unfold bq;rw[if_pos Iy];rfl
  rw[this]
def tH(x y:Ob)(A:List (List AV))(Y:List (List Bool)):List Ob:=x::nO y A Y
def abj(x y:Ob)(A:List (List AV)){Y:List (List Bool)}{i:Nat}(h:i<Y.length):(tH x y A Y)[3+i]?=some (.arr 1 (bm (Y.getD i default))):=by
 unfold tH;rw[show 3+i=2+i+1 by omega,rW];exact nOk y A h
def akP(x y:Ob)(A:List (List AV))(Y:List (List Bool))(i:Nat)(r:List Bool):(tH x y A Y).set (3+i) (.arr 1 (bm r))=tH x y A (Y.set i r):=by
 unfold tH;rw[show 3+i=2+i+1 by omega,List.set_cons_succ,nOs]
def tI(x y:Ob)(A:List (List AV))(Y:List (List Bool)):(tH x y A Y)[0]?=some x:=rfl
def akQ(x y:Ob)(A:List (List AV))(Y:List (List Bool)):(tH x y A Y)[1]?=some y:=rfl
def AB(x y:Ob)(A:List (List AV))(Y:List (List Bool)):(tH x y A Y)[2]?=some (.arr 1 A):=rfl
def qO(r:List Bool)(p:Int):Nat->List Bool
 |0=>r
 |k+1=>(qO r p k).set k ((k:Int)==p)
def iR(S:List (List Bool))(P:List Int):Nat->List (List Bool)
 |0=>S
 |i+1=>(iR S P i).set i (qO ((iR S P i).getD i default) (P.getD i 0) ((iR S P i).getD i default).length)
def xB(m:ah)(P:List Int):List (List Bool):=iR (dP m) P m.cls.length
def Ih(r:List Bool)(p:Int):∀ k,(qO r p k).length=r.length
 |0=>rfl
 |k+1=>by rw[qO,bK,Ih r p k]
def abk(r:List Bool)(p:Int)(j:Nat):∀ k,k<=r.length->(qO r p k).getD j false=if j<k then((j:Int)==p) else r.getD j false
 |0,_=>by rw[if_neg Ix];rfl
 |k+1,h=>by
  rw[qO,aB,bY];by_cases e:k=j
  ·subst e;rw[if_pos rfl,if_pos (by rw[Ih];omega),if_pos Ix];rfl
  ·rw[if_neg e,<- aB,abk r p j k Ix];by_cases e2:j<k
   ·rw[if_pos e2,if_pos Ix]
   ·rw[if_neg e2,if_neg Ix]
def EI(S:List (List Bool))(P:List Int):∀ i,(iR S P i).map kI=S.map kI
 |0=>rfl
 |i+1=>by
  rw[iR,rV,Ih];rcases Nat.lt_or_ge i (iR S P i).length with h|h
  ·have e:((iR S P i).getD i default).length=((iR S P i).map kI).getD i default:=by rw[iX _ _ _ h]
   rw[e,zU];exact EI S P i
  ·rw[List.set_eq_of_length_le (by simpa using h)];exact EI S P i
def Ii(S:List (List Bool))(P:List Int)(j:Nat):∀ i,i<=S.length->(iR S P i).getD j default=if j<i then qO (S.getD j default) (P.getD j 0) (S.getD j default).length else S.getD j default
 |0,_=>by rw[if_neg Ix];rfl
 |i+1,h=>by
  have hl:(iR S P i).length=S.length:=by have:=congrArg kI (EI S P i);simpa using this
  have ih:=Ii S P i i Ix;rw[if_neg Ix]at ih;rw[iR,ih,aB,bY];by_cases e:i=j
  ·subst e;rw[if_pos rfl,if_pos Ix,if_pos Ix];rfl
  ·rw[if_neg e,<- aB,Ii S P j i Ix];by_cases e2:j<i
   ·rw[if_pos e2,if_pos Ix]
   ·rw[if_neg e2,if_neg Ix]
def akR{m:ah}{P:List Int}(hp:FP m P):DI m (xB m P) P:=by
 intro i hi j;have kM:(dP m).length=m.cls.length:=by simp[dP]
 have hr:((dP m).getD i default).length=(m.cls.getD i default).length:=by
  unfold dP;rw[iX _ _ _ hi,mL]
 unfold xB;rw[Ii _ _ _ _ Ix,if_pos hi,abk _ _ _ _ (bb _)];have hg:=kR.1 (hp.get i (by rw[hp.len];exact hi));rw[ep]at hg;by_cases hj:j<((dP m).getD i default).length
 ·rw[if_pos hj];rw[show((j:Int)==P.getD i 0)=decide ((j:Int)=P.getD i 0) from rfl];apply decide_eq_decide.2;omega
 ·rw[if_neg hj,aB,gj Ix];rw[decide_eq_false Ix];rfl
def Ni{m:ah}{P:List Int}:df m (xB m P):=by
 have kM:(dP m).length=m.cls.length:=by simp[dP]
 have h1:=EI (dP m) P m.cls.length;have hl:=congrArg kI h1;simp only[fW]at hl;unfold xB;refine⟨Ix,λi hi=>?_⟩;have h2:((iR (dP m) P m.cls.length).map kI).getD i default=((dP m).map kI).getD i default:=by rw[h1]
 rw[iX _ _ _ hi,iX _ _ _ Ix]at h2;rw[h2];unfold dP;rw[iX _ _ _ Ix,mL]
def jY(f:List Int->Int×List Int)(c:Nat)(row:List Bool)(P:List Int):Nat->Int×List Int
 |0=>(1099511627776,P)
 |k+1=>if row.getD k false=true then(min (jY f c row P k).1 (f ((jY f c row P k).2.set c (k:Int))).1,(f ((jY f c row P k).2.set c (k:Int))).2) else jY f c row P k
def gT(m:ah)(left:List (List Bool)):Nat->List Int->Int×List Int
 |0,P=>((bQ m (xB m P) []).1,P)
 |d+1,P=>jY (gT m left d) (m.cls.length-(d+1)) (left.getD (m.cls.length-(d+1)) default) P (m.cls.getD (m.cls.length-(d+1)) default).length
def DF(m:ah)(left:List (List Bool)):Int:=(gT m left m.cls.length (aJ m.cls.length 0)).1
def Ij{f:List Int->Int×List Int}{n:Nat}(hf:∀ P,P.length=n->(f P).2.length=n)(c:Nat)(row:List Bool){P:List Int}(hP:P.length=n):∀ k,(jY f c row P k).2.length=n
 |0=>hP
 |k+1=>by
  rw[jY];split
  ·exact hf _ (by rw[bK];exact Ij hf c row hP k)
  ·exact Ij hf c row hP k
def Nj(m:ah)(left:List (List Bool)){n:Nat}:∀ (d:Nat) (P:List Int),P.length=n->(gT m left d P).2.length=n
 |0,P,h=>h
 |d+1,P,h=>by
  rw[gT];exact Ij (λP hP=>Nj m left d P hP) _ _ h _
def akS(m:ah)(cB:VM m):Holds Tryz.prog 12 [.agg (ao m)] [] (.ref 0 1 0 m.cls.length) (.arr 1 (jS 1 (dP m))::tD (dP m)):=by
 have h1:=LA m cB.mb;rw[rA.2 cB]at h1;have qE:=cB.cls;have kM:(dP m).length=m.cls.length:=by simp[dP]
 refine Holds.aK 38 0 [.tmp 2] Tryz.func12 ?_;((try revert hK K);(repeat'(first|refine Vd @bne_self_eq_false.{0} h1 ?_|(refine V2 @bne_self_eq_false.{0} ?_ ?_<;>try with_reducible intro hb)|(refine Xi ?_ ?_<;>try intro ht)|refine VD ?_ ?_|exact Xx|fail))<;>try with_reducible intro K hK)
 refine aU (λz:Nat×List Ob×Nat×List (Nat×Nat)=>(⟨an [(1,.ptr 0 0 0),(3,.ref z.2.2.1 1 0 z.2.2.2.length),(4,N0 z.1)],z.2.1⟩:St))
  (λz=>z.1<=m.cls.length/\eM [(z.2.2.1,.arr 1 (rowsOf uO z.2.2.2)),(0,.var (ao m))] z.2.2.2 ((dP m).take z.1) z.2.1) (λz=>m.cls.length-z.1)
  (0,[.var (ao m),.arr 1 []],1,[]) ⟨aT _,by simp[rowsOf],rfl,Iy,(show([1,0]:List Nat).Nodup by decide)⟩ ?_ ?_
 ·refine aF.trans (aF.nil 3 1 (by simp only[Kc,simprocAttr]) NI) ?_;exact Xv X0
 rintro⟨i,os,oi,D⟩⟨hi,hB⟩Ql ak ar;dsimp only at hi hB ⊢;have G2:D.length=i:=by rw[hB.len,List.length_take];omega
 have fo:=hB.b0;have fm:=hB.b1;dsimp only at fm fo;by_cases aq:i<m.cls.length
 ·have e9:(dP m).take (i+1)=(dP m).take i++[aJ (m.cls.getD i default).length true]:=by
   rw[eZ Ix];unfold dP;rw[iX _ _ _ aq]
  have uH:=cB.opt _ (aG (d:=default) aq);generalize bc:m.cls.getD i default=c at *;((try revert hK K);(repeat'(first|refine Va (X3 @fm @bc @aQ.eq_1) ?_|(refine V2 (X3 @fm @bc @aQ.eq_1) ?_ ?_<;>try with_reducible intro hb)|(refine Xi ?_ ?_<;>try intro ht)|refine VD ?_ ?_|exact Xx|fail))<;>try with_reducible intro K hK)
  refine aU (λk:Nat=>(⟨an [(1,.ptr 0 0 0),(3,.ref oi 1 0 D.length),(4,N0 i),(5,.ref os.length 1 0 c.length),(6,N0 k)],os++[.arr 1 (bm (aJ k true++aJ (c.length-k) false))]⟩:St))
   (λk=>k<=c.length) (λk=>c.length-k) 0 (aT _) (by simp only[Nat.sub_zero,AQ,List.nil_append];exact Xv X0) ?_
  rintro k hk c7 br bx;have cI:(aJ k true++aJ (c.length-k) false).length=c.length:=NS;by_cases ba:k<c.length
  ·have iL:(aJ k true++aJ (c.length-k) false).set k true=aJ (k+1) true++aJ (c.length-(k+1)) false:=by
    rw[List.set_append_right _ _ Iy,mL,iT,show c.length-k=(c.length-(k+1))+1 by omega,List.replicate_succ,List.set_cons_zero,List.replicate_succ',bC];rfl
   ((try revert hK K);(repeat'(first|refine Va (X3 @cI @wM @bE) ?_|(refine V2 (X3 @cI @wM @bE) ?_ ?_<;>try with_reducible intro hb)|(refine Xi ?_ ?_<;>try intro ht)|refine VD ?_ ?_|exact Xx|fail))<;>try with_reducible intro K hK)
   rw[iL];exact br _ (k+1) Ix Ix (Xv X0)
  ·obtain rfl:k=c.length:=Ix;((try revert hK K);(repeat'(first|refine Va (X2 @cI @bE) ?_|(refine V2 (X2 @cI @bE) ?_ ?_<;>try with_reducible intro hb)|(refine Xi ?_ ?_<;>try intro ht)|refine VD ?_ ?_|exact Xx|fail))<;>try with_reducible intro K hK)
   refine bx _ _ rfl ?_;clear br bx c7;repeat(first|refine Xu ?_)
   rw[iT,AQ,List.append_nil]at *;have hB3:eM [(oi,.arr 1 (rowsOf uO D)),(0,.var (ao m))] (D++[(os.length,c.length)]) ((dP m).take (i+1)) (os++[.arr 1 (bm (aJ c.length true))]):=by
    rw[e9];have h:=((hB.app [.arr 1 (bm (aJ c.length true))]).add (kq _ _ _) (hB.fresh (bb _))).snoc;rw[mL]at h;exact h
   obtain⟨hB4,ee⟩:=hB3.drop;have AD:=hB3.b0;dsimp only at AD;generalize os++[.arr 1 (bm (aJ c.length true))]=os2 at *;generalize os.length=p at *;clear fo fm hB;((try revert hK K);(repeat'(first|refine Va (X5 @AD (aL AD) (iD AD) @Zj (X4 @bE @bC.{0} @bF.{0} @bK.{0})) ?_|(refine V2 (X5 @AD (aL AD) (iD AD) @Zj (X4 @bE @bC.{0} @bF.{0} @bK.{0})) ?_ ?_<;>try with_reducible intro hb)|(refine Xi ?_ ?_<;>try intro ht)|refine VD ?_ ?_|exact Xx|fail))<;>try with_reducible intro K hK)
   refine ak _ (i+1,os2.set oi .gone++[.arr 1 [[.ref p 1 0 c.length]],.arr 1 (rowsOf uO (D++[(p,c.length)]))],os2.length+1,D++[(p,c.length)]) ⟨NQ,?_⟩ NQ ?_
   ·refine((hB4.other ee .gone).app _).add ?_ ((hB4.other ee .gone).fresh Iy);rw[oH];rfl
   ·exact Xv X0
 ·rw[List.take_of_length_le Ix]at hB;have M4:i=m.cls.length:=Ix;have ZF:=hB.swap.drop.1;have abn:=ZF.akO;rw[kM]at abn;rw[G2,M4]at *;((try revert hK K);(repeat'(first|refine Va @fm ?_|(refine V2 @fm ?_ ?_<;>try with_reducible intro hb)|(refine Xi ?_ ?_<;>try intro ht)|refine VD ?_ ?_|exact Xx|fail))<;>try with_reducible intro K hK)
  refine ar _ _ rfl ?_;clear ak ar Ql;repeat(first|refine Xu ?_)
  ((try revert hK K);(repeat'(first|refine Vb X0 ?_|(refine V2 X0 ?_ ?_<;>try with_reducible intro hb)|(refine Xi ?_ ?_<;>try intro ht)|refine VD ?_ ?_|exact Xx|fail))<;>try with_reducible intro K hK)
  exact abn _
def ints_set(P:List Int)(k:Nat)(v:Int):(ints P).set k [N0 v]=ints (P.set k v):=by unfold ints;rw[rV]
def akT(m:ah)(left:List (List Bool))(cB:VM m)(P:List Int)(hP:P.length=m.cls.length):
  Holds Tryz.prog 50 [.agg (ao m),.tree 1 (rowsOf aA left),.ref 0 1 0 m.cls.length,N0 m.cls.length] [.arr 1 (ints P)] (N0 (bQ m (xB m P) []).1) [.arr 1 (ints P)]:=by
 have hA:=akS m cB;have qE:=cB.cls;have kM:(dP m).length=m.cls.length:=by simp[dP]
 have j4:bH (bq 2 []) (.arr 1 (jS 1 (dP m)))=.arr 1 (jS 3 (dP m)):=by
  rw[bH,aiW (bq 2 []) (dP m) 3 1 (λj hj=>by unfold bq;simp;omega)]
 have hv:=KT m (xB m P) [] cB.mb (akM cB Ni) NI;have qc:=Holds.Dj (pre:=[.agg (ao m),.tree 1 (rowsOf aA (xB m P))]) (post:=[]) hv;have hvS:xB m P=iR (dP m) P m.cls.length:=rfl;rw[hvS]at qc ⊢;generalize (bQ m (iR (dP m) P m.cls.length) []).1=va at *;generalize (bQ m (iR (dP m) P m.cls.length) []).2=ve at *;clear hv;have hrS:∀ i,i<m.cls.length->((dP m).getD i default).length=(m.cls.getD i default).length:=λi hi=>by
  unfold dP;rw[iX _ _ _ hi,mL]
 refine Holds.aK 86 1 [.tmp 8] Tryz.func50 ?_;repeat'(first|((fail_if_success (first|refine ei 2 ?_|refine ej 2 ?_));refine Xr X0 ?_;intro K hK)|refine Xo X0 ?_|(refine hK _ ?_;clear hK K)|(refine Xg X0 ?_ ?_<;>try intro hb)|(refine Xi ?_ ?_<;>try intro ht)|refine XY ?_|refine Xd ?_ ?_|exact Xx|fail)
 refine rq ?_;intro K hK;simp(disch:=omega)only[Ac,↓Pc,simprocAttr];refine jv [] hA NI trivial ⟨.pure rfl,trivial⟩ ?_;simp(disch:=omega)only[Ac,↓Pc,simprocAttr,j4,aiX];refine hK _ ?_;clear hK K;generalize hS:dP m=S at *;((try revert hK K);(repeat'(first|refine Va X0 ?_|(refine V2 X0 ?_ ?_<;>try with_reducible intro hb)|(refine Xi ?_ ?_<;>try intro ht)|refine VD ?_ ?_|exact Xx|fail))<;>try with_reducible intro K hK)
 refine aU (λi:Nat=>(⟨an [(2,.ref 0 1 0 m.cls.length),(4,.ptr 1 0 0),(9,.ref 2 1 0 m.cls.length),(10,N0 i)],tH (.arr 1 (ints P)) (.var (ao m)) (jS 3 S) (iR S P i)⟩:St))
  (λi=>i<=m.cls.length) (λi=>m.cls.length-i) 0 (aT _) (by rw[show iR S P 0=S from rfl];unfold tH nO;exact Xv X0) ?_
 rintro i hi Ql ak ar;have hYm:=EI S P i;have EJ:=congrArg kI hYm;simp only[fW]at EJ;by_cases aq:i<m.cls.length
 ·have kz:=El 3 S i Ix;have bG:=hrS i aq;have uH:=cB.opt _ (aG (l:=m.cls) (i:=i) (d:=default) aq);have cI:((iR S P i).getD i default).length=(S.getD i default).length:=by
   rw[Ii S P i i Ix,if_neg Ix]
  have nX:iR S P (i+1)=(iR S P i).set i (qO ((iR S P i).getD i default) (P.getD i 0) ((iR S P i).getD i default).length):=rfl;rw[cI]at nX;rw[bG]at kz cI nX;generalize iR S P i=Y at *;generalize yO:(m.cls.getD i default).length=w at *;((try revert hK K);(repeat'(first|refine Va (X3 @tI @AB @kz) ?_|(refine V2 (X3 @tI @AB @kz) ?_ ?_<;>try with_reducible intro hb)|(refine Xi ?_ ?_<;>try intro ht)|refine VD ?_ ?_|exact Xx|fail))<;>try with_reducible intro K hK)
  refine aU (λk:Nat=>(⟨an [(2,.ref 0 1 0 m.cls.length),(4,.ptr 1 0 0),(9,.ref 2 1 0 m.cls.length),(10,N0 i),(11,N0 k)],tH (.arr 1 (ints P)) (.var (ao m)) (jS 3 S) (Y.set i (qO (Y.getD i default) (P.getD i 0) k))⟩:St))
   (λk=>k<=w) (λk=>w-k) 0 (aT _) (by rw[show qO (Y.getD i default) (P.getD i 0) 0=Y.getD i default from rfl,zU];exact Xv X0) ?_
  rintro k hk c7 br bx;have hrk:=Ih (Y.getD i default) (P.getD i 0) k;have akW:qO (Y.getD i default) (P.getD i 0) (k+1)=(qO (Y.getD i default) (P.getD i 0) k).set k ((k:Int)==P.getD i 0):=rfl;have akX:k=w->Y.set i (qO (Y.getD i default) (P.getD i 0) k)=iR S P (i+1):=λe=>by rw[nX,e]
  generalize qO (Y.getD i default) (P.getD i 0) k=r at *;have f2:=abj (.arr 1 (ints P)) (.var (ao m)) (jS 3 S) (Y:=Y.set i r) (i:=i) (by rw[bK];omega);rw[uE _ _ _ Ix]at f2;have f3:=λr2=>akP (.arr 1 (ints P)) (.var (ao m)) (jS 3 S) (Y.set i r) i r2;simp only[List.set_set]at f3;unfold ao at f2 f3;by_cases ba:k<w
  ·((try revert hK K);(repeat'(first|refine Va (X5 @AB @tI @kz @f2 (X4 @f3 @wM @hrk @cI)) ?_|(refine V2 (X5 @AB @tI @kz @f2 (X4 @f3 @wM @hrk @cI)) ?_ ?_<;>try with_reducible intro hb)|(refine Xi ?_ ?_<;>try intro ht)|refine VD ?_ ?_|exact Xx|fail))<;>try with_reducible intro K hK)
   rw[<- akW];exact br _ (k+1) Ix Ix (Xv X0)
  ·obtain rfl:k=w:=Ix;((try revert hK K);(repeat'(first|refine Va (X4 @AB @tI @kz @f2) ?_|(refine V2 (X4 @AB @tI @kz @f2) ?_ ?_<;>try with_reducible intro hb)|(refine Xi ?_ ?_<;>try intro ht)|refine VD ?_ ?_|exact Xx|fail))<;>try with_reducible intro K hK)
   refine bx _ _ rfl ?_;clear br bx c7;repeat(first|refine Xu ?_)
   ((try revert hK K);(repeat'(first|refine Va @tI ?_|(refine V2 @tI ?_ ?_<;>try with_reducible intro hb)|(refine Xi ?_ ?_<;>try intro ht)|refine VD ?_ ?_|exact Xx|fail))<;>try with_reducible intro K hK)
   exact ak _ (i+1) Ix Ix (by rw[<- akX rfl];exact Xv X0)
 ·obtain rfl:i=m.cls.length:=Ix;have cI:(jS 3 S).length=(iR S P m.cls.length).length:=by rw[Ek];omega
  have xZ:jS 3 S=jS 3 (iR S P m.cls.length):=aiV 3 hYm.symm;have akY:(iR S P m.cls.length).length=m.cls.length:=Ix;generalize iR S P m.cls.length=Y at *;rw[xZ];((try revert hK K);(repeat'(first|refine Va @tI ?_|(refine V2 @tI ?_ ?_<;>try with_reducible intro hb)|(refine Xi ?_ ?_<;>try intro ht)|refine VD ?_ ?_|exact Xx|fail))<;>try with_reducible intro K hK)
  refine ar _ _ rfl ?_;clear ak ar Ql;repeat(first|refine Xu ?_)
  repeat'(first|((fail_if_success (first|refine ei 10 ?_|refine ej 10 ?_));refine Xr X0 ?_;intro K hK)|refine Xo X0 ?_|(refine hK _ ?_;clear hK K)|(refine Xg X0 ?_ ?_<;>try intro hb)|(refine Xi ?_ ?_<;>try intro ht)|refine XY ?_|refine Xd ?_ ?_|exact Xx|fail)
  refine rq ?_;intro K hK;simp(disch:=omega)only[Ac,↓Pc,simprocAttr,akQ];refine vh [] qc NI trivial ⟨.pure rfl,.snap _ _ rfl ?_,.pure rfl,trivial⟩ rfl Iy ?_
  ·rw[<- akY];exact ai0 (AB _ _ _ _) Iy (Ek 3 Y) λa ha=>⟨3+a,El 3 Y a ha,abj _ _ _ ha,Iy⟩
  simp(disch:=omega)only[Ac,↓Pc,simprocAttr];refine hK _ ?_;clear hK K;repeat(first|refine Xu ?_)
  ((try revert hK K);(repeat'(first|refine Vb @tI ?_|(refine V2 @tI ?_ ?_<;>try with_reducible intro hb)|(refine Xi ?_ ?_<;>try intro ht)|refine VD ?_ ?_|exact Xx|fail))<;>try with_reducible intro K hK)
  unfold tH;exact Xw false [0] @Nat.zero_lt_succ
def abq(m:ah)(left:List (List Bool))(cB:VM m)(hf:df m left):∀ (d c:Nat) (P:List Int),c+d=m.cls.length->P.length=m.cls.length ->
  Holds Tryz.prog 50 [.agg (ao m),.tree 1 (rowsOf aA left),.ref 0 1 0 m.cls.length,N0 c] [.arr 1 (ints P)] (N0 (gT m left d P).1) [.arr 1 (ints (gT m left d P).2)]
 |0,c,P,hc,hP=>by
  rw[iq]at hc;subst hc;exact akT m left cB P hP
 |d+1,c,P,hc,hP=>by
  have ih:=abq m left cB hf d (c+1);have qE:=cB.cls;have bG:c<m.cls.length:=Ix;have hw:gT m left (d+1) P=jY (gT m left d) c (left.getD c default) P (m.cls.getD c default).length:=by rw[gT,show m.cls.length-(d+1)=c by omega]
  have iy:=hf.1;have bN:=hf.2 c Ix;have uH:=cB.opt _ (aG (l:=m.cls) (i:=c) (d:=default) bG);rw[hw];have AZ:jY (gT m left d) c (left.getD c default) P 0=(1099511627776,P):=rfl;generalize au:jY (gT m left d) c (left.getD c default) P (m.cls.getD c default).length=res;have ov:∀ k,(jY (gT m left d) c (left.getD c default) P k).2.length=m.cls.length:=λk=>Ij (λP hP=>Nj m left d P hP) _ _ hP k;generalize gq:left.getD c default=row at *;generalize bc:m.cls.getD c default=cl at *;refine Holds.aK 86 1 [.tmp 8] Tryz.func50 ?_;((try revert hK K);(repeat'(first|refine Va X0 ?_|(refine V2 X0 ?_ ?_<;>try with_reducible intro hb)|(refine Xi ?_ ?_<;>try intro ht)|refine VD ?_ ?_|exact Xx|fail))<;>try with_reducible intro K hK)
  all_goals try(exfalso;omega)
  refine aU (λk:Nat=>(⟨an [(1,.tree 1 (rowsOf aA left)),(2,.ref 0 1 0 m.cls.length),(3,N0 c),(4,.ptr 1 0 0),(14,N0 (jY (gT m left d) c row P k).1),(15,N0 k)],[.arr 1 (ints (jY (gT m left d) c row P k).2),.var (ao m)]⟩:St))
   (λk=>k<=cl.length) (λk=>cl.length-k) 0 (aT _) (by rw[AZ];exact Xv X0) ?_
  rintro k hk Ql ak ar;have hl:=ov k;by_cases ba:k<cl.length
  ·have hs:jY (gT m left d) c row P (k+1)=if row.getD k false=true then(min (jY (gT m left d) c row P k).1 (gT m left d ((jY (gT m left d) c row P k).2.set c (k:Int))).1,(gT m left d ((jY (gT m left d) c row P k).2.set c (k:Int))).2) else jY (gT m left d) c row P k:=rfl;have yB:=ak;have Ba:=ih ((jY (gT m left d) c row P k).2.set c (k:Int)) Ix (by rw[bK];exact hl);generalize jY (gT m left d) c row P k=st at *;obtain⟨least,Q⟩:=st;dsimp only at hl hs Ba;have iL:=ints_set Q c (k:Int);by_cases hb:row.getD k false=true
   ·rw[if_pos hb]at hs;generalize gT m left d (Q.set c (k:Int))=st2 at *;obtain⟨v,Q2⟩:=st2;dsimp only at hs Ba;rw[show((c+1:Nat):Int)=(c:Int)+1 by push_cast;rfl]at Ba;((try revert hK K);(repeat'(first|refine Va (X5 @gq @bc @aA.eq_1 @aQ.eq_1 (X3 @hb @iL @hl)) ?_|(refine V2 (X5 @gq @bc @aA.eq_1 @aQ.eq_1 (X3 @hb @iL @hl)) ?_ ?_<;>try with_reducible intro hb)|(refine Xi ?_ ?_<;>try intro ht)|refine VD ?_ ?_|exact Xx|fail))<;>try with_reducible intro K hK)
    (refine Xn [0] (Ba) ?_;simp(disch:=omega)only[Ac,↓Pc,simprocAttr])
    ((try revert hK K);(repeat'(first|refine Va X0 ?_|(refine V2 X0 ?_ ?_<;>try with_reducible intro hb)|(refine Xi ?_ ?_<;>try intro ht)|refine VD ?_ ?_|exact Xx|fail))<;>try with_reducible intro K hK)
    exact ak _ (k+1) Ix Ix (by rw[hs];exact Xv X0)
   ·rw[if_neg hb]at hs;have oF:row.getD k false=false:=by simpa using hb
    ((try revert hK K);(repeat'(first|refine Va (X5 @gq @bc @aA.eq_1 @aQ.eq_1 @oF) ?_|(refine V2 (X5 @gq @bc @aA.eq_1 @aQ.eq_1 @oF) ?_ ?_<;>try with_reducible intro hb)|(refine Xi ?_ ?_<;>try intro ht)|refine VD ?_ ?_|exact Xx|fail))<;>try with_reducible intro K hK)
    exact ak _ (k+1) Ix Ix (by rw[hs];exact Xv X0)
  ·obtain rfl:k=cl.length:=Ix;rw[au]at *;((try revert hK K);(repeat'(first|refine Va (X2 @bc @aQ.eq_1) ?_|(refine V2 (X2 @bc @aQ.eq_1) ?_ ?_<;>try with_reducible intro hb)|(refine Xi ?_ ?_<;>try intro ht)|refine VD ?_ ?_|exact Xx|fail))<;>try with_reducible intro K hK)
   refine ar _ _ rfl ?_;clear ak ar Ql;repeat(first|refine Xu ?_)
   ((try revert hK K);(repeat'(first|refine Vb X0 ?_|(refine V2 X0 ?_ ?_<;>try with_reducible intro hb)|(refine Xi ?_ ?_<;>try intro ht)|refine VD ?_ ?_|exact Xx|fail))<;>try with_reducible intro K hK)
   exact Xw false [0] X0
def agl(m:ah)(left:List (List Bool))(cB:VM m)(hf:df m left):Holds Tryz.prog 20 [.agg (ao m),.tree 1 (rowsOf aA left)] [] (N0 (DF m left)) []:=by
 have hw:=abq m left cB hf m.cls.length 0 (aJ m.cls.length 0) Ix Iy;rw[show((0:Nat):Int)=0 from rfl]at hw;unfold DF;generalize gT m left m.cls.length (aJ m.cls.length 0)=w at *;have qE:=cB.cls;refine Holds.aK 14 0 [.tmp 4] Tryz.func20 ?_;((try revert hK K);(repeat'(first|refine Vb X0 ?_|(refine V2 X0 ?_ ?_<;>try with_reducible intro hb)|(refine Xi ?_ ?_<;>try intro ht)|refine VD ?_ ?_|exact Xx|fail))<;>try with_reducible intro K hK)
 (refine Xn [1] (hw) ?_;simp(disch:=omega)only[Ac,↓Pc,simprocAttr])
 ((try revert hK K);(repeat'(first|refine Vb X0 ?_|(refine V2 X0 ?_ ?_<;>try with_reducible intro hb)|(refine Xi ?_ ?_<;>try intro ht)|refine VD ?_ ?_|exact Xx|fail))<;>try with_reducible intro K hK)
 exact aS rfl rfl
structure wo(m:ah)(left:List (List Bool))(c:Nat)(P:List Int):Prop where
 len:P.length=m.cls.length
 get:∀ j,j<c->(0<=P.getD j 0/\P.getD j 0<(m.cls.getD j default).length)/\(left.getD j default).getD (P.getD j 0).toNat false=true
def wo.agree{m:ah}{left:List (List Bool)}{c:Nat}{P Q:List Int}(h:wo m left c P)(hl:Q.length=m.cls.length)(hk:∀ j,j<c->Q.getD j 0=P.getD j 0):wo m left c Q :=
 ⟨hl,λj hj=>by rw[hk j hj];exact h.get j hj⟩
def Nk(P:List Int)(c j:Nat)(v:Int)(h:j≠c):(P.set c v).getD j 0=P.getD j 0:=by
 rw[aB,List.getElem?_set_ne (Ne.symm h),<- aB]
def wo.put{m:ah}{left:List (List Bool)}{c:Nat}{P:List Int}(h:wo m left c P)(hc:c<m.cls.length){k:Nat}(hk:k<(m.cls.getD c default).length)(hb:(left.getD c default).getD k false=true):wo m left (c+1) (P.set c (k:Int)):=by
 refine⟨by rw[bK];exact h.len,λj hj=>?_⟩;by_cases e:j=c
 ·subst e;have e2:(P.set j (k:Int)).getD j 0=(k:Int):=by rw[aB,bY];simp[h.len,hc]
  rw[e2];exact⟨⟨Ix,Ix⟩,by rw[ep];exact hb⟩
 ·rw[Nk _ _ _ _ e];exact h.get j Ix
def wo.full{m:ah}{left:List (List Bool)}{P:List Int}(h:wo m left m.cls.length P):FP m P/\Ex m left P:=by
 refine⟨⟨h.len,λj hj=>?_⟩,λi hi=>(h.get i hi).2⟩;rw[h.len]at hj;have:=h.get j hj;exact kR.2 ⟨Ix,Ix,this.1.1,by rw[ep];exact this.1.2⟩
def Nl{f:List Int->Int×List Int}{c j:Nat}(hj:j<c)(row:List Bool)(P:List Int)(hf:∀ Q,(f Q).2.getD j 0=Q.getD j 0):∀ k,(jY f c row P k).2.getD j 0=P.getD j 0
 |0=>rfl
 |k+1=>by
  rw[jY];split
  ·dsimp only;rw[hf,Nk _ _ _ _ Ix];exact Nl hj row P hf k
  ·exact Nl hj row P hf k
def abr(m:ah)(left:List (List Bool)):∀ (d:Nat) (P:List Int) (j:Nat),j+d<m.cls.length->(gT m left d P).2.getD j 0=P.getD j 0
 |0,P,j,h=>rfl
 |d+1,P,j,h=>by
  rw[gT];exact Nl Ix _ _ (λQ=>abr m left d Q j Ix) _
section
variable {m:ah} {left:List (List Bool)} (hm:VM m) {b:Int} (hb:b<=1099511627776) (hP:∀ plan,FP m plan->Ex m left plan->b<=vG (yo m plan) 0)
include hm hb hP
def abt:∀ (d c:Nat) (P:List Int),c+d=m.cls.length->wo m left c P->b<=(gT m left d P).1
 |0,c,P,hc,h=>by
  rw[iq]at hc;subst hc;obtain⟨h1,h2⟩:=h.full;rw[gT];dsimp only;rw[akN hm Ni NI Iy];dsimp only;rw[XO hm h1 _ Ni (akR h1) [] Iy];exact hP P h1 h2
 |d+1,c,P,hc,h=>by
  have e:m.cls.length-(d+1)=c:=Ix;rw[gT,e];have key:∀ k,k<=(m.cls.getD c default).length->b<=(jY (gT m left d) c (left.getD c default) P k).1/\wo m left c (jY (gT m left d) c (left.getD c default) P k).2:=by
   intro k
   induction k with
   |zero=>intro _;exact⟨hb,h⟩
   |succ k ih =>
    intro hk;obtain⟨i1,i2⟩:=ih Ix;rw[jY];split
    ·rename_i hr;have h3:=i2.put Ix (k:=k) Ix hr;have h4:=abt d (c+1) _ Ix h3;refine⟨NQ,?_⟩;dsimp only;refine i2.agree (Nj m left d _ h3.len) λj hj=>?_;rw[abr m left d _ j Ix,Nk _ _ _ _ Ix]
    ·exact⟨i1,i2⟩
  exact(key _ (bb _)).1
def agb:b<=DF m left:=abt hm hb hP m.cls.length 0 _ Ix ⟨Iy,λj hj=>absurd hj (Nat.not_lt_zero _)⟩
end
end T

