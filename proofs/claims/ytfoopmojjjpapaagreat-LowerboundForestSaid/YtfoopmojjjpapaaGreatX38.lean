import Derived.Test.YtfoopmojjjpapaaGreatX28
import Derived.Test.YtfoopmojjjpapaaGreatX30
set_option linter.all false
set_option maxHeartbeats 0
set_option maxRecDepth 20000
open List renaming getElem?_eq_some_iff→aT,getD_cons_succ→eS,getD_eq_getElem?_getD→az,getElem?_map→bY,getElem?_eq_getElem→bS,getElem?_eq_none→fY,getElem?_cons_succ→rU,length_set→bH,getElem?_set→bU,length→jB,map_set→wH,length_replicate→mL,length_map→eu,replicate→aI,replicate_zero→yX,append_assoc→bw,length_append→bI
open Option renaming some→cy,map_some→im
open Nat renaming le_refl→aU,zero_le→aS,sub_self→iq
open Go Go.Am Go.Proofs
namespace T
def dH.amr{D:List (Nat×Nat)}{S:List (List Bool)}{os:List Ob}{oi:Nat}(h:dH [(oi,.arr 1 (rowsOf pJ D))] D S os)(e:Nat->AV):
  nR 0 ⟨e,os⟩ (.ref oi 1 0 S.length) (.ref 0 1 0 S.length) (.arr 1 (fV 1 S)::rH S):=by
 have hd:=h.len;have h1:=h.base (oi,.arr 1 (rowsOf pJ D)) Fl;dsimp only at h1;have hl:∀ i∈oi::D.map (·.1),i<os.length:=λi hi=>by
  rcases List.mem_cons.1 hi with rfl|hi
  ·exact(aT.1 h1).1
  obtain⟨q,hq,rfl⟩:=List.mem_map.1 hi;obtain⟨k,hk,rfl⟩:=List.mem_iff_getElem.1 hq;have h3:=(h.row k hk).1;have a1:D.getD k default=D[k]:=by simp[hk]
  rw[a1]at h3;exact(aT.1 h3).1
 have MJ:∀ j,j<S.length->bq os.length (oi::D.map (·.1)) (1+j)=(D.getD j default).1:=λj hj=>by
  unfold bq;rw[if_pos Jo,show 1+j=j+1 by omega,eS,az,bY,az,bS CZ];rfl
 refine⟨oi::D.map (·.1),false,by simpa using h.nd,by simp[Ev,hd],λj o hj=>.inr ?_,hl,Fl,λi hi=>CZ,.eq ?_⟩
 ·match j with
  |0 =>
   simp only[List.getElem?_cons_zero,cy.injEq]at hj;subst hj;refine h1.trans (congrArg some ?_);rw[bM];refine congrArg _ (List.ext_getElem? λi=>?_);rw[bY];by_cases hi:i<S.length
   ·rw[X9 h hi,zP 1 S i hi,im,List.map_cons,List.map_nil,bh,MJ i hi]
   ·rw[fY (by simp[rowsOf];omega),fY (by rw[BE];omega)];rfl
  |j+1 =>
   simp only[rU]at hj;have gF:j<S.length:=by have:=(aT.1 hj).1;rwa [Ev]at this
   have h3:=(h.row j CZ).1;unfold rH at hj;rw[bY,bS gF]at hj;simp only[im,cy.injEq]at hj;subst hj;rw[A7];have e1:(oi::D.map (·.1)).getD (j+1) 0=(D.getD j default).1:=by
    rw[eS,az,bY,az,bS CZ];rfl
   have e2:S.getD j default=S[j]:=by rw[az,bS gF];rfl
   rw[e1,<- e2];exact h3
 ·rw[bh];have:bq os.length (oi::D.map (·.1)) 0=oi:=by unfold bq;rw[if_pos Fl];rfl
  rw[this]
def tA(x y:Ob)(A:List (List AV))(Y:List (List Bool)):List Ob:=x::nO y A Y
def acP(x y:Ob)(A:List (List AV)){Y:List (List Bool)}{i:Nat}(h:i<Y.length):(tA x y A Y)[3+i]?=some (.arr 1 (br (Y.getD i default))):=by
 unfold tA;rw[show 3+i=2+i+1 by omega,rU];exact GJ y A h
def ams(x y:Ob)(A:List (List AV))(Y:List (List Bool))(i:Nat)(r:List Bool):(tA x y A Y).set (3+i) (.arr 1 (br r))=tA x y A (Y.set i r):=by
 unfold tA;rw[show 3+i=2+i+1 by omega,List.set_cons_succ,Tm]
def tB(x y:Ob)(A:List (List AV))(Y:List (List Bool)):(tA x y A Y)[0]?=some x:=rfl
def amu(x y:Ob)(A:List (List AV))(Y:List (List Bool)):(tA x y A Y)[1]?=some y:=rfl
def AJ(x y:Ob)(A:List (List AV))(Y:List (List Bool)):(tA x y A Y)[2]?=some (.arr 1 A):=rfl
def qV(r:List Bool)(p:Int):Nat->List Bool
 |0=>r
 |k+1=>(qV r p k).set k ((k:Int)==p)
def jc(S:List (List Bool))(P:List Int):Nat->List (List Bool)
 |0=>S
 |i+1=>(jc S P i).set i (qV ((jc S P i).getD i default) (P.getD i 0) ((jc S P i).getD i default).length)
def xH(m:aj)(P:List Int):List (List Bool):=jc (dy m) P m.cls.length
def IQ(r:List Bool)(p:Int):∀ k,(qV r p k).length=r.length
 |0=>rfl
 |k+1=>by rw[qV,bH,IQ r p k]
def acQ(r:List Bool)(p:Int)(j:Nat):∀ k,k<=r.length->(qV r p k).getD j false=if j<k then((j:Int)==p) else r.getD j false
 |0,_=>by rw[if_neg CZ];rfl
 |k+1,h=>by
  rw[qV,az,bU];by_cases e:k=j
  ·subst e;rw[if_pos rfl,if_pos (by rw[IQ];omega),if_pos CZ];rfl
  ·rw[if_neg e,<- az,acQ r p j k CZ];by_cases e2:j<k
   ·rw[if_pos e2,if_pos CZ]
   ·rw[if_neg e2,if_neg CZ]
def E7(S:List (List Bool))(P:List Int):∀ i,(jc S P i).map jB=S.map jB
 |0=>rfl
 |i+1=>by
  rw[jc,wH,IQ];rcases Nat.lt_or_ge i (jc S P i).length with h|h
  ·have e:((jc S P i).getD i default).length=((jc S P i).map jB).getD i default:=by rw[gn _ _ _ h]
   rw[e,Ad];exact E7 S P i
  ·rw[List.set_eq_of_length_le (by simpa using h)];exact E7 S P i
def IS(S:List (List Bool))(P:List Int)(j:Nat):∀ i,i<=S.length->(jc S P i).getD j default=if j<i then qV (S.getD j default) (P.getD j 0) (S.getD j default).length else S.getD j default
 |0,_=>by rw[if_neg CZ];rfl
 |i+1,h=>by
  have hl:(jc S P i).length=S.length:=by have:=congrArg jB (E7 S P i);simpa using this
  have ih:=IS S P i i CZ;rw[if_neg CZ]at ih;rw[jc,ih,az,bU];by_cases e:i=j
  ·subst e;rw[if_pos rfl,if_pos CZ,if_pos CZ];rfl
  ·rw[if_neg e,<- az,IS S P j i CZ];by_cases e2:j<i
   ·rw[if_pos e2,if_pos CZ]
   ·rw[if_neg e2,if_neg CZ]
def acR{m:aj}{P:List Int}(hp:FP m P):EZ m (xH m P) P:=by
 intro i hi j;have kO:(dy m).length=m.cls.length:=by simp[dy]
 have hr:((dy m).getD i default).length=(m.cls.getD i default).length:=by
  unfold dy;rw[gn _ _ _ hi,mL]
 unfold xH;rw[IS _ _ _ _ CZ,if_pos hi,acQ _ _ _ _ (aU _)];have hg:=jK.1 (hp.get i (by rw[hp.len];exact hi));rw[Int.toNat_natCast]at hg;by_cases hj:j<((dy m).getD i default).length
 ·rw[if_pos hj];rw[show((j:Int)==P.getD i 0)=decide ((j:Int)=P.getD i 0) from rfl];apply decide_eq_decide.2;omega
 ·rw[if_neg hj,az,fY CZ];rw[decide_eq_false CZ];rfl
def E8{m:aj}{P:List Int}:cP m (xH m P):=by
 have kO:(dy m).length=m.cls.length:=by simp[dy]
 have h1:=E7 (dy m) P m.cls.length;have hl:=congrArg jB h1;simp only[eu]at hl;unfold xH;refine⟨CZ,λi hi=>?_⟩;have h2:((jc (dy m) P m.cls.length).map jB).getD i default=((dy m).map jB).getD i default:=by rw[h1]
 rw[gn _ _ _ hi,gn _ _ _ CZ]at h2;rw[h2];unfold dy;rw[gn _ _ _ CZ,mL]
def iQ(f:List Int->Int×List Int)(c:Nat)(row:List Bool)(P:List Int):Nat->Int×List Int
 |0=>(1099511627776,P)
 |k+1=>if row.getD k false=true then(min (iQ f c row P k).1 (f ((iQ f c row P k).2.set c (k:Int))).1,(f ((iQ f c row P k).2.set c (k:Int))).2) else iQ f c row P k
def eR(m:aj)(left:List (List Bool)):Nat->List Int->Int×List Int
 |0,P=>((bP m (xH m P) []).1,P)
 |d+1,P=>iQ (eR m left d) (m.cls.length-(d+1)) (left.getD (m.cls.length-(d+1)) default) P (m.cls.getD (m.cls.length-(d+1)) default).length
def w0(m:aj)(left:List (List Bool)):Int:=(eR m left m.cls.length (aI m.cls.length 0)).1
def E9{f:List Int->Int×List Int}{n:Nat}(hf:∀ P,P.length=n->(f P).2.length=n)(c:Nat)(row:List Bool){P:List Int}(hP:P.length=n):∀ k,(iQ f c row P k).2.length=n
 |0=>hP
 |k+1=>by
  rw[iQ];split
  ·exact hf _ (by rw[bH];exact E9 hf c row hP k)
  ·exact E9 hf c row hP k
def IT(m:aj)(left:List (List Bool)){n:Nat}:∀ (d:Nat) (P:List Int),P.length=n->(eR m left d P).2.length=n
 |0,P,h=>h
 |d+1,P,h=>by
  rw[eR];exact E9 (λP hP=>IT m left d P hP) _ _ h _
def Tv{m:aj}{x:List (List Bool)}(hm:VM m)(h:cP m x):BB x:=by
 have hc:=hm.cls;refine⟨by have:=h.1;omega,λr hr=>?_⟩;obtain⟨i,hi,rfl⟩:=List.getElem_of_mem hr;have h2:=h.2 i hi;have h3:=hm.opt _ (aF (l:=m.cls) (i:=i) (d:=default) (by have:=h.1;omega));rw[az,bS hi,Option.getD_some]at h2;omega
def acS{m:aj}{x:List (List Bool)}{l:List Mv}(hm:VM m)(hf:cP m x)(hl:l.length<=12)(hb:∀ y∈l,gK m y=true):bP m x l=(kU m x (fq m l (S0 m,T0 m)),0):=by
 unfold bP kR gH;rw[if_neg (by rw[if_neg (by rw[oB.2 hm];simp),if_pos hf];simp),if_neg CZ,if_neg (by rw[List.all_eq_true.2 hb];simp)]
def amv(m:aj)(cf:VM m):Holds Tryz.prog 12 [.agg (ay m)] [] (.ref 0 1 0 m.cls.length) (.arr 1 (fV 1 (dy m))::rH (dy m)):=by
 have h1:=Nc m cf.mb;rw[oB.2 cf]at h1;have s8:=cf.cls;have kO:(dy m).length=m.cls.length:=by simp[dy]
 refine Holds.aQ 38 0 [.tmp 2] Tryz.func12 ?_;((try revert hK K);(repeat'(first|refine Vd @bne_self_eq_false.{0} h1 ?_|(refine V2 @bne_self_eq_false.{0} ?_ ?_<;>try with_reducible intro hb)|(refine Xi ?_ ?_<;>try intro ht)|refine VD ?_ ?_|exact Xx|fail))<;>try with_reducible intro K hK)
 refine bd (λz:Nat×List Ob×Nat×List (Nat×Nat)=>(⟨ar [(1,.ptr 0 0 0),(3,.ref z.2.2.1 1 0 z.2.2.2.length),(4,OJ z.1)],z.2.1⟩:St))
  (λz=>z.1<=m.cls.length/\dH [(z.2.2.1,.arr 1 (rowsOf pJ z.2.2.2)),(0,.var (ay m))] z.2.2.2 ((dy m).take z.1) z.2.1) (λz=>m.cls.length-z.1)
  (0,[.var (ay m),.arr 1 []],1,[]) ⟨aS _,by simp[rowsOf],rfl,Fl,(show([1,0]:List Nat).Nodup by decide)⟩ ?_ ?_
 ·refine aH.trans (aH.nil 3 1 (by simp only[Kc,simprocAttr]) Fs) ?_;exact Xv X0
 rintro⟨i,os,oi,D⟩⟨hi,hB⟩Ql ao ax;dsimp only at hi hB ⊢;have yR:D.length=i:=by rw[hB.len,List.length_take];omega
 have fo:=hB.b0;have fm:=hB.b1;dsimp only at fm fo;by_cases aq:i<m.cls.length
 ·have fP:(dy m).take (i+1)=(dy m).take i++[aI (m.cls.getD i default).length true]:=by
   rw[eQ CZ];unfold dy;rw[gn _ _ _ aq]
  have vL:=cf.opt _ (aF (d:=default) aq);generalize bf:m.cls.getD i default=c at *;((try revert hK K);(repeat'(first|refine Va (X3 @fm @bf @bm.eq_1) ?_|(refine V2 (X3 @fm @bf @bm.eq_1) ?_ ?_<;>try with_reducible intro hb)|(refine Xi ?_ ?_<;>try intro ht)|refine VD ?_ ?_|exact Xx|fail))<;>try with_reducible intro K hK)
  refine bd (λk:Nat=>(⟨ar [(1,.ptr 0 0 0),(3,.ref oi 1 0 D.length),(4,OJ i),(5,.ref os.length 1 0 c.length),(6,OJ k)],os++[.arr 1 (br (aI k true++aI (c.length-k) false))]⟩:St))
   (λk=>k<=c.length) (λk=>c.length-k) 0 (aS _) (by simp only[Nat.sub_zero,yX,List.nil_append];exact Xv X0) ?_
  rintro k hk du bE bG;have cr:(aI k true++aI (c.length-k) false).length=c.length:=Jo;by_cases bc:k<c.length
  ·have iT:(aI k true++aI (c.length-k) false).set k true=aI (k+1) true++aI (c.length-(k+1)) false:=by
    rw[List.set_append_right _ _ Fl,mL,iq,show c.length-k=(c.length-(k+1))+1 by omega,List.replicate_succ,List.set_cons_zero,List.replicate_succ',bw];rfl
   ((try revert hK K);(repeat'(first|refine Va (X3 @cr @r9 @bF) ?_|(refine V2 (X3 @cr @r9 @bF) ?_ ?_<;>try with_reducible intro hb)|(refine Xi ?_ ?_<;>try intro ht)|refine VD ?_ ?_|exact Xx|fail))<;>try with_reducible intro K hK)
   rw[iT];exact bE _ (k+1) CZ CZ (Xv X0)
  ·obtain rfl:k=c.length:=CZ;((try revert hK K);(repeat'(first|refine Va (X2 @cr @bF) ?_|(refine V2 (X2 @cr @bF) ?_ ?_<;>try with_reducible intro hb)|(refine Xi ?_ ?_<;>try intro ht)|refine VD ?_ ?_|exact Xx|fail))<;>try with_reducible intro K hK)
   refine bG _ _ rfl ?_;clear bE bG du;repeat(first|refine Xu ?_)
   rw[iq,yX,List.append_nil]at *;have E':dH [(oi,.arr 1 (rowsOf pJ D)),(0,.var (ay m))] (D++[(os.length,c.length)]) ((dy m).take (i+1)) (os++[.arr 1 (br (aI c.length true))]):=by
    rw[fP];have h:=((hB.app [.arr 1 (br (aI c.length true))]).add (jX _ _ _) (hB.fresh (aU _))).snoc;rw[mL]at h;exact h
   obtain⟨CF,cX⟩:=E'.drop;have AK:=E'.b0;dsimp only at AK;generalize os++[.arr 1 (br (aI c.length true))]=os2 at *;generalize os.length=p at *;clear fo fm hB;((try revert hK K);(repeat'(first|refine Va (X5 @AK (aM AK) (gZ AK) @HZ (X4 @bF @bw.{0} @bI.{0} @bH.{0})) ?_|(refine V2 (X5 @AK (aM AK) (gZ AK) @HZ (X4 @bF @bw.{0} @bI.{0} @bH.{0})) ?_ ?_<;>try with_reducible intro hb)|(refine Xi ?_ ?_<;>try intro ht)|refine VD ?_ ?_|exact Xx|fail))<;>try with_reducible intro K hK)
   refine ao _ (i+1,os2.set oi .gone++[.arr 1 [[.ref p 1 0 c.length]],.arr 1 (rowsOf pJ (D++[(p,c.length)]))],os2.length+1,D++[(p,c.length)]) ⟨Ji,?_⟩ Ji ?_
   ·refine((CF.other cX .gone).app _).add ?_ ((CF.other cX .gone).fresh Fl);rw[oH];rfl
   ·exact Xv X0
 ·rw[List.take_of_length_le CZ]at hB;have him:i=m.cls.length:=CZ;have xi:=hB.swap.drop.1;have acT:=xi.amr;rw[kO]at acT;rw[yR,him]at *;((try revert hK K);(repeat'(first|refine Va @fm ?_|(refine V2 @fm ?_ ?_<;>try with_reducible intro hb)|(refine Xi ?_ ?_<;>try intro ht)|refine VD ?_ ?_|exact Xx|fail))<;>try with_reducible intro K hK)
  refine ax _ _ rfl ?_;clear ao ax Ql;repeat(first|refine Xu ?_)
  ((try revert hK K);(repeat'(first|refine Vb X0 ?_|(refine V2 X0 ?_ ?_<;>try with_reducible intro hb)|(refine Xi ?_ ?_<;>try intro ht)|refine VD ?_ ?_|exact Xx|fail))<;>try with_reducible intro K hK)
  exact acT _
def ints_set(P:List Int)(k:Nat)(v:Int):(ints P).set k [OJ v]=ints (P.set k v):=by unfold ints;rw[wH]
def amx(m:aj)(left:List (List Bool))(cf:VM m)(P:List Int)(hP:P.length=m.cls.length):
  Holds Tryz.prog 50 [.agg (ay m),.tree 1 (rowsOf aE left),.ref 0 1 0 m.cls.length,OJ m.cls.length] [.arr 1 (ints P)] (OJ (bP m (xH m P) []).1) [.arr 1 (ints P)]:=by
 have hA:=amv m cf;have s8:=cf.cls;have kO:(dy m).length=m.cls.length:=by simp[dy]
 have jG:bM (bq 2 []) (.arr 1 (fV 1 (dy m)))=.arr 1 (fV 3 (dy m)):=by
  rw[bM,Tj (bq 2 []) (dy m) 3 1 (λj hj=>by unfold bq;simp;omega)]
 have hv:=akL m (xH m P) [] cf.mb (Tv cf E8) Fs;have qf:=Holds.Le (pre:=[.agg (ay m),.tree 1 (rowsOf aE (xH m P))]) (post:=[]) hv;have hvS:xH m P=jc (dy m) P m.cls.length:=rfl;rw[hvS]at qf ⊢;generalize (bP m (jc (dy m) P m.cls.length) []).1=va at *;generalize (bP m (jc (dy m) P m.cls.length) []).2=ve at *;clear hv;have hrS:∀ i,i<m.cls.length->((dy m).getD i default).length=(m.cls.getD i default).length:=λi hi=>by
  unfold dy;rw[gn _ _ _ hi,mL]
 refine Holds.aQ 86 1 [.tmp 8] Tryz.func50 ?_;repeat'(first|((fail_if_success (first|refine eH 2 ?_|refine eI 2 ?_));refine Xr X0 ?_;intro K hK)|refine Xo X0 ?_|(refine hK _ ?_;clear hK K)|(refine Xg X0 ?_ ?_<;>try intro hb)|(refine Xi ?_ ?_<;>try intro ht)|refine XY ?_|refine Xd ?_ ?_|exact Xx|fail)
 refine qw ?_;intro K hK;simp(disch:=omega)only[Ac,↓Pc,simprocAttr];refine tU [] hA Fs trivial ⟨.pure rfl,trivial⟩ ?_;simp(disch:=omega)only[Ac,↓Pc,simprocAttr,jG,Tk];refine hK _ ?_;clear hK K;generalize hS:dy m=S at *;((try revert hK K);(repeat'(first|refine Va X0 ?_|(refine V2 X0 ?_ ?_<;>try with_reducible intro hb)|(refine Xi ?_ ?_<;>try intro ht)|refine VD ?_ ?_|exact Xx|fail))<;>try with_reducible intro K hK)
 refine bd (λi:Nat=>(⟨ar [(2,.ref 0 1 0 m.cls.length),(4,.ptr 1 0 0),(9,.ref 2 1 0 m.cls.length),(10,OJ i)],tA (.arr 1 (ints P)) (.var (ay m)) (fV 3 S) (jc S P i)⟩:St))
  (λi=>i<=m.cls.length) (λi=>m.cls.length-i) 0 (aS _) (by rw[show jc S P 0=S from rfl];unfold tA nO;exact Xv X0) ?_
 rintro i hi Ql ao ax;have BD:=E7 S P i;have zO:=congrArg jB BD;simp only[eu]at zO;by_cases aq:i<m.cls.length
 ·have iU:=zP 3 S i CZ;have bz:=hrS i aq;have vL:=cf.opt _ (aF (l:=m.cls) (i:=i) (d:=default) aq);have cr:((jc S P i).getD i default).length=(S.getD i default).length:=by
   rw[IS S P i i CZ,if_neg CZ]
  have nX:jc S P (i+1)=(jc S P i).set i (qV ((jc S P i).getD i default) (P.getD i 0) ((jc S P i).getD i default).length):=rfl;rw[cr]at nX;rw[bz]at iU cr nX;generalize jc S P i=Y at *;generalize wX:(m.cls.getD i default).length=w at *;((try revert hK K);(repeat'(first|refine Va (X3 @tB @AJ @iU) ?_|(refine V2 (X3 @tB @AJ @iU) ?_ ?_<;>try with_reducible intro hb)|(refine Xi ?_ ?_<;>try intro ht)|refine VD ?_ ?_|exact Xx|fail))<;>try with_reducible intro K hK)
  refine bd (λk:Nat=>(⟨ar [(2,.ref 0 1 0 m.cls.length),(4,.ptr 1 0 0),(9,.ref 2 1 0 m.cls.length),(10,OJ i),(11,OJ k)],tA (.arr 1 (ints P)) (.var (ay m)) (fV 3 S) (Y.set i (qV (Y.getD i default) (P.getD i 0) k))⟩:St))
   (λk=>k<=w) (λk=>w-k) 0 (aS _) (by rw[show qV (Y.getD i default) (P.getD i 0) 0=Y.getD i default from rfl,Ad];exact Xv X0) ?_
  rintro k hk du bE bG;have hrk:=IQ (Y.getD i default) (P.getD i 0) k;have amA:qV (Y.getD i default) (P.getD i 0) (k+1)=(qV (Y.getD i default) (P.getD i 0) k).set k ((k:Int)==P.getD i 0):=rfl;have amB:k=w->Y.set i (qV (Y.getD i default) (P.getD i 0) k)=jc S P (i+1):=λe=>by rw[nX,e]
  generalize qV (Y.getD i default) (P.getD i 0) k=r at *;have f2:=acP (.arr 1 (ints P)) (.var (ay m)) (fV 3 S) (Y:=Y.set i r) (i:=i) (by rw[bH];omega);rw[uE _ _ _ CZ]at f2;have f3:=λr2=>ams (.arr 1 (ints P)) (.var (ay m)) (fV 3 S) (Y.set i r) i r2;simp only[List.set_set]at f3;unfold ay at f2 f3;by_cases bc:k<w
  ·((try revert hK K);(repeat'(first|refine Va (X5 @AJ @tB @iU @f2 (X4 @f3 @r9 @hrk @cr)) ?_|(refine V2 (X5 @AJ @tB @iU @f2 (X4 @f3 @r9 @hrk @cr)) ?_ ?_<;>try with_reducible intro hb)|(refine Xi ?_ ?_<;>try intro ht)|refine VD ?_ ?_|exact Xx|fail))<;>try with_reducible intro K hK)
   rw[<- amA];exact bE _ (k+1) CZ CZ (Xv X0)
  ·obtain rfl:k=w:=CZ;((try revert hK K);(repeat'(first|refine Va (X4 @AJ @tB @iU @f2) ?_|(refine V2 (X4 @AJ @tB @iU @f2) ?_ ?_<;>try with_reducible intro hb)|(refine Xi ?_ ?_<;>try intro ht)|refine VD ?_ ?_|exact Xx|fail))<;>try with_reducible intro K hK)
   refine bG _ _ rfl ?_;clear bE bG du;repeat(first|refine Xu ?_)
   ((try revert hK K);(repeat'(first|refine Va @tB ?_|(refine V2 @tB ?_ ?_<;>try with_reducible intro hb)|(refine Xi ?_ ?_<;>try intro ht)|refine VD ?_ ?_|exact Xx|fail))<;>try with_reducible intro K hK)
   exact ao _ (i+1) CZ CZ (by rw[<- amB rfl];exact Xv X0)
 ·obtain rfl:i=m.cls.length:=CZ;have cr:(fV 3 S).length=(jc S P m.cls.length).length:=by rw[BE];omega
  have pf:fV 3 S=fV 3 (jc S P m.cls.length):=To 3 BD.symm;have K9:(jc S P m.cls.length).length=m.cls.length:=CZ;generalize jc S P m.cls.length=Y at *;rw[pf];((try revert hK K);(repeat'(first|refine Va @tB ?_|(refine V2 @tB ?_ ?_<;>try with_reducible intro hb)|(refine Xi ?_ ?_<;>try intro ht)|refine VD ?_ ?_|exact Xx|fail))<;>try with_reducible intro K hK)
  refine ax _ _ rfl ?_;clear ao ax Ql;repeat(first|refine Xu ?_)
  repeat'(first|((fail_if_success (first|refine eH 10 ?_|refine eI 10 ?_));refine Xr X0 ?_;intro K hK)|refine Xo X0 ?_|(refine hK _ ?_;clear hK K)|(refine Xg X0 ?_ ?_<;>try intro hb)|(refine Xi ?_ ?_<;>try intro ht)|refine XY ?_|refine Xd ?_ ?_|exact Xx|fail)
  refine qw ?_;intro K hK;simp(disch:=omega)only[Ac,↓Pc,simprocAttr,amu];refine vh [] qf Fs trivial ⟨.pure rfl,.snap _ _ rfl ?_,.pure rfl,trivial⟩ rfl Fl ?_
  ·rw[<- K9];exact Ts (AJ _ _ _ _) Fl (BE 3 Y) λa ha=>⟨3+a,zP 3 Y a ha,acP _ _ _ ha,Fl⟩
  simp(disch:=omega)only[Ac,↓Pc,simprocAttr];refine hK _ ?_;clear hK K;repeat(first|refine Xu ?_)
  ((try revert hK K);(repeat'(first|refine Vb @tB ?_|(refine V2 @tB ?_ ?_<;>try with_reducible intro hb)|(refine Xi ?_ ?_<;>try intro ht)|refine VD ?_ ?_|exact Xx|fail))<;>try with_reducible intro K hK)
  unfold tA;exact Xw false [0] @Nat.zero_lt_succ
def acV(m:aj)(left:List (List Bool))(cf:VM m)(hf:cP m left):∀ (d c:Nat) (P:List Int),c+d=m.cls.length->P.length=m.cls.length ->
  Holds Tryz.prog 50 [.agg (ay m),.tree 1 (rowsOf aE left),.ref 0 1 0 m.cls.length,OJ c] [.arr 1 (ints P)] (OJ (eR m left d P).1) [.arr 1 (ints (eR m left d P).2)]
 |0,c,P,hc,hP=>by
  rw[Nat.add_zero]at hc;subst hc;exact amx m left cf P hP
 |d+1,c,P,hc,hP=>by
  have ih:=acV m left cf hf d (c+1);have s8:=cf.cls;have bz:c<m.cls.length:=CZ;have hw:eR m left (d+1) P=iQ (eR m left d) c (left.getD c default) P (m.cls.getD c default).length:=by rw[eR,show m.cls.length-(d+1)=c by omega]
  have iL:=hf.1;have bR:=hf.2 c CZ;have vL:=cf.opt _ (aF (l:=m.cls) (i:=c) (d:=default) bz);rw[hw];have C7:iQ (eR m left d) c (left.getD c default) P 0=(1099511627776,P):=rfl;generalize au:iQ (eR m left d) c (left.getD c default) P (m.cls.getD c default).length=res;have lq:∀ k,(iQ (eR m left d) c (left.getD c default) P k).2.length=m.cls.length:=λk=>E9 (λP hP=>IT m left d P hP) _ _ hP k;generalize gU:left.getD c default=row at *;generalize bf:m.cls.getD c default=cl at *;refine Holds.aQ 86 1 [.tmp 8] Tryz.func50 ?_;((try revert hK K);(repeat'(first|refine Va X0 ?_|(refine V2 X0 ?_ ?_<;>try with_reducible intro hb)|(refine Xi ?_ ?_<;>try intro ht)|refine VD ?_ ?_|exact Xx|fail))<;>try with_reducible intro K hK)
  all_goals try(exfalso;omega)
  refine bd (λk:Nat=>(⟨ar [(1,.tree 1 (rowsOf aE left)),(2,.ref 0 1 0 m.cls.length),(3,OJ c),(4,.ptr 1 0 0),(14,OJ (iQ (eR m left d) c row P k).1),(15,OJ k)],[.arr 1 (ints (iQ (eR m left d) c row P k).2),.var (ay m)]⟩:St))
   (λk=>k<=cl.length) (λk=>cl.length-k) 0 (aS _) (by rw[C7];exact Xv X0) ?_
  rintro k hk Ql ao ax;have hl:=lq k;by_cases bc:k<cl.length
  ·have hs:iQ (eR m left d) c row P (k+1)=if row.getD k false=true then(min (iQ (eR m left d) c row P k).1 (eR m left d ((iQ (eR m left d) c row P k).2.set c (k:Int))).1,(eR m left d ((iQ (eR m left d) c row P k).2.set c (k:Int))).2) else iQ (eR m left d) c row P k:=rfl;have aoo:=ao;have Bh:=ih ((iQ (eR m left d) c row P k).2.set c (k:Int)) CZ (by rw[bH];exact hl);generalize iQ (eR m left d) c row P k=st at *;obtain⟨least,Q⟩:=st;dsimp only at hl hs Bh;have iT:=ints_set Q c (k:Int);by_cases hb:row.getD k false=true
   ·rw[if_pos hb]at hs;generalize eR m left d (Q.set c (k:Int))=st2 at *;obtain⟨v,Q2⟩:=st2;dsimp only at hs Bh;rw[show((c+1:Nat):Int)=(c:Int)+1 by push_cast;rfl]at Bh;((try revert hK K);(repeat'(first|refine Va (X5 @gU @bf @aE.eq_1 @bm.eq_1 (X3 @hb @iT @hl)) ?_|(refine V2 (X5 @gU @bf @aE.eq_1 @bm.eq_1 (X3 @hb @iT @hl)) ?_ ?_<;>try with_reducible intro hb)|(refine Xi ?_ ?_<;>try intro ht)|refine VD ?_ ?_|exact Xx|fail))<;>try with_reducible intro K hK)
    (refine Xn [0] (Bh) ?_;simp(disch:=omega)only[Ac,↓Pc,simprocAttr])
    ((try revert hK K);(repeat'(first|refine Va X0 ?_|(refine V2 X0 ?_ ?_<;>try with_reducible intro hb)|(refine Xi ?_ ?_<;>try intro ht)|refine VD ?_ ?_|exact Xx|fail))<;>try with_reducible intro K hK)
    exact ao _ (k+1) CZ CZ (by rw[hs];exact Xv X0)
   ·rw[if_neg hb]at hs;have nG:row.getD k false=false:=by simpa using hb
    ((try revert hK K);(repeat'(first|refine Va (X5 @gU @bf @aE.eq_1 @bm.eq_1 @nG) ?_|(refine V2 (X5 @gU @bf @aE.eq_1 @bm.eq_1 @nG) ?_ ?_<;>try with_reducible intro hb)|(refine Xi ?_ ?_<;>try intro ht)|refine VD ?_ ?_|exact Xx|fail))<;>try with_reducible intro K hK)
    exact ao _ (k+1) CZ CZ (by rw[hs];exact Xv X0)
  ·obtain rfl:k=cl.length:=CZ;rw[au]at *;((try revert hK K);(repeat'(first|refine Va (X2 @bf @bm.eq_1) ?_|(refine V2 (X2 @bf @bm.eq_1) ?_ ?_<;>try with_reducible intro hb)|(refine Xi ?_ ?_<;>try intro ht)|refine VD ?_ ?_|exact Xx|fail))<;>try with_reducible intro K hK)
   refine ax _ _ rfl ?_;clear ao ax Ql;repeat(first|refine Xu ?_)
   ((try revert hK K);(repeat'(first|refine Vb X0 ?_|(refine V2 X0 ?_ ?_<;>try with_reducible intro hb)|(refine Xi ?_ ?_<;>try intro ht)|refine VD ?_ ?_|exact Xx|fail))<;>try with_reducible intro K hK)
   exact Xw false [0] X0
def TB(m:aj)(left:List (List Bool))(cf:VM m)(hf:cP m left):Holds Tryz.prog 20 [.agg (ay m),.tree 1 (rowsOf aE left)] [] (OJ (w0 m left)) []:=by
 have hw:=acV m left cf hf m.cls.length 0 (aI m.cls.length 0) CZ Fl;rw[show((0:Nat):Int)=0 from rfl]at hw;unfold w0;generalize eR m left m.cls.length (aI m.cls.length 0)=w at *;have s8:=cf.cls;refine Holds.aQ 14 0 [.tmp 4] Tryz.func20 ?_;((try revert hK K);(repeat'(first|refine Vb X0 ?_|(refine V2 X0 ?_ ?_<;>try with_reducible intro hb)|(refine Xi ?_ ?_<;>try intro ht)|refine VD ?_ ?_|exact Xx|fail))<;>try with_reducible intro K hK)
 (refine Xn [1] (hw) ?_;simp(disch:=omega)only[Ac,↓Pc,simprocAttr])
 ((try revert hK K);(repeat'(first|refine Vb X0 ?_|(refine V2 X0 ?_ ?_<;>try with_reducible intro hb)|(refine Xi ?_ ?_<;>try intro ht)|refine VD ?_ ?_|exact Xx|fail))<;>try with_reducible intro K hK)
 exact aW rfl rfl
end T

