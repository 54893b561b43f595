import Derived.Test.YtodilglobhifaaaDoorX38
import Derived.Test.YtodilglobhifaaaDoorX39
import Derived.Test.YtodilglobhifaaaDoorX27
set_option linter.all false
set_option maxHeartbeats 0
set_option maxRecDepth 20000
open Nat renaming zero_le→bk,le_refl→aH
open List renaming drop_eq_nil_of_le→dF,length_pos_iff→Ao,length_append→aJ,getElem?_append_left→bL,getElem?_eq_some_iff→aF,mem_append→bn,getD_eq_getElem?_getD→an,filter_append→xk,replicate→aw
open Bool renaming not_false→pF,not_true→qL
open Option renaming map_none→iR,map_some→fV
open Go Go.Am Go.Proofs
namespace T
def pC(v:Int):List Int->Int->Int
 |[],_=>-1
 |x::r,k=>if v=x then k else pC v r (k+1)
def L8(v:Int):∀ (l:List Int) (k:Int),0<=k->(0<=pC v l k↔v∈l)
 |[],k,hk=>by simp[pC]
 |x::r,k,hk=>by
  rw[pC];split
  ·rename_i h;simp[h,hk]
  ·rename_i h;rw[L8 v r (k+1) z8];simp[h]
def Tg(l:List Int)(v:Int)(hl:l.length<9223372036854775808):ao Tryd.prog 45 [.tree 1 (ints l),UX v] [] (UX (pC v l 0)) []:=by
 generalize az:pC v l 0=res;refine ao.aX 19 0 [.tmp 4] Tryd.func45 ?_;repeat'(first|(refine Xr X0 ?_;intro K hK)|(refine hK _ ?_;clear hK K)|refine Xz ?_|fail)
 refine bu (λk:Nat=>(⟨ax [(0,.tree 1 (ints l)),(1,UX v),(7,UX l.length),(8,UX k)],[]⟩:St)) (λk=>k<=l.length/\pC v (l.drop k) k=res) (λk=>l.length-k) 0 ⟨bk _,az⟩ (Xv X0) ?_;rintro k⟨hk,hr⟩Ql aq aC;by_cases aQ:k<l.length
 ·have hd:=di l k 0 aQ;generalize bN:l.getD k 0=x at *;rw[hd,pC]at hr;((repeat'(first|refine Va @bN ?_|(refine Xi ?_ ?_<;>try intro ht)|exact Xx|fail)))
  ·rw[if_pos (by assumption)]at hr;repeat(refine Xu ?_)
   refine Vb X0 ?_;rw[<- hr];exact mq rfl
  ·rw[if_neg (by assumption)]at hr;exact aq _ (k+1) ⟨z8,hr⟩ z8 (Xv X0)
 ·((repeat'(first|refine Va X0 ?_|(refine Xi ?_ ?_<;>try intro ht)|exact Xx|fail)))
  rw[dF z8,pC]at hr;refine aC _ _ rfl ?_;clear aq aC Ql;repeat(refine Xu ?_)
  refine Vb X0 ?_;rw[<- hr];exact mq rfl
def Th(l:List Int)(v:Int)(hl:l.length<9223372036854775808):ao Tryd.prog 20 [.tree 1 (ints l),UX v] [] (.lit (.bool (l.contains v))) []:=by
 have h:=L8 v l 0 z8;refine ao.aX 9 0 [.tmp 4] Tryd.func20 ?_;repeat'(first|(refine Xq X0 ?_;intro K hK)|refine Xo X0 ?_|refine Xc (Tg l v hl) ?_|(refine hK _ ?_;clear hK K)|refine Xz ?_|(refine Xe ?_;first|refine aY rfl ?_|refine Xl ?_ ?_)|fail)
 rw[<- List.contains_iff_mem]at h;cases hb:l.contains v<;>rw[hb]at h
 ·rw[decide_eq_false (by simpa using h)]
 ·rw[decide_eq_true (by simpa using h)]
def Ti(a:List cD)(b:List Bool):ao Tryd.prog 41 [.tree 6 (rowsOf cf a),.tree 1 (bP b)] [] (.lit (.bool (decide (a.length=b.length)))) []:=by
 refine ao.aX 10 0 [.tmp 4] Tryd.func41 ?_;((try revert hK K);(repeat'(first|refine Vb X0 ?_|(refine V2 X0 ?_ ?_<;>try with_reducible intro hb)|(refine Xi ?_ ?_<;>try intro ht)|refine VD ?_ ?_|exact Xx|fail))<;>try with_reducible intro K hK)
 rw[show((a.length:Int)==(b.length:Int))=decide (a.length=b.length) by rw[Bool.eq_iff_iff,beq_iff_eq,decide_eq_true_eq];omega];exact mq rfl
def S'(G:List Int)(hG:G.length<1000000)(x:Int×Int):ao Tryd.prog 19 [.agg (au x),.ptr 0 0 0] [.var [.tree 1 (ints G)]] (.lit (.bool (!g7 G x))) [.var [.tree 1 (ints G)]]:=by
 have h1:=Th G x.1 z8;rw[show G.contains x.1=g7 G x from rfl]at h1;generalize g7 G x=b at *;refine ao.aX 9 1 [.tmp 3] Tryd.func19 ?_;((try revert hK K);(repeat'(first|refine Vd @au.eq_1 h1 ?_|(refine V2 @au.eq_1 ?_ ?_<;>try with_reducible intro hb)|(refine Xi ?_ ?_<;>try intro ht)|refine VD ?_ ?_|exact Xx|fail))<;>try with_reducible intro K hK)
 exact Xw false [0] X0
def SI(a b:List (Int×Int))(Tj:a≠[])(su:b≠[]):ao Tryd.prog 22 [.tree 2 (rowsOf au a),.tree 2 (rowsOf au b)] [] (UX (j8 [eO (bI a).1 (bI b).1,eO (bI a).2 (bI b).2])) []:=by
 have h1:=yx (bI a).1 (bI b).1;have h2:=yx (bI a).2 (bI b).2;have h3:=BS [eO (bI a).1 (bI b).1,eO (bI a).2 (bI b).2] Eb;have la:(rowsOf au a).length=a.length:=by simp[rowsOf]
 have lb:(rowsOf au b).length=b.length:=by simp[rowsOf]
 have pa:=Ao.2 Tj;have pb:=Ao.2 su;generalize j8 [eO (bI a).1 (bI b).1,eO (bI a).2 (bI b).2]=z at *;generalize eO (bI a).1 (bI b).1=u at *;generalize eO (bI a).2 (bI b).2=v at *;unfold bI at h1 h2;generalize L9:a.getD 0 default=x at *;generalize Ma:b.getD 0 default=y at *;refine ao.aX 25 0 [.tmp 4] Tryd.func22 ?_;((try revert hK K);(repeat'(first|refine Vd (X5 @L9 @Ma @la @lb @au.eq_1) (X2 h1 h2) ?_|(refine V2 (X5 @L9 @Ma @la @lb @au.eq_1) ?_ ?_<;>try with_reducible intro hb)|(refine Xi ?_ ?_<;>try intro ht)|refine VD ?_ ?_|exact Xx|fail))<;>try with_reducible intro K hK)
 refine s5 [] h3 US trivial ⟨bd.bp rfl (jv _) rfl US (mu _),trivial⟩ rfl Eb ?_;((try revert hK K);(repeat'(first|refine Vb X0 ?_|(refine V2 X0 ?_ ?_<;>try with_reducible intro hb)|(refine Xi ?_ ?_<;>try intro ht)|refine VD ?_ ?_|exact Xx|fail))<;>try with_reducible intro K hK)
 exact mq rfl
def Tk(cls:List (List cD))(left:List (List Bool))(hl:cls.length<1000000):ao Tryd.prog 40 [.tree 1 (rowsOf cu cls),.tree 1 (rowsOf dN left),.fn 41 []] [] (.lit (.bool (decide (left.length=cls.length/\∀ i,i<left.length->(left.getD i default).length=(cls.getD i default).length)))) []:=by
 generalize az:decide (left.length=cls.length/\∀ i,i<left.length->(left.getD i default).length=(cls.getD i default).length)=res;refine ao.aX 32 0 [.tmp 6] Tryd.func40 ?_;repeat'(first|(refine Xr X0 ?_;intro K hK)|refine Xo X0 ?_|(refine hK _ ?_;clear hK K)|(refine Xg X0 ?_ ?_<;>try intro hb)|(refine Xi ?_ ?_<;>try intro ht)|refine Xz ?_|refine Xh ?_|(refine Xe ?_;first|refine aY rfl ?_|refine Xl ?_ ?_)|refine Xd ?_ ?_|exact Xx|fail)
 ·rw[<- az,decide_eq_false (λh=>z8)]
 refine bu (λk:Nat=>(⟨ax [(1,.tree 1 (rowsOf dN left)),(2,.fn 41 []),(15,.tree 1 (rowsOf cu cls)),(16,UX cls.length),(17,UX k)],[]⟩:St)) (λk=>k<=cls.length/\∀ i,i<k->(left.getD i default).length=(cls.getD i default).length) (λk=>cls.length-k) 0 ⟨bk _,by intro i hi;exact absurd hi (Nat.not_lt_zero _)⟩ (Xv X0) ?_;rintro k⟨hk,gz⟩Ql aq aC;by_cases aQ:k<cls.length
 ·have h1:=Ti (cls.getD k default) (left.getD k default);generalize wM:decide ((cls.getD k default).length=(left.getD k default).length)=b1 at *;generalize bX:cls.getD k default=x at *;generalize qA:left.getD k default=y at *;((try revert hK K);(repeat'(first|refine Vd (X4 @bX @qA @cu.eq_1 @dN.eq_1) h1 ?_|(refine V2 (X4 @bX @qA @cu.eq_1 @dN.eq_1) ?_ ?_<;>try with_reducible intro hb)|(refine Xi ?_ ?_<;>try intro ht)|refine VD ?_ ?_|exact Xx|fail))<;>try with_reducible intro K hK)
  ·have hlen:left.length=cls.length:=z8;have:res=false:=by
    rw[<- az];refine decide_eq_false λh=>?_;have h2:=h.2 k z8;rw[bX,qA]at h2;rw[ht]at wM;exact of_decide_eq_false wM h2.symm
   rw[this];exact mq rfl
  ·refine aq _ (k+1) ⟨z8,λi hi=>?_⟩ z8 (Xv X0);by_cases qw:i=k
   ·rw[ht]at wM;rw[qw,bX,qA];exact(of_decide_eq_true wM).symm
   ·exact gz i z8
 ·((try revert hK K);(repeat'(first|refine Vb X0 ?_|(refine V2 X0 ?_ ?_<;>try with_reducible intro hb)|(refine Xi ?_ ?_<;>try intro ht)|refine VD ?_ ?_|exact Xx|fail))<;>try with_reducible intro K hK)
  have hlen:left.length=cls.length:=z8;have:res=true:=by rw[<- az];exact decide_eq_true ⟨hlen,λi hi=>gz i z8⟩
  rw[this];exact mq rfl
def SO(m:ae)(left:List (List Bool))(hl:m.cls.length<1000000):ao Tryd.prog 16 [.agg (aP m),.tree 1 (rowsOf dN left)] [] (.lit (.bool (decide (mX m left)))) []:=by
 have h1:=Tk m.cls left hl;rw[show decide (left.length=m.cls.length/\∀ i,i<left.length->(left.getD i default).length=(m.cls.getD i default).length)=decide (mX m left) from by congr 1]at h1;generalize decide (mX m left)=b at *;refine ao.aX 9 0 [.tmp 4] Tryd.func16 ?_;((try revert hK K);(repeat'(first|refine Vd @aP.eq_1 h1 ?_|(refine V2 @aP.eq_1 ?_ ?_<;>try with_reducible intro hb)|(refine Xi ?_ ?_<;>try intro ht)|refine VD ?_ ?_|exact Xx|fail))<;>try with_reducible intro K hK)
 exact mq rfl
def Tl(xs:List (Int×Int))(rest:List (List AV))(g:FuncId)(gv:AV)(p:(Int×Int)->Bool)(hl:xs.length<1000000)(cG:∀ ρ,aG ρ gv=gv)(hg:∀ x∈xs,ao Tryd.prog g [.agg (au x),.ptr 0 0 0] [.var [gv]] (.lit (.bool (p x))) [.var [gv]]):
  ao Tryd.prog 44 [.ref 1 2 0 xs.length,.fn g [.ptr 0 0 0]] [.var [gv],.arr 2 (rowsOf au xs++rest)] (UX (dC p 0 xs)) [.var [gv],.arr 2 (rowsOf au xs++rest)]:=by
 generalize az:dC p 0 xs=res;have iA:(rowsOf au xs++rest).length=xs.length+rest.length:=by rw[aJ,cL]
 have aM:∀ k,k<xs.length->(rowsOf au xs++rest)[k]?=some (au (xs.getD k default)):=λk hk=>by
  rw[bL (by rw[cL];omega),q9 _ _ z8]
 generalize Mb:rowsOf au xs++rest=R at *;refine ao.aX 19 2 [.tmp 4] Tryd.func44 ?_;((try revert hK K);(repeat'(first|refine Vb @iA ?_|(refine V2 @iA ?_ ?_<;>try with_reducible intro hb)|(refine Xi ?_ ?_<;>try intro ht)|refine VD ?_ ?_|exact Xx|fail))<;>try with_reducible intro K hK)
 refine bu (λk:Nat=>(⟨ax [(0,.ref 1 2 0 xs.length),(1,.fn g [.ptr 0 0 0]),(7,UX xs.length),(8,UX k)],[.var [gv],.arr 2 R]⟩:St)) (λk=>k<=xs.length/\dC p k (xs.drop k)=res) (λk=>xs.length-k) 0 ⟨bk _,az⟩ (Xv @cG) ?_;rintro k⟨hk,hr⟩Ql aq aC;by_cases aQ:k<xs.length
 ·have hx:=hg _ (aO (d:=default) aQ);have hd:=di xs k default aQ;have Mc:=aM k aQ;generalize bX:xs.getD k default=x at *;rw[hd,dC]at hr;simp only[au]at hx;((try revert hK K);(repeat'(first|refine Vb (X3 @iA @Mc @au.eq_1) ?_|(refine V2 (X3 @iA @Mc @au.eq_1) ?_ ?_<;>try with_reducible intro hb)|(refine Xi ?_ ?_<;>try intro ht)|refine VD ?_ ?_|exact Xx|fail))<;>try with_reducible intro K hK)
  refine rh [0] hx US ⟨by show some (Ob.var [gv])=some (Ob.var [aG _ gv]);rw[cG],trivial⟩ ⟨.pure rfl,.eq rfl,trivial⟩ ?_;((try revert hK K);(repeat'(first|refine Vb @cG ?_|(refine V2 @cG ?_ ?_<;>try with_reducible intro hb)|(refine Xi ?_ ?_<;>try intro ht)|refine VD ?_ ?_|exact Xx|fail))<;>try with_reducible intro K hK)
  ·rw[if_pos (by assumption)]at hr;rw[<- hr];exact fZ rfl (aH _) rfl
  ·rw[if_neg (by simp_all)]at hr;exact aq _ (k+1) ⟨z8,hr⟩ z8 (Xv @cG)
 ·((try revert hK K);(repeat'(first|refine Vb @iA ?_|(refine V2 @iA ?_ ?_<;>try with_reducible intro hb)|(refine Xi ?_ ?_<;>try intro ht)|refine VD ?_ ?_|exact Xx|fail))<;>try with_reducible intro K hK)
  rw[dF z8,dC]at hr;rw[<- hr];exact fZ rfl (aH _) rfl
def Dy{l:List Ob}{i:Nat}{x:Ob}(h:l[i]?=some x):l.set i x=l:=by
 apply List.ext_getElem?;intro j;rw[List.getElem?_set];split
 ·rename_i e;subst e;rw[if_pos (aF.1 h).1,h]
 ·rfl
def S9(xs:List (Int×Int))(rest:List (List AV))(g:FuncId)(gv:AV)(v:Nat)(p:(Int×Int)->Bool)(os:List Ob)(b:Nat)(hv:os[v]?=some (.var [gv]))(hb:os[b]?=some (.arr 2 (rowsOf au xs++rest)))(hw:∀ row∈rest,row.length=2)(hl:xs.length<1000000)(cG:∀ ρ,aG ρ gv=gv)(oc:∀ ρ,bf ρ (Ob.arr 2 (rowsOf au xs++rest))=Ob.arr 2 (rowsOf au xs++rest))(hg:∀ x∈xs,ao Tryd.prog g [.agg (au x),.ptr 0 0 0] [.var [gv]] (.lit (.bool (p x))) [.var [gv]]):
  fX Tryd.prog 18 [.ref b 2 0 xs.length,.fn g [.ptr v 0 0]] os (λr ob=>r=.ref b 2 0 (xs.filter λx=>!p x).length/\lA b os ob/\∃ zI,ob[b]?=some (.arr 2 (rowsOf au (xs.filter λx=>!p x)++zI))/\∀ row∈zI,row.length=2):=by
 have qC:=Tl xs rest g gv p hl cG hg;have Tm:=(aF.1 hv).1;have nF:=(aF.1 hb).1;have Dz:∀ row∈rowsOf au xs++rest,row.length=2:=λrow hr=>by
  rcases bn.1 hr with h|h
  ·exact pL _ row h
  ·exact hw row h
 have Md:v≠b:=λe=>by rw[e,hb]at hv;cases hv
 have wg:∀ ρ,(os.set v (Ob.var [aG ρ gv])).set b (bf ρ (Ob.arr 2 (rowsOf au xs++rest)))=os:=λρ=>by rw[cG,oc,Dy hv,Dy hb]
 refine fX.aX 42 os.length [.tmp 4] Tryd.func18 ?_;((try revert hK K);(repeat'(first|refine Va X0 ?_|(refine V2 X0 ?_ ?_<;>try with_reducible intro hb)|(refine Xi ?_ ?_<;>try intro ht)|refine VD ?_ ?_|exact Xx|fail))<;>try with_reducible intro K hK)
 refine rh [v,b] qC (by simp[Md]) ⟨by show os[v]?=some (Ob.var [aG _ gv]);rw[cG];exact hv,by show os[b]?=some (bf _ _);rw[oc];exact hb,trivial⟩ ⟨.eq rfl,.eq rfl,trivial⟩ ?_;simp(disch:=omega)only[Ac,↓Pc,simprocAttr,wg];by_cases tL:dC p 0 xs = -1
 ·have fh:=LS p xs 0 tL;rw[tL];((try revert hK K);(repeat'(first|refine Va X0 ?_|(refine V2 X0 ?_ ?_<;>try with_reducible intro hb)|(refine Xi ?_ ?_<;>try intro ht)|refine VD ?_ ?_|exact Xx|fail))<;>try with_reducible intro K hK)
  unfold pO;simp only[gL,ic];simp(disch:=omega)only[Ac,↓Pc,simprocAttr];exact⟨_,_,⟨by rw[fh],lA.refl _ _,rest,by rw[fh];exact hb,hw⟩,fZ rfl (aH _) rfl⟩
 ·obtain⟨i0,h1,h2,h3⟩:=LU p xs 0 tL;rw[Nat.zero_add]at h1;rw[h1];clear qC;((try revert hK K);(repeat'(first|refine Va X0 ?_|(refine V2 X0 ?_ ?_<;>try with_reducible intro hb)|(refine Xi ?_ ?_<;>try intro ht)|refine VD ?_ ?_|exact Xx|fail))<;>try with_reducible intro K hK)
  all_goals try(exfalso;omega)
  refine bu (λz:Nat×Nat×List (Int×Int)×List Ob=>(⟨ax [(0,.ref b 2 0 xs.length),(1,.fn g [.ptr v 0 0]),(5,UX z.2.1),(6,UX z.1)],z.2.2.2⟩:St))
   (λz=>z.1<=xs.length/\z.2.1<z.1/\z.2.2.1.length=xs.length/\(xs.take z.1).filter (λx=>!p x)=z.2.2.1.take z.2.1/\(∀ k,z.1<=k->z.2.2.1.getD k default=xs.getD k default)/\lA b os z.2.2.2/\z.2.2.2[b]?=some (.arr 2 (rowsOf au z.2.2.1++rest)))
   (λz=>xs.length-z.1) (i0+1,i0,xs,os) ⟨h2,Nat.lt_succ_self _,rfl,h3,λ_ _=>rfl,lA.refl _ _,hb⟩ (Xv X0) ?_
  rintro⟨j,i,Y,ob⟩⟨hj,tJ,hY,ld,sA,um,aS⟩Ql aq aC;dsimp only at hj tJ hY ld sA um aS ⊢;have iA:(rowsOf au Y++rest).length=xs.length+rest.length:=by rw[aJ,cL,hY]
  have gz:=aA aS;have gQ:=λl y=>gZ aS l (y:=y);by_cases iZ:j<xs.length
  ·have mi:=aO (l:=xs) (d:=default) iZ;have hx:=hg _ mi;have aM:(rowsOf au Y++rest)[j]?=some (au (xs.getD j default)):=by
    rw[bL (by rw[cL];omega),q9 _ _ z8,sA j (aH _)]
   have DA:(rowsOf au Y++rest).getD j []=au (xs.getD j default):=by rw[an,aM];rfl
   have Me:(rowsOf au Y++rest)[i]?=some (au (Y.getD i default)):=by
    rw[bL (by rw[cL];omega),q9 _ _ z8]
   generalize Y.getD i default=y0 at *;have mc:=ql iZ;generalize bX:xs.getD j default=x at *;simp only[au]at hx;have Tn:ob[v]?=some (.var [gv]):=by rw[um.2 v Md Tm];exact hv
   have Mf:=aA Tn;have To:∀ ρ (l:List Ob),(ob++l).set v (Ob.var [aG ρ gv])=ob++l:=λρ l=>by rw[cG];exact Dy (Mf l)
   have iL:(rowsOf au Y++rest).set i [UX x.1,UX x.2]=rowsOf au (Y.set i x)++rest:=by
    rw[List.set_append_left _ _ (by rw[cL];omega),<- xE];rfl
   generalize Mb:rowsOf au Y++rest=R at *;repeat'(first|((fail_if_success (first|refine nj 8 ?_|refine nk 8 ?_));refine Xr (X5 @aS @iA @aM @DA (X2 @au.eq_1 @bl)) ?_;intro K hK)|refine Xo (X5 @aS @iA @aM @DA (X2 @au.eq_1 @bl)) ?_|(refine hK _ ?_;clear hK K)|(refine Xg (X5 @aS @iA @aM @DA (X2 @au.eq_1 @bl)) ?_ ?_<;>try intro hb)|(refine Xi ?_ ?_<;>try intro ht)|refine Xy ?_|refine Xd ?_ ?_|exact Xx|fail)
   ((try revert hK K);(repeat'(first|refine Va @bl ?_|(refine V2 @bl ?_ ?_<;>try with_reducible intro hb)|(refine Xi ?_ ?_<;>try intro ht)|refine VD ?_ ?_|exact Xx|fail))<;>try with_reducible intro K hK)
   refine rh [v] hx Eb ⟨by show(ob++_)[v]?=some (Ob.var [aG _ gv]);rw[cG];exact Mf _,trivial⟩ ⟨.pure rfl,.eq rfl,trivial⟩ ?_;simp(disch:=omega)only[Ac,↓Pc,simprocAttr,bl,To];have UF:=(aF.1 aS).1;cases uo:p x
   ·((try revert hK K);(repeat'(first|refine Va (X5 @aS @gz @gQ @iA (X5 @Me @au.eq_1 @iL @uo (X2 @bl @pF))) ?_|(refine V2 (X5 @aS @gz @gQ @iA (X5 @Me @au.eq_1 @iL @uo (X2 @bl @pF))) ?_ ?_<;>try with_reducible intro hb)|(refine Xi ?_ ?_<;>try intro ht)|refine VD ?_ ?_|exact Xx|fail))<;>try with_reducible intro K hK)
    all_goals try(exfalso;simp_all;done)
    all_goals
     exact aq _ (j+1,i+1,Y.set i x,ob.set b (.arr 2 (rowsOf au (Y.set i x)++rest))++[.var (au x)]) ⟨UT,UT,by simpa using hY,by
      dsimp only;rw[mc,xk,ld,SD z8];simp[uo],λk hk=>by
      dsimp only at hk ⊢;rw[an,List.getElem?_set_ne z8,<- an];exact sA k z8,um.step _ _,aA (g6 aS) _⟩ UT (Xv @au.eq_1)
   ·((try revert hK K);(repeat'(first|refine Va (X5 @aS @gz @gQ @iA (X3 @uo @bl @qL)) ?_|(refine V2 (X5 @aS @gz @gQ @iA (X3 @uo @bl @qL)) ?_ ?_<;>try with_reducible intro hb)|(refine Xi ?_ ?_<;>try intro ht)|refine VD ?_ ?_|exact Xx|fail))<;>try with_reducible intro K hK)
    all_goals try(exfalso;simp_all;done)
    all_goals
     exact aq _ (j+1,i,Y,ob++[.var (au x)]) ⟨UT,UT,hY,by
      dsimp only;rw[mc,xk,ld];simp[uo],λk hk=>sA k (by dsimp only at hk;omega),um.app _,by dsimp only;rw[Mb];exact aA aS _⟩ UT (Xv @au.eq_1)
  ·obtain rfl:j=xs.length:=z8;rw[List.take_length]at ld;((try revert hK K);(repeat'(first|refine Va (X2 @aS @iA) ?_|(refine V2 (X2 @aS @iA) ?_ ?_<;>try with_reducible intro hb)|(refine Xi ?_ ?_<;>try intro ht)|refine VD ?_ ?_|exact Xx|fail))<;>try with_reducible intro K hK)
   refine aC _ _ rfl ?_;clear aq aC Ql;repeat(first|refine Xu ?_)
   have oL:=λy=>g6 (y:=y) aS;have Mg:∀ row∈(rowsOf au Y++rest).drop (i+(xs.length-i)),row.length=2:=λrow hr=>by
    rcases bn.1 (List.mem_of_mem_drop hr) with h|h
    ·exact pL _ row h
    ·exact hw row h
   ((try revert hK K);(repeat'(first|refine Va (X5 @aS @iA @oL @iR.{0,0} @fV.{0,0}) ?_|(refine V2 (X5 @aS @iA @oL @iR.{0,0} @fV.{0,0}) ?_ ?_<;>try with_reducible intro hb)|(refine Xi ?_ ?_<;>try intro ht)|refine VD ?_ ?_|exact Xx|fail))<;>try with_reducible intro K hK)
   unfold pO;simp only[gL,ic];simp(disch:=omega)only[Ac,↓Pc,simprocAttr];have cQ:(xs.filter λx=>!p x).length=i:=by rw[ld,List.length_take];omega
   refine⟨_,_,⟨by rw[cQ],by have:=um.step (.arr 2 ((rowsOf au Y++rest).take i++aw (xs.length-i) [UX 0,UX 0]++(rowsOf au Y++rest).drop (i+(xs.length-i)))) [];rwa [List.append_nil]at this,aw (xs.length-i) [UX 0,UX 0]++(rowsOf au Y++rest).drop (i+(xs.length-i)),?_,λrow hr=>?_⟩,fZ rfl (by rw[List.length_set];exact um.1) rfl⟩
   ·rw[oL,<- List.append_assoc,ld];congr 4;unfold rowsOf;rw[List.map_take,List.take_append_of_le_length (by rw[List.length_map];omega)]
   ·rcases bn.1 hr with h|h
    ·rw[List.eq_of_mem_replicate h];rfl
    ·exact Mg row h
def Tp:jH [[0,1],[0,1],[1,0]] 2=([0,1,2],[0,1],0):=by
 simp[jH,check,ke,j',dL,dV,l6,dc,fQ,ca,ll,eA]
def Tq:tI [[0]] 1=([0],0):=by
 simp[tI,check,ke,j',dV,l6,dc]
def KD:ao Tryd.prog 5 [] [] (.lit (.bool true)) []:=by
 have hd:=L2 [[0,1],[0,1],[1,0]] 2;rw[Tp]at hd;have hm:=Tr [[0]] 1;rw[Tq]at hm;refine ao.aX 42 0 [.tmp 0] Tryd.func5 ?_;refine E4 US ?_;intro K hK;simp(disch:=omega)only[Ac,↓Pc,simprocAttr];refine hK _ ?_;clear hK K;refine F6 4 US ?_;intro K K1 hK qH;simp(disch:=omega)only[Ac,↓Pc,simprocAttr,List.take];refine qH _ ⟨ax [(10,.tree 1 (aU [[0,1],[0,1],[1,0]]))],[]⟩ ?_ ?_
 ·refine aR.ab [] true _ _ US trivial US US ⟨.snap _ _ rfl ?_,trivial⟩;simp only[Kc,simprocAttr];exact cW.mk rfl rfl (oB US) (Ax _) ⟨⟨cW.mk rfl rfl (oB US) (jv _) ⟨⟨.lit _,trivial⟩,⟨.lit _,trivial⟩,trivial⟩,trivial⟩,⟨cW.mk rfl rfl (oB US) (jv _) ⟨⟨.lit _,trivial⟩,⟨.lit _,trivial⟩,trivial⟩,trivial⟩,⟨cW.mk rfl rfl (oB US) (jv _) ⟨⟨.lit _,trivial⟩,⟨.lit _,trivial⟩,trivial⟩,trivial⟩,trivial⟩
 clear qH K1;simp(disch:=omega)only[Ac,↓Pc,simprocAttr,List.drop];refine ba hd rfl rfl ?_;simp(disch:=omega)only[Ac,↓Pc,simprocAttr];refine hK _ ?_;clear hK K;refine kB (σ':=⟨ax [(1,.tree 1 (ints [0,1,2])),(2,.tree 1 (ints [0,1])),(3,UX 0)],[]⟩) (Xv X0) ?_;refine F6 2 US ?_;intro K K1 hK qH;simp(disch:=omega)only[Ac,↓Pc,simprocAttr,List.take];refine qH _ ⟨ax [(1,.tree 1 (ints [0,1,2])),(2,.tree 1 (ints [0,1])),(3,UX 0),(17,.tree 1 (aU [[0]]))],[]⟩ ?_ ?_
 ·refine aR.ab [] true _ _ US trivial US US ⟨.pure rfl,.pure rfl,.pure rfl,.snap _ _ rfl ?_,trivial⟩;simp only[Kc,simprocAttr];exact cW.mk rfl rfl (oB US) (Ax _) ⟨⟨cW.mk rfl rfl (oB US) (jv _) ⟨⟨.lit _,trivial⟩,trivial⟩,trivial⟩,trivial⟩
 clear qH K1;simp(disch:=omega)only[Ac,↓Pc,simprocAttr,List.drop];refine ba hm rfl rfl ?_;simp(disch:=omega)only[Ac,↓Pc,simprocAttr];refine hK _ ?_;clear hK K;refine kB (σ':=⟨ax [(1,.tree 1 (ints [0,1,2])),(2,.tree 1 (ints [0,1])),(3,UX 0),(4,.tree 1 (ints [0])),(5,UX 0)],[]⟩) (Xv X0) ?_;((try revert hK K);(repeat'(first|refine Vb X0 ?_|(refine V2 X0 ?_ ?_<;>try with_reducible intro hb)|(refine Xi ?_ ?_<;>try intro ht)|refine VD ?_ ?_|exact Xx|fail))<;>try with_reducible intro K hK)
 refine s5 [] (BN [0,1,2] [0,1,2] US) US trivial ⟨.pure rfl,bd.bp rfl (jv _) rfl US (mu _),trivial⟩ rfl Eb ?_;((try revert hK K);(repeat'(first|refine Vb X0 ?_|(refine V2 X0 ?_ ?_<;>try with_reducible intro hb)|(refine Xi ?_ ?_<;>try intro ht)|refine VD ?_ ?_|exact Xx|fail))<;>try with_reducible intro K hK)
 refine s5 [] (BN [0,1] [0,1] US) US trivial ⟨.pure rfl,bd.bp rfl (jv _) rfl US (mu _),trivial⟩ rfl Eb ?_;((try revert hK K);(repeat'(first|refine Vb X0 ?_|(refine V2 X0 ?_ ?_<;>try with_reducible intro hb)|(refine Xi ?_ ?_<;>try intro ht)|refine VD ?_ ?_|exact Xx|fail))<;>try with_reducible intro K hK)
 refine s5 [] (BN [0] [0] US) US trivial ⟨.pure rfl,bd.bp rfl (jv _) rfl US (mu _),trivial⟩ rfl Eb ?_;((try revert hK K);(repeat'(first|refine Vb X0 ?_|(refine V2 X0 ?_ ?_<;>try with_reducible intro hb)|(refine Xi ?_ ?_<;>try intro ht)|refine VD ?_ ?_|exact Xx|fail))<;>try with_reducible intro K hK)
 exact aY rfl rfl
end T

