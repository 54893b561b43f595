import Derived.Test.YtodilglobhifaaaGreatDoorX27
import Derived.Test.YtodilglobhifaaaGreatDoorX30
import Derived.Test.YtodilglobhifaaaGreatDoorX34
set_option linter.all false
set_option maxHeartbeats 0
set_option maxRecDepth 20000
open List renaming length_append→aK,getElem?_append_left→cG,drop_eq_nil_of_le→dW,getElem?_eq_some_iff→aN,mem_append→bE,getD_eq_getElem?_getD→ax,filter_append→BJ,length_take→fE,replicate→aD,append_nil→gI,append_assoc→bn
open Nat renaming le_refl→aM
open Bool renaming not_false→mC,not_true→lS
open Option renaming map_none→jf,map_some→fN,isSome_some→nt
open Int renaming zero_add→BF
open Go Go.Am Go.Proofs
namespace T
def acP(xs:List (Int×Int))(rest:List (List AV))(g:FuncId)(gv:AV)(p:(Int×Int)->Bool)(hl:xs.length<1000000)(dq:∀ ρ,aU ρ gv=gv)(hg:∀ x∈xs,ak Tryz.prog g [.agg (av x),.ptr 0 0 0] [.var [gv]] (.lit (.bool (p x))) [.var [gv]]):
  ak Tryz.prog 68 [.ref 1 2 0 xs.length,.fn g [.ptr 0 0 0]] [.var [gv],.arr 2 (rowsOf av xs++rest)] (aam (cT p 0 xs)) [.var [gv],.arr 2 (rowsOf av xs++rest)]:=by
 generalize aq:cT p 0 xs=res;have j4:(rowsOf av xs++rest).length=xs.length+rest.length:=by rw[aK,cK]
 have bf:∀ k,k<xs.length->(rowsOf av xs++rest)[k]?=some (av (xs.getD k default)):=λk hk=>by
  rw[cG (by rw[cK];omega),vC _ _ Bv]
 generalize El:rowsOf av xs++rest=R at *;refine ak.aL 19 2 [.tmp 4] Tryz.func68 ?_;((try revert hK K);(repeat'(first|refine Vb @j4 ?_|(refine V2 @j4 ?_ ?_<;>try with_reducible intro hb)|(refine Xi ?_ ?_<;>try intro ht)|refine VD ?_ ?_|exact Xx|fail))<;>try with_reducible intro K hK)
 refine aW (λk:Nat=>(⟨ao [(0,.ref 1 2 0 xs.length),(1,.fn g [.ptr 0 0 0]),(7,aam xs.length),(8,aam k)],[.var [gv],.arr 2 R]⟩:St)) (λk=>k<=xs.length/\cT p k (xs.drop k)=res) (λk=>xs.length-k) 0 ⟨Nat.zero_le _,aq⟩ (Xv @dq) ?_;rintro k⟨hk,hr⟩Ql an aw;by_cases aY:k<xs.length
 ·have hx:=hg _ (aF (d:=default) aY);have hd:=dL xs k default aY;have BU:=bf k aY;generalize br:xs.getD k default=x at *;rw[hd,cT]at hr;simp only[av]at hx;((try revert hK K);(repeat'(first|refine Vb (X3 @j4 @BU @av.eq_1) ?_|(refine V2 (X3 @j4 @BU @av.eq_1) ?_ ?_<;>try with_reducible intro hb)|(refine Xi ?_ ?_<;>try intro ht)|refine VD ?_ ?_|exact Xx|fail))<;>try with_reducible intro K hK)
  refine fw [0] hx aac ⟨by show some (Ob.var [gv])=some (Ob.var [aU _ gv]);rw[dq],trivial⟩ ⟨.pure rfl,.eq rfl,trivial⟩ ?_;((try revert hK K);(repeat'(first|refine Vb @dq ?_|(refine V2 @dq ?_ ?_<;>try with_reducible intro hb)|(refine Xi ?_ ?_<;>try intro ht)|refine VD ?_ ?_|exact Xx|fail))<;>try with_reducible intro K hK)
  ·rw[if_pos (by assumption)]at hr;rw[<- hr];exact dt rfl (aM _) rfl
  ·rw[if_neg (by simp_all)]at hr;exact an _ (k+1) ⟨Bv,hr⟩ Bv (Xv @dq)
 ·((try revert hK K);(repeat'(first|refine Vb @j4 ?_|(refine V2 @j4 ?_ ?_<;>try with_reducible intro hb)|(refine Xi ?_ ?_<;>try intro ht)|refine VD ?_ ?_|exact Xx|fail))<;>try with_reducible intro K hK)
  rw[dW Bv,cT]at hr;rw[<- hr];exact dt rfl (aM _) rfl
def IT{l:List Ob}{i:Nat}{x:Ob}(h:l[i]?=some x):l.set i x=l:=by
 apply List.ext_getElem?;intro j;rw[List.getElem?_set];split
 ·rename_i e;subst e;rw[if_pos (aN.1 h).1,h]
 ·rfl
def acE(xs:List (Int×Int))(rest:List (List AV))(g:FuncId)(gv:AV)(v:Nat)(p:(Int×Int)->Bool)(os:List Ob)(b:Nat)(hv:os[v]?=some (.var [gv]))(hb:os[b]?=some (.arr 2 (rowsOf av xs++rest)))(hw:∀ row∈rest,row.length=2)(hl:xs.length<1000000)(dq:∀ ρ,aU ρ gv=gv)(su:∀ ρ,bD ρ (Ob.arr 2 (rowsOf av xs++rest))=Ob.arr 2 (rowsOf av xs++rest))(hg:∀ x∈xs,ak Tryz.prog g [.agg (av x),.ptr 0 0 0] [.var [gv]] (.lit (.bool (p x))) [.var [gv]]):
  di Tryz.prog 27 [.ref b 2 0 xs.length,.fn g [.ptr v 0 0]] os (λr ob=>r=.ref b 2 0 (xs.filter λx=>!p x).length/\oP b os ob/\∃ Ek,ob[b]?=some (.arr 2 (rowsOf av (xs.filter λx=>!p x)++Ek))/\∀ row∈Ek,row.length=2):=by
 have kZ:=acP xs rest g gv p hl dq hg;have acQ:=(aN.1 hv).1;have rI:=(aN.1 hb).1;have IU:∀ row∈rowsOf av xs++rest,row.length=2:=λrow hr=>by
  rcases bE.1 hr with h|h
  ·exact nD _ row h
  ·exact hw row h
 have T2:v≠b:=λe=>by rw[e,hb]at hv;cases hv
 have A2:∀ ρ,(os.set v (Ob.var [aU ρ gv])).set b (bD ρ (Ob.arr 2 (rowsOf av xs++rest)))=os:=λρ=>by rw[dq,su,IT hv,IT hb]
 refine di.aL 42 os.length [.tmp 4] Tryz.func27 ?_;((try revert hK K);(repeat'(first|refine Va X0 ?_|(refine V2 X0 ?_ ?_<;>try with_reducible intro hb)|(refine Xi ?_ ?_<;>try intro ht)|refine VD ?_ ?_|exact Xx|fail))<;>try with_reducible intro K hK)
 refine fw [v,b] kZ (by simp[T2]) ⟨by show os[v]?=some (Ob.var [aU _ gv]);rw[dq];exact hv,by show os[b]?=some (bD _ _);rw[su];exact hb,trivial⟩ ⟨.eq rfl,.eq rfl,trivial⟩ ?_;simp(disch:=omega)only[Ac,↓Pc,simprocAttr,A2];by_cases uS:cT p 0 xs = -1
 ·have eX:=T3 p xs 0 uS;rw[uS];((try revert hK K);(repeat'(first|refine Va X0 ?_|(refine V2 X0 ?_ ?_<;>try with_reducible intro hb)|(refine Xi ?_ ?_<;>try intro ht)|refine VD ?_ ?_|exact Xx|fail))<;>try with_reducible intro K hK)
  unfold jm;simp only[fc,eM];simp(disch:=omega)only[Ac,↓Pc,simprocAttr];exact⟨_,_,⟨by rw[eX],oP.refl _ _,rest,by rw[eX];exact hb,hw⟩,dt rfl (aM _) rfl⟩
 ·obtain⟨i0,h1,h2,h3⟩:=T4 p xs 0 uS;rw[Nat.zero_add]at h1;rw[h1];clear kZ;((try revert hK K);(repeat'(first|refine Va X0 ?_|(refine V2 X0 ?_ ?_<;>try with_reducible intro hb)|(refine Xi ?_ ?_<;>try intro ht)|refine VD ?_ ?_|exact Xx|fail))<;>try with_reducible intro K hK)
  all_goals try(exfalso;omega)
  refine aW (λz:Nat×Nat×List (Int×Int)×List Ob=>(⟨ao [(0,.ref b 2 0 xs.length),(1,.fn g [.ptr v 0 0]),(5,aam z.2.1),(6,aam z.1)],z.2.2.2⟩:St))
   (λz=>z.1<=xs.length/\z.2.1<z.1/\z.2.2.1.length=xs.length/\(xs.take z.1).filter (λx=>!p x)=z.2.2.1.take z.2.1/\(∀ k,z.1<=k->z.2.2.1.getD k default=xs.getD k default)/\oP b os z.2.2.2/\z.2.2.2[b]?=some (.arr 2 (rowsOf av z.2.2.1++rest)))
   (λz=>xs.length-z.1) (i0+1,i0,xs,os) ⟨h2,Nat.lt_succ_self _,rfl,h3,λ_ _=>rfl,oP.refl _ _,hb⟩ (Xv X0) ?_
  rintro⟨j,i,Y,ob⟩⟨hj,oJ,hY,oz,tY,yC,a9⟩Ql an aw;dsimp only at hj oJ hY oz tY yC a9 ⊢;have j4:(rowsOf av Y++rest).length=xs.length+rest.length:=by rw[aK,cK,hY]
  have fS:=aA a9;have ij:=λl y=>fC a9 l (y:=y);by_cases eF:j<xs.length
  ·have tP:=aF (l:=xs) (d:=default) eF;have hx:=hg _ tP;have bf:(rowsOf av Y++rest)[j]?=some (av (xs.getD j default)):=by
    rw[cG (by rw[cK];omega),vC _ _ Bv,tY j (aM _)]
   have IV:(rowsOf av Y++rest).getD j []=av (xs.getD j default):=by rw[ax,bf];rfl
   have T5:(rowsOf av Y++rest)[i]?=some (av (Y.getD i default)):=by
    rw[cG (by rw[cK];omega),vC _ _ Bv]
   generalize Y.getD i default=y0 at *;have lI:=jb eF;generalize br:xs.getD j default=x at *;simp only[av]at hx;have acR:ob[v]?=some (.var [gv]):=by rw[yC.2 v T2 acQ];exact hv
   have T6:=aA acR;have acS:∀ ρ (l:List Ob),(ob++l).set v (Ob.var [aU ρ gv])=ob++l:=λρ l=>by rw[dq];exact IT (T6 l)
   have jZ:(rowsOf av Y++rest).set i [aam x.1,aam x.2]=rowsOf av (Y.set i x)++rest:=by
    rw[List.set_append_left _ _ (by rw[cK];omega),<- Cj];rfl
   generalize El:rowsOf av Y++rest=R at *;repeat'(first|((fail_if_success (first|refine gx 8 ?_|refine gy 8 ?_));refine Xr (X5 @a9 @j4 @bf @IV (X2 @av.eq_1 @a8)) ?_;intro K hK)|refine Xo (X5 @a9 @j4 @bf @IV (X2 @av.eq_1 @a8)) ?_|(refine hK _ ?_;clear hK K)|(refine Xg (X5 @a9 @j4 @bf @IV (X2 @av.eq_1 @a8)) ?_ ?_<;>try intro hb)|(refine Xi ?_ ?_<;>try intro ht)|refine Xy ?_|refine Xd ?_ ?_|exact Xx|fail)
   ((try revert hK K);(repeat'(first|refine Va @a8 ?_|(refine V2 @a8 ?_ ?_<;>try with_reducible intro hb)|(refine Xi ?_ ?_<;>try intro ht)|refine VD ?_ ?_|exact Xx|fail))<;>try with_reducible intro K hK)
   refine fw [v] hx Jy ⟨by show(ob++_)[v]?=some (Ob.var [aU _ gv]);rw[dq];exact T6 _,trivial⟩ ⟨.pure rfl,.eq rfl,trivial⟩ ?_;simp(disch:=omega)only[Ac,↓Pc,simprocAttr,a8,acS];have DQ:=(aN.1 a9).1;cases yD:p x
   ·((try revert hK K);(repeat'(first|refine Va (X5 @a9 @fS @ij @j4 (X5 @T5 @av.eq_1 @jZ @yD (X2 @a8 @mC))) ?_|(refine V2 (X5 @a9 @fS @ij @j4 (X5 @T5 @av.eq_1 @jZ @yD (X2 @a8 @mC))) ?_ ?_<;>try with_reducible intro hb)|(refine Xi ?_ ?_<;>try intro ht)|refine VD ?_ ?_|exact Xx|fail))<;>try with_reducible intro K hK)
    all_goals try(exfalso;simp_all;done)
    all_goals
     exact an _ (j+1,i+1,Y.set i x,ob.set b (.arr 2 (rowsOf av (Y.set i x)++rest))++[.var (av x)]) ⟨aad,aad,by simpa using hY,by
      dsimp only;rw[lI,BJ,oz,acT Bv];simp[yD],λk hk=>by
      dsimp only at hk ⊢;rw[ax,List.getElem?_set_ne Bv,<- ax];exact tY k Bv,yC.step _ _,aA (jI a9) _⟩ aad (Xv @av.eq_1)
   ·((try revert hK K);(repeat'(first|refine Va (X5 @a9 @fS @ij @j4 (X3 @yD @a8 @lS)) ?_|(refine V2 (X5 @a9 @fS @ij @j4 (X3 @yD @a8 @lS)) ?_ ?_<;>try with_reducible intro hb)|(refine Xi ?_ ?_<;>try intro ht)|refine VD ?_ ?_|exact Xx|fail))<;>try with_reducible intro K hK)
    all_goals try(exfalso;simp_all;done)
    all_goals
     exact an _ (j+1,i,Y,ob++[.var (av x)]) ⟨aad,aad,hY,by
      dsimp only;rw[lI,BJ,oz];simp[yD],λk hk=>tY k (by dsimp only at hk;omega),yC.app _,by dsimp only;rw[El];exact aA a9 _⟩ aad (Xv @av.eq_1)
  ·obtain rfl:j=xs.length:=Bv;rw[List.take_length]at oz;((try revert hK K);(repeat'(first|refine Va (X2 @a9 @j4) ?_|(refine V2 (X2 @a9 @j4) ?_ ?_<;>try with_reducible intro hb)|(refine Xi ?_ ?_<;>try intro ht)|refine VD ?_ ?_|exact Xx|fail))<;>try with_reducible intro K hK)
   refine aw _ _ rfl ?_;clear an aw Ql;repeat(first|refine Xu ?_)
   have s6:=λy=>jI (y:=y) a9;have T7:∀ row∈(rowsOf av Y++rest).drop (i+(xs.length-i)),row.length=2:=λrow hr=>by
    rcases bE.1 (List.mem_of_mem_drop hr) with h|h
    ·exact nD _ row h
    ·exact hw row h
   ((try revert hK K);(repeat'(first|refine Va (X5 @a9 @j4 @s6 @jf.{0,0} @fN.{0,0}) ?_|(refine V2 (X5 @a9 @j4 @s6 @jf.{0,0} @fN.{0,0}) ?_ ?_<;>try with_reducible intro hb)|(refine Xi ?_ ?_<;>try intro ht)|refine VD ?_ ?_|exact Xx|fail))<;>try with_reducible intro K hK)
   unfold jm;simp only[fc,eM];simp(disch:=omega)only[Ac,↓Pc,simprocAttr];have ou:(xs.filter λx=>!p x).length=i:=by rw[oz,fE];omega
   refine⟨_,_,⟨by rw[ou],by have:=yC.step (.arr 2 ((rowsOf av Y++rest).take i++aD (xs.length-i) [aam 0,aam 0]++(rowsOf av Y++rest).drop (i+(xs.length-i)))) [];rwa [gI]at this,aD (xs.length-i) [aam 0,aam 0]++(rowsOf av Y++rest).drop (i+(xs.length-i)),?_,λrow hr=>?_⟩,dt rfl (by rw[List.length_set];exact yC.1) rfl⟩
   ·rw[s6,<- bn,oz];congr 4;unfold rowsOf;rw[List.map_take,List.take_append_of_le_length (by rw[List.length_map];omega)]
   ·rcases bE.1 hr with h|h
    ·rw[List.eq_of_mem_replicate h];rfl
    ·exact T7 row h
def T8(s:ByteArray)(n:Nat):0<=rB s n/\rB s n<=255:=by
 unfold rB;split
 ·rename_i b _;have:=b.toNat_lt;omega
 ·exact⟨aac,aac⟩
def T9(s:ByteArray)(n:Nat): -9223372036854775808<=rB s n:=by have:=T8 s n;omega
def T'(s:ByteArray)(n:Nat):rB s n<=9223372036854775807:=by have:=T8 s n;omega
def Ua(s:ByteArray)(n:Nat):IntKind.i64.wrap (rB s n)=rB s n:=p' ⟨T9 s n,T' s n⟩
def acU{n:Nat}(h:n<256):IntKind.u8.wrap (n:Int)=n:=p' ⟨by show(0:Int)<=_;omega,by show _<=(255:Int);omega⟩
def wrap64{n:Nat}(h:n<256):IntKind.u64.wrap (n:Int)=n:=p' ⟨by show(0:Int)<=_;omega,by show _<=(18446744073709551615:Int);omega⟩
def acV(n:Nat)(hn:n<256):∃k:Int,ak Tryz.prog 114 [.lit (.int .u64 n)] [] (aam k) []:=by
 refine⟨?_,?_⟩;rotate_left;have h8:=acU hn;refine ak.aL 25 0 [.tmp 2] Tryz.func114 ?_;((try revert hK K);(repeat'(first|refine Vb (X4 @h8 @Ua @BF @nt.{0}) ?_|(refine V2 (X4 @h8 @Ua @BF @nt.{0}) ?_ ?_<;>try with_reducible intro hb)|(refine Xi ?_ ?_<;>try intro ht)|refine VD ?_ ?_|exact Xx|fail))<;>try with_reducible intro K hK)
 all_goals try(exfalso;omega)
 ·refine Int.ofNat_lt.2 (Nat.lt_of_lt_of_le hn ?_);decide +kernel
 ·exact T9 _ _
 ·exact T' _ _
 refine aQ ?_ ?_;rotate_left;rfl;rfl
def acW(n:Nat)(hn:n<256):∃k:Int,ak Tryz.prog 71 [.lit (.int .u64 n)] [] (aam k) []:=by
 obtain⟨k,hk⟩:=acV n hn;refine⟨k,?_⟩;refine ak.aL 8 0 [.tmp 2] Tryz.func71 ?_;((try revert hK K);(repeat'(first|refine Vd X0 hk ?_|(refine V2 X0 ?_ ?_<;>try with_reducible intro hb)|(refine Xi ?_ ?_<;>try intro ht)|refine VD ?_ ?_|exact Xx|fail))<;>try with_reducible intro K hK)
 exact aQ rfl rfl
def acX(xs:List (List (Int×Int)))(hx:∀ x∈xs,x≠[])(hl:xs.length<1000000):
  ak Tryz.prog 105 [.ref 0 1 0 xs.length,aam 0,aam xs.length,.fn 31 []] [.arr 1 (rowsOf eZ xs)] (.bH []) [.arr 1 (rowsOf eZ (gj gG xs []))]:=by
 have acY:∀ a b:List (Int×Int),a≠[]->b≠[]->ak Tryz.prog 31 [.tree 2 (rowsOf av a),.tree 2 (rowsOf av b)] [] (aam (Dv a b)) []:=λa b ha wL=>acZ a b ha wL;generalize hR:gj gG xs []=R;obtain⟨N,hN⟩:∃N,xs.length=N:=⟨_,rfl⟩;have h1:gj gG (xs.take 1) []++xs.drop 1=xs:=by
  cases xs with
  |nil=>rfl
  |cons y r=>rfl
 have ae9:(gj gG (xs.take 1) []++xs.drop 1).length=N:=by rw[h1,hN]
 rw[hN]at hl;refine ak.aL 53 1 [] Tryz.func105 ?_;((try revert hK K);(repeat'(first|refine Vb @hN ?_|(refine V2 @hN ?_ ?_<;>try with_reducible intro hb)|(refine Xi ?_ ?_<;>try intro ht)|refine VD ?_ ?_|exact Xx|fail))<;>try with_reducible intro K hK)
 refine aW (λz:Nat×Int×List (List (Int×Int))=>(⟨ao [(0,.ref 0 1 0 N),(1,aam 0),(2,aam N),(3,.fn 31 []),(8,aam z.2.1)],[.arr 1 (rowsOf eZ z.2.2)]⟩:St))
  (λz=>(z.1<=N\/z.1=1)/\z.2.1=z.1/\0<z.1/\z.2.2=gj gG (xs.take z.1) []++xs.drop z.1) (λz=>N-z.1) (1,1,xs) ⟨.inr rfl,rfl,Nat.one_pos,h1.symm⟩ (by dsimp only;exact Xv @hN) ?_
 rintro⟨i,ix,ar⟩⟨hi,kZ,uS,Bb⟩Ql an aw;dsimp only at hi kZ uS Bb ⊢;by_cases hi':i<N
 ·have PE:(gj gG (xs.take i) []).length=i:=by rw[Ay,fE];simp;omega
  have ik:=ZK (lt:=gG) (xs:=xs) (i:=i) Bv;have bP:∀ y∈gj gG (xs.take i) [],y≠[]:=λy hy=>hx y (List.mem_of_mem_take ((Az _ _ _).mem_iff.1 hy));have br:=hx _ (aF (l:=xs) (i:=i) (d:=default) Bv);rw[dL xs i default Bv]at Bb;unfold yb at ik;generalize gj gG (xs.take i) []=out at *;generalize xs.getD i default=x at *;have dK:(xs.drop (i+1)).length=N-(i+1):=by rw[List.length_drop,hN]
  generalize vv:xs.drop (i+1)=rest at *;have ae':=SA gG x out out.length;generalize hq:tD gG x out out.length=q at *;obtain rfl:ar=iQ out x out.length++rest:=by rw[Bb,ZG,bn];rfl
  have ij:∀ j,(iQ out x j++rest).length=N:=λj=>by rw[aK,Ax];omega
  ((try revert hK K);(repeat'(first|refine Va X0 ?_|(refine V2 X0 ?_ ?_<;>try with_reducible intro hb)|(refine Xi ?_ ?_<;>try intro ht)|refine VD ?_ ?_|exact Xx|fail))<;>try with_reducible intro K hK)
  all_goals try(exfalso;omega)
  refine aW (λz:Nat×Int=>(⟨ao [(0,.ref 0 1 0 N),(1,aam 0),(2,aam N),(3,.fn 31 []),(8,aam ix),(9,aam z.2)],[.arr 1 (rowsOf eZ (iQ out x z.1++rest))]⟩:St))
   (λz=>z.1<=out.length/\z.2=z.1/\tD gG x out z.1=q) (λz=>z.1) (out.length,ix) ⟨aM _,aad,hq⟩ (Xv X0) ?_
  clear hq;rintro⟨j,jx⟩⟨hj,hjx,lQ⟩dh bc bz;dsimp only at hj hjx lQ ⊢;cases j with
  |zero =>
   rw[tD]at lQ;((try revert hK K);(repeat'(first|refine Va X0 ?_|(refine V2 X0 ?_ ?_<;>try with_reducible intro hb)|(refine Xi ?_ ?_<;>try intro ht)|refine VD ?_ ?_|exact Xx|fail))<;>try with_reducible intro K hK)
   all_goals try(exfalso;omega)
   refine bz _ _ rfl ?_;clear bc bz;repeat(first|refine Xu ?_)
   ((try revert hK K);(repeat'(first|refine Va X0 ?_|(refine V2 X0 ?_ ?_<;>try with_reducible intro hb)|(refine Xi ?_ ?_<;>try intro ht)|refine VD ?_ ?_|exact Xx|fail))<;>try with_reducible intro K hK)
   exact an _ (i+1,ix+1,iQ out x 0++rest) ⟨aad,aad,aad,by dsimp only;rw[ik,vv,lQ];rfl⟩ aad (Xv X0)
  |succ j =>
   have r0:∀ C,(eZ C)[0]?=some (.tree 2 (rowsOf av C)):=λ_=>rfl;have r1:∀ C,(eZ C).length=1:=λ_=>rfl;have r2:∀ C v,(eZ C).set 0 v=[v]:=λ_ _=>rfl;have r3:∀ u v:AV,[u].set 0 v=[v]:=λ_ _=>rfl;have r4:∀ u:AV,[u].length=1:=λ_=>rfl;have e1:=ZH (rest:=rest) (x:=x) hj;have e2:=ZI (rest:=rest) (x:=x) hj;have e3:=R5 (rest:=rest) (x:=x) hj;have e4:=ZJ (rest:=rest) (x:=x) hj;have e5:=ij (j+1);have e6:=R8 (l:=iQ out x (j+1)++rest) (j:=j) (k:=j+1) (by rw[e5];omega) Bv;have e7:=R8 (l:=iQ out x (j+1)++rest) (j:=j+1) (k:=j) (by rw[e5];omega) Bv;rw[e2]at e6;rw[e1]at e7;have wL:=bP _ (aF (l:=out) (i:=j) (d:=default) Bv);have hc:=acY x (out.getD j default) br wL;have bq:=ZL x (out.getD j default);rw[tD,bq]at lQ;generalize out.getD j default=b at *;generalize Dv x b=v at *;have qB:jx-1=(j:Int):=Bv;have nv:jx.toNat=j+1:=Bv;by_cases hv:v<0
   ·rw[if_pos (decide_eq_true hv)]at lQ;((try revert hK K);(repeat'(first|refine Vc (X5 @r0 @r1 @r2 @r3 (X5 @r4 @e1 @e2 @e3 (X5 @e4 @e5 @e6 @e7 (X3 @qB @nv @R7)))) hc ?_|(refine V2 (X5 @r0 @r1 @r2 @r3 (X5 @r4 @e1 @e2 @e3 (X5 @e4 @e5 @e6 @e7 (X3 @qB @nv @R7)))) ?_ ?_<;>try with_reducible intro hb)|(refine Xi ?_ ?_<;>try intro ht)|refine VD ?_ ?_|exact Xx|fail))<;>try with_reducible intro K hK)
    all_goals try(exfalso;omega)
    all_goals exact bc _ (j,(j:Int)) ⟨aad,rfl,lQ⟩ aad (Xv X0)
   ·rw[if_neg (by rw[decide_eq_true_iff];exact hv)]at lQ;((try revert hK K);(repeat'(first|refine Vc (X5 @r0 @e1 @e2 @e5 (X2 @qB @nv)) hc ?_|(refine V2 (X5 @r0 @e1 @e2 @e5 (X2 @qB @nv)) ?_ ?_<;>try with_reducible intro hb)|(refine Xi ?_ ?_<;>try intro ht)|refine VD ?_ ?_|exact Xx|fail))<;>try with_reducible intro K hK)
    all_goals try(exfalso;omega)
    all_goals
     refine bz _ _ rfl ?_;clear bc bz;repeat(first|refine Xu ?_)
     ((try revert hK K);(repeat'(first|refine Va X0 ?_|(refine V2 X0 ?_ ?_<;>try with_reducible intro hb)|(refine Xi ?_ ?_<;>try intro ht)|refine VD ?_ ?_|exact Xx|fail))<;>try with_reducible intro K hK)
     exact an _ (i+1,ix+1,iQ out x (j+1)++rest) ⟨aad,aad,aad,by dsimp only;rw[ik,vv,<- lQ];rfl⟩ aad (Xv X0)
 ·have he:gj gG (xs.take i) []++xs.drop i=R:=by
   rw[List.take_of_length_le Bv,dW Bv,gI,hR]
  rw[he]at Bb;subst Bb;((try revert hK K);(repeat'(first|refine Va X0 ?_|(refine V2 X0 ?_ ?_<;>try with_reducible intro hb)|(refine Xi ?_ ?_<;>try intro ht)|refine VD ?_ ?_|exact Xx|fail))<;>try with_reducible intro K hK)
  all_goals try(exfalso;omega)
  refine aw _ _ rfl ?_;clear an aw Ql;repeat(first|refine Xu ?_)
  ((try revert hK K);(repeat'(first|refine Vb X0 ?_|(refine V2 X0 ?_ ?_<;>try with_reducible intro hb)|(refine Xi ?_ ?_<;>try intro ht)|refine VD ?_ ?_|exact Xx|fail))<;>try with_reducible intro K hK)
  exact dt rfl (aM _) rfl
def ac1(xs:List (List (Int×Int)))(k:Int)(hx:∀ x∈xs,x≠[])(hl:xs.length<=12):
  ak Tryz.prog 70 [.ref 0 1 0 xs.length,aam 0,aam xs.length,aam k,.fn 31 []] [.arr 1 (rowsOf eZ xs)] (.bH []) [.arr 1 (rowsOf eZ (gj gG xs []))]:=by
 have h1:=acX xs hx Bv;have j4:=Ay gG xs [];generalize gj gG xs []=R at *;refine ak.aL 148 1 [] Tryz.func70 ?_;((try revert hK K);(repeat'(first|refine Vb X0 ?_|(refine V2 X0 ?_ ?_<;>try with_reducible intro hb)|(refine Xi ?_ ?_<;>try intro ht)|refine VD ?_ ?_|exact Xx|fail))<;>try with_reducible intro K hK)
 refine aW (λ_:Unit=>(⟨ao [(0,.ref 0 1 0 xs.length),(1,aam 0),(2,aam xs.length),(4,.fn 31 [])],[.arr 1 (rowsOf eZ xs)]⟩:St)) (λ_=>True) (λ_=>0) () trivial (Xv X0) ?_;rintro⟨⟩_ Ql an aw;((try revert hK K);(repeat'(first|refine Va X0 ?_|(refine V2 X0 ?_ ?_<;>try with_reducible intro hb)|(refine Xi ?_ ?_<;>try intro ht)|refine VD ?_ ?_|exact Xx|fail))<;>try with_reducible intro K hK)
 all_goals try(exfalso;omega)
 refine eT h1 (aM _) ?_;((try revert hK K);(repeat'(first|refine Va X0 ?_|(refine V2 X0 ?_ ?_<;>try with_reducible intro hb)|(refine Xi ?_ ?_<;>try intro ht)|refine VD ?_ ?_|exact Xx|fail))<;>try with_reducible intro K hK)
 all_goals try(exfalso;omega)
 repeat(first|refine Xu ?_|(refine bz _ _ rfl ?_;clear bc bz;try clear dh)|(refine gz _ _ rfl ?_;clear g7 gz;try clear nB)|(refine n7 _ _ rfl ?_;clear wI n7;try clear D7))
 ((try revert hK K);(repeat'(first|refine Vb X0 ?_|(refine V2 X0 ?_ ?_<;>try with_reducible intro hb)|(refine Xi ?_ ?_<;>try intro ht)|refine VD ?_ ?_|exact Xx|fail))<;>try with_reducible intro K hK)
 exact dt rfl (aM _) rfl
def acL(xs:List (List (Int×Int)))(hx:∀ x∈xs,x≠[])(hl:xs.length<=12):
  ak Tryz.prog 30 [.ref 0 1 0 xs.length,.fn 31 []] [.arr 1 (rowsOf eZ xs)] (.bH []) [.arr 1 (rowsOf eZ (gj gG xs []))]:=by
 obtain⟨k,hk⟩:=acW xs.length Bv;have h1:=ac1 xs k hx hl;refine ak.aL 14 1 [] Tryz.func30 ?_;have hw:=wrap64 (n:=xs.length) Bv;((try revert hK K);(repeat'(first|refine Vd (X2 @hw @nt.{0}) hk ?_|(refine V2 (X2 @hw @nt.{0}) ?_ ?_<;>try with_reducible intro hb)|(refine Xi ?_ ?_<;>try intro ht)|refine VD ?_ ?_|exact Xx|fail))<;>try with_reducible intro K hK)
 refine eT h1 (aM _) ?_;((try revert hK K);(repeat'(first|refine Vb X0 ?_|(refine V2 X0 ?_ ?_<;>try with_reducible intro hb)|(refine Xi ?_ ?_<;>try intro ht)|refine VD ?_ ?_|exact Xx|fail))<;>try with_reducible intro K hK)
 exact dt rfl (aM _) rfl
end T

