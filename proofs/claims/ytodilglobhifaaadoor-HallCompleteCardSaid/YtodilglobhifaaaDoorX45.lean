import Derived.Test.YtodilglobhifaaaDoorX40
import Derived.Test.YtodilglobhifaaaDoorX44
import Derived.Test.YtodilglobhifaaaDoorX32
set_option linter.all false
set_option maxHeartbeats 0
set_option maxRecDepth 20000
open List renaming length_take→iC,append_assoc→br,length_append→aJ,take_of_length_le→jK,drop_eq_nil_of_le→dF,append_nil→eY,replicate→aw,set_set→lK,length_set→bm,length_cons→b8,length_nil→eZ,set_comm→An,take→kT,drop→ou,map_set→z4,length_singleton→lH,length_pos_iff→Ao,getElem?_set_ne→cV,length_map→cU,map_append→kS
open Nat renaming le_refl→aH,zero_le→bk
open Option renaming isSome_some→kU,getD_none→pH,isNone_none→Ei,getD_some→dg,isNone_some→uI
open Int renaming ofNat_lt→uC
open Go Go.Am Go.Proofs
namespace T
def SG(xs:List (List (Int×Int)))(hx:∀ x∈xs,x≠[])(hl:xs.length<1000000):
  ao Tryd.prog 68 [.ref 0 1 0 xs.length,UX 0,UX xs.length,.fn 22 []] [.arr 1 (rowsOf dO xs)] (.bA []) [.arr 1 (rowsOf dO (fD gw xs []))]:=by
 have SH:∀ a b:List (Int×Int),a≠[]->b≠[]->ao Tryd.prog 22 [.tree 2 (rowsOf au a),.tree 2 (rowsOf au b)] [] (UX (zt a b)) []:=λa b ha su=>SI a b ha su;generalize hR:fD gw xs []=R;obtain⟨N,hN⟩:∃N,xs.length=N:=⟨_,rfl⟩;have h1:fD gw (xs.take 1) []++xs.drop 1=xs:=by
  cases xs with
  |nil=>rfl
  |cons y r=>rfl
 have Ur:(fD gw (xs.take 1) []++xs.drop 1).length=N:=by rw[h1,hN]
 rw[hN]at hl;refine ao.aX 53 1 [] Tryd.func68 ?_;((try revert hK K);(repeat'(first|refine Vb @hN ?_|(refine V2 @hN ?_ ?_<;>try with_reducible intro hb)|(refine Xi ?_ ?_<;>try intro ht)|refine VD ?_ ?_|exact Xx|fail))<;>try with_reducible intro K hK)
 refine bu (λz:Nat×Int×List (List (Int×Int))=>(⟨ax [(0,.ref 0 1 0 N),(1,UX 0),(2,UX N),(3,.fn 22 []),(8,UX z.2.1)],[.arr 1 (rowsOf dO z.2.2)]⟩:St))
  (λz=>(z.1<=N\/z.1=1)/\z.2.1=z.1/\0<z.1/\z.2.2=fD gw (xs.take z.1) []++xs.drop z.1) (λz=>N-z.1) (1,1,xs) ⟨.inr rfl,rfl,Nat.one_pos,h1.symm⟩ (by dsimp only;exact Xv @hN) ?_
 rintro⟨i,ix,ar⟩⟨hi,qC,tL,wD⟩Ql aq aC;dsimp only at hi qC tL wD ⊢;by_cases hi':i<N
 ·have Hd:(fD gw (xs.take i) []).length=i:=by rw[Dd,iC];simp;omega
  have iH:=Se (lt:=gw) (xs:=xs) (i:=i) z8;have cO:∀ y∈fD gw (xs.take i) [],y≠[]:=λy hy=>hx y (List.mem_of_mem_take ((Cm _ _ _).mem_iff.1 hy));have bX:=hx _ (aO (l:=xs) (i:=i) (d:=default) z8);rw[di xs i default z8]at wD;unfold tN at iH;generalize fD gw (xs.take i) []=out at *;generalize xs.getD i default=x at *;have cF:(xs.drop (i+1)).length=N-(i+1):=by rw[List.length_drop,hN]
  generalize sh:xs.drop (i+1)=rest at *;have Us:=JQ gw x out out.length;generalize hq:pe gw x out out.length=q at *;obtain rfl:ar=fT out x out.length++rest:=by rw[wD,R9,br];rfl
  have gQ:∀ j,(fT out x j++rest).length=N:=λj=>by rw[aJ,wz];omega
  ((try revert hK K);(repeat'(first|refine Va X0 ?_|(refine V2 X0 ?_ ?_<;>try with_reducible intro hb)|(refine Xi ?_ ?_<;>try intro ht)|refine VD ?_ ?_|exact Xx|fail))<;>try with_reducible intro K hK)
  all_goals try(exfalso;omega)
  refine bu (λz:Nat×Int=>(⟨ax [(0,.ref 0 1 0 N),(1,UX 0),(2,UX N),(3,.fn 22 []),(8,UX ix),(9,UX z.2)],[.arr 1 (rowsOf dO (fT out x z.1++rest))]⟩:St))
   (λz=>z.1<=out.length/\z.2=z.1/\pe gw x out z.1=q) (λz=>z.1) (out.length,ix) ⟨aH _,UT,hq⟩ (Xv X0) ?_
  clear hq;rintro⟨j,jx⟩⟨hj,SJ,jg⟩gu cr cy;dsimp only at hj SJ jg ⊢;cases j with
  |zero =>
   rw[pe]at jg;((try revert hK K);(repeat'(first|refine Va X0 ?_|(refine V2 X0 ?_ ?_<;>try with_reducible intro hb)|(refine Xi ?_ ?_<;>try intro ht)|refine VD ?_ ?_|exact Xx|fail))<;>try with_reducible intro K hK)
   all_goals try(exfalso;omega)
   refine cy _ _ rfl ?_;clear cr cy;repeat(first|refine Xu ?_)
   ((try revert hK K);(repeat'(first|refine Va X0 ?_|(refine V2 X0 ?_ ?_<;>try with_reducible intro hb)|(refine Xi ?_ ?_<;>try intro ht)|refine VD ?_ ?_|exact Xx|fail))<;>try with_reducible intro K hK)
   exact aq _ (i+1,ix+1,fT out x 0++rest) ⟨UT,UT,UT,by dsimp only;rw[iH,sh,jg];rfl⟩ UT (Xv X0)
  |succ j =>
   have r0:∀ C,(dO C)[0]?=some (.tree 2 (rowsOf au C)):=λ_=>rfl;have r1:∀ C,(dO C).length=1:=λ_=>rfl;have r2:∀ C v,(dO C).set 0 v=[v]:=λ_ _=>rfl;have r3:∀ u v:AV,[u].set 0 v=[v]:=λ_ _=>rfl;have r4:∀ u:AV,[u].length=1:=λ_=>rfl;have e1:=Sa (rest:=rest) (x:=x) hj;have e2:=Sb (rest:=rest) (x:=x) hj;have e3:=Lx (rest:=rest) (x:=x) hj;have e4:=Sd (rest:=rest) (x:=x) hj;have e5:=gQ (j+1);have e6:=Lz (l:=fT out x (j+1)++rest) (j:=j) (k:=j+1) (by rw[e5];omega) z8;have e7:=Lz (l:=fT out x (j+1)++rest) (j:=j+1) (k:=j) (by rw[e5];omega) z8;rw[e2]at e6;rw[e1]at e7;have su:=cO _ (aO (l:=out) (i:=j) (d:=default) z8);have hc:=SH x (out.getD j default) bX su;have aZ:=Sf x (out.getD j default);rw[pe,aZ]at jg;generalize out.getD j default=b at *;generalize zt x b=v at *;have mP:jx-1=(j:Int):=z8;have kq:jx.toNat=j+1:=z8;by_cases hv:v<0
   ·rw[if_pos (decide_eq_true hv)]at jg;((try revert hK K);(repeat'(first|refine Vc (X5 @r0 @r1 @r2 @r3 (X5 @r4 @e1 @e2 @e3 (X5 @e4 @e5 @e6 @e7 (X3 @mP @kq @Ly)))) hc ?_|(refine V2 (X5 @r0 @r1 @r2 @r3 (X5 @r4 @e1 @e2 @e3 (X5 @e4 @e5 @e6 @e7 (X3 @mP @kq @Ly)))) ?_ ?_<;>try with_reducible intro hb)|(refine Xi ?_ ?_<;>try intro ht)|refine VD ?_ ?_|exact Xx|fail))<;>try with_reducible intro K hK)
    all_goals try(exfalso;omega)
    all_goals exact cr _ (j,(j:Int)) ⟨UT,rfl,jg⟩ UT (Xv X0)
   ·rw[if_neg (by rw[decide_eq_true_iff];exact hv)]at jg;((try revert hK K);(repeat'(first|refine Vc (X5 @r0 @e1 @e2 @e5 (X2 @mP @kq)) hc ?_|(refine V2 (X5 @r0 @e1 @e2 @e5 (X2 @mP @kq)) ?_ ?_<;>try with_reducible intro hb)|(refine Xi ?_ ?_<;>try intro ht)|refine VD ?_ ?_|exact Xx|fail))<;>try with_reducible intro K hK)
    all_goals try(exfalso;omega)
    all_goals
     refine cy _ _ rfl ?_;clear cr cy;repeat(first|refine Xu ?_)
     ((try revert hK K);(repeat'(first|refine Va X0 ?_|(refine V2 X0 ?_ ?_<;>try with_reducible intro hb)|(refine Xi ?_ ?_<;>try intro ht)|refine VD ?_ ?_|exact Xx|fail))<;>try with_reducible intro K hK)
     exact aq _ (i+1,ix+1,fT out x (j+1)++rest) ⟨UT,UT,UT,by dsimp only;rw[iH,sh,<- jg];rfl⟩ UT (Xv X0)
 ·have he:fD gw (xs.take i) []++xs.drop i=R:=by
   rw[jK z8,dF z8,eY,hR]
  rw[he]at wD;subst wD;((try revert hK K);(repeat'(first|refine Va X0 ?_|(refine V2 X0 ?_ ?_<;>try with_reducible intro hb)|(refine Xi ?_ ?_<;>try intro ht)|refine VD ?_ ?_|exact Xx|fail))<;>try with_reducible intro K hK)
  all_goals try(exfalso;omega)
  refine aC _ _ rfl ?_;clear aq aC Ql;repeat(first|refine Xu ?_)
  ((try revert hK K);(repeat'(first|refine Vb X0 ?_|(refine V2 X0 ?_ ?_<;>try with_reducible intro hb)|(refine Xi ?_ ?_<;>try intro ht)|refine VD ?_ ?_|exact Xx|fail))<;>try with_reducible intro K hK)
  exact fZ rfl (aH _) rfl
def SK(xs:List (List (Int×Int)))(k:Int)(hx:∀ x∈xs,x≠[])(hl:xs.length<=12):
  ao Tryd.prog 46 [.ref 0 1 0 xs.length,UX 0,UX xs.length,UX k,.fn 22 []] [.arr 1 (rowsOf dO xs)] (.bA []) [.arr 1 (rowsOf dO (fD gw xs []))]:=by
 have h1:=SG xs hx z8;have iA:=Dd gw xs [];generalize fD gw xs []=R at *;refine ao.aX 148 1 [] Tryd.func46 ?_;((try revert hK K);(repeat'(first|refine Vb X0 ?_|(refine V2 X0 ?_ ?_<;>try with_reducible intro hb)|(refine Xi ?_ ?_<;>try intro ht)|refine VD ?_ ?_|exact Xx|fail))<;>try with_reducible intro K hK)
 refine bu (λ_:Unit=>(⟨ax [(0,.ref 0 1 0 xs.length),(1,UX 0),(2,UX xs.length),(4,.fn 22 [])],[.arr 1 (rowsOf dO xs)]⟩:St)) (λ_=>True) (λ_=>0) () trivial (Xv X0) ?_;rintro⟨⟩_ Ql aq aC;((try revert hK K);(repeat'(first|refine Va X0 ?_|(refine V2 X0 ?_ ?_<;>try with_reducible intro hb)|(refine Xi ?_ ?_<;>try intro ht)|refine VD ?_ ?_|exact Xx|fail))<;>try with_reducible intro K hK)
 all_goals try(exfalso;omega)
 refine kC h1 (aH _) ?_;((try revert hK K);(repeat'(first|refine Va X0 ?_|(refine V2 X0 ?_ ?_<;>try with_reducible intro hb)|(refine Xi ?_ ?_<;>try intro ht)|refine VD ?_ ?_|exact Xx|fail))<;>try with_reducible intro K hK)
 all_goals try(exfalso;omega)
 repeat(first|refine Xu ?_|(refine cy _ _ rfl ?_;clear cr cy;try clear gu)|(refine lg _ _ rfl ?_;clear tZ lg;try clear za)|(refine nK _ _ rfl ?_;clear C3 nK;try clear Lh))
 ((try revert hK K);(repeat'(first|refine Vb X0 ?_|(refine V2 X0 ?_ ?_<;>try with_reducible intro hb)|(refine Xi ?_ ?_<;>try intro ht)|refine VD ?_ ?_|exact Xx|fail))<;>try with_reducible intro K hK)
 exact fZ rfl (aH _) rfl
def SL(xs:List (List (Int×Int)))(hx:∀ x∈xs,x≠[])(hl:xs.length<=12):
  ao Tryd.prog 21 [.ref 0 1 0 xs.length,.fn 22 []] [.arr 1 (rowsOf dO xs)] (.bA []) [.arr 1 (rowsOf dO (fD gw xs []))]:=by
 obtain⟨k,hk⟩:=SM xs.length z8;have h1:=SK xs k hx hl;refine ao.aX 14 1 [] Tryd.func21 ?_;have hw:=wrap64 (n:=xs.length) z8;((try revert hK K);(repeat'(first|refine Vd (X2 @hw @kU.{0}) hk ?_|(refine V2 (X2 @hw @kU.{0}) ?_ ?_<;>try with_reducible intro hb)|(refine Xi ?_ ?_<;>try intro ht)|refine VD ?_ ?_|exact Xx|fail))<;>try with_reducible intro K hK)
 refine kC h1 (aH _) ?_;((try revert hK K);(repeat'(first|refine Vb X0 ?_|(refine V2 X0 ?_ ?_<;>try with_reducible intro hb)|(refine Xi ?_ ?_<;>try intro ht)|refine VD ?_ ?_|exact Xx|fail))<;>try with_reducible intro K hK)
 exact fZ rfl (aH _) rfl
def QY{m:ae}(hm:VM m)(hw:∀ x,(eR m x).wk<=3){left:List (List Bool)}(hf:mX m left)(Ut:m.cls.length<=13)(res:List Int×List (List (Int×Int))×Bool)(SN:zd (jc m (eJ m left)) (kL (jc m (eJ m left)) 0 (aw m.cls.length []))=res):
  ao Tryd.prog 8 [.agg (aP m),.tree 1 (rowsOf dN left)] [] (.bA [.tree 1 (ints res.1),.tree 1 (rowsOf dO res.2.1),.lit (.bool res.2.2)]) []:=by
 have h1:=QF m hm.mb;rw[yG.2 hm]at h1;have h2:=SO m left (by have:=hm.cls;omega);rw[decide_eq_true hf]at h2;have Kz:=hm.cls;refine ao.aX 138 0 [.cell 4 22,.tmp 5,.tmp 6] Tryd.func8 ?_;((try revert hK K);(repeat'(first|refine Vd @nL (X2 h1 h2) ?_|(refine V2 @nL ?_ ?_<;>try with_reducible intro hb)|(refine Xi ?_ ?_<;>try intro ht)|refine VD ?_ ?_|exact Xx|fail))<;>try with_reducible intro K hK)
 refine bu (λz:Nat×List (Ml Pr)×List Ob=>(⟨ax [(1,.tree 1 (rowsOf dN left)),(2,.ptr 0 0 0),(4,.ptr 1 0 0),(5,.lit (.slice none 0 0)),(7,.ptr 3 0 0),(36,.tree 4 (rowsOf bV m.aj)),(37,UX m.aj.length),(38,UX z.1)],z.2.2⟩:St))
  (λz=>z.1<=m.aj.length/\mj m z.2.1 z.1 z.2.2) (λz=>m.aj.length-z.1) (0,[],[.var (aP m),.var [.lit (.slice none 0 0)],.mp 2 [],.var (aP m++[.cJ 2])]) ⟨bk _,mj.start m⟩ ?_ ?_
 ·exact Xv @aP.eq_1
 rintro⟨n,M,ob⟩⟨hn,hP⟩Ql aq aC;dsimp only at hn hP ⊢;by_cases fK:n<m.aj.length
 ·have f3:=hP.o3;have e3:=aA f3;have fm:=hP.mp;have em:=aA fm;have sm:=gZ fm;have Uu:=hm.aj;generalize bX:m.aj.getD n default=x at *;have eB:=zk 4 [x.fst,x.snd] M;have pu:=λu v=>C5 [x.fst,x.snd] u v (cH 4 M);have il:=λu=>C6 [x.fst,x.snd] u (cH 4 M);have jl:=λ(y:Ob) (l:List Ob) (k:Nat)=>lv ob l 2 k y;have sx:=λy l=>aA (g6 (y:=y) fm) l;have wE:=λy y' l=>gZ (y:=y') (g6 (y:=y) fm) l;cases gk:df M [x.fst,x.snd] with
  |none =>
   rw[gk]at eB;simp only[Option.map_none]at eB;have kO:Am.bT [x.fst,x.snd] (.ref (ob.length+3) 4 0 1) (cH 4 M)=cH 4 (eW [x.fst,x.snd] (ob.length+3) [x] M):=wu [x.fst,x.snd] (ob.length+3) [x] M;((try revert hK K);(repeat'(first|refine Va (X5 @f3 @e3 @fm @em (X5 @sm @bX @eB @pu (X5 @kO @jl @sx @wE (X5 @aP.eq_1 @bV.eq_1 @bl @nL (X5 @lK.{0} @br.{0} @aJ.{0} @bm.{0} (X3 @pH.{0} @kU.{0} @Ei.{0})))))) ?_|(refine V2 (X5 @f3 @e3 @fm @em (X5 @sm @bX @eB @pu (X5 @kO @jl @sx @wE (X5 @aP.eq_1 @bV.eq_1 @bl @nL (X5 @lK.{0} @br.{0} @aJ.{0} @bm.{0} (X3 @pH.{0} @kU.{0} @Ei.{0})))))) ?_ ?_<;>try with_reducible intro hb)|(refine Xi ?_ ?_<;>try intro ht)|refine VD ?_ ?_|exact Xx|fail))<;>try with_reducible intro K hK)
   ·exact uC.2 (il _)
   have wF:=hP.first (l:=[.var (bV x),.var [UX x.fst,UX x.snd],.arr 4 [bV x],.arr 4 [bV x]]) (b:=3) fK rfl;rw[bX]at wF;refine aq _ (n+1,_,_) ⟨UT,wF gk rfl⟩ UT ?_;exact Xv (X4 @bV.eq_1 @aJ.{0} @b8.{0} @eZ.{0})
  |some g =>
   rw[gk]at eB;simp only[Option.map_some]at eB;have cG:=(hP.gr _ g gk).1;have wG:=hP.len _ g gk;have eg:=aA cG;have kP:=λy:Ob=>cj (y:=y) cG fm (by intro e;cases e);have qD:=λy l=>aA (kP y) l;have qE:=λy l z=>gZ (kP y) l z;have ki:∀ L,((ob.set 2 (.mp 2 L)).set g.at_ .gone)[2]?=some (.mp 2 L):=λL=>cj (g6 fm) (kP _) (by intro e;cases e);have nc:=λL l=>aA (ki L) l;have wH:g.at_≠2:=λe=>by rw[e,fm]at cG;cases cG
   have qF:∀ L Y l,(((ob.set 2 (.mp 2 L)).set g.at_ .gone)++l).set 2 Y=(ob.set g.at_ .gone).set 2 Y++l:=λL Y l=>by
    rw[gZ (ki L) l Y,An _ _ wH,lK,An _ _ wH.symm]
   have kO:Am.bT [x.fst,x.snd] (.ref (ob.length+3) 4 0 (g.l.length+1)) (cH 4 M)=cH 4 (eW [x.fst,x.snd] (ob.length+3) (g.l++[x]) M):=by rw[<- wu,aJ];rfl
   have ik:rowsOf bV g.l++[[UX x.fst,UX x.snd,UX x.cM,.tree 1 (ints x.dw)]]=rowsOf bV (g.l++[x]):=by simp[rowsOf,bV]
   ((try revert hK K);(repeat'(first|refine Va (X5 @f3 @e3 @fm @em (X5 @sm @cG @eg @kP (X5 @qD @qE @ki @nc (X5 @qF @bX @eB @pu (X5 @kO @ik @jl @sx (X5 @aP.eq_1 @bV.eq_1 @bl @nL (X5 @lK.{0} @br.{0} @aJ.{0} @bm.{0} (X3 @dg.{0} @kU.{0} @uI.{0})))))))) ?_|(refine V2 (X5 @f3 @e3 @fm @em (X5 @sm @cG @eg @kP (X5 @qD @qE @ki @nc (X5 @qF @bX @eB @pu (X5 @kO @ik @jl @sx (X5 @aP.eq_1 @bV.eq_1 @bl @nL (X5 @lK.{0} @br.{0} @aJ.{0} @bm.{0} (X3 @dg.{0} @kU.{0} @uI.{0})))))))) ?_ ?_<;>try with_reducible intro hb)|(refine Xi ?_ ?_<;>try intro ht)|refine VD ?_ ?_|exact Xx|fail))<;>try with_reducible intro K hK)
   ·exact uC.2 (il _)
   have wF:=hP.more (l:=[.var (bV x),.var [UX x.fst,UX x.snd],.arr 4 [bV x],.arr 4 (rowsOf bV (g.l++[x]))]) (b:=3) fK (k:=[x.fst,x.snd]) (by rw[bX]) gk (by rw[bX];rfl);rw[bX]at wF;refine aq _ (n+1,_,_) ⟨UT,wF⟩ UT ?_;exact Xv (X4 @bV.eq_1 @aJ.{0} @b8.{0} @eZ.{0})
 ·have v8:n=m.aj.length:=z8;rw[v8]at hP;obtain⟨hF,hS⟩:=hP.fin;have dj:=SP hm hw hf hF hS;((try revert hK K);(repeat'(first|refine Va X0 ?_|(refine V2 X0 ?_ ?_<;>try with_reducible intro hb)|(refine Xi ?_ ?_<;>try intro ht)|refine VD ?_ ?_|exact Xx|fail))<;>try with_reducible intro K hK)
  refine aC _ _ rfl ?_;clear aq aC Ql;repeat(first|refine Xu ?_)
  repeat'(first|((fail_if_success (first|refine nj 10 ?_|refine nk 10 ?_));refine Xr X0 ?_;intro K hK)|refine Xo X0 ?_|(refine hK _ ?_;clear hK K)|(refine Xg X0 ?_ ?_<;>try intro hb)|(refine Xi ?_ ?_<;>try intro ht)|refine Xy ?_|refine Xd ?_ ?_|exact Xx|fail)
  refine Aw 2 US _ rfl ?_;intro K hK;simp(disch:=omega)only[Ac,↓Pc,simprocAttr,kT,ou];refine⟨rfl,(show my Tryd.prog 17 [.ptr 3 0 0,.tree 1 (rowsOf dN left)] (some 61) _ _ from ?_)⟩;refine yA dj ?_;rintro r o2⟨dH,to,D,rfl,ue,fS⟩;refine⟨dH.len,?_⟩;have g0:=dH _ _ hP.o0;have g1:=dH _ _ hP.o1;clear dj hP hF hS dH;refine hK _ ?_;clear hK K;have ec:=aA ue;have Dj:=aA g0;have Dk:=aA g1;((try revert hK K);(repeat'(first|refine Va (X5 @g0 @g1 @ue @ec (X4 @Dj @Dk @aP.eq_1 @bl)) ?_|(refine V2 (X5 @g0 @g1 @ue @ec (X4 @Dj @Dk @aP.eq_1 @bl)) ?_ ?_<;>try with_reducible intro hb)|(refine Xi ?_ ?_<;>try intro ht)|refine VD ?_ ?_|exact Xx|fail))<;>try with_reducible intro K hK)
  have LW:=LB.start (N:=m.cls.length) g0 g1 ue fS;have nZ:=zb hm.opt (left:=left) m.cls.length 0 (aH _) z8;rw[ua]at nZ;have kN:=CU (m:=m) (left:=left) (c:=m.cls.length) (i:=0) (.inr ⟨rfl,aH _⟩) (bk _);rw[ua]at kN;have Uv:(jc m (eJ m left)).length<=400000:=by
   have h1:=R5 (m:=m) (X:=eJ m left);have h2:(eJ m left).length<=600:=z8;have h3:=Nat.mul_le_mul h2 (Nat.add_le_add_right h2 1);omega
  have Dl:∀ C∈jc m (eJ m left),C.length<=600/\∀ x∈C,jI m x:=λC hC=>⟨by have:=(Lv hC).1;omega,λx hx=>kN x ((Lv hC).2 x hx)⟩;generalize hA:jc m (eJ m left)=A at *;have SQ:=fS.len;generalize RM:o2.length=lp at *;generalize SR:o2++[Ob.arr 1 (aw m.cls.length [AV.lit (Value.slice none 0 0)])]=o3 at *;generalize hR:kL A 0 (aw m.cls.length [])=R;clear fS g0 g1 ue ec Dj Dk SR;refine bu (λz:Nat×List Ob×List (Nat×List Int)=>(⟨ax [(2,.ptr 0 0 0),(4,.ptr 1 0 0),(5,.lit (.slice none 0 0)),(11,.ref to 1 0 D.length),(12,.ref lp 1 0 m.cls.length),(66,.ref to 1 0 D.length),(67,UX D.length),(68,UX z.1)],z.2.1⟩:St))
   (λz=>z.1<=D.length/\LB m A D to lp z.2.2 z.2.1/\z.2.2.length=m.cls.length/\(∀ c,(z.2.2.getD c default).2.length<=z.1*601)/\kL (A.drop z.1) z.1 (z.2.2.map (·.2))=R) (λz=>D.length-z.1) (0,o3,aw m.cls.length (0,[])) ⟨bk _,LW,Eb,λc=>by rw[LB.zero];exact bk _,by rw[LB.len];exact hR⟩ ?_ ?_
  ·exact Xv X0
  rintro⟨n2,LX,Q⟩⟨iU,hL,od,oe,wI⟩Ql aq aC;dsimp only at iU hL od oe wI ⊢;have fo:=hL.out;have eo:=aA fo;by_cases LY:n2<D.length
  ·have aM:=hL.ri.row n2 LY;have zC:=Dl (A.getD n2 default) (aO z8);have SS:A.drop n2=A.getD n2 default::A.drop (n2+1):=di A n2 default z8;have zD:(rowsOf eT D)[n2]?=some (eT (D.getD n2 default)):=q9 _ _ LY;generalize A.getD n2 default=C at *;generalize D.getD n2 default=dd at *;obtain⟨fF,zE⟩:=aM;obtain⟨dp,dl⟩:=dd;dsimp only at fF zE;subst zE;have ui:(rowsOf eT D).length=D.length:=by simp[rowsOf]
   have er:=aA fF;((try revert hK K);(repeat'(first|refine Va (X5 @fo @eo @fF @er (X4 @zD @ui @eT.eq_1 @bl)) ?_|(refine V2 (X5 @fo @eo @fF @er (X4 @zD @ui @eT.eq_1 @bl)) ?_ ?_<;>try with_reducible intro hb)|(refine Xi ?_ ?_<;>try intro ht)|refine VD ?_ ?_|exact Xx|fail))<;>try with_reducible intro K hK)
   generalize vn:qy n2 C (Q.map (·.2))=R1 at *;refine bu (λz:Nat×List Ob×List (Nat×List Int)=>(⟨ax [(2,.ptr 0 0 0),(4,.ptr 1 0 0),(5,.lit (.slice none 0 0)),(11,.ref to 1 0 D.length),(12,.ref lp 1 0 m.cls.length),(66,.ref to 1 0 D.length),(67,UX D.length),(68,UX n2),(13,UX n2),(73,.ref dp 2 0 C.length),(74,UX C.length),(75,UX z.1)],z.2.1⟩:St))
    (λz=>z.1<=C.length/\(LB m A D to lp z.2.2 z.2.1/\z.2.1[dp]?=some (.arr 2 (rowsOf au C)))/\z.2.2.length=m.cls.length/\(∀ c,(z.2.2.getD c default).2.length<=n2*601+z.1)/\qy n2 (C.drop z.1) (z.2.2.map (·.2))=R1) (λz=>C.length-z.1) (0,LX,Q) ⟨bk _,⟨hL,fF⟩,od,by intro c;have:=oe c;dsimp only;omega,vn⟩ ?_ ?_
   ·exact Xv X0
   clear hL od oe fo eo er fF;rintro⟨k,o4,Q4⟩⟨hk,⟨hL,fF⟩,od,oe,nf⟩gu cr cy;dsimp only at hk hL fF od oe nf ⊢;by_cases aQ:k<C.length
   ·have mi:=zC.2 _ (aO (l:=C) (i:=k) (d:=default) aQ);have lz:=zu C aQ;have zF:(rowsOf au C).length=C.length:=by simp[rowsOf]
    have bI:C.drop k=C.getD k default::C.drop (k+1):=di C k default aQ;generalize C.getD k default=x at *;have uj:x.1.toNat<Q4.length:=by have:=mi.1;omega
    have SU:=RN (n:=n2) (x:=x) uj;have SV:=oe x.1.toNat;have Dm:=hL.row x.1.toNat uj;have cG:=λn ob1 b l=>hL.grow uj (n:=n) (ob1:=ob1) (b:=b) (l:=l);have Dh:=Lr uj;have cS:(rowsOf fG Q4).length=Q4.length:=by simp[rowsOf]
    have fl:=hL.ls;have el:=aA fl;have sl:=gZ fl;have er:=aA fF;rw[bI,qy,SU]at nf;generalize qu:Q4.getD x.1.toNat default=q at *;obtain⟨qp,qx⟩:=q;by_cases wJ:qx=[]
    ·subst wJ;rw[if_neg Eb]at nf;have hE:fG (qp,[])=[.lit (.slice none 0 0)]:=rfl;have hx0:=mi.1.1;((try revert hK K);(repeat'(first|refine Va (X5 @fl @el @sl @fF (X5 @er @lz @zF @qu (X5 @hE @cS @hx0 @au.eq_1 (X3 @bl @br.{0} @aJ.{0})))) ?_|(refine V2 (X5 @fl @el @sl @fF (X5 @er @lz @zF @qu (X5 @hE @cS @hx0 @au.eq_1 (X3 @bl @br.{0} @aJ.{0})))) ?_ ?_<;>try with_reducible intro hb)|(refine Xi ?_ ?_<;>try intro ht)|refine VD ?_ ?_|exact Xx|fail))<;>try with_reducible intro K hK)
     have eI:(rowsOf fG Q4).set x.1.toNat [.ref (o4.length+2) 1 0 1]=rowsOf fG (Q4.set x.1.toNat (o4.length+2,[(n2:Int)])):=xE (enc:=fG) Q4 x.1.toNat (o4.length+2,[(n2:Int)]);have r3:∀ u v:AV,[u].set 0 v=[v]:=λ_ _=>rfl;have r4:∀ u:AV,[u].length=1:=λ_=>rfl;have hG:=cG (n2:Int) o4 2 [.var (au x),.arr 1 [[UX n2]],.arr 1 [[UX n2]]] (λk o h _=>h) rfl rfl;refine nq [] (.take 0 (.take 3 (.take 4 (.both 1 (.both 2 (.take 5 (.take 6 (.take 7 (.take 8 .nil)))) 5 (.both 2 (.take 6 (.take 7 (.take 8 .nil))) 6 (.take 2 (.take 7 (.take 8 .nil))))) 5 (.both 1 (.both 2 (.take 6 (.take 7 (.take 8 .nil))) 6 (.take 2 (.take 7 (.take 8 .nil)))) 6 (.take 1 (.take 2 (.take 7 (.take 8 .nil))))))))) rfl US (by decide +kernel) ?_;simp(disch:=omega)only[Ac,↓Pc,simprocAttr,Pw,fl,el,sl,hx0,cS,qu,hE,eI,r3,r4,au,bl,br,aJ];repeat'(first|with_reducible refine And.intro ?_ ?_|omega|with_reducible rfl)
     all_goals
      repeat(first|refine Xu ?_)
      ((try revert hK K);(repeat'(first|refine Va X0 ?_|(refine V2 X0 ?_ ?_<;>try with_reducible intro hb)|(refine Xi ?_ ?_<;>try intro ht)|refine VD ?_ ?_|exact Xx|fail))<;>try with_reducible intro K hK)
      refine cr _ (k+1,_,Q4.set x.1.toNat (o4.length+2,[(n2:Int)])) ⟨UT,⟨hG,aA (cj fF fl (by intro e;cases e)) _⟩,by simpa using od,λc=>?_,by dsimp only;rw[z4];exact nf⟩ UT ?_
      ·dsimp only;rw[wv _ _ _ _ uj];have:=oe c;split
       ·simp only[lH];omega
       ·omega
      ·exact Xv @au.eq_1
    ·have hE:fG (qp,qx)=[.ref qp 1 0 qx.length]:=by unfold fG;rw[if_neg wJ]
     obtain⟨qG,sy,LZ⟩:=Dm wJ;dsimp only at qG sy LZ SV nf;have Dn:=aA qG;have SW:=gZ qG;have SX:=Ao.2 wJ;have L0:(qx.length:Int)-1=((qx.length-1:Nat):Int):=z8;have hx0:=mi.1.1;generalize n9:qx.getD (qx.length-1) 0=la at *;((try revert hK K);(repeat'(first|refine Va (X5 @fl @el @sl @fF (X5 @er @lz @zF @qu (X5 @hE @cS @hx0 @qG (X5 @Dn @L0 @n9 @au.eq_1 (X3 @bl @br.{0} @aJ.{0}))))) ?_|(refine V2 (X5 @fl @el @sl @fF (X5 @er @lz @zF @qu (X5 @hE @cS @hx0 @qG (X5 @Dn @L0 @n9 @au.eq_1 (X3 @bl @br.{0} @aJ.{0}))))) ?_ ?_<;>try with_reducible intro hb)|(refine Xi ?_ ?_<;>try intro ht)|refine VD ?_ ?_|exact Xx|fail))<;>try with_reducible intro K hK)
     ·have eI:(rowsOf fG Q4).set x.1.toNat [.ref (o4.length+2) 1 0 (qx.length+1)]=rowsOf fG (Q4.set x.1.toNat (o4.length+2,qx++[(n2:Int)])):=by
       have h:=xE (enc:=fG) Q4 x.1.toNat (o4.length+2,qx++[(n2:Int)]);rwa [show fG (o4.length+2,qx++[(n2:Int)])=[.ref (o4.length+2) 1 0 (qx.length+1)] by unfold fG;rw[if_neg Eb];simp]at h
      have r3:∀ u v:AV,[u].set 0 v=[v]:=λ_ _=>rfl;have r4:∀ u:AV,[u].length=1:=λ_=>rfl;have nr:ints qx++[[UX n2]]=ints (qx++[(n2:Int)]):=by simp[ints]
      have zG:(o4.set qp .gone)[lp]?=some (.arr 1 (rowsOf fG Q4)):=by rw[cV LZ];exact fl
      have SY:=aA zG;have SZ:=gZ zG;have jl:=λ(l:List Ob) (k:Nat)=>lv o4 l qp k .gone;have Dp:∀ l:List Ob,(o4.set qp .gone++l)[o4.length]?=l[0]?:=λl=>lv o4 l qp 0 .gone;have hG:=cG (n2:Int) (o4.set qp .gone) 2 [.var (au x),.arr 1 [[UX n2]],.arr 1 (ints (qx++[(n2:Int)]))] (λk o h bx=>by rw[cV (Ne.symm (bx wJ))];exact h) Eb rfl;rw[if_neg (λhh=>ht hh.2)]at nf;refine nq [] (.take 0 (.take 3 (.take 4 (.both 1 (.both 2 (.take 5 (.take 6 (.take 7 (.take 8 .nil)))) 5 (.both 2 (.take 6 (.take 7 (.take 8 .nil))) 6 (.take 2 (.take 7 (.take 8 .nil))))) 5 (.both 1 (.both 2 (.take 6 (.take 7 (.take 8 .nil))) 6 (.take 2 (.take 7 (.take 8 .nil)))) 6 (.take 1 (.take 2 (.take 7 (.take 8 .nil))))))))) rfl US (by decide +kernel) ?_;simp(disch:=omega)only[Ac,↓Pc,simprocAttr,Pw,fl,el,sl,qG,Dn,SW,zG,SY,SZ,jl,Dp,nr,hx0,cS,qu,hE,eI,r3,r4,au,bl,br,aJ,bm];repeat'(first|with_reducible refine And.intro ?_ ?_|omega|with_reducible rfl)
      all_goals
       repeat(first|refine Xu ?_)
       ((try revert hK K);(repeat'(first|refine Va X0 ?_|(refine V2 X0 ?_ ?_<;>try with_reducible intro hb)|(refine Xi ?_ ?_<;>try intro ht)|refine VD ?_ ?_|exact Xx|fail))<;>try with_reducible intro K hK)
       refine cr _ (k+1,_,Q4.set x.1.toNat (o4.length+2,qx++[(n2:Int)])) ⟨UT,⟨hG,aA (cj (by rw[cV (λe=>by rw[e,fF]at qG;cases qG)];exact fF) zG (by intro e;cases e)) _⟩,by simpa using od,λc=>?_,by dsimp only;rw[z4];exact nf⟩ UT ?_
       ·dsimp only;rw[wv _ _ _ _ uj];have:=oe c;split
        ·simp only[aJ,lH];omega
        ·omega
       ·exact Xv @au.eq_1
     ·rw[if_pos ⟨SX,ht⟩]at nf;exact cr _ (k+1,_,Q4) ⟨UT,⟨hL.app _,er _⟩,od,λc=>by have:=oe c;dsimp only;omega,nf⟩ UT (Xv X0)
   ·have S1:k=C.length:=z8;((try revert hK K);(repeat'(first|refine Va X0 ?_|(refine V2 X0 ?_ ?_<;>try with_reducible intro hb)|(refine Xi ?_ ?_<;>try intro ht)|refine VD ?_ ?_|exact Xx|fail))<;>try with_reducible intro K hK)
    refine cy _ _ rfl ?_;clear cr cy gu;repeat(first|refine Xu ?_)
    ((try revert hK K);(repeat'(first|refine Va X0 ?_|(refine V2 X0 ?_ ?_<;>try with_reducible intro hb)|(refine Xi ?_ ?_<;>try intro ht)|refine VD ?_ ?_|exact Xx|fail))<;>try with_reducible intro K hK)
    rw[S1,dF (aH _),qy]at nf;rw[SS,kL,vn]at wI;have Ux:=zC.1;refine aq _ (n2+1,o4,Q4) ⟨UT,hL,od,λc=>by have:=oe c;dsimp only;omega,by dsimp only;rw[nf];exact wI⟩ UT (Xv X0)
  ·have S3:n2=D.length:=z8;((try revert hK K);(repeat'(first|refine Va X0 ?_|(refine V2 X0 ?_ ?_<;>try with_reducible intro hb)|(refine Xi ?_ ?_<;>try intro ht)|refine VD ?_ ?_|exact Xx|fail))<;>try with_reducible intro K hK)
   refine aC _ _ rfl ?_;clear aq aC Ql;repeat(first|refine Xu ?_)
   rw[S3,SQ,dF (aH _),kL]at wI;refine kB (hL.Je 12 (by rw[od];simp only[Kc,simprocAttr])) ?_;obtain⟨g0,g1,uk,L1⟩:=hL.kill;generalize m7 (m8 lp Q) LX=o5 at *;rw[wI];clear hL fo eo LW;have mg:=JT m (KB m left);rw[hA]at mg;have Uy:=mg.qq;obtain⟨fE,ay⟩:=KC (N:=m.cls.length) (A:=A) (λC hC y hy=>by have:=((Dl C hC).2 y hy).1;omega);rw[hR]at fE ay;have zc:=fE.jH z8 z8 (λc=>by have:=ay c;omega);have pq:=fE.left z8 z8 (λc=>by have:=ay c;omega);have wK:=L2 R A.length;rw[zc]at wK;have S5:(A.length:Int)=(D.length:Int):=z8;dsimp only at wK;have S6:=P5 pq;obtain⟨av,mm,i1,i2,i3,i4,i5⟩:=JN pq;generalize hG:(dL R A.length).1=G at *;generalize Dq:(dL R A.length).2=Pl at *;rw[S5]at wK;have e0:=aA g0;have e1:=aA g1;have az:zd A R=res:=by rw[<- hA,<- hR]at *;exact SN
   unfold zd at az;rw[zc]at az;dsimp only at az;have k1:=λy=>g6 (y:=y) g1;by_cases wL:G=[]
   ·rw[if_pos wL]at az;subst wL;have k2:=λy z=>g6 (y:=z) (k1 y);((try revert hK K);(repeat'(first|refine Vc (X5 @g0 @g1 @uk @k1 (X2 @k2 @bl)) wK ?_|(refine V2 (X5 @g0 @g1 @uk @k1 (X2 @k2 @bl)) ?_ ?_<;>try with_reducible intro hb)|(refine Xi ?_ ?_<;>try intro ht)|refine VD ?_ ?_|exact Xx|fail))<;>try with_reducible intro K hK)
    simp(disch:=omega)only[Ac,↓Pc,simprocAttr,k2];rw[<- az];refine pM [] true US trivial US US (Dr ?_ ?_ (.pure rfl))
    ·exact .snap _ _ rfl (.nil 1)
    ·exact .snap _ _ rfl (.nil 1)
   ·have Uz:=Ao.2 wL;have UA:=S6 wL;rw[if_neg wL]at az;((try revert hK K);(repeat'(first|refine Vc (X5 @g0 @g1 @uk @k1 @bl) wK ?_|(refine V2 (X5 @g0 @g1 @uk @k1 @bl) ?_ ?_<;>try with_reducible intro hb)|(refine Xi ?_ ?_<;>try intro ht)|refine VD ?_ ?_|exact Xx|fail))<;>try with_reducible intro K hK)
    have UB:G.length<=13:=by rw[<- hG,i3];have h1:=B3 av 0;have h2:=fE.len;dsimp only;omega
    have S7:Pl.Pairwise (· < ·):=by rw[<- Dq,i3];exact P6 _ _
    have L3:∀ n∈Pl,0<=n/\n<A.length:=λn hn=>by rw[<- Dq,i3]at hn;have:=qe _ _ n hn;omega
    have Ds:=LC.start (G:=G) (P:=Pl) (cj g0 g1 (by intro e;cases e)) (k1 _) (cj uk g1 (by intro e;cases e)) (L1.kill g1 (by intro l e;cases e)) mg.nd S7 L3;rw[bm]at Ds;refine bu (λz:Nat×Nat×List Ob=>(⟨ax [(4,.ptr 1 0 0),(5,.ref z.2.1 1 0 z.1),(11,.ref to 1 0 D.length),(118,.tree 1 (ints Pl)),(119,UX Pl.length),(120,UX z.1)],z.2.2⟩:St))
     (λz=>z.1<=Pl.length/\LC m A D G to Pl z.1 z.2.1 z.2.2) (λz=>Pl.length-z.1) (0,o5.length,o5.set 1 (.var [.tree 1 (ints G)])++[.arr 1 []]) ⟨bk _,Ds⟩ ?_ ?_
    ·refine aR.trans (aR.nil 5 1 (by simp only[Kc,simprocAttr]) US) ?_;exact Xv @bm.{0}
    clear Ds L1 uk g0 g1 e0 e1 k1;rintro⟨z,p,Dt⟩⟨hz,hC⟩Ql aq aC;dsimp only at hz hC ⊢;have fo:=hC.out;have eo:=aA fo;by_cases zH:z<Pl.length
    ·have JY:=L3 _ (aO (d:=0) zH);have aM:=hC.row z (aH _) zH;have ui:(rowsOf eT D).length=D.length:=by simp[rowsOf]
     have zD:(rowsOf eT D)[(Pl.getD z 0).toNat]?=some (eT (D.getD (Pl.getD z 0).toNat default)):=q9 _ _ z8;have eI:=λob1 y y2 l j hb hl=>hC.step zH (ob1:=ob1) (y:=y) (y2:=y2) (l:=l) (j:=j) hb hl;generalize lx:Pl.getD z 0=nx at *;have zC:=Dl (A.getD nx.toNat default) (aO z8);generalize S8:A.getD nx.toNat default=C at *;generalize D.getD nx.toNat default=dd at *;obtain⟨dp,dl⟩:=dd;dsimp only at aM eI;obtain⟨fF,zE⟩:=aM;subst zE;repeat'(first|((fail_if_success (first|refine nj 29 ?_|refine nk 29 ?_));refine Xr @lx ?_;intro K hK)|refine Xo @lx ?_|(refine hK _ ?_;clear hK K)|(refine Xg @lx ?_ ?_<;>try intro hb)|(refine Xi ?_ ?_<;>try intro ht)|refine Xy ?_|refine Xd ?_ ?_|exact Xx|fail)
     have Du:=S9 C [] 19 (.tree 1 (ints G)) 1 (λx=>!g7 G x) Dt dp hC.o1 (by rw[eY];exact fF) Eb (by have:=zC.1;omega) (λρ=>rfl) (λρ=>by rw[eY,sW]) (λx _=>S' G z8 x);simp only[Bool.not_not]at Du;have UC:=hC.o1;have pB:=hC.new;generalize hZ:List.map (λn=>List.filter (g7 G) (A.getD n.toNat [])) (Pl.take z)=Z at *;refine Rq 6 US _ rfl ?_;intro K K1 hK qH;simp(disch:=omega)only[Ac,↓Pc,simprocAttr,kT,ou,fo,ui,zD,eT];refine⟨⟨JY.1,z8⟩,rfl,(show my Tryd.prog 18 [.ref dp 2 0 C.length,.fn 19 [.ptr 1 0 0]] (some 130) _ _ from ?_)⟩;refine yA Du ?_;rintro r o6⟨rfl,hb,zI,L4,Ta⟩;refine⟨hb.1,?_⟩;refine qH _ _ (aR.K3 130 dp (v:=.tree 2 (rowsOf au (C.filter (g7 G)))) L4 (m9.bp (lo:=dp) (hi:=dp+1) (.inr ⟨dp,zI,by rw[cL];rfl,aH _,Nat.lt_succ_self _,L4,λrow hr=>?_⟩) (λi h1 h2=>z8) (λrow hr v hv=>?_))) ?_
     ·rcases List.mem_append.1 hr with h|h
      ·exact pL _ row h
      ·exact Ta row h
     ·obtain⟨x,_,rfl⟩:=List.mem_map.1 hr;simp only[au,List.mem_cons,List.not_mem_nil,or_false]at hv;rcases hv with rfl|rfl
      ·exact .inl ⟨_,rfl⟩
      ·exact .inl ⟨_,rfl⟩
     clear qH K1 Du;have L5:p≠dp:=λe=>by rw[e,fF]at pB;cases pB
     have Dv:(o6.set dp .gone)[p]?=some (.arr 1 (rowsOf dO Z)):=by
      rw[cV (Ne.symm L5),hb.2 p L5 (List.getElem?_eq_some_iff.1 pB).1];exact pB
     have Tb:=aA Dv;have Td:=gZ Dv;have uf:(rowsOf dO Z).length=z:=by rw[cL,<- hZ,cU,iC];omega
     have Te:=eI o6 .gone .gone [.arr 1 [[.tree 2 (rowsOf au (C.filter (g7 G)))]],.arr 1 (rowsOf dO Z++[[.tree 2 (rowsOf au (C.filter (g7 G)))]])] 1 hb;have Tf:kT z (rowsOf dO Z)=rowsOf dO Z:=jK z8;have jl:=λ(l:List Ob) (k:Nat)=>lv o6 l dp k .gone;have Dp:∀ l:List Ob,(o6.set dp .gone++l)[o6.length]?=l[0]?:=λl=>lv o6 l dp 0 .gone;have kY:∀ v:AV,[[v]].all (λrow=>row.all bt)=bt v:=λv=>Eb;simp(disch:=omega)only[Ac,↓Pc,simprocAttr,kT,ou,Dv,Tb,Td,jl,Dp,uf,Tf,kY,bl,bm,br,aJ];refine⟨z8,hK _ ?_⟩;clear hK K;((try revert hK K);(repeat'(first|refine Va X0 ?_|(refine V2 X0 ?_ ?_<;>try with_reducible intro hb)|(refine Xi ?_ ?_<;>try intro ht)|refine VD ?_ ?_|exact Xx|fail))<;>try with_reducible intro K hK)
     refine aq _ (z+1,o6.length+1,_) ⟨UT,Te ?_⟩ UT ?_
     ·rw[ql zH,kS,hZ,show Pl.getD z default=nx from lx];show some _=some _;rw[<- S8];unfold rowsOf;rw[kS];rfl
     ·exact Xv @bm.{0}
    ·have gB:z=Pl.length:=z8;subst gB;((try revert hK K);(repeat'(first|refine Va X0 ?_|(refine V2 X0 ?_ ?_<;>try with_reducible intro hb)|(refine Xi ?_ ?_<;>try intro ht)|refine VD ?_ ?_|exact Xx|fail))<;>try with_reducible intro K hK)
     refine aC _ _ rfl ?_;clear aq aC Ql;repeat(first|refine Xu ?_)
     have pB:=hC.new;rw[List.take_length,show(Pl.map λn=>(A.getD n.toNat []).filter (g7 G))=oa A (G,Pl) from rfl]at pB;have dj:(oa A (G,Pl)).length=Pl.length:=by unfold oa;rw[cU]
     have hfn:=RJ (tP m (eJ m left)) mg fE pq (λx hx=>by have:=(kN x hx).1;omega);have e3:dL R A.length=(G,Pl):=by rw[<- hG,<- Dq]
     rw[e3]at hfn;have L6:=SL (oa A (G,Pl)) (λx hx=>by obtain⟨_,_,_,h⟩:=hfn x hx;exact h) z8;have gQ:=Dd gw (oa A (G,Pl)) [];generalize UD:oa A (G,Pl)=X at *;rw[dj]at L6;generalize UE:fD gw X []=S at *;have h1:=hC.o1;have oG:=cj (y:=.arr 1 (rowsOf dO S)) h1 pB (by intro e;cases e);((try revert hK K);(repeat'(first|refine Va @h1 ?_|(refine V2 @h1 ?_ ?_<;>try with_reducible intro hb)|(refine Xi ?_ ?_<;>try intro ht)|refine VD ?_ ?_|exact Xx|fail))<;>try with_reducible intro K hK)
     refine rh [p] L6 Eb ⟨by show Dt[p]?=some (bf _ _);rw[LA];exact pB,trivial⟩ ⟨.eq rfl,.pure rfl,trivial⟩ ?_;simp(disch:=omega)only[Ac,↓Pc,simprocAttr,LA];have Dx:=λy=>g6 (y:=y) oG;refine hK _ ?_;clear hK K;((try revert hK K);(repeat'(first|refine Va (X2 @oG @Dx) ?_|(refine V2 (X2 @oG @Dx) ?_ ?_<;>try with_reducible intro hb)|(refine Xi ?_ ?_<;>try intro ht)|refine VD ?_ ?_|exact Xx|fail))<;>try with_reducible intro K hK)
     simp(disch:=omega)only[Ac,↓Pc,simprocAttr,oG,Dx];rw[<- az];have L7:Pl.length=(rowsOf dO S).length:=by rw[cL,<- dj,gQ];simp
     dsimp only;have wC:((Dt.set p (Ob.arr 1 (rowsOf dO S))).set 1 (.var [.tree 1 (ints G)]))[p]?=some (.arr 1 (rowsOf dO S)):=cj (g6 pB) oG (by intro e;cases e);refine pM [] true US trivial US US (Dr (.pure rfl) (.snap _ _ rfl (cW.flat wC (pL _) L7 (λh=>by unfold kept at h;simp at h) (xC _))) (.pure rfl))
end T

