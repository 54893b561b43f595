import Derived.Test.YtfoopmojjjpapaaGreatX21
import Derived.Test.YtfoopmojjjpapaaGreatX27
set_option linter.all false
set_option maxHeartbeats 0
set_option maxRecDepth 20000
open Nat renaming zero_le→aS,le_refl→aU,sub_self→iq
open List renaming cons_append→e9,nil_append→iH,mem_append→da,mem_singleton→dI,length_append→bI,replicate→aI,getD_eq_getElem?_getD→az,replicate_zero→yX,append_nil→np,map_append→dJ,append_assoc→bw,range→aY,length_map→eu,all_eq_true→e8
open And renaming intro→c6
open Int renaming mul_le_mul→u6,toNat_natCast→cF
open Go Go.Am Go.Proofs
namespace T
def afI(L:List Int)(k:Nat)(hk:k<=L.length)(hL:L.length<1000000):
  dZ Tryz.prog 21 [.ptr 0 0 0] [vC L k] (λr os=>∃ m par k',ma m par/\k'<=L.length/\r=.agg (ay m)/\os=[vC L k']):=by
 unfold vC;refine dZ.aQ 119 1 [.cell 2 32] Tryz.func21 ?_;((try revert hK K);(repeat'(first|refine Va X0 ?_|(refine V2 X0 ?_ ?_<;>try with_reducible intro hb)|(refine Xi ?_ ?_<;>try intro ht)|refine VD ?_ ?_|exact Xx|fail))<;>try with_reducible intro K hK)
 refine tU [0] (wY L k 5 (by unfold jv;omega) hk hL) Fs ⟨rfl,trivial⟩ ⟨.eq rfl,.pure rfl,trivial⟩ ?_;have hv:=wZ (L:=L) (k:=k) (n:=5) CZ;have fK:=vV hk;generalize nc L k 5=v at *;generalize kQ L k=k2 at *;clear hk;obtain⟨n,kx⟩:∃n:Nat,1+v=n:=⟨(1+v).toNat,CZ⟩;((try revert hK K);(repeat'(first|refine Va @kx ?_|(refine V2 @kx ?_ ?_<;>try with_reducible intro hb)|(refine Xi ?_ ?_<;>try intro ht)|refine VD ?_ ?_|exact Xx|fail))<;>try with_reducible intro K hK)
 refine df (σ':=⟨ar [(0,.ptr 0 0 0),(2,.ptr 1 0 0),(3,.ptr 2 0 0),(4,OJ n),(5,.ref 3 1 0 n),(6,OJ 0)],iG L k2 [] [] [] n⟩) ?_ ?_
 ·refine aH.trans (aH.zI 2 0 1 rfl rfl Fs) ?_;refine aH.trans (aH.zI 2 1 4 rfl rfl Fs) ?_;unfold iG;exact Xv X0
 have Ti:1<=n/\n<=5:=CZ;(try clear kx;clear hv v)
 refine bd (λz:Nat×Nat×List (List dq)×List Int=>(⟨ar [(0,.ptr 0 0 0),(2,.ptr 1 0 0),(3,.ptr 2 0 0),(4,OJ n),(5,.ref 3 1 0 n),(6,OJ z.1)],iG L z.2.1 z.2.2.1 [] z.2.2.2 n⟩:St))
  (λz=>z.1<=n/\z.2.1<=L.length/\(z.2.2.1.length=z.1/\∀ l∈z.2.2.1,(1<=l.length/\l.length<=3)/\Ou l)/\z.2.2.2.length=z.1/\∀ i,i<z.2.2.2.length->-1<=z.2.2.2.getD i 0/\z.2.2.2.getD i 0<i) (λz=>n-z.1) (0,k2,[],[]) ⟨aS _,fK,⟨rfl,Fl⟩,rfl,Fl⟩ (Xv X0) ?_
 clear fK k2 k;rintro⟨i,k,cls,par⟩⟨hi,hk,⟨bz,Cw⟩,cM,Ov⟩Ql ao ax;dsimp only at hi hk bz Cw cM Ov ⊢;unfold iG;by_cases aq:i<n
 ·((try revert hK K);(repeat'(first|refine Va X0 ?_|(refine V2 X0 ?_ ?_<;>try with_reducible intro hb)|(refine Xi ?_ ?_<;>try intro ht)|refine VD ?_ ?_|exact Xx|fail))<;>try with_reducible intro K hK)
  refine tU [0] (wY L k 3 (by unfold jv;omega) hk hL) Fs ⟨rfl,trivial⟩ ⟨.eq rfl,.pure rfl,trivial⟩ ?_;have hv:=wZ (L:=L) (k:=k) (n:=3) CZ;have fK:=vV hk;generalize nc L k 3=v at *;generalize kQ L k=k2 at *;clear hk;obtain⟨e0,ph⟩:∃e0:Nat,1+v=e0:=⟨(1+v).toNat,CZ⟩;((try revert hK K);(repeat'(first|refine Va @ph ?_|(refine V2 @ph ?_ ?_<;>try with_reducible intro hb)|(refine Xi ?_ ?_<;>try intro ht)|refine VD ?_ ?_|exact Xx|fail))<;>try with_reducible intro K hK)
  refine bd (λz:Nat×Nat×List dq=>(⟨ar [(0,.ptr 0 0 0),(2,.ptr 1 0 0),(3,.ptr 2 0 0),(4,OJ n),(5,.ref 3 1 0 n),(6,OJ i),(7,.ref 6 6 0 z.2.2.length),(8,OJ z.1)],iG L z.2.1 cls [] par n++[.arr 6 (rowsOf cA z.2.2)]⟩:St))
   (λz=>z.1+z.2.2.length=e0/\z.2.1<=L.length/\Ou z.2.2) (λz=>z.1) (e0,k2,[]) ⟨Fl,fK,by intro o ho;simp at ho⟩ ?_ ?_
  ·refine aH.trans (aH.nil 7 6 (by simp only[Kc,simprocAttr]) Fs) ?_;unfold iG;exact Xv X0
  clear fK;rintro⟨e,k,l⟩⟨xl,hk,hl⟩du bE bG;dsimp only at xl hk hl ⊢;unfold iG;simp only[e9,iH];by_cases vv:0<e
  ·obtain⟨e',rfl⟩ :∃e',e=e'+1:=⟨e-1,CZ⟩;have qt:((e'+1:Nat):Int)-1=e':=CZ;have qu:=aap L k 2 (by unfold jv;omega) Fs hk hL;have fK:=vV hk;generalize Em L k 2=b at *;generalize kQ L k=k2 at *;repeat'(first|((fail_if_success (first|refine eH 12 ?_|refine eI 12 ?_));refine Xr X0 ?_;intro K hK)|refine Xo X0 ?_|(refine hK _ ?_;clear hK K)|(refine Xg X0 ?_ ?_<;>try intro hb)|(refine Xi ?_ ?_<;>try intro ht)|refine Xy ?_|refine Xd ?_ ?_|exact Xx|fail)
   refine df (σ':=⟨ar [(0,.ptr 0 0 0),(2,.ptr 1 0 0),(3,.ptr 2 0 0),(4,OJ n),(5,.ref 3 1 0 n),(6,OJ i),(7,.ref 6 6 0 l.length),(8,OJ (e'+1:Nat)),(9,.ptr 7 0 0)],iG L k cls [] par n++[.arr 6 (rowsOf cA l),.var [OJ 1,OJ (e'+1:Nat),OJ 0,OJ 1,OJ (-1),.ref 8 2 0 0],.arr 2 []]⟩) ?_ ?_
   ·refine aH.trans (aH.zI 7 5 2 rfl rfl Fs) ?_;unfold iG;exact Xv X0
   unfold iG;simp only[e9,iH];((try revert hK K);(repeat'(first|refine Va X0 ?_|(refine V2 X0 ?_ ?_<;>try with_reducible intro hb)|(refine Xi ?_ ?_<;>try intro ht)|refine VD ?_ ?_|exact Xx|fail))<;>try with_reducible intro K hK)
   (refine Xn [0] (qu) ?_;simp(disch:=omega)only[Ac,↓Pc,simprocAttr])
   have ac4:∀ (k':Nat) (ch:List (Int×Int)) (s:St),k'<=L.length->ctU ch->aH 1 s ⟨ar [(0,.ptr 0 0 0),(2,.ptr 1 0 0),(3,.ptr 2 0 0),(4,OJ n),(5,.ref 3 1 0 n),(6,OJ i),(7,.ref 6 6 0 (l.length+1)),(8,OJ e')],iG L k' cls [] par n++[.arr 6 (rowsOf cA (l++[⟨1,(e'+1:Nat),0,1,-1,ch⟩]))]⟩->du .normal s:=λk' ch s h1 h2 h3 =>
    bE _ (e',k',l++[⟨1,(e'+1:Nat),0,1,-1,ch⟩]) ⟨Jo,h1,λo ho=>by
     rcases da.1 ho with ho|ho
     ·exact hl o ho
     ·simp only[dI]at ho;subst ho;exact h2⟩ Ji (by rw[bI];exact h3)
   clear bE bG;cases b with
   |true =>
    have BV:=wY L k2 2 (by unfold jv;omega) fK hL;have hxr:=wZ (L:=L) (k:=k2) (n:=2) CZ;have mX:=vV fK;generalize nc L k2 2=r1 at *;generalize kQ L k2=k3 at *;have Ow:=wY L k3 40 (by unfold jv;omega) mX hL;have CC:=wZ (L:=L) (k:=k3) (n:=40) CZ;have yz:=vV mX;generalize nc L k3 40=r2 at *;generalize kQ L k3=k4 at *;((try revert hK K);(repeat'(first|refine Va X0 ?_|(refine V2 X0 ?_ ?_<;>try with_reducible intro hb)|(refine Xi ?_ ?_<;>try intro ht)|refine VD ?_ ?_|exact Xx|fail))<;>try with_reducible intro K hK)
    (refine Xn [0] (BV) ?_;simp(disch:=omega)only[Ac,↓Pc,simprocAttr])
    (refine Xn [0] (Ow) ?_;simp(disch:=omega)only[Ac,↓Pc,simprocAttr])
    repeat'(first|((fail_if_success (first|refine eH 14 ?_|refine eI 14 ?_));refine Xr X0 ?_;intro K hK)|refine Xo X0 ?_|(refine hK _ ?_;clear hK K)|(refine Xg X0 ?_ ?_<;>try intro hb)|(refine Xi ?_ ?_<;>try intro ht)|refine Xy ?_|refine Xd ?_ ?_|exact Xx|fail)
    refine df (aH.DB 9 7 5 2 (rows:=rowsOf dt [(r1,1+r2)]) rfl rfl rfl (pw _) (zG _)) ?_;refine df (σ':=⟨ar [(0,.ptr 0 0 0),(2,.ptr 1 0 0),(3,.ptr 2 0 0),(4,OJ n),(5,.ref 3 1 0 n),(6,OJ i),(7,.ref 6 6 0 l.length),(8,OJ (e'+1:Nat)),(9,.ptr 7 0 0)],iG L k4 cls [] par n++[.arr 6 (rowsOf cA l),.var (cA ⟨1,(e'+1:Nat),0,1,-1,[(r1,1+r2)]⟩),.arr 2 [],.gone]⟩) (by unfold iG;exact Xv @cA.eq_1) ?_;unfold iG;simp only[e9,iH];((try revert hK K);(repeat'(first|refine Va (X2 @cA.eq_1 @qt) ?_|(refine V2 (X2 @cA.eq_1 @qt) ?_ ?_<;>try with_reducible intro hb)|(refine Xi ?_ ?_<;>try intro ht)|refine VD ?_ ?_|exact Xx|fail))<;>try with_reducible intro K hK)
    refine ac4 k4 [(r1,1+r2)] _ yz (.inr ⟨r1,1+r2,rfl,hxr,CZ,CZ⟩) ?_;unfold iG;simp only[e9,iH];rw[show rowsOf cA l++[[AV.lit (.int .i64 1),AV.lit (.int .i64 (e'+1:Nat)),AV.lit (.int .i64 0),AV.lit (.int .i64 1),AV.lit (.int .i64 (-1)),AV.tree 2 (rowsOf dt [(r1,1+r2)])]]=rowsOf cA (l++[⟨1,(e'+1:Nat),0,1,-1,[(r1,1+r2)]⟩]) from Gn (enc:=cA) l ⟨1,(e'+1:Nat),0,1,-1,[(r1,1+r2)]⟩];exact Xs false [0,1,2,3,4,5,11] X0
   |false =>
    repeat'(first|((fail_if_success (first|refine eH 14 ?_|refine eI 14 ?_));refine Xr X0 ?_;intro K hK)|refine Xo X0 ?_|(refine hK _ ?_;clear hK K)|(refine Xg X0 ?_ ?_<;>try intro hb)|(refine Xi ?_ ?_<;>try intro ht)|refine Xy ?_|refine Xd ?_ ?_|exact Xx|fail)
    refine df (aH.DB 8 7 5 2 (rows:=rowsOf dt []) rfl rfl rfl (pw _) (zG _)) ?_;refine df (σ':=⟨ar [(0,.ptr 0 0 0),(2,.ptr 1 0 0),(3,.ptr 2 0 0),(4,OJ n),(5,.ref 3 1 0 n),(6,OJ i),(7,.ref 6 6 0 l.length),(8,OJ (e'+1:Nat)),(9,.ptr 7 0 0)],iG L k2 cls [] par n++[.arr 6 (rowsOf cA l),.var (cA ⟨1,(e'+1:Nat),0,1,-1,[]⟩),.gone]⟩) (by unfold iG;exact Xv @cA.eq_1) ?_;unfold iG;simp only[e9,iH];((try revert hK K);(repeat'(first|refine Va (X2 @cA.eq_1 @qt) ?_|(refine V2 (X2 @cA.eq_1 @qt) ?_ ?_<;>try with_reducible intro hb)|(refine Xi ?_ ?_<;>try intro ht)|refine VD ?_ ?_|exact Xx|fail))<;>try with_reducible intro K hK)
    refine ac4 k2 [] _ fK (.inl rfl) ?_;unfold iG;simp only[e9,iH];rw[show rowsOf cA l++[[AV.lit (.int .i64 1),AV.lit (.int .i64 (e'+1:Nat)),AV.lit (.int .i64 0),AV.lit (.int .i64 1),AV.lit (.int .i64 (-1)),AV.tree 2 (rowsOf dt [])]]=rowsOf cA (l++[⟨1,(e'+1:Nat),0,1,-1,[]⟩]) from Gn (enc:=cA) l ⟨1,(e'+1:Nat),0,1,-1,[]⟩];exact Xs false [0,1,2,3,4,5,10] X0
  ·obtain rfl:e=0:=CZ;((try revert hK K);(repeat'(first|refine Va X0 ?_|(refine V2 X0 ?_ ?_<;>try with_reducible intro hb)|(refine Xi ?_ ?_<;>try intro ht)|refine VD ?_ ?_|exact Xx|fail))<;>try with_reducible intro K hK)
   refine bG _ _ rfl ?_;clear bE bG du;repeat(first|refine Xu ?_)
   refine df (σ':=⟨ar [(0,.ptr 0 0 0),(2,.ptr 1 0 0),(3,.ptr 2 0 0),(4,OJ n),(5,.ref 3 1 0 n),(6,OJ i),(7,.tree 6 (rowsOf cA l))],iG L k cls [] par n⟩) ?_ ?_
   ·unfold iG;exact Xs true [0,1,2,3,4,5] X0
   unfold iG;have oA:=wY L k (i+1) (by unfold jv;omega) hk hL;have hnr:=wZ (L:=L) (k:=k) (n:=i+1) CZ;have fK:=vV hk;generalize nc L k (i+1)=w at *;generalize kQ L k=k2 at *;have I0:(par++aI (n-par.length) 0).length=n:=Jo;have iT:=amM par n CZ (w-1);rw[cM]at iT I0;rw[cM];have Gi:((i+1:Nat):Int)=(i:Int)+1:=CZ;((try revert hK K);(repeat'(first|refine Va X0 ?_|(refine V2 X0 ?_ ?_<;>try with_reducible intro hb)|(refine Xi ?_ ?_<;>try intro ht)|refine VD ?_ ?_|exact Xx|fail))<;>try with_reducible intro K hK)
   (refine Xn [0] (oA) ?_;simp(disch:=omega)only[Ac,↓Pc,simprocAttr,I0,iT])
   repeat'(first|with_reducible refine c6 ?_ ?_|omega|with_reducible rfl)
   ((try revert hK K);(repeat'(first|refine Va (X2 @I0 @iT) ?_|(refine V2 (X2 @I0 @iT) ?_ ?_<;>try with_reducible intro hb)|(refine Xi ?_ ?_<;>try intro ht)|refine VD ?_ ?_|exact Xx|fail))<;>try with_reducible intro K hK)
   all_goals try(exfalso;omega)
   refine ao _ (i+1,k2,cls++[l],par++[w-1]) ⟨Ji,fK,⟨Jo,λx hx=>?_⟩,Jo,λa ha=>?_⟩ Ji ?_
   ·rcases da.1 hx with hx|hx
    ·exact Cw x hx
    ·simp only[dI]at hx;subst hx;exact⟨⟨CZ,CZ⟩,hl⟩
   ·dsimp only at ha ⊢;rw[bI,List.length_singleton]at ha;by_cases Fb:a<par.length
    ·rw[az,List.getElem?_append_left Fb,<- az];exact Ov a Fb
    ·obtain rfl:a=par.length:=CZ;rw[az,List.getElem?_append_right (aU _),iq];show -1<=w-1/\w-1<_;omega
   ·unfold iG;rw[show rowsOf bm cls++[[AV.tree 6 (rowsOf cA l)]]=rowsOf bm (cls++[l]) from Gn (enc:=bm) cls l];exact Xs false [0,1,2,3,7,5] X0
 ·obtain rfl:i=n:=CZ;((try revert hK K);(repeat'(first|refine Va X0 ?_|(refine V2 X0 ?_ ?_<;>try with_reducible intro hb)|(refine Xi ?_ ?_<;>try intro ht)|refine VD ?_ ?_|exact Xx|fail))<;>try with_reducible intro K hK)
  refine ax _ _ rfl ?_;clear ao ax Ql;repeat(first|refine Xu ?_)
  rw[cM,iq,yX,np];have o8:=Ti;have nL:∀ k ae,iG L k cls ae par i=[.var [.tree 1 (ints L),OJ k],.var [.lit (.slice none 0 0),.lit (.slice none 0 0),.lit (.slice none 0 0),OJ 0],.var [.ref 4 1 0 cls.length,.ref 5 4 0 ae.length,.lit (.slice none 0 0),OJ 2],.arr 1 (ints par),.arr 1 (rowsOf bm cls),.arr 4 (rowsOf aL ae)]:=λk ae=>by
   unfold iG;rw[cM,iq,yX,np]
  have sZ:∀ a,(cls.getD a default).length<=3:=λa=>by
   rcases Nat.lt_or_ge a cls.length with h|h
   ·exact((Cw _ (aF (d:=default) h)).1).2
   ·rw[az,List.getElem?_eq_none h];decide
  ((try revert hK K);(repeat'(first|refine Va X0 ?_|(refine V2 X0 ?_ ?_<;>try with_reducible intro hb)|(refine Xi ?_ ?_<;>try intro ht)|refine VD ?_ ?_|exact Xx|fail))<;>try with_reducible intro K hK)
  refine bd (λz:Nat×Nat×List Pr=>(⟨ar [(0,.ptr 0 0 0),(2,.ptr 1 0 0),(3,.ptr 2 0 0),(4,OJ i),(5,.ref 3 1 0 i),(10,OJ z.1)],iG L z.2.1 cls z.2.2 par i⟩:St))
   (λz=>z.1<=i/\z.2.1<=L.length/\(z.2.2.map (λp=>(p.fst,p.snd))=mI par i z.1/\z.2.2.length<=5*z.1)/\∀ p∈z.2.2,Ox cls p) (λz=>i-z.1) (0,k,[]) ⟨aS _,hk,⟨rfl,Fl⟩,Fl⟩ (by rw[nL];exact Xv X0) ?_
  clear hk k;rintro⟨a,k,ae⟩⟨ha,hk,⟨iM,Ci⟩,lX⟩Ql ao ax;dsimp only at ha hk iM Ci lX ⊢;by_cases oJ:a<i
  ·rw[nL];((try revert hK K);(repeat'(first|refine Va X0 ?_|(refine V2 X0 ?_ ?_<;>try with_reducible intro hb)|(refine Xi ?_ ?_<;>try intro ht)|refine VD ?_ ?_|exact Xx|fail))<;>try with_reducible intro K hK)
   refine bd (λz:Nat×Nat×List Pr=>(⟨ar [(0,.ptr 0 0 0),(2,.ptr 1 0 0),(3,.ptr 2 0 0),(4,OJ i),(5,.ref 3 1 0 i),(10,OJ a),(11,OJ z.1)],iG L z.2.1 cls z.2.2 par i⟩:St))
    (λz=>(a+1<=z.1/\z.1<=i)/\z.2.1<=L.length/\(z.2.2.map (λp=>(p.fst,p.snd))=mI par i a++rR par a (z.1-(a+1))/\z.2.2.length<=5*a+(z.1-(a+1)))/\∀ p∈z.2.2,Ox cls p) (λz=>i-z.1) (a+1,k,ae) ⟨⟨aU _,Ji⟩,hk,⟨by dsimp only;rw[iq];simp[rR,iM],Ji⟩,lX⟩ (by rw[nL];exact Xv X0) ?_
   clear hk iM Ci lX;rintro⟨q,k,ae⟩⟨⟨sY,Hx⟩,hk,⟨iM,Ci⟩,lX⟩du bE bG;dsimp only at sY Hx hk iM Ci lX ⊢;rw[nL];by_cases vA:q<i
   ·have I1:rR par a (q+1-(a+1))=rR par a (q-(a+1))++if par.getD q 0=a then [((a:Int),(q:Int))] else []:=by
     rw[show q+1-(a+1)=(q-(a+1))+1 by omega,rR,show a+1+(q-(a+1))=q by omega]
    generalize xG:par.getD q 0=pq at *;by_cases LQ:pq=a
    ·rw[if_pos LQ]at I1;have s1:=sZ a;have s2:=sZ q;generalize Oy:cls.getD a default=ca at *;generalize D2:cls.getD q default=cq at *;repeat'(first|((fail_if_success (first|refine eH 25 ?_|refine eI 25 ?_));refine Xr (X2 @xG @cM) ?_;intro K hK)|refine Xo (X2 @xG @cM) ?_|(refine hK _ ?_;clear hK K)|(refine Xg (X2 @xG @cM) ?_ ?_<;>try intro hb)|(refine Xi ?_ ?_<;>try intro ht)|refine Xy ?_|refine Xd ?_ ?_|exact Xx|fail)
     all_goals try(exfalso;omega)
     refine df (σ':=⟨ar [(0,.ptr 0 0 0),(2,.ptr 1 0 0),(3,.ptr 2 0 0),(4,OJ i),(5,.ref 3 1 0 i),(10,OJ a),(11,OJ q),(12,.ptr 6 0 0)],iG L k cls ae par i++[.var [OJ a,OJ q,OJ 1,.ref 7 1 0 0],.arr 1 []]⟩) ?_ ?_
     ·refine aH.trans (aH.zI 6 3 1 rfl rfl Fs) ?_;rw[nL];exact Xv X0
     rw[nL];simp only[e9,iH];have hP9:ca.length*cq.length<=9:=Nat.mul_le_mul s1 s2;have Oz:(ca.length:Int)*(cq.length:Int)=((ca.length*cq.length:Nat):Int):=by push_cast;rfl
     generalize hPP:ca.length*cq.length=P0 at *;((try revert hK K);(repeat'(first|refine Va (X4 @Oy @D2 @bm.eq_1 @Oz) ?_|(refine V2 (X4 @Oy @D2 @bm.eq_1 @Oz) ?_ ?_<;>try with_reducible intro hb)|(refine Xi ?_ ?_<;>try intro ht)|refine VD ?_ ?_|exact Xx|fail))<;>try with_reducible intro K hK)
     refine bd (λz:Nat×Nat×List Int=>(⟨ar [(0,.ptr 0 0 0),(2,.ptr 1 0 0),(3,.ptr 2 0 0),(4,OJ i),(5,.ref 3 1 0 i),(10,OJ a),(11,OJ q),(12,.ptr 6 0 0),(13,OJ z.1)],iG L z.2.1 cls ae par i++[.var [OJ a,OJ q,OJ 1,.ref 7 1 0 z.2.2.length],.arr 1 (ints z.2.2)]⟩:St))
      (λz=>z.1+z.2.2.length=P0/\z.2.1<=L.length/\∀ x∈z.2.2,0<=x/\x<=38) (λz=>z.1) (P0,k,[]) ⟨Fl,hk,Fl⟩ (by rw[nL];exact Xv X0) ?_
     clear hk;rintro⟨j,k,aC⟩⟨hj,hk,Ae⟩qH kE iB;dsimp only at hj hk Ae ⊢;rw[nL];simp only[e9,iH];by_cases hj0:0<j
     ·obtain⟨j',rfl⟩ :∃j',j=j'+1:=⟨j-1,CZ⟩;have zB:((j'+1:Nat):Int)-1=j':=CZ;have BV:=wY L k 3 (by unfold jv;omega) hk hL;have hxr:=wZ (L:=L) (k:=k) (n:=3) CZ;have mX:=vV hk;generalize nc L k 3=r1 at *;generalize kQ L k=k3 at *;have Ow:=wY L k3 20 (by unfold jv;omega) mX hL;have CC:=wZ (L:=L) (k:=k3) (n:=20) CZ;have yz:=vV mX;generalize nc L k3 20=r2 at *;generalize kQ L k3=k4 at *;have hmul:0<=r1*r2/\r1*r2<=38:=⟨Int.mul_nonneg CZ CZ,by
       have:=u6 (show r1<=2 by omega) (show r2<=19 by omega) CC.1 CZ;omega⟩
      generalize gU:r1*r2=rr at *;repeat'(first|((fail_if_success (first|refine eH 28 ?_|refine eI 28 ?_));refine Xr X0 ?_;intro K hK)|refine Xo X0 ?_|(refine hK _ ?_;clear hK K)|(refine Xg X0 ?_ ?_<;>try intro hb)|(refine Xi ?_ ?_<;>try intro ht)|refine Xy ?_|refine Xd ?_ ?_|exact Xx|fail)
      all_goals try(exfalso;omega)
      refine Ha (λs=>aH 1 s ⟨ar [(0,.ptr 0 0 0),(2,.ptr 1 0 0),(3,.ptr 2 0 0),(4,OJ i),(5,.ref 3 1 0 i),(10,OJ a),(11,OJ q),(12,.ptr 6 0 0),(13,OJ (j'+1:Nat))],iG L k4 cls ae par i++[.var [OJ a,OJ q,OJ 1,.ref 9 1 0 (aC.length+1)],.gone,.arr 1 [[OJ rr]],.arr 1 (ints (aC++[rr]))]⟩) ?_ ?_
      ·rintro s hs;repeat(first|refine Xu ?_)
       refine df hs ?_;rw[nL];simp only[e9,iH];((try revert hK K);(repeat'(first|refine Va @zB ?_|(refine V2 @zB ?_ ?_<;>try with_reducible intro hb)|(refine Xi ?_ ?_<;>try intro ht)|refine VD ?_ ?_|exact Xx|fail))<;>try with_reducible intro K hK)
       refine kE _ (j',k4,aC++[rr]) ⟨Jo,yz,λx hx=>?_⟩ Ji ?_
       ·rcases da.1 hx with hx|hx
        ·exact Ae x hx
        ·simp only[dI]at hx;subst hx;exact hmul
       ·rw[nL];simp only[e9,iH];exact Xs false [0,1,2,3,4,5,6,9] X0
      intro QQ key;clear kE iB;refine Sp 0 [] [3,5] (.take 0 (.take 1 (.take 2 (.take 3 (.take 4 (.take 5 (.take 6 (.take 7 (.take 8 (.take 9 (.take 10 .nil))))))))))) rfl Fs (by decide +kernel) ?_;simp(disch:=omega)only[Ac,↓Pc,simprocAttr,Hc,iA];repeat'(first|with_reducible refine c6 ?_ ?_|omega|with_reducible rfl|(refine KX (BV) rfl rfl rfl rfl (by(repeat'(first|exact trivial|refine c6 ?_ ?_))<;>first|exact .inl ⟨rfl,rfl⟩|exact .inr ⟨rfl,rfl⟩) ?_;simp(disch:=omega)only[Ac,↓Pc,simprocAttr,Hc,iA,gU])|(refine KX (Ow) rfl rfl rfl rfl (by(repeat'(first|exact trivial|refine c6 ?_ ?_))<;>first|exact .inl ⟨rfl,rfl⟩|exact .inr ⟨rfl,rfl⟩) ?_;simp(disch:=omega)only[Ac,↓Pc,simprocAttr,Hc,iA,gU]))
      all_goals refine key _ ?_
      all_goals rw[nL]
      all_goals simp only[e9,iH]
      all_goals exact Xv X0
     ·obtain rfl:j=0:=CZ;((try revert hK K);(repeat'(first|refine Va X0 ?_|(refine V2 X0 ?_ ?_<;>try with_reducible intro hb)|(refine Xi ?_ ?_<;>try intro ht)|refine VD ?_ ?_|exact Xx|fail))<;>try with_reducible intro K hK)
      refine iB _ _ rfl ?_;clear kE iB qH;repeat(first|refine Xu ?_)
      refine df (aH.DB 7 6 3 1 (rows:=ints aC) rfl rfl (by rw[xW];rfl) (x7 _) (Bf _)) ?_;refine df (σ':=⟨ar [(0,.ptr 0 0 0),(2,.ptr 1 0 0),(3,.ptr 2 0 0),(4,OJ i),(5,.ref 3 1 0 i),(10,OJ a),(11,OJ q),(12,.ptr 6 0 0)],iG L k cls ae par i++[.var (aL ⟨a,q,1,aC⟩),.gone]⟩) (by rw[nL];exact Xv @aL.eq_1) ?_;rw[nL];simp only[e9,iH];have aou:ae.length<100:=CZ;((try revert hK K);(repeat'(first|refine Va @aL.eq_1 ?_|(refine V2 @aL.eq_1 ?_ ?_<;>try with_reducible intro hb)|(refine Xi ?_ ?_<;>try intro ht)|refine VD ?_ ?_|exact Xx|fail))<;>try with_reducible intro K hK)
      refine bE _ (q+1,k,ae++[⟨a,q,1,aC⟩]) ⟨⟨Ji,Ji⟩,hk,⟨by dsimp only;rw[dJ,iM,I1,bw];rfl,by dsimp only;rw[bI];simp only[List.length_cons,List.length_nil];omega⟩,λx hx=>?_⟩ Ji ?_
      ·rcases da.1 hx with hx|hx
       ·exact lX x hx
       ·simp only[dI]at hx;subst hx;refine⟨rfl,⟨Ji,Ji,Ji⟩,?_,Ae⟩;dsimp only;rw[cF,cF,Oy,D2,Oz];omega
      ·rw[nL];rw[show rowsOf aL ae++[[AV.lit (.int .i64 a),AV.lit (.int .i64 q),AV.lit (.int .i64 1),AV.tree 1 (ints aC)]]=rowsOf aL (ae++[⟨a,q,1,aC⟩]) from Gn (enc:=aL) ae ⟨a,q,1,aC⟩];exact Xs false [0,1,2,3,4,9] X0
    ·rw[if_neg LQ,np]at I1;((try revert hK K);(repeat'(first|refine Va (X2 @xG @cM) ?_|(refine V2 (X2 @xG @cM) ?_ ?_<;>try with_reducible intro hb)|(refine Xi ?_ ?_<;>try intro ht)|refine VD ?_ ?_|exact Xx|fail))<;>try with_reducible intro K hK)
     all_goals try(exfalso;omega)
     exact bE _ (q+1,k,ae) ⟨⟨Ji,Ji⟩,hk,⟨by dsimp only;rw[I1];exact iM,Ji⟩,lX⟩ Ji (by rw[nL];exact Xv X0)
   ·obtain rfl:q=i:=CZ;((try revert hK K);(repeat'(first|refine Va X0 ?_|(refine V2 X0 ?_ ?_<;>try with_reducible intro hb)|(refine Xi ?_ ?_<;>try intro ht)|refine VD ?_ ?_|exact Xx|fail))<;>try with_reducible intro K hK)
    refine bG _ _ rfl ?_;clear bE bG du;repeat(first|refine Xu ?_)
    ((try revert hK K);(repeat'(first|refine Va X0 ?_|(refine V2 X0 ?_ ?_<;>try with_reducible intro hb)|(refine Xi ?_ ?_<;>try intro ht)|refine VD ?_ ?_|exact Xx|fail))<;>try with_reducible intro K hK)
    exact ao _ (a+1,k,ae) ⟨Ji,hk,⟨by dsimp only;rw[mI];exact iM,Ji⟩,lX⟩ Ji (by rw[nL];exact Xv X0)
  ·obtain rfl:a=i:=CZ;rw[nL];((try revert hK K);(repeat'(first|refine Va X0 ?_|(refine V2 X0 ?_ ?_<;>try with_reducible intro hb)|(refine Xi ?_ ?_<;>try intro ht)|refine VD ?_ ?_|exact Xx|fail))<;>try with_reducible intro K hK)
   refine ax _ _ rfl ?_;clear ao ax Ql;repeat(first|refine Xu ?_)
   ((try revert hK K);(repeat'(first|refine Vb X0 ?_|(refine V2 X0 ?_ ?_<;>try with_reducible intro hb)|(refine Xi ?_ ?_<;>try intro ht)|refine VD ?_ ?_|exact Xx|fail))<;>try with_reducible intro K hK)
   have hTr:ma ⟨cls,ae,[],2⟩ par:=⟨Ji,Ji,Ov,Cw,by dsimp only;rw[bz];exact iM,lX,rfl,rfl⟩;unfold lQ;simp only[gG,gv];simp(disch:=omega)only[Ac,↓Pc,simprocAttr];refine⟨_,_,⟨⟨cls,ae,[],2⟩,par,k,hTr,hk,rfl,rfl⟩,?_⟩;refine xS [0] true Fs ⟨⟨Fl,.inr rfl⟩,trivial⟩ Fs Fs (cC.agg _ _ rfl (nS.spec (R:=cC _ _ _ _) (cs:=ay ⟨cls,ae,[],2⟩) (ds:=[.ref 4 1 0 cls.length,.ref 5 4 0 ae.length,.lit (.slice none 0 0),OJ 2]) ⟨?_,?_,.snap _ _ rfl (dU.nil 4),.pure rfl,trivial⟩).2)
   ·first|exact .pure rfl|exact .eq rfl|exact .fz rfl (by simp only[Bc,Rc])
   ·first|exact .pure rfl|exact .eq rfl|exact .fz rfl (by simp only[Bc,Rc])
def afJ{m:aj}{par:List Int}(h:ma m par):Holds Tryz.prog 22 [.agg (ay m)] [] (.lit (.bool true)) []:=by
 have hn:=h.n;have cM:=h.vm.ae;have kF:∀ p,p∈m.ae->(p.aC.length:Int)<=9:=λp hp=>by
  obtain⟨_,h2,h3,_⟩:=h.pt p hp;have e1:=(h.cl _ (aF (l:=m.cls) (i:=p.fst.toNat) (d:=default) CZ)).1;have e2:=(h.cl _ (aF (l:=m.cls) (i:=p.snd.toNat) (d:=default) CZ)).1;rw[h3];have:((m.cls.getD p.fst.toNat default).length:Int)*((m.cls.getD p.snd.toNat default).length:Int)<=3*3:=u6 CZ CZ CZ CZ;omega
 have uK:rowsOf ej m.aK=[]:=by rw[h.ct];rfl
 refine Holds.aQ 89 0 [.tmp 2] Tryz.func22 ?_;((try revert hK K);(repeat'(first|refine Va X0 ?_|(refine V2 X0 ?_ ?_<;>try with_reducible intro hb)|(refine Xi ?_ ?_<;>try intro ht)|refine VD ?_ ?_|exact Xx|fail))<;>try with_reducible intro K hK)
 refine bd (λi:Nat=>(⟨ar [(1,.ptr 0 0 0),(3,OJ i)],[.var (ay m)]⟩:St)) (λi=>i<=m.cls.length) (λi=>m.cls.length-i) 0 (aS _) (Xv X0) ?_;rintro i hi Ql ao ax;by_cases aq:i<m.cls.length
 ·have bz:=h.cl _ (aF (l:=m.cls) (i:=i) (d:=default) aq);generalize bf:m.cls.getD i default=c at *;((try revert hK K);(repeat'(first|refine Va (X2 @bf @bm.eq_1) ?_|(refine V2 (X2 @bf @bm.eq_1) ?_ ?_<;>try with_reducible intro hb)|(refine Xi ?_ ?_<;>try intro ht)|refine VD ?_ ?_|exact Xx|fail))<;>try with_reducible intro K hK)
  refine bd (λk:Nat=>(⟨ar [(1,.ptr 0 0 0),(3,OJ i),(4,OJ k)],[.var (ay m)]⟩:St)) (λk=>k<=c.length) (λk=>c.length-k) 0 (aS _) (Xv X0) ?_;rintro k hk du bE bG;by_cases bc:k<c.length
  ·have cO:=bz.2 _ (aF (l:=c) (i:=k) (d:=default) bc);generalize mz:c.getD k default=o at *;have qF:o.ch.length<=1/\∀ x∈o.ch,0<=x.2/\x.2<=40:=by
    rcases cO with e|⟨r,x,e,e2,e3⟩
    ·rw[e];exact⟨Fs,λx hx=>by cases hx⟩
    ·rw[e];exact⟨Fl,λy hy=>by rw[dI]at hy;subst hy;dsimp only;omega⟩
   ((try revert hK K);(repeat'(first|refine Va (X4 @bf @bm.eq_1 @mz @cA.eq_1) ?_|(refine V2 (X4 @bf @bm.eq_1 @mz @cA.eq_1) ?_ ?_<;>try with_reducible intro hb)|(refine Xi ?_ ?_<;>try intro ht)|refine VD ?_ ?_|exact Xx|fail))<;>try with_reducible intro K hK)
   refine bd (λz:Nat×Int=>(⟨ar [(1,.ptr 0 0 0),(3,OJ i),(4,OJ k),(5,OJ z.2),(6,OJ z.1)],[.var (ay m)]⟩:St)) (λz=>z.1<=o.ch.length/\0<=z.2/\z.2<=40*(z.1:Int)) (λz=>o.ch.length-z.1) (0,0) ⟨aS _,Fs,Fs⟩ (Xv X0) ?_;rintro⟨j,n⟩⟨hj,kx,o8⟩qH kE iB;dsimp only at hj kx o8 ⊢;by_cases gx:j<o.ch.length
   ·have hx:=qF.2 _ (aF (l:=o.ch) (i:=j) (d:=default) gx);generalize cE:o.ch.getD j default=x at *;((try revert hK K);(repeat'(first|refine Va (X5 @bf @bm.eq_1 @mz @cA.eq_1 (X2 @cE @dt.eq_1)) ?_|(refine V2 (X5 @bf @bm.eq_1 @mz @cA.eq_1 (X2 @cE @dt.eq_1)) ?_ ?_<;>try with_reducible intro hb)|(refine Xi ?_ ?_<;>try intro ht)|refine VD ?_ ?_|exact Xx|fail))<;>try with_reducible intro K hK)
    all_goals try(exfalso;omega)
    exact kE _ (j+1,n+x.2) ⟨Ji,Ji,by dsimp only;push_cast;omega⟩ Ji (Xv X0)
   ·((try revert hK K);(repeat'(first|refine Va (X4 @bf @bm.eq_1 @mz @cA.eq_1) ?_|(refine V2 (X4 @bf @bm.eq_1 @mz @cA.eq_1) ?_ ?_<;>try with_reducible intro hb)|(refine Xi ?_ ?_<;>try intro ht)|refine VD ?_ ?_|exact Xx|fail))<;>try with_reducible intro K hK)
    refine iB _ _ rfl ?_;clear kE iB;repeat(first|refine Xu ?_)
    ((try revert hK K);(repeat'(first|refine Va X0 ?_|(refine V2 X0 ?_ ?_<;>try with_reducible intro hb)|(refine Xi ?_ ?_<;>try intro ht)|refine VD ?_ ?_|exact Xx|fail))<;>try with_reducible intro K hK)
    all_goals try(exfalso;omega)
    exact bE _ (k+1) CZ CZ (Xv X0)
  ·((try revert hK K);(repeat'(first|refine Va (X2 @bf @bm.eq_1) ?_|(refine V2 (X2 @bf @bm.eq_1) ?_ ?_<;>try with_reducible intro hb)|(refine Xi ?_ ?_<;>try intro ht)|refine VD ?_ ?_|exact Xx|fail))<;>try with_reducible intro K hK)
   refine bG _ _ rfl ?_;clear bE bG;repeat(first|refine Xu ?_)
   ((try revert hK K);(repeat'(first|refine Va X0 ?_|(refine V2 X0 ?_ ?_<;>try with_reducible intro hb)|(refine Xi ?_ ?_<;>try intro ht)|refine VD ?_ ?_|exact Xx|fail))<;>try with_reducible intro K hK)
   exact ao _ (i+1) CZ CZ (Xv X0)
 ·((try revert hK K);(repeat'(first|refine Va X0 ?_|(refine V2 X0 ?_ ?_<;>try with_reducible intro hb)|(refine Xi ?_ ?_<;>try intro ht)|refine VD ?_ ?_|exact Xx|fail))<;>try with_reducible intro K hK)
  refine ax _ _ rfl ?_;clear ao ax Ql;repeat(first|refine Xu ?_)
  ((try revert hK K);(repeat'(first|refine Va X0 ?_|(refine V2 X0 ?_ ?_<;>try with_reducible intro hb)|(refine Xi ?_ ?_<;>try intro ht)|refine VD ?_ ?_|exact Xx|fail))<;>try with_reducible intro K hK)
  refine bd (λi:Nat=>(⟨ar [(1,.ptr 0 0 0),(7,OJ i)],[.var (ay m)]⟩:St)) (λi=>i<=m.ae.length) (λi=>m.ae.length-i) 0 (aS _) (Xv X0) ?_;rintro i hi Ql ao ax;by_cases aq:i<m.ae.length
  ·have lX:=h.pt _ (aF (l:=m.ae) (i:=i) (d:=default) aq);have htn:=kF _ (aF (l:=m.ae) (i:=i) (d:=default) aq);generalize cg:m.ae.getD i default=p at *;((try revert hK K);(repeat'(first|refine Va (X2 @cg @aL.eq_1) ?_|(refine V2 (X2 @cg @aL.eq_1) ?_ ?_<;>try with_reducible intro hb)|(refine Xi ?_ ?_<;>try intro ht)|refine VD ?_ ?_|exact Xx|fail))<;>try with_reducible intro K hK)
   refine bd (λk:Nat=>(⟨ar [(1,.ptr 0 0 0),(7,OJ i),(8,OJ k)],[.var (ay m)]⟩:St)) (λk=>k<=p.aC.length) (λk=>p.aC.length-k) 0 (aS _) (Xv X0) ?_;rintro k hk du bE bG;by_cases bc:k<p.aC.length
   ·have hx:=lX.2.2.2 _ (aF (l:=p.aC) (i:=k) (d:=0) bc);generalize cE:p.aC.getD k 0=x at *;((try revert hK K);(repeat'(first|refine Va (X3 @cg @aL.eq_1 @cE) ?_|(refine V2 (X3 @cg @aL.eq_1 @cE) ?_ ?_<;>try with_reducible intro hb)|(refine Xi ?_ ?_<;>try intro ht)|refine VD ?_ ?_|exact Xx|fail))<;>try with_reducible intro K hK)
    all_goals try(exfalso;omega)
    exact bE _ (k+1) CZ CZ (Xv X0)
   ·((try revert hK K);(repeat'(first|refine Va (X2 @cg @aL.eq_1) ?_|(refine V2 (X2 @cg @aL.eq_1) ?_ ?_<;>try with_reducible intro hb)|(refine Xi ?_ ?_<;>try intro ht)|refine VD ?_ ?_|exact Xx|fail))<;>try with_reducible intro K hK)
    refine bG _ _ rfl ?_;clear bE bG;repeat(first|refine Xu ?_)
    ((try revert hK K);(repeat'(first|refine Va X0 ?_|(refine V2 X0 ?_ ?_<;>try with_reducible intro hb)|(refine Xi ?_ ?_<;>try intro ht)|refine VD ?_ ?_|exact Xx|fail))<;>try with_reducible intro K hK)
    exact ao _ (i+1) CZ CZ (Xv X0)
  ·((try revert hK K);(repeat'(first|refine Va X0 ?_|(refine V2 X0 ?_ ?_<;>try with_reducible intro hb)|(refine Xi ?_ ?_<;>try intro ht)|refine VD ?_ ?_|exact Xx|fail))<;>try with_reducible intro K hK)
   refine ax _ _ rfl ?_;clear ao ax Ql;repeat(first|refine Xu ?_)
   ((try revert hK K);(repeat'(first|refine Vb @uK ?_|(refine V2 @uK ?_ ?_<;>try with_reducible intro hb)|(refine Xi ?_ ?_<;>try intro ht)|refine VD ?_ ?_|exact Xx|fail))<;>try with_reducible intro K hK)
   exact aW rfl rfl
def qW(t:List Int)(a b:Int):Nat->List Int
 |0=>t
 |k+1=>if(qW t a b k).getD k 0=b then(qW t a b k).set k a else qW t a b k
def I2(t:List Int)(a b:Int):∀ k,(qW t a b k).length=t.length
 |0=>rfl
 |k+1=>by
  rw[qW];split
  ·rw[List.length_set];exact I2 t a b k
  ·exact I2 t a b k
def oS(cl:Nat->Nat->Nat)(n:Nat):Nat->List Int
 |0=>(aY n).map λ(i:Nat)=>(i:Int)
 |i+1=>qW (oS cl n i) ((oS cl n i).getD (cl i 0) 0) ((oS cl n i).getD (cl i 1) 0) n
def ac7(cl:Nat->Nat->Nat)(n:Nat):∀ i,(oS cl n i).length=n
 |0=>by rw[oS];simp
 |i+1=>by rw[oS,I2];exact ac7 cl n i
def okK(cl:Nat->Nat->Nat)(n k:Nat):Bool:=(aY k).all λi=>(oS cl n i).getD (cl i 0) 0 != (oS cl n i).getD (cl i 1) 0
def tF(n:Nat):Bool:=(Fc n).all λpar=>okK (Fe (mI par n n)) n (mI par n n).length
def amP:tF 1=true/\tF 2=true/\tF 3=true/\tF 4=true/\tF 5=true:=by
 refine⟨?_,?_,?_,?_,?_⟩<;>decide +kernel
def amQ{m:aj}{par:List Int}(h:ma m par){i:Nat}(hi:i<m.ae.length):(oS (ah m) m.cls.length i).getD (ah m i 0) 0≠(oS (ah m) m.cls.length i).getD (ah m i 1) 0:=by
 have hl:m.ae.length=(mI par m.cls.length m.cls.length).length:=by rw[<- h.fs,eu]
 have hp:=OA m.cls.length par h.pl λi hi=>h.pr i (by rw[h.pl];exact hi);obtain⟨g1,g2,g3,g4,g5⟩:=amP;have hn:=h.n;have key:tF m.cls.length=true:=by
  obtain e|e|e|e|e:m.cls.length=1\/m.cls.length=2\/m.cls.length=3\/m.cls.length=4\/m.cls.length=5:=CZ
  ·exact(congrArg tF e).trans g1
  ·exact(congrArg tF e).trans g2
  ·exact(congrArg tF e).trans g3
  ·exact(congrArg tF e).trans g4
  ·exact(congrArg tF e).trans g5
 rw[tF,e8]at key;have k2:=key par hp;rw[okK,e8,<- hl,<- ac9 h.fs]at k2;have k3:=k2 i (List.mem_range.2 hi);rwa [bne_iff_ne]at k3
def afK{m:aj}{par:List Int}(h:ma m par):Holds Tryz.prog 23 [.agg (ay m)] [] (.lit (.bool true)) []:=by
 have hn:=h.n;have cM:=h.vm.ae;have aA:=λi hi=>amQ h (i:=i) hi;have oA:∀ i,oS (ah m) m.cls.length (i+1)=qW (oS (ah m) m.cls.length i) ((oS (ah m) m.cls.length i).getD (ah m i 0) 0) ((oS (ah m) m.cls.length i).getD (ah m i 1) 0) m.cls.length:=λi=>rfl;have h0:oS (ah m) m.cls.length 0=(aY m.cls.length).map λ(i:Nat)=>(i:Int):=rfl;have lq:=ac7 (ah m) m.cls.length;generalize oS (ah m) m.cls.length=G at *;refine Holds.aQ 67 0 [.tmp 2] Tryz.func23 ?_;((try revert hK K);(repeat'(first|refine Va X0 ?_|(refine V2 X0 ?_ ?_<;>try with_reducible intro hb)|(refine Xi ?_ ?_<;>try intro ht)|refine VD ?_ ?_|exact Xx|fail))<;>try with_reducible intro K hK)
 refine bd (λi:Nat=>(⟨ar [(1,.ptr 0 0 0),(3,.ref 1 1 0 m.cls.length),(4,OJ i)],[.var (ay m),.arr 1 (ints (((aY i).map λ(i:Nat)=>(i:Int))++aI (m.cls.length-i) 0))]⟩:St)) (λi=>i<=m.cls.length) (λi=>m.cls.length-i) 0 (aS _) ?_ ?_
 ·simp only[List.range_zero,List.map_nil,iH,Nat.sub_zero];exact Xv X0
 rintro i hi Ql ao ax;by_cases aq:i<m.cls.length
 ·have ic:(((aY i).map λ(i:Nat)=>(i:Int))++aI (m.cls.length-i) 0).length=m.cls.length:=Jo;have dh:(((aY i).map λ(i:Nat)=>(i:Int))++aI (m.cls.length-i) 0).set i (i:Int)=((aY (i+1)).map λ(i:Nat)=>(i:Int))++aI (m.cls.length-(i+1)) 0:=by
   rw[List.set_append_right _ _ Fl,eu,List.length_range,iq,show m.cls.length-i=(m.cls.length-(i+1))+1 by omega,List.replicate_succ,List.set_cons_zero,List.range_succ,dJ,bw];rfl
  ((try revert hK K);(repeat'(first|refine Va (X2 @ic @ints_set) ?_|(refine V2 (X2 @ic @ints_set) ?_ ?_<;>try with_reducible intro hb)|(refine Xi ?_ ?_<;>try intro ht)|refine VD ?_ ?_|exact Xx|fail))<;>try with_reducible intro K hK)
  rw[dh];exact ao _ (i+1) CZ CZ (Xv X0)
 obtain rfl:i=m.cls.length:=CZ;rw[iq,yX,np,<- h0];((try revert hK K);(repeat'(first|refine Va X0 ?_|(refine V2 X0 ?_ ?_<;>try with_reducible intro hb)|(refine Xi ?_ ?_<;>try intro ht)|refine VD ?_ ?_|exact Xx|fail))<;>try with_reducible intro K hK)
 refine ax _ _ rfl ?_;clear ao ax Ql;repeat(first|refine Xu ?_)
 ((try revert hK K);(repeat'(first|refine Va X0 ?_|(refine V2 X0 ?_ ?_<;>try with_reducible intro hb)|(refine Xi ?_ ?_<;>try intro ht)|refine VD ?_ ?_|exact Xx|fail))<;>try with_reducible intro K hK)
 refine bd (λi:Nat=>(⟨ar [(1,.ptr 0 0 0),(3,.ref 1 1 0 m.cls.length),(5,OJ i)],[.var (ay m),.arr 1 (ints (G i))]⟩:St)) (λi=>i<=m.ae.length) (λi=>m.ae.length-i) 0 (aS _) (Xv X0) ?_;rintro i hi Ql ao ax;by_cases aq:i<m.ae.length
 ·have lX:=h.pt _ (aF (l:=m.ae) (i:=i) (d:=default) aq);have bX:=aA i aq;have Cj:=oA i;have vJ:=lq i;have e0:ah m i 0=(m.ae.getD i default).fst.toNat:=by unfold ah bN;rw[if_pos rfl]
  have e1:ah m i 1=(m.ae.getD i default).snd.toNat:=by unfold ah bN;rw[if_neg Fs]
  rw[e0,e1]at bX Cj;generalize cg:m.ae.getD i default=p at *;obtain⟨_,⟨q1,q2,q3⟩,_⟩:=lX;generalize G i=g at *;((try revert hK K);(repeat'(first|refine Va (X2 @cg @aL.eq_1) ?_|(refine V2 (X2 @cg @aL.eq_1) ?_ ?_<;>try with_reducible intro hb)|(refine Xi ?_ ?_<;>try intro ht)|refine VD ?_ ?_|exact Xx|fail))<;>try with_reducible intro K hK)
  all_goals try(exfalso;omega)
  have Bu:=ao;clear ao;generalize g.getD p.fst.toNat 0=a at *;generalize g.getD p.snd.toNat 0=b at *;refine bd (λk:Nat=>(⟨ar [(1,.ptr 0 0 0),(3,.ref 1 1 0 m.cls.length),(5,OJ i),(6,OJ a),(7,OJ b),(8,OJ k)],[.var (ay m),.arr 1 (ints (qW g a b k))]⟩:St)) (λk=>k<=m.cls.length) (λk=>m.cls.length-k) 0 (aS _) (by rw[show qW g a b 0=g from rfl];exact Xv X0) ?_;rintro k hk du bE bG;have cr:=I2 g a b k;rw[vJ]at cr;have pf:qW g a b (k+1)=if(qW g a b k).getD k 0=b then(qW g a b k).set k a else qW g a b k:=rfl;by_cases bc:k<m.cls.length
  ·generalize qW g a b k=r at *;generalize I3:r.getD k 0=x at *;by_cases ee:x=b
   ·rw[if_pos ee]at pf;((try revert hK K);(repeat'(first|refine Va (X3 @cr @I3 @ints_set) ?_|(refine V2 (X3 @cr @I3 @ints_set) ?_ ?_<;>try with_reducible intro hb)|(refine Xi ?_ ?_<;>try intro ht)|refine VD ?_ ?_|exact Xx|fail))<;>try with_reducible intro K hK)
    all_goals try(exfalso;omega)
    exact bE _ (k+1) CZ CZ (by rw[pf];exact Xv X0)
   ·rw[if_neg ee]at pf;((try revert hK K);(repeat'(first|refine Va (X3 @cr @I3 @ints_set) ?_|(refine V2 (X3 @cr @I3 @ints_set) ?_ ?_<;>try with_reducible intro hb)|(refine Xi ?_ ?_<;>try intro ht)|refine VD ?_ ?_|exact Xx|fail))<;>try with_reducible intro K hK)
    all_goals try(exfalso;omega)
    exact bE _ (k+1) CZ CZ (by rw[pf];exact Xv X0)
  ·obtain rfl:k=m.cls.length:=CZ;rw[<- Cj];((try revert hK K);(repeat'(first|refine Va X0 ?_|(refine V2 X0 ?_ ?_<;>try with_reducible intro hb)|(refine Xi ?_ ?_<;>try intro ht)|refine VD ?_ ?_|exact Xx|fail))<;>try with_reducible intro K hK)
   refine bG _ _ rfl ?_;clear bE bG;repeat(first|refine Xu ?_)
   ((try revert hK K);(repeat'(first|refine Va X0 ?_|(refine V2 X0 ?_ ?_<;>try with_reducible intro hb)|(refine Xi ?_ ?_<;>try intro ht)|refine VD ?_ ?_|exact Xx|fail))<;>try with_reducible intro K hK)
   exact Bu _ (i+1) CZ CZ (Xv X0)
 ·((try revert hK K);(repeat'(first|refine Va X0 ?_|(refine V2 X0 ?_ ?_<;>try with_reducible intro hb)|(refine Xi ?_ ?_<;>try intro ht)|refine VD ?_ ?_|exact Xx|fail))<;>try with_reducible intro K hK)
  refine ax _ _ rfl ?_;clear ao ax Ql;repeat(first|refine Xu ?_)
  ((try revert hK K);(repeat'(first|refine Vb X0 ?_|(refine V2 X0 ?_ ?_<;>try with_reducible intro hb)|(refine Xi ?_ ?_<;>try intro ht)|refine VD ?_ ?_|exact Xx|fail))<;>try with_reducible intro K hK)
  exact aW rfl rfl
end T

