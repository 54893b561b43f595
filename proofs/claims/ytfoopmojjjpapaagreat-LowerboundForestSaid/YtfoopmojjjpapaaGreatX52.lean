import Derived.Test.YtfoopmojjjpapaaGreatX50
import Derived.Test.YtfoopmojjjpapaaGreatX51
import Derived.Test.YtfoopmojjjpapaaGreatX49
import Derived.Test.YtfoopmojjjpapaaGreatX45
set_option linter.all false
set_option maxHeartbeats 0
set_option maxRecDepth 20000
open Nat renaming zero_le→aS
open Bool renaming not_true→km,not_false→lG
open And renaming intro→c6
open List renaming getD_eq_getElem?_getD→az,getElem?_replicate→CU
open Go Go.Am Go.Proofs
namespace T
def anr{n:Int}(h:(Lit.int .u8 n).wf=true):0<=n/\n<=255:=by
 simp[Lit.wf,IntKind.min,IntKind.max,IntKind.signed,IntKind.bits]at h;omega
def ans(tape:List Int)(rounds:Int)(Tf:0<=rounds/\rounds<=255):Holds Tryz.prog 4 [.tree 1 (ints tape),.lit (.int .u8 rounds)] [] (.lit (.bool true)) []:=by
 refine Holds.aQ 107 0 [.tmp 4] Tryz.func4 ?_;repeat'(first|((fail_if_success (first|refine eH 3 ?_|refine eI 3 ?_));refine Xq X0 ?_;intro K hK)|refine Xo X0 ?_|refine Xc (afH _) ?_|refine Xc (Tg) ?_|(refine hK _ ?_;clear hK K)|(refine Xg X0 ?_ ?_<;>try intro hb)|(refine Xi ?_ ?_<;>try intro ht)|refine XY ?_|refine Xd ?_ ?_|exact Xx|fail)
 ·exact aW rfl rfl
 have hL:tape.length<1000000:=CZ;have Bv:=afI tape 0 (aS _) hL;unfold vC at Bv;repeat'(first|((fail_if_success (first|refine eH 4 ?_|refine eI 4 ?_));refine Xq X0 ?_;intro K hK)|refine Xo X0 ?_|refine Xc (Th tape) ?_|(refine hK _ ?_;clear hK K)|(refine Xg X0 ?_ ?_<;>try intro hb)|(refine Xi ?_ ?_<;>try intro ht)|refine Xy ?_|refine Xd ?_ ?_|exact Xx|fail)
 (refine Xn [] (Th tape) ?_;simp(disch:=omega)only[Ac,↓Pc,simprocAttr])
 repeat'(first|((fail_if_success (first|refine eH 4 ?_|refine eI 4 ?_));refine Xr X0 ?_;intro K hK)|refine Xo X0 ?_|(refine hK _ ?_;clear hK K)|(refine Xg X0 ?_ ?_<;>try intro hb)|(refine Xi ?_ ?_<;>try intro ht)|refine Xy ?_|refine Xd ?_ ?_|exact Xx|fail)
 refine px 1 Fs _ rfl ?_;intro K hK;simp(disch:=omega)only[Ac,↓Pc,simprocAttr,List.take,List.drop];refine⟨rfl,(show lr Tryz.prog 21 [.ptr 0 0 0] (some 24) _ _ from ?_)⟩;refine KO [0] Bv Fs ⟨rfl,trivial⟩ ⟨.eq rfl,trivial⟩ ?_;rintro r os⟨m,par,k,hm,hk,rfl,rfl⟩;simp(disch:=omega)only[Ac,↓Pc,simprocAttr,List.drop];refine hK _ ?_;clear hK K Bv;have cf:=hm.vm;have qx:=cf.mb;have Ti:=hm.n;have Kx:=afJ hm;have zd:=afK hm;repeat'(first|((fail_if_success (first|refine eH 5 ?_|refine eI 5 ?_));refine Xr X0 ?_;intro K hK)|refine Xo X0 ?_|(refine hK _ ?_;clear hK K)|(refine Xg X0 ?_ ?_<;>try intro hb)|(refine Xi ?_ ?_<;>try intro ht)|refine Xy ?_|refine Xd ?_ ?_|exact Xx|fail)
 refine df (aH.Bz 6 1 (cells:=ay m) OI (by simp only[Kc,simprocAttr]) (by simp[ay])) ?_;refine df (σ':=⟨ar [(1,.lit (.int .u8 rounds)),(5,.ptr 0 0 0),(6,.cj (ay m))],[vC tape k]⟩) (by unfold vC;exact Xs false [0] X0) ?_;repeat'(first|((fail_if_success (first|refine eH 7 ?_|refine eI 7 ?_));refine Xq @km ?_;intro K hK)|refine Xo @km ?_|refine Xc (Kx) ?_|refine Xc (zd) ?_|(refine hK _ ?_;clear hK K)|(refine Xg @km ?_ ?_<;>try intro hb)|(refine Xi ?_ ?_<;>try intro ht)|refine Xy ?_|refine Xd ?_ ?_|exact Xx|fail)
 all_goals try(exfalso;omega)
 have K0:=afL m cf tape k hk hL;have BA:=afM (L:=tape) (m:=m) (k:=k);have eJ:=K3 (L:=tape) (cls:=m.cls) m.cls.length k hk;generalize kB tape m.cls m.cls.length k=X at *;obtain⟨S,k1⟩:=X;dsimp only at K0 BA eJ;have BC:=BA.1;have jG:bM (bq 1 [0]) (.arr 1 (fV 2 S))=.arr 1 (fV 2 S):=by
  rw[bM,Tj (bq 1 [0]) S 2 2 (λj hj=>by unfold bq;simp;omega)]
 refine qw ?_;intro K hK;simp(disch:=omega)only[Ac,↓Pc,simprocAttr];unfold vC at K0;refine tU [0] K0 Fs ⟨rfl,trivial⟩ ⟨.eq rfl,.pure rfl,trivial⟩ ?_;simp(disch:=omega)only[Ac,↓Pc,simprocAttr,jG,Tk];refine hK _ ?_;clear hK K;repeat(first|refine Xu ?_)
 ((try revert hK K);(repeat'(first|refine Va X0 ?_|(refine V2 X0 ?_ ?_<;>try with_reducible intro hb)|(refine Xi ?_ ?_<;>try intro ht)|refine VD ?_ ?_|exact Xx|fail))<;>try with_reducible intro K hK)
 refine bd (λi:Nat=>(⟨ar [(1,.lit (.int .u8 rounds)),(5,.ptr 0 0 0),(6,.cj (ay m)),(7,.ref 1 1 0 m.cls.length),(8,OJ i)],nO (.var [.tree 1 (ints tape),OJ (gm tape S k1 i).2]) (fV 2 S) (gm tape S k1 i).1⟩:St))
  (λi=>i<=m.cls.length) (λi=>m.cls.length-i) 0 (aS _) (by rw[show gm tape S k1 0=(S,k1) from rfl,<- BC];unfold nO;exact Xv X0) ?_
 rintro i hi Ql ao ax;have BD:=K4 (L:=tape) (S:=S) (k:=k1) i;have zO:=congrArg List.length BD;simp only[List.length_map]at zO;have eC:=Tl (S:=S) eJ i;by_cases aq:i<m.cls.length
 ·have iU:=zP 2 S i CZ;have c7:=K5 (L:=tape) (S:=S) (k:=k1) (j:=i) i (Nat.le_refl _);have oA:gm tape S k1 (i+1)=((gm tape S k1 i).1.set i (((gm tape S k1 i).1.getD i default).set (nc tape (gm tape S k1 i).2 ((gm tape S k1 i).1.getD i default).length).toNat true),kQ tape (gm tape S k1 i).2):=rfl;have bz:=(hm.cl _ (aF (l:=m.cls) (i:=i) (d:=default) aq)).1;have GH:=BA.2 i CZ;rw[c7]at oA;have f2:=GJ (.var [.tree 1 (ints tape),OJ (kQ tape (gm tape S k1 i).2)]) (fV 2 S) (Y:=(gm tape S k1 i).1) (i:=i) CZ;rw[c7]at f2;have f1:=GJ (.var [.tree 1 (ints tape),OJ (gm tape S k1 i).2]) (fV 2 S) (Y:=(gm tape S k1 i).1) (i:=i) CZ;rw[c7]at f1;generalize gm tape S k1 i=Y at *;obtain⟨Y,k2⟩:=Y;dsimp only at *;generalize wX:S.getD i default=w at *;have K6:=wY tape k2 (w.length:Int) (by unfold jv;omega) eC hL;have DI:=wZ (L:=tape) (k:=k2) (n:=(w.length:Int)) CZ;have f3:=λr2=>Tm (.var [.tree 1 (ints tape),OJ (kQ tape k2)]) (fV 2 S) Y i r2;generalize nc tape k2 (w.length:Int)=v at *;generalize kQ tape k2=k3 at *;repeat'(first|((fail_if_success (first|refine eH 11 ?_|refine eI 11 ?_));refine Xr (X2 @yi @iU) ?_;intro K hK)|refine Xo (X2 @yi @iU) ?_|(refine hK _ ?_;clear hK K)|(refine Xg (X2 @yi @iU) ?_ ?_<;>try intro hb)|(refine Xi ?_ ?_<;>try intro ht)|refine Xy ?_|refine Xd ?_ ?_|exact Xx|fail)
  refine Sp 0 [] [10] (.take 0 (.take 1 (.take 2 (.take 3 (.take 4 (.take 5 (.take 6 (.take 7 (.take 8 (.take 9 (.take 10 (.take 11 (.take 12 .nil))))))))))))) rfl Fs (by decide +kernel) ?_;have wV:(2+i==0)=false:=Fl;have vq:(nO (.var [.tree 1 (ints tape),OJ k2]) (fV 2 S) Y).set 0 (.var [.tree 1 (ints tape),OJ k3])=nO (.var [.tree 1 (ints tape),OJ k3]) (fV 2 S) Y:=rfl;simp(disch:=omega)only[Ac,↓Pc,simprocAttr,Hc,iA,yi,iU,f1,wV,lG];repeat'(first|with_reducible refine c6 ?_ ?_|omega|with_reducible rfl)
  (refine KX (K6) rfl rfl rfl rfl (by(repeat'(first|exact trivial|refine c6 ?_ ?_))<;>first|exact .inl ⟨rfl,rfl⟩|exact .inr ⟨rfl,rfl⟩) ?_;simp(disch:=omega)only[Ac,↓Pc,simprocAttr,Hc,iA,yi,iU,vq,f2,f3,wV,lG,r9])
  repeat'(first|with_reducible refine c6 ?_ ?_|omega|with_reducible rfl)
  repeat(first|refine Xu ?_)
  ((try revert hK K);(repeat'(first|refine Va X0 ?_|(refine V2 X0 ?_ ?_<;>try with_reducible intro hb)|(refine Xi ?_ ?_<;>try intro ht)|refine VD ?_ ?_|exact Xx|fail))<;>try with_reducible intro K hK)
  exact ao _ (i+1) CZ CZ (by rw[oA];exact Xv X0)
 ·obtain rfl:i=m.cls.length:=CZ;have K7:cP m (gm tape S k1 m.cls.length).1:=K8 BA BD;have afN:∀ c,c<m.cls.length->∃ o,o<aD m c/\((gm tape S k1 m.cls.length).1.getD c default).getD o false=true:=λc hc=>by
   obtain⟨o,o1,o2⟩:=Tn (L:=tape) (S:=S) (k:=k1) (λr hr=>by
    obtain⟨j,hj,rfl⟩:=List.getElem_of_mem hr;have h1:=BA.2 j hj;rw[az,List.getElem?_eq_getElem hj,Option.getD_some]at h1;have:=(hm.cl _ (aF (l:=m.cls) (i:=j) (d:=default) CZ)).1;omega) m.cls.length CZ c hc
   rw[BA.2 c CZ]at o1;exact⟨o,o1,o2⟩
  have pf:fV 2 S=fV 2 (gm tape S k1 m.cls.length).1:=To 2 BD.symm;have K9:(gm tape S k1 m.cls.length).1.length=m.cls.length:=CZ;generalize gm tape S k1 m.cls.length=Y at *;obtain⟨Y,k2⟩:=Y;dsimp only at *;rw[pf];((try revert hK K);(repeat'(first|refine Va @yi ?_|(refine V2 @yi ?_ ?_<;>try with_reducible intro hb)|(refine Xi ?_ ?_<;>try intro ht)|refine VD ?_ ?_|exact Xx|fail))<;>try with_reducible intro K hK)
  refine ax _ _ rfl ?_;clear ao ax Ql;repeat(first|refine Xu ?_)
  refine df (aH.Tp 7 (λ_=>False) (v:=.tree 1 (rowsOf aE Y)) (os2:=List.replicate (2+Y.length) .gone) (by rw[List.length_replicate];exact(Tq _ _ _).symm) (λi o hi=>.inr ⟨id,?_⟩) ?_) ?_
  ·have hl:=(List.getElem?_eq_some_iff.1 hi).1;rw[CU,if_pos];rwa [Tq]at hl
  ·simp only[Kc,simprocAttr];rw[<- K9];exact Ts (yi _ _ _) id (BE 2 Y) λa ha=>⟨2+a,zP 2 Y a ha,GJ _ _ ha,id⟩
  refine df (σ':=⟨ar [(1,.lit (.int .u8 rounds)),(6,.cj (ay m)),(7,.tree 1 (rowsOf aE Y))],[]⟩) (Xs false [] @ay.eq_1) ?_;generalize iN:1+rounds.tmod 9=k at *;have hk9:1<=k/\k<=9:=by rw[<- iN,Int.tmod_eq_emod_of_nonneg Tf.1];omega
  have K':IntKind.i64.wrap (rounds.tmod 9)=rounds.tmod 9:=wQ ⟨by show(-9223372036854775808:Int)<=_;omega,by show _<=(9223372036854775807:Int);omega⟩;have GK:∀ c,c<m.cls.length->∃ o,o<aD m c/\((dR m).getD c default).getD o false=true:=λc hc=>by
   have bz:=(hm.cl _ (aF (l:=m.cls) (i:=c) (d:=default) hc)).1;refine⟨0,by unfold aD;omega,?_⟩;have ha:dR m=dy m:=by unfold dR;rw[if_pos (oB.2 cf)]
   rw[ha];unfold dy;rw[gn _ _ _ hc,az,CU,if_pos CZ];rfl
  obtain⟨m1,v1⟩:=Tt hm K7 afN (k:=k) CZ;obtain⟨m2,v2⟩:=Tt hm (GL cf) GK (k:=k) CZ;have Tu:=Tv cf K7;have Tw:jv k:=by unfold jv;omega
  have hM:=Tx m Y k qx Tu Tw m1;have Tz:=La (X:=jH m Y k) (m:=m) (left:=Y) (by rw[v1]);have hV:=Lb m Y (jH m Y k) qx Tu CZ;have GH:=TA m k qx Tw m2;have hWi:=TB m Y cf K7;have hWa:=TB m (dR m) cf (GL cf);have hA:=afQ m qx;rw[v1]at hV;rw[v2]at GH;generalize jH m Y k=X1 at *;generalize nF (jH m (dR m) k)=Q at *;generalize w0 m Y=w1 at *;generalize w0 m (dR m)=w2 at *;generalize dR m=al at *;dsimp only at hV GH;have uy:∀ t:TypeDesc,(some t).isSome=true:=λ_=>rfl;repeat'(first|((fail_if_success (first|refine eH 16 ?_|refine eI 16 ?_));refine Xq (X4 @iN @K' @uy @cB.eq_1) ?_;intro K hK)|refine Xo (X4 @iN @K' @uy @cB.eq_1) ?_|refine Xc (hM) ?_|refine Xc (hV) ?_|refine Xc (GH) ?_|(refine hK _ ?_;clear hK K)|(refine Xg (X4 @iN @K' @uy @cB.eq_1) ?_ ?_<;>try intro hb)|(refine Xi ?_ ?_<;>try intro ht)|refine Xy ?_|refine Xd ?_ ?_|exact Xx|fail)
  all_goals try(exfalso;omega)
  ((try revert hK K);(repeat'(first|refine Vd (X3 @uy @beq_self_eq_true.{0} @decide_true) (X4 hWi hA hWa Tg) ?_|(refine V2 (X3 @uy @beq_self_eq_true.{0} @decide_true) ?_ ?_<;>try with_reducible intro hb)|(refine Xi ?_ ?_<;>try intro ht)|refine VD ?_ ?_|exact Xx|fail))<;>try with_reducible intro K hK)
  exact aW rfl rfl
end T

