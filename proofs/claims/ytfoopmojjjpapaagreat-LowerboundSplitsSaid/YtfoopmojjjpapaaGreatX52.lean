import Derived.Test.YtfoopmojjjpapaaGreatX51
import Derived.Test.YtfoopmojjjpapaaGreatX47
import Derived.Test.YtfoopmojjjpapaaGreatX43
set_option linter.all false
set_option maxHeartbeats 0
set_option maxRecDepth 20000
open Bool renaming not_eq_true→vF,not_true→iH
open Nat renaming zero_le→aP
open List renaming mem_cons→bu,not_mem_nil→iI
open Go Go.Am Go.Proofs
namespace T
def ahm{m:ah}{l:List Int}{k:Int}(h:xE m l k=0):VM m/\(∀ c∈l,0<=c/\c<m.cls.length)/\(0<=k/\k<=64)/\l.Nodup/\ke m l<=20000:=by
 unfold xE at h;by_cases h1:gv m=0;rotate_left
 ·rw[if_pos h1]at h;exact absurd h h1
 rw[if_neg (by rw[h1];simp)]at h;by_cases h2:yH m.cls.length l=true
 ·rw[if_pos h2]at h;cases h
 rw[if_neg h2]at h;by_cases h3:k<0\/64<k
 ·rw[if_pos h3]at h;cases h
 rw[if_neg h3]at h;by_cases h4:wa l=true
 ·rw[if_pos h4]at h;cases h
 rw[if_neg h4]at h;by_cases h5:rY m.cls l 1 1=false
 ·rw[if_pos h5]at h;cases h
 rw[Bool.not_eq_false]at h5;have h6:=MG l 1 1 h5 Hg;refine⟨kf.1 h1,λc hc=>?_,Ey,UU (by rwa [vF]at h4),Ey⟩;obtain⟨j,hj,rfl⟩:=List.getElem_of_mem hc;have:=UW (by rwa [vF]at h2) hj;rwa [List.getD_eq_getElem?_getD,List.getElem?_eq_getElem hj]at this
def ap3(tape raw:List Int)(rounds:Int)(UX:cY rounds):Holds Tryz.prog 6 [.tree 1 (ints tape),.tree 1 (ints raw),QM rounds] [] (.lit (.bool true)) []:=by
 refine Holds.aM 132 0 [.tmp 6] Tryz.func6 ?_;repeat'(first|((fail_if_success (first|refine dW 3 ?_|refine dX 3 ?_));refine Xq X0 ?_;intro K hK)|refine Xo X0 ?_|refine Xc (ahn _) ?_|refine Xc (UY) ?_|(refine hK _ ?_;clear hK K)|(refine Xg X0 ?_ ?_<;>try intro hb)|(refine Xi ?_ ?_<;>try intro ht)|refine XY ?_|refine Xd ?_ ?_|exact Xx|fail)
 all_goals try(exact aN rfl rfl)
 have hL:tape.length<1000000:=Ey;have ap4:raw.length<=30:=Ey;have uF:=aho tape 0 (aP _) hL;unfold gY at uF;repeat'(first|((fail_if_success (first|refine dW 4 ?_|refine dX 4 ?_));refine Xq X0 ?_;intro K hK)|refine Xo X0 ?_|refine Xc (UZ tape) ?_|(refine hK _ ?_;clear hK K)|(refine Xg X0 ?_ ?_<;>try intro hb)|(refine Xi ?_ ?_<;>try intro ht)|refine Xy ?_|refine Xd ?_ ?_|exact Xx|fail)
 (refine Xn [] (UZ tape) ?_;simp(disch:=omega)only[Ac,↓Pc,simprocAttr])
 repeat'(first|((fail_if_success (first|refine dW 4 ?_|refine dX 4 ?_));refine Xr X0 ?_;intro K hK)|refine Xo X0 ?_|(refine hK _ ?_;clear hK K)|(refine Xg X0 ?_ ?_<;>try intro hb)|(refine Xi ?_ ?_<;>try intro ht)|refine Xy ?_|refine Xd ?_ ?_|exact Xx|fail)
 refine oC 1 Hg _ rfl ?_;intro K hK;simp(disch:=omega)only[Ac,↓Pc,simprocAttr,List.take,List.drop];refine⟨rfl,(show kd Tryz.prog 11 [.ptr 0 0 0] (some 35) _ _ from ?_)⟩;refine zU [0] uF Hg ⟨rfl,trivial⟩ ⟨.eq rfl,trivial⟩ ?_;rintro r os⟨m,k,hm,hk,rfl,rfl⟩;simp(disch:=omega)only[Ac,↓Pc,simprocAttr,List.drop];refine hK _ ?_;clear hK K uF;have mG:=hm.om.mb;have hf5:=hm.om.qT;repeat'(first|((fail_if_success (first|refine dW 5 ?_|refine dX 5 ?_));refine Xr X0 ?_;intro K hK)|refine Xo X0 ?_|(refine hK _ ?_;clear hK K)|(refine Xg X0 ?_ ?_<;>try intro hb)|(refine Xi ?_ ?_<;>try intro ht)|refine Xy ?_|refine Xd ?_ ?_|exact Xx|fail)
 refine bP (aD.uK 8 1 (cells:=ao m) QI (by simp only[Kc,simprocAttr]) (by simp[ao])) ?_;((try revert hK K);(repeat'(first|refine Va X0 ?_|(refine V2 X0 ?_ ?_<;>try with_reducible intro hb)|(refine Xi ?_ ?_<;>try intro ht)|refine VD ?_ ?_|exact Xx|fail))<;>try with_reducible intro K hK)
 refine bP (aD.TF (a:=none) (cap:=0) 9 1 (by simp only[Kc,simprocAttr])) ?_;refine aQ (λz:Nat×Nat×List Int=>(⟨ar [(1,.tree 1 (ints raw)),(2,QM rounds),(7,.ptr 0 0 0),(8,.b6 (ao m)),(9,.tree 1 (ints z.2.2)),(10,QM z.1)],[gY tape z.2.1]⟩:St))
  (λz=>z.1<=m.cls.length/\z.2.1<=tape.length/\z.2.2.length<=z.1) (λz=>m.cls.length-z.1) (0,k,[]) ⟨aP _,hk,Nat.le_refl _⟩ ?_ ?_
 ·unfold gY;exact Xs false [0] @ao.eq_1
 rintro⟨i,k,lv⟩⟨hi,hk,jT⟩Ql ak aq;dsimp only at hi hk jT ⊢;by_cases au:i<m.cls.length
 ·have nk:=Dk tape k 2 (by unfold cY;decide) Hg hk hL;have bw:=fJ hk;unfold gY;((try revert hK K);(repeat'(first|refine Va X0 ?_|(refine V2 X0 ?_ ?_<;>try with_reducible intro hb)|(refine Xi ?_ ?_<;>try intro ht)|refine VD ?_ ?_|exact Xx|fail))<;>try with_reducible intro K hK)
  refine jf [0] nk Hg ⟨rfl,trivial⟩ ⟨.eq rfl,.pure rfl,trivial⟩ ?_;generalize cQ tape k=k2 at *;generalize BE tape k 2=b at *;have iW:(ints lv).length=lv.length:=by simp[ints]
  have eL:[AV.lit (.int .i64 i)]::ints lv=ints ((i:Int)::lv):=rfl;cases b
  ·((try revert hK K);(repeat'(first|refine Va X0 ?_|(refine V2 X0 ?_ ?_<;>try with_reducible intro hb)|(refine Xi ?_ ?_<;>try intro ht)|refine VD ?_ ?_|exact Xx|fail))<;>try with_reducible intro K hK)
   exact ak _ (i+1,k2,lv) ⟨Hi,bw,Hi⟩ Hi (by unfold gY;exact Xv X0)
  ·((try revert hK K);(repeat'(first|refine Va (X2 @iW @eL) ?_|(refine V2 (X2 @iW @eL) ?_ ?_<;>try with_reducible intro hb)|(refine Xi ?_ ?_<;>try intro ht)|refine VD ?_ ?_|exact Xx|fail))<;>try with_reducible intro K hK)
   have jU:1+lv.length=lv.length+1:=Ey;exact ak _ (i+1,k2,(i:Int)::lv) ⟨Hi,bw,by simp only[List.length_cons];omega⟩ Hi (by unfold gY;exact Xs true [0] (X2 @ao.eq_1 @jU))
 ·((try revert hK K);(repeat'(first|refine Va X0 ?_|(refine V2 X0 ?_ ?_<;>try with_reducible intro hb)|(refine Xi ?_ ?_<;>try intro ht)|refine VD ?_ ?_|exact Xx|fail))<;>try with_reducible intro K hK)
  refine aq _ _ rfl ?_;clear ak aq;repeat(first|refine Xu ?_)
  refine bP (σ':=⟨ar [(1,.tree 1 (ints raw)),(2,QM rounds),(8,.b6 (ao m)),(9,.tree 1 (ints lv))],[]⟩) (Xs false [] @ao.eq_1) ?_;((try revert hK K);(repeat'(first|refine Va X0 ?_|(refine V2 X0 ?_ ?_<;>try with_reducible intro hb)|(refine Xi ?_ ?_<;>try intro ht)|refine VD ?_ ?_|exact Xx|fail))<;>try with_reducible intro K hK)
  refine bP (aD.Ik 51 0 1 (rows:=eO [raw,lv]) rfl (by rw[show(eO [raw,lv]).length=2 from rfl];simp only[Kc,simprocAttr]) (SO _) (SN _)) ?_;have uL:∀ l∈[raw,lv],l.length<1000:=λl hl=>by
   simp only[bu,iI,or_false]at hl;rcases hl with rfl|rfl<;>omega
  have pW:[raw,lv].length=2:=rfl;generalize [raw,lv]=ls at *;refine aQ (λi:Nat=>(⟨ar [(2,QM rounds),(8,.b6 (ao m)),(51,.tree 1 (eO ls)),(52,QM 2),(53,QM i)],[]⟩:St)) (λi=>i<=2) (λi=>2-i) 0 (aP _) ?_ ?_
  ·exact Xs false [] @ao.eq_1
  rintro i hi Ql ak aq;by_cases au:i<2
  ·have xF:=uL _ (aF (l:=ls) (i:=i) (d:=[]) Ey);have BF:(eO ls)[i]?=some [.tree 1 (ints (ls.getD i []))]:=Hv ls i Ey;have eY:(eO ls).length=2:=by rw[EI];exact pW
   generalize U0:ls.getD i []=l at *;have hmd:=U1 rounds 3 (by unfold cY;omega);have hmr:=U2 rounds 3 Ey;have xG:∀ k∈[rounds,xH rounds 3],cY k:=λk hk=>by
    simp only[bu,iI,or_false]at hk;rcases hk with rfl|rfl
    ·exact UX
    ·unfold cY;omega
   generalize xH rounds 3=r2 at *;((try revert hK K);(repeat'(first|refine Vc (X3 @BF @eY @U0) hmd ?_|(refine V2 (X3 @BF @eY @U0) ?_ ?_<;>try with_reducible intro hb)|(refine Xi ?_ ?_<;>try intro ht)|refine VD ?_ ?_|exact Xx|fail))<;>try with_reducible intro K hK)
   refine bP (aD.Ik 60 0 1 (rows:=ints [rounds,r2]) rfl (by rw[show(ints [rounds,r2]).length=2 from rfl];simp only[Kc,simprocAttr]) (uw _) (xn _)) ?_;have bw:[rounds,r2].length=2:=rfl;generalize [rounds,r2]=ks at *;refine aQ (λj:Nat=>(⟨ar [(2,QM rounds),(8,.b6 (ao m)),(12,.tree 1 (ints l)),(51,.tree 1 (eO ls)),(52,QM 2),(53,QM i),(60,.tree 1 (ints ks)),(61,QM 2),(62,QM j)],[]⟩:St)) (λj=>j<=2) (λj=>2-j) 0 (aP _) ?_ ?_
   ·exact Xs false [] @ao.eq_1
   rintro j hj cR bg bm;by_cases fI:j<2
   ·have U3:=xG _ (aF (l:=ks) (i:=j) (d:=0) Ey);generalize BG:ks.getD j 0=k at *;have pF:=ahq m l k mG xF U3;have he:=ahr m l k mG Ey U3;unfold Il at pF;by_cases hz:xE m l k=0
    ·obtain⟨b8,vW,zZ,hz3,hz4⟩:=ahm hz;rw[if_neg (by rw[hz];simp)]at pF;rw[hz]at he;have Im:b9 m=fZ m:=by unfold b9;rw[if_pos (kf.2 b8)]
     obtain⟨n,hc,iy,uM,oD,pX⟩:=U4 (rounds:=k) b8 vW hz3 hz4;have hlen:=Dl m k l (b9 m) [];rw[List.length_nil,Nat.zero_add]at hlen;rw[<- Im]at pF;generalize eH m k l (b9 m) []=Q at *;have dY:=pX.pb b8 Ey;have wc:=ahu b8 Ey pX Ey hc uM;have lZ:=U5 m Q mG dY (U6 pX);rw[U7,hc]at lZ;rw[hc]at pF;have hA:=ahv m mG;have h7:Holds Tryz.prog 18 [.agg (ao m),.tree 1 (rowsOf aA (b9 m)),.lit (.slice none 0 0)] [] (.bC [QM (cp m (b9 m) []).1,QM (cp m (b9 m) []).2]) []:=Holds.MH (pre:=[.agg (ao m),.tree 1 (rowsOf aA (b9 m))]) (post:=[]) (U8 m (b9 m) [] mG (U9 mG) Hg);generalize (cp m (b9 m) []).1=o at *;generalize (cp m (b9 m) []).2=oe at *;generalize b9 m=al at *;have d1:decide (n<o)=false:=decide_eq_false Ey;dsimp only at lZ pF;((try revert hK K);(repeat'(first|refine Vc (X5 @BG @bw @aJ.eq_1 @bne_self_eq_false.{0} (X2 @iH @d1)) (X5 pF he lZ hA (X2 h7 wc)) ?_|(refine V2 (X5 @BG @bw @aJ.eq_1 @bne_self_eq_false.{0} (X2 @iH @d1)) ?_ ?_<;>try with_reducible intro hb)|(refine Xi ?_ ?_<;>try intro ht)|refine VD ?_ ?_|exact Xx|fail))<;>try with_reducible intro K hK)
     all_goals try(exfalso;omega)
     all_goals exact bg _ (j+1) Ey Ey (Xs false [] @ao.eq_1)
    ·rw[if_pos hz]at pF;generalize xE m l k=e at *;have zZ:(e != 0)=true:=by simp[hz]
     ((try revert hK K);(repeat'(first|refine Vc (X4 @BG @bw @zZ @bne_self_eq_false.{0}) (X2 pF he) ?_|(refine V2 (X4 @BG @bw @zZ @bne_self_eq_false.{0}) ?_ ?_<;>try with_reducible intro hb)|(refine Xi ?_ ?_<;>try intro ht)|refine VD ?_ ?_|exact Xx|fail))<;>try with_reducible intro K hK)
     all_goals try(exfalso;omega)
     all_goals exact bg _ (j+1) Ey Ey (Xs false [] @ao.eq_1)
   ·((try revert hK K);(repeat'(first|refine Va X0 ?_|(refine V2 X0 ?_ ?_<;>try with_reducible intro hb)|(refine Xi ?_ ?_<;>try intro ht)|refine VD ?_ ?_|exact Xx|fail))<;>try with_reducible intro K hK)
    refine bm _ _ rfl ?_;clear bg bm cR;repeat(first|refine Xu ?_)
    ((try revert hK K);(repeat'(first|refine Va X0 ?_|(refine V2 X0 ?_ ?_<;>try with_reducible intro hb)|(refine Xi ?_ ?_<;>try intro ht)|refine VD ?_ ?_|exact Xx|fail))<;>try with_reducible intro K hK)
    exact ak _ (i+1) Ey Ey (Xs false [] @ao.eq_1)
  ·((try revert hK K);(repeat'(first|refine Va X0 ?_|(refine V2 X0 ?_ ?_<;>try with_reducible intro hb)|(refine Xi ?_ ?_<;>try intro ht)|refine VD ?_ ?_|exact Xx|fail))<;>try with_reducible intro K hK)
   refine aq _ _ rfl ?_;clear ak aq Ql;repeat(first|refine Xu ?_)
   ((try revert hK K);(repeat'(first|refine Vd X0 UY ?_|(refine V2 X0 ?_ ?_<;>try with_reducible intro hb)|(refine Xi ?_ ?_<;>try intro ht)|refine VD ?_ ?_|exact Xx|fail))<;>try with_reducible intro K hK)
   exact aN rfl rfl
end T

