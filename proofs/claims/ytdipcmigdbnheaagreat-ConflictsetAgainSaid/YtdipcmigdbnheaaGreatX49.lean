import Derived.Test.YtdipcmigdbnheaaGreatX45
import Derived.Test.YtdipcmigdbnheaaGreatX47
import Derived.Test.YtdipcmigdbnheaaGreatX48
set_option linter.all false
set_option maxHeartbeats 0
set_option maxRecDepth 20000
open List renaming isEmpty_iff→I2
open Nat renaming zero_le→aQ
open Go Go.Am Go.Proofs
namespace T
def YP:br:=⟨0,0,0,0,0,[(1,1099511627776)]⟩
def j8:aj:=⟨[[YP]],[],[],3⟩
def oY:VM j8:=fc.1 (by decide +kernel)
def yf:fo j8<=1000:=by decide +kernel
def CW:ic j8=([1],0):=by
 rw[Gm oY yf];decide +kernel
def YQ:yg j8 qY=false:=by decide +kernel
def YR:∀ x∈(tryD (bA j8 [1])).nodes,x.eI=[]/\x.dh=[]:=by
 have h:((tryD (bA j8 [1])).nodes.all λx=>x.eI.isEmpty&&x.dh.isEmpty)=true:=by decide +kernel
 intro x hx;have:=List.all_eq_true.1 h x hx;rw[Bool.and_eq_true,I2,I2]at this;exact this
def Nr:CB qY:=⟨aab,aab,λ_ h=>(by cases h),⟨aab,λ_ h=>(by cases h),λ_ h=>(by cases h),λ_ h=>(by cases h),λ_ h=>(by cases h),λ_ h=>(by cases h)⟩⟩
def Ns{m:aj}(hm:VM m)(hp:fo m<=1000){l:List Int}(h:su m l):CB (lK m l):=by
 have hl:=(h.ru hm).1;refine⟨by show l.length<_;omega,by unfold lK;dsimp only;rw[List.length_map];omega,λp cG=>?_,(Nt (r:=bA m l) (sv hm _) (show fo (bA m l)<=1000 by rw[yh hm];exact hp)).1⟩;unfold lK at cG;obtain⟨n,hn,rfl⟩:=List.mem_map.1 cG;have hv:VM (bA m (cY l n)):=sv hm _;have jD:=h.one n hn;have cE:fo (bA m (cY l n))<=1000:=by rw[yh hm];exact hp
 have h1:=(Gn hv cE (λe=>by
  have:=(Ag hv cE).2.2.1 e;unfold iA at jD;rw[decide_eq_true_eq]at jD;exact this jD)).1
 have:=h1.len;have:=hv.cls;omega
def Gp:an Tryz.prog 27 [] [] (.lit (.bool true)) []:=by
 have cD:=CX oY yf (by rw[CW]);have h1:=Gq j8 oY.mb;rw[show ig j8=([1],0) by unfold ig;rw[if_neg (by rw[fc.2 oY];simp)];exact CW]at h1;have h2:=YS j8 oY.mb (λ_=>yf);rw[show oZ j8=(lK j8 [1],0) by unfold oZ;rw[if_neg (by rw[fc.2 oY];simp),CW];rfl]at h2;rw[CW]at cD;have h3:=Nu j8 oY.mb (lK j8 [1]) (Ns oY yf cD) λ_ _=>Nv (bA j8 [1]) (tryD (bA j8 [1])).nodes YR rfl (wE oY [1]).mb (Ns oY yf cD).wF;rw[YT oY yf cD]at h3;have h4:=Nu j8 oY.mb qY Nr λ_ _=>Nv (bA j8 []) [] (λx hx=>by cases hx) rfl (wE oY []).mb Nr.wF;rw[YQ]at h4;have h5:=Nw [1] [1] aab;rw[show decide (([1]:List Int)=[1])=true from rfl]at h5;dsimp only at h1 h2;unfold qZ at h2 h3;unfold lK at h2 h3;dsimp only at h2 h3;generalize (tryD (bA j8 [1])).nodes=P at *;generalize ([1].map λn=>(tryD (bA j8 (cY [1] n))).plan)=S at *;refine an.aF 44 0 [.tmp 0] Tryz.func27 ?_;repeat'(first|((fail_if_success (first|refine eG 1 ?_|refine eH 1 ?_));refine Xr X0 ?_;intro K hK)|(refine hK _ ?_;clear hK K)|refine XY ?_|fail)
 refine Gk 6 aab ?_;intro K K1 hK uT;simp(disch:=omega)only[Ac,↓Pc,simprocAttr,List.take];refine uT _ ⟨ax [(11,.agg (av j8))],[]⟩ ?_ ?_
 ·refine aB.ak [] true _ _ aab trivial aab aab ⟨?_,trivial⟩;simp only[Kc,simprocAttr];refine aE.agg _ _ rfl (dS.spec (R:=aE _ _ _ _) (cs:=av j8) (ds:=[.ref 2 1 0 1,.lit (.slice none 0 0),.lit (.slice none 0 0),aa3 3]) ⟨.snap _ _ rfl ?_,.snap _ _ rfl (.nil 4),.snap _ _ rfl (.nil 4),.pure rfl,trivial⟩).2;exact b9.mk rfl rfl (gG aab) (eF _) ⟨⟨b9.mk rfl rfl (gG aab) (eF _) ⟨⟨.lit _,.lit _,.lit _,.lit _,.lit _,b9.mk rfl rfl (gG aab) (eF _) ⟨⟨.lit _,.lit _,trivial⟩,trivial⟩,trivial⟩,trivial⟩,trivial⟩,trivial⟩
 clear uT K1;simp(disch:=omega)only[Ac,↓Pc,simprocAttr,List.drop];refine hK _ ?_;clear hK K;generalize j8=m at *;repeat(refine Xu ?_)
 ((refine Vd X0 (X2 h1 h2) ?_)<;>try with_reducible intro K hK)
 (refine Xf [] (h5) ?_;simp(disch:=omega)only[Ac,↓Pc,simprocAttr])
 ((try revert hK K);(refine Vd X0 h3 ?_)<;>try with_reducible intro K hK)
 refine n6 [] h4 aab trivial ⟨.pure rfl,(aE.agg _ _ rfl (dS.spec (R:=aE _ _ _ _) (cs:=qZ qY) (ds:=[.lit (.slice none 0 0),.lit (.slice none 0 0),.lit (.slice none 0 0)]) ⟨aE.nil,aE.nil,aE.nil,trivial⟩).2),trivial⟩ rfl Jd ?_;simp(disch:=omega)only[Ac,↓Pc,simprocAttr];((try revert hK K);(refine Vb X0 ?_))
 all_goals exact aO rfl rfl
def YU{m:aj}(h:TM m):(ig m).2≠0/\oZ m=(qY,(ig m).2)\/(ig m).2=0/\VM m/\su m (ig m).1/\oZ m=(lK m (ig m).1,0):=by
 unfold ig oZ;by_cases hv:eJ m=0
 ·have hm:=fc.1 hv;rw[if_neg I6,if_neg I6];by_cases he:(ic m).2=0
  ·rw[if_neg I6];exact .inr ⟨he,hm,CX hm (h.nG hm) he,rfl⟩
  ·rw[if_pos he];exact .inl ⟨he,rfl⟩
 ·rw[if_pos hv,if_pos hv];exact .inl ⟨hv,rfl⟩
def aeM(tape:List Int):an Tryz.prog 10 [.tree 1 (ints tape)] [] (.lit (.bool true)) []:=by
 refine an.aF 81 0 [.tmp 2] Tryz.func10 ?_;repeat'(first|((fail_if_success (first|refine eG 3 ?_|refine eH 3 ?_));refine Xq X0 ?_;intro K hK)|refine Xo X0 ?_|refine Xc (YV _) ?_|refine Xc (Gp) ?_|(refine hK _ ?_;clear hK K)|(refine Xg X0 ?_ ?_<;>try intro hb)|(refine Xi ?_ ?_<;>try intro ht)|refine XY ?_|refine Xd ?_ ?_|exact Xx|fail)
 ·exact aO rfl rfl
 have hL:tape.length<1000000:=I6;have jl:=YW tape 0 (aQ _) hL;refine qW 2 aab _ rfl ?_;intro K hK;simp(disch:=omega)only[Ac,↓Pc,simprocAttr,List.take,List.drop];(refine Xn [] (YX tape) ?_;simp(disch:=omega)only[Ac,↓Pc,simprocAttr])
 unfold jm at jl;refine⟨rfl,(show ma Tryz.prog 28 [.ptr 0 0 0] (some 18) _ _ from ?_)⟩;refine zY [0] jl aab ⟨rfl,trivial⟩ ⟨.eq rfl,trivial⟩ ?_;rintro r os⟨m,k,hm,hk,rfl,rfl⟩;simp(disch:=omega)only[Ac,↓Pc,simprocAttr];refine hK _ ?_;clear hK K;repeat(first|refine Xu ?_)
 refine bP (σ':=⟨ax [(3,.ptr 0 0 0)],[.var (av m)]⟩) (Xs false [1] X0) ?_;clear jl hk k hL;have h2:=Gq m hm.om.mb;rcases YU hm with⟨he,hx⟩|⟨he,dH,cD,hx⟩
 ·clear hx;generalize ig m=rd at *;((try revert hK K);(repeat'(first|refine Vd (X2 @bne_self_eq_false.{0} @beq_self_eq_true.{0}) (X2 h2 Gp) ?_|(refine V2 (X2 @bne_self_eq_false.{0} @beq_self_eq_true.{0}) ?_ ?_<;>try with_reducible intro hb)|(refine Xi ?_ ?_<;>try intro ht)|refine VD ?_ ?_|exact Xx|fail))<;>try with_reducible intro K hK)
  all_goals try(exfalso;omega)
  all_goals exact aO rfl (by first|rfl|simp)
 ·clear hx;have ou:=cD.ru dH;have hlen:=ou.1;have dL:=ou.2;have hr:=dH.iS;have oW:VM (bA m (ig m).1):=wE dH _;have h3:=YY m dH (ig m).1;have h4:=Gq (bA m (ig m).1) oW.mb;have iR:ig (bA m (ig m).1)=((ig m).1,0):=by
   have e:ig m=ic m:=by unfold ig;rw[if_neg (by rw[fc.2 dH];simp)]
   rw[e]at he ⊢;unfold ig;rw[if_neg (by rw[fc.2 (wE dH (ic m).1)];simp)];exact YZ dH (hm.nG dH) he
  rw[iR]at h4;rw[he]at h2;have h5:=Nw (ig m).1 (ig m).1 I6;rw[decide_eq_true rfl]at h5;clear iR cD;generalize bA m (ig m).1=r2 at *;generalize (ig m).1=l at *;dsimp only at h4;((try revert hK K);(repeat'(first|refine Vc (X2 @bne_self_eq_false.{0} @beq_self_eq_true.{0}) h2 ?_|(refine V2 (X2 @bne_self_eq_false.{0} @beq_self_eq_true.{0}) ?_ ?_<;>try with_reducible intro hb)|(refine Xi ?_ ?_<;>try intro ht)|refine VD ?_ ?_|exact Xx|fail))<;>try with_reducible intro K hK)
  all_goals try(exfalso;omega)
  refine aW (λz:Nat=>(⟨ax [(3,.ptr 0 0 0),(4,.tree 1 (ints l)),(5,aa3 0),(6,.ref 1 1 0 m.rules.toNat),(7,aa3 z)],[.var (av m),.arr 1 (aY (gv m.rules (l.take z)))]⟩:St)) (λz=>z<=l.length) (λz=>l.length-z) 0 (aQ _) (by rw[List.take_zero,Nx];exact Xv @av.eq_1) ?_;intro k hk Ql aq au;have cr:=yi m.rules (l.take k);by_cases aJ:k<l.length
  ·have hx:=dL _ (aC (l:=l) (d:=(0:Int)) aJ);have ey:l.take (k+1)=l.take k++[l.getD k 0]:=iB aJ;have gr:=Ny (xs:=l.take k) hx.1 hx.2;rw[<- ey]at gr;generalize bG:l.getD k 0=x at *;generalize gv m.rules (l.take k)=bs at *;((try revert hK K);(repeat'(first|refine Va (X3 @bG @cr @gr) ?_|(refine V2 (X3 @bG @cr @gr) ?_ ?_<;>try with_reducible intro hb)|(refine Xi ?_ ?_<;>try intro ht)|refine VD ?_ ?_|exact Xx|fail))<;>try with_reducible intro K hK)
   all_goals try(exfalso;omega)
   all_goals try omega
   all_goals exact aq _ (k+1) I6 I6 (Xv @av.eq_1)
  ·obtain rfl:k=l.length:=I6;rw[List.take_length]at cr ⊢;repeat'(first|((fail_if_success (first|refine eG 14 ?_|refine eH 14 ?_));refine Xr X0 ?_;intro K hK)|refine Xo X0 ?_|(refine hK _ ?_;clear hK K)|(refine Xg X0 ?_ ?_<;>try intro hb)|(refine Xi ?_ ?_<;>try intro ht)|refine Xy ?_|refine Xd ?_ ?_|exact Xx|fail)
   refine au _ _ rfl ?_;clear aq au Ql;repeat(first|refine Xu ?_)
   generalize gv m.rules l=bs at *;refine bP (aB.Jr 6 1 1 (rows:=aY bs) rfl (by rw[vZ,cr];simp only[Kc,simprocAttr]) (zt _) (B1 _)) ?_;((try revert hK K);(repeat'(first|refine Vd (X3 @bne_self_eq_false.{0} @beq_self_eq_true.{0} @av.eq_1) (X4 h3 h4 h5 Gp) ?_|(refine V2 (X3 @bne_self_eq_false.{0} @beq_self_eq_true.{0} @av.eq_1) ?_ ?_<;>try with_reducible intro hb)|(refine Xi ?_ ?_<;>try intro ht)|refine VD ?_ ?_|exact Xx|fail))<;>try with_reducible intro K hK)
   all_goals try(exfalso;omega)
   all_goals exact aO rfl (by first|rfl|simp)
end T

