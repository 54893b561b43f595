import Derived.Test.YtfoopmojjjpapaaGreatX51
import Derived.Test.YtfoopmojjjpapaaGreatX45
set_option linter.all false
set_option maxHeartbeats 0
set_option maxRecDepth 20000
open List renaming take→iv,drop→eC,mem_cons→bj,not_mem_nil→gU
open Nat renaming zero_le→aT
open Go Go.Am Go.Proofs
namespace T
def af4(L:List Int)(k:Nat)(hk:k<=L.length)(hL:L.length<1000000):
  cQ Tryz.prog 11 [.ptr 0 0 0] [gv L k] (λr os=>∃ m k',DE m/\k'<=L.length/\r=.agg (ao m)/\os=[gv L k']):=by
 have Xf:=gD L k 8 (by unfold cS;omega) hk hL;have hv:=jB (L:=L) (k:=k) (n:=8) Ix;have bd:=eQ hk;generalize dN L k 8=v at *;generalize cj L k=k2 at *;clear hk;unfold gv at *;refine cQ.aK 18 1 [.cell 2 32] Tryz.func11 ?_;((try revert hK K);(repeat'(first|refine Va X0 ?_|(refine V2 X0 ?_ ?_<;>try with_reducible intro hb)|(refine Xi ?_ ?_<;>try intro ht)|refine VD ?_ ?_|exact Xx|fail))<;>try with_reducible intro K hK)
 (refine Xn [0] (Xf) ?_;simp(disch:=omega)only[Ac,↓Pc,simprocAttr])
 have yB:∀ (env:Nat->AV) (m:ah) (k':Nat),DE m->k'<=L.length->env 2=.ptr 1 0 0->eH Tryz.prog 1 [.cell 2 32] (λr os=>∃ m k',DE m/\k'<=L.length/\r=.agg (ao m)/\os=[.var [.tree 1 (ints L),N0 k']]) .ret ⟨env,[.var [.tree 1 (ints L),N0 k'],.var (ao m)]⟩:=by
  intro env m k' fJ ba kl;unfold eH;simp only[dx,dv,kl];simp(disch:=omega)only[Ac,↓Pc,simprocAttr,kl];refine⟨_,_,⟨m,k',fJ,ba,rfl,rfl⟩,?_⟩;exact Xw true [0] X0
 clear Xf;by_cases ni:v=0
 ·repeat'(first|((fail_if_success (first|refine ei 3 ?_|refine ej 3 ?_));refine Xr X0 ?_;intro K hK)|refine Xo X0 ?_|(refine hK _ ?_;clear hK K)|(refine Xg X0 ?_ ?_<;>try intro hb)|(refine Xi ?_ ?_<;>try intro ht)|refine Xy ?_|refine Xd ?_ ?_|exact Xx|fail)
  have sJ:=af5 L k2 3 3 bd hL NI NI NI;unfold gv at sJ;refine aeM 2 0 NI _ _ rfl rfl ?_;intro K hK;simp(disch:=omega)only[Ac,↓Pc,simprocAttr,iv,eC];refine⟨rfl,(show jz Tryz.prog 37 [.ptr 0 0 0,N0 (3:Nat),N0 (3:Nat)] (some 9) _ _ from ?_)⟩;refine yd [0] sJ NI ⟨rfl,trivial⟩ ⟨.eq rfl,.pure rfl,.pure rfl,trivial⟩ ?_;rintro r os⟨m,k,hm,hk,rfl,rfl⟩;have xf:=hm;have Xj:=af6 3 NI L k m hm.vm hm.pD hk hL;unfold gv at Xj;simp(disch:=omega)only[Ac,↓Pc,simprocAttr];refine⟨rfl,(show jz Tryz.prog 36 [.ptr 0 0 0,.agg (ao m)] (some 10) _ _ from ?_)⟩;refine yd [0] Xj NI ⟨rfl,trivial⟩ ⟨.eq rfl,.pure rfl,trivial⟩ ?_;rintro r os⟨m2,k,hm,hk,rfl,rfl⟩;simp(disch:=omega)only[Ac,↓Pc,simprocAttr];refine hK _ ?_;clear hK K;((try revert hK K);(repeat'(first|refine Va X0 ?_|(refine V2 X0 ?_ ?_<;>try with_reducible intro hb)|(refine Xi ?_ ?_<;>try intro ht)|refine VD ?_ ?_|exact Xx|fail))<;>try with_reducible intro K hK)
  refine yB _ m2 k ⟨hm.om.mono NI,?_⟩ hk (by simp only[Kc,simprocAttr]);have h3:=KR (b:=3) NI m.cls (λl hl=>(xf.some l hl).2);have h4:3^m.cls.length<=3^3:=Nat.pow_le_pow_right NI xf.pD;rcases hm.cl with e|⟨x,hx,e⟩
  ·rw[e];omega
  ·have h5:=hm.om.opt x (by rw[e];simp);rw[e,Xm];have h6:vL m.cls*max 1 x.length<=27*25:=Nat.mul_le_mul Ix Ix;omega
 by_cases kN:v=1\/v=2
 ·have BL:=af7 L k2 bd hL;unfold gv at BL;repeat'(first|((fail_if_success (first|refine ei 6 ?_|refine ej 6 ?_));refine Xr X0 ?_;intro K hK)|refine Xo X0 ?_|(refine hK _ ?_;clear hK K)|(refine Xg X0 ?_ ?_<;>try intro hb)|(refine Xi ?_ ?_<;>try intro ht)|refine Xy ?_|refine Xd ?_ ?_|exact Xx|fail)
  all_goals try(exfalso;omega)
  all_goals
   refine nf 1 NI _ rfl ?_;intro K hK;simp(disch:=omega)only[Ac,↓Pc,simprocAttr,iv,eC];refine⟨rfl,(show jz Tryz.prog 21 [.ptr 0 0 0] (some 15) _ _ from ?_)⟩;refine yd [0] BL NI ⟨rfl,trivial⟩ ⟨.eq rfl,trivial⟩ ?_;rintro r os⟨m,par,k,hm,hk,rfl,rfl⟩;simp(disch:=omega)only[Ac,↓Pc,simprocAttr];refine hK _ ?_;clear hK K;((try revert hK K);(repeat'(first|refine Va X0 ?_|(refine V2 X0 ?_ ?_<;>try with_reducible intro hb)|(refine Xi ?_ ?_<;>try intro ht)|refine VD ?_ ?_|exact Xx|fail))<;>try with_reducible intro K hK)
   exact yB _ m k (.of hm.KS λl hl=>by have:=(hm.cl l hl).1;omega) hk (by simp only[Kc,simprocAttr])
 ·have Xp:=af8 L k2 bd hL;unfold gv at Xp;repeat'(first|((fail_if_success (first|refine ei 7 ?_|refine ej 7 ?_));refine Xr X0 ?_;intro K hK)|refine Xo X0 ?_|(refine hK _ ?_;clear hK K)|(refine Xg X0 ?_ ?_<;>try intro hb)|(refine Xi ?_ ?_<;>try intro ht)|refine Xy ?_|refine Xd ?_ ?_|exact Xx|fail)
  all_goals try(exfalso;omega)
  all_goals
   refine nf 1 NI _ rfl ?_;intro K hK;simp(disch:=omega)only[Ac,↓Pc,simprocAttr,iv,eC];refine⟨rfl,(show jz Tryz.prog 33 [.ptr 0 0 0] (some 17) _ _ from ?_)⟩;refine yd [0] Xp NI ⟨rfl,trivial⟩ ⟨.eq rfl,trivial⟩ ?_;rintro r os⟨m,k,hm,hk,rfl,rfl⟩;simp(disch:=omega)only[Ac,↓Pc,simprocAttr];refine hK _ ?_;clear hK K;((try revert hK K);(repeat'(first|refine Va X0 ?_|(refine V2 X0 ?_ ?_<;>try with_reducible intro hb)|(refine Xi ?_ ?_<;>try intro ht)|refine VD ?_ ?_|exact Xx|fail))<;>try with_reducible intro K hK)
   exact yB _ m k (.of ⟨hm.vm.mb,by have:=hm.pD;omega,λl hl=>by have:=hm.opt l hl;omega⟩ hm.opt) hk (by simp only[Kc,simprocAttr])
def yC:List (List cg)->Int->Int
 |[],n=>n
 |l::r,n=>if n<10000 then yC r (n*l.length) else n
def af9(m:ah)(hm:VM m):Holds Tryz.prog 19 [.agg (ao m)] [] (N0 (min (yC m.cls 1) 10000)) []:=by
 have qE:=hm.cls;generalize au:yC m.cls 1=res;refine Holds.aK 26 0 [.tmp 2] Tryz.func19 ?_;((try revert hK K);(repeat'(first|refine Vb X0 ?_|(refine V2 X0 ?_ ?_<;>try with_reducible intro hb)|(refine Xi ?_ ?_<;>try intro ht)|refine VD ?_ ?_|exact Xx|fail))<;>try with_reducible intro K hK)
 refine aU (λz:Nat×Int=>(⟨an [(1,.ptr 0 0 0),(3,N0 z.2),(4,N0 z.1)],[.var (ao m)]⟩:St)) (λz=>z.1<=m.cls.length/\(0<=z.2/\z.2<=240000)/\yC (m.cls.drop z.1) z.2=res) (λz=>m.cls.length-z.1) (0,1) ⟨aT _,⟨NI,NI⟩,au⟩ (Xv X0) ?_;rintro⟨i,n⟩⟨hi,⟨lS,mq⟩,hr⟩Ql ak ar;dsimp only at hi lS mq hr ⊢;by_cases aq:i<m.cls.length/\n<10000
 ·obtain⟨aq,Xt⟩:=aq;have uH:=hm.opt _ (aG (l:=m.cls) (i:=i) (d:=default) aq);rw[j2 m.cls i default aq,yC,if_pos Xt]at hr;generalize bc:m.cls.getD i default=c at *;have sR:0<=n*(c.length:Int):=Int.mul_nonneg lS Ix;have uk:n*(c.length:Int)<=10000*24:=Int.mul_le_mul Ix Ix Ix Ix;generalize zH:n*(c.length:Int)=nc at *;((try revert hK K);(repeat'(first|refine Va (X3 @bc @aQ.eq_1 @zH) ?_|(refine V2 (X3 @bc @aQ.eq_1 @zH) ?_ ?_<;>try with_reducible intro hb)|(refine Xi ?_ ?_<;>try intro ht)|refine VD ?_ ?_|exact Xx|fail))<;>try with_reducible intro K hK)
  exact ak _ (i+1,nc) ⟨NQ,⟨sR,NQ⟩,hr⟩ NQ (Xv X0)
 ·have jL:n=res:=by
   rw[<- hr];by_cases h1:i<m.cls.length
   ·rw[j2 m.cls i default h1,yC,if_neg Ix]
   ·rw[List.drop_eq_nil_of_le Ix,yC]
  subst jL;((try revert hK K);(repeat'(first|refine Va X0 ?_|(refine V2 X0 ?_ ?_<;>try with_reducible intro hb)|(refine Xi ?_ ?_<;>try intro ht)|refine VD ?_ ?_|exact Xx|fail))<;>try with_reducible intro K hK)
  all_goals try(exfalso;omega)
  all_goals
   refine ar _ _ rfl ?_;clear ak ar Ql;repeat(first|refine Xu ?_)
   ((try revert hK K);(repeat'(first|refine Vb X0 ?_|(refine V2 X0 ?_ ?_<;>try with_reducible intro hb)|(refine Xi ?_ ?_<;>try intro ht)|refine VD ?_ ?_|exact Xx|fail))<;>try with_reducible intro K hK)
   exact Xw true [] X0
def af'(m:ah)(left:List (List Bool))(rounds:Int)(lv:MB m)(lW:BB left)(hr:cS rounds):
  Holds Tryz.prog 16 [.agg (ao m),.tree 1 (rowsOf aA left),N0 rounds] [] (N0 (nK m left rounds)) []:=by
 have hv:=KT m left [] lv lW NI;have h1:Holds Tryz.prog 18 [.agg (ao m),.tree 1 (rowsOf aA left),.lit (.slice none 0 0)] [] (.bu [N0 (bQ m left []).1,N0 (bQ m left []).2]) []:=Holds.Dj (pre:=[.agg (ao m),.tree 1 (rowsOf aA left)]) (post:=[]) hv;have vM:=GR m left;unfold nK;generalize bQ m left []=v at *;obtain⟨n,e⟩:=v;have he:e=kn m left:=by
  by_cases h:kn m left≠0
  ·rw[if_pos h]at vM;exact congrArg Prod.snd vM
  ·rw[if_neg h]at vM;have:=congrArg Prod.snd vM;dsimp only at this;omega
 subst he;dsimp only at h1;generalize kn m left=e at *;unfold cS at hr;by_cases h0:e≠0
 ·rw[if_pos h0];refine Holds.aK 24 0 [.tmp 6] Tryz.func16 ?_;((try revert hK K);(repeat'(first|refine Vd X0 h1 ?_|(refine V2 X0 ?_ ?_<;>try with_reducible intro hb)|(refine Xi ?_ ?_<;>try intro ht)|refine VD ?_ ?_|exact Xx|fail))<;>try with_reducible intro K hK)
  all_goals try(exfalso;omega)
  all_goals exact aS rfl rfl
 ·rw[if_neg h0];have h0:e=0:=Ix;subst h0;by_cases h2:rounds<0\/64<rounds
  ·rw[if_pos h2];refine Holds.aK 24 0 [.tmp 6] Tryz.func16 ?_;((try revert hK K);(repeat'(first|refine Vd @bne_self_eq_false.{0} h1 ?_|(refine V2 @bne_self_eq_false.{0} ?_ ?_<;>try with_reducible intro hb)|(refine Xi ?_ ?_<;>try intro ht)|refine VD ?_ ?_|exact Xx|fail))<;>try with_reducible intro K hK)
   all_goals try(exfalso;omega)
   all_goals exact aS rfl rfl
  ·rw[if_neg h2];refine Holds.aK 24 0 [.tmp 6] Tryz.func16 ?_;((try revert hK K);(repeat'(first|refine Vd @bne_self_eq_false.{0} h1 ?_|(refine V2 @bne_self_eq_false.{0} ?_ ?_<;>try with_reducible intro hb)|(refine Xi ?_ ?_<;>try intro ht)|refine VD ?_ ?_|exact Xx|fail))<;>try with_reducible intro K hK)
   all_goals try(exfalso;omega)
   all_goals exact aS rfl rfl
def XA{m:ah}{left:List (List Bool)}{r:Int}(h:nK m left r=0):kn m left=0/\(bQ m left []).2=0:=by
 unfold nK at h;split at h
 ·rename_i h0;exact absurd h h0
 ·rename_i h0;refine⟨Ix,?_⟩;rw[GR,if_neg h0]
def aga{m:ah}{left:List (List Bool)}{r:Int}(h:nK m left r=0):VM m/\df m left/\(bQ m left (nj m left r)).1<=DF m left:=by
 obtain⟨h1,h2⟩:=XA h;obtain⟨hv,hf⟩:=GF h1;have h3:=(KU (m:=m) (left:=left) r h2).1;obtain⟨_,h4,h5⟩:=XB h3;refine⟨hv,hf,agb hv h5 λplan hp eP=>?_⟩;rw[h4]at h3 ⊢;unfold iO at h3 ⊢;split at h3
 ·cases h3
 ·split at h3
  ·cases h3
  ·rename_i h6 h7;rw[if_neg h6,if_neg h7];exact agc hv hp left hf eP _ λx hx=>by
    cases hb:iC m x with
    |true=>rfl
    |false=>exact absurd (List.all_eq_false.2 ⟨x,hx,by simp[hb]⟩) h7
def xg(l:List (List Bool)):List AV:=[.tree 1 (rowsOf aA l)]
instance:Row xg 1:=⟨λ_=>rfl,λC v hv=>by
 unfold xg at hv;rw[List.mem_singleton]at hv;subst hv;exact .inr ⟨_,_,rfl⟩⟩
def al5(tape:List Int)(raw:List (List Bool))(rounds:Int)(agd:BB raw)(XC:cS rounds):Holds Tryz.prog 3 [.tree 1 (ints tape),.tree 1 (rowsOf aA raw),N0 rounds] [] (.lit (.bool true)) []:=by
 refine Holds.aK 114 0 [.tmp 6] Tryz.func3 ?_;repeat'(first|((fail_if_success (first|refine ei 3 ?_|refine ej 3 ?_));refine Xq X0 ?_;intro K hK)|refine Xo X0 ?_|refine Xc (aez _) ?_|refine Xc (XD) ?_|(refine hK _ ?_;clear hK K)|(refine Xg X0 ?_ ?_<;>try intro hb)|(refine Xi ?_ ?_<;>try intro ht)|refine XY ?_|refine Xd ?_ ?_|exact Xx|fail)
 all_goals try(exact aS rfl rfl)
 have hL:tape.length<1000000:=Ix;have al6:raw.length<=50:=Ix;repeat'(first|((fail_if_success (first|refine ei 4 ?_|refine ej 4 ?_));refine Xq X0 ?_;intro K hK)|refine Xo X0 ?_|refine Xc (TE tape) ?_|(refine hK _ ?_;clear hK K)|(refine Xg X0 ?_ ?_<;>try intro hb)|(refine Xi ?_ ?_<;>try intro ht)|refine Xy ?_|refine Xd ?_ ?_|exact Xx|fail)
 (refine Xn [] (TE tape) ?_;simp(disch:=omega)only[Ac,↓Pc,simprocAttr])
 repeat'(first|((fail_if_success (first|refine ei 4 ?_|refine ej 4 ?_));refine Xr X0 ?_;intro K hK)|refine Xo X0 ?_|(refine hK _ ?_;clear hK K)|(refine Xg X0 ?_ ?_<;>try intro hb)|(refine Xi ?_ ?_<;>try intro ht)|refine Xy ?_|refine Xd ?_ ?_|exact Xx|fail)
 have sJ:=af4 tape 0 (aT _) hL;unfold gv at sJ;refine nf 1 NI _ rfl ?_;intro K hK;simp(disch:=omega)only[Ac,↓Pc,simprocAttr,iv,eC];refine⟨rfl,(show jz Tryz.prog 11 [.ptr 0 0 0] (some 32) _ _ from ?_)⟩;refine yd [0] sJ NI ⟨rfl,trivial⟩ ⟨.eq rfl,trivial⟩ ?_;rintro r os⟨m,k,⟨hm,_⟩,hk,rfl,rfl⟩;simp(disch:=omega)only[Ac,↓Pc,simprocAttr,eC];refine hK _ ?_;clear hK K sJ;repeat'(first|((fail_if_success (first|refine ei 5 ?_|refine ej 5 ?_));refine Xr X0 ?_;intro K hK)|refine Xo X0 ?_|(refine hK _ ?_;clear hK K)|(refine Xg X0 ?_ ?_<;>try intro hb)|(refine Xi ?_ ?_<;>try intro ht)|refine Xy ?_|refine Xd ?_ ?_|exact Xx|fail)
 have lv:=hm.mb;have hf5:=hm.pD;have XE:=hm.opt;refine cr (aF.Bv 8 1 (cells:=ao m) NZ (by simp only[Kc,simprocAttr]) (by simp[ao])) ?_;have hA:=age m lv;have hAb:=XF lv;have DG:=agh m Ix (λl hl=>by have:=XE l hl;omega) tape k hk hL;unfold gv at DG;have zX:BB (ly tape m.cls m.cls.length k).1:=⟨by rw[xh];omega,λr hr=>by
  obtain⟨i,hi,rfl⟩:=List.getElem_of_mem hr;have h1:=XG (L:=tape) (cls:=m.cls) m.cls.length k i (by rwa [xh]at hi);rw[List.getD_eq_getElem?_getD,List.getElem?_eq_getElem hi,Option.getD_some]at h1;rw[xh]at hi;have:=XE _ (aG (l:=m.cls) (i:=i) (d:=default) hi);omega⟩
 generalize ly tape m.cls m.cls.length k=lf at *;obtain⟨lf,k2⟩:=lf;dsimp only at DG zX;generalize eS m=al at *;refine Gs 0 [1,4] [5] (.take 0 (.take 1 (.take 2 (.take 3 (.take 4 (.take 5 (.take 6 (.take 7 (.take 8 .nil))))))))) rfl NI (by decide +kernel) ?_;simp(disch:=omega)only[Ac,↓Pc,simprocAttr,Hc,eY,↓Lq,ao];refine bR hA rfl rfl ?_;simp(disch:=omega)only[Ac,↓Pc,simprocAttr,Hc,eY,↓Lq,ao];simp only[ao]at DG;(refine yl (DG) rfl rfl rfl rfl (by(repeat'(first|exact trivial|refine And.intro ?_ ?_))<;>first|exact .inl ⟨rfl,rfl⟩|exact .inr ⟨rfl,rfl⟩) ?_;simp(disch:=omega)only[Ac,↓Pc,simprocAttr,Hc,eY,↓Lq,ao])
 repeat'(first|with_reducible refine And.intro ?_ ?_|omega|with_reducible rfl)
 repeat(first|refine Xu ?_)
 refine cr (aF.zY 39 2 1 (rows:=rowsOf xg [raw,al,lf]) rfl (by rw[cf,show [raw,al,lf].length=3 from rfl];simp only[Kc,simprocAttr]) (ig _) (my _)) ?_;have s9:∀ l∈[raw,al,lf],BB l:=λl hl=>by
  simp only[bj,gU,or_false]at hl;rcases hl with rfl|rfl|rfl
  ·exact agd
  ·exact hAb
  ·exact zX
 have ta:[raw,al,lf].length=3:=rfl;generalize [raw,al,lf]=ls at *;clear DG hA;((try revert hK K);(repeat'(first|refine Va X0 ?_|(refine V2 X0 ?_ ?_<;>try with_reducible intro hb)|(refine Xi ?_ ?_<;>try intro ht)|refine VD ?_ ?_|exact Xx|fail))<;>try with_reducible intro K hK)
 refine aU (λi:Nat=>(⟨an [(2,N0 rounds),(8,.cd (ao m)),(39,.tree 1 (rowsOf xg ls)),(40,N0 3),(41,N0 i)],[]⟩:St)) (λi=>i<=3) (λi=>3-i) 0 (aT _) ?_ ?_
 ·exact Xs false [] @ao.eq_1
 rintro i hi Ql ak ar;by_cases aq:i<3
 ·have rG:=s9 _ (aG (l:=ls) (i:=i) (d:=default) Ix);have DH:(rowsOf xg ls)[i]?=some (xg (ls.getD i default)):=JU _ _ Ix;have fh:(rowsOf xg ls).length=3:=by rw[cf];exact ta
  generalize XH:ls.getD i default=l at *;have hE:xg l=[.tree 1 (rowsOf aA l)]:=rfl;have hmd:=TD rounds 5 (by unfold cS;omega);have hmr:=V6 rounds 5 Ix;have yD:∀ k∈[rounds,vw rounds 5],cS k:=λk hk=>by
   simp only[bj,gU,or_false]at hk;rcases hk with rfl|rfl
   ·exact XC
   ·unfold cS;omega
  generalize vw rounds 5=r2 at *;((try revert hK K);(repeat'(first|refine Vc (X4 @DH @fh @XH @hE) hmd ?_|(refine V2 (X4 @DH @fh @XH @hE) ?_ ?_<;>try with_reducible intro hb)|(refine Xi ?_ ?_<;>try intro ht)|refine VD ?_ ?_|exact Xx|fail))<;>try with_reducible intro K hK)
  refine cr (aF.zY 48 0 1 (rows:=ints [rounds,r2]) rfl (by rw[show(ints [rounds,r2]).length=2 from rfl];simp only[Kc,simprocAttr]) (tY _) (wN _)) ?_;have bd:[rounds,r2].length=2:=rfl;generalize [rounds,r2]=ks at *;refine aU (λj:Nat=>(⟨an [(2,N0 rounds),(8,.cd (ao m)),(10,.tree 1 (rowsOf aA l)),(39,.tree 1 (rowsOf xg ls)),(40,N0 3),(41,N0 i),(48,.tree 1 (ints ks)),(49,N0 2),(50,N0 j)],[]⟩:St)) (λj=>j<=2) (λj=>2-j) 0 (aT _) ?_ ?_
  ·exact Xs false [] @ao.eq_1
  rintro j hj c7 br bx;by_cases fe:j<2
  ·have KV:=yD _ (aG (l:=ks) (i:=j) (d:=0) Ix);generalize GS:ks.getD j 0=k at *;have he:=af' m l k lv rG KV;have gR:=agj m l k lv rG KV;have p7:=XI m l k lv rG KV;by_cases hz:nK m l k=0
   ·obtain⟨cB,nG,hwi⟩:=aga hz;have mM:=p7 hz;rw[hz]at he;obtain⟨jH,kZ⟩:=XA hz;have gd:=KU (m:=m) (left:=l) k kZ;have qF:=KW gd.1;have kN:=KX m l (nj m l k) lv rG Ix;have ni:=KT m l [] lv rG NI;have agk:Holds Tryz.prog 18 [.agg (ao m),.tree 1 (rowsOf aA l),.lit (.slice none 0 0)] [] (.bu [N0 (bQ m l []).1,N0 (bQ m l []).2]) []:=Holds.Dj (pre:=[.agg (ao m),.tree 1 (rowsOf aA l)]) (post:=[]) ni;have hC:=af9 m cB;have hW:=agl m l cB nG;rw[gd.1]at kN;have a6:=gd.2;clear ni gR p7 gd;generalize nj m l k=X at *;generalize (bQ m l X).1=n at *;generalize (bQ m l []).1=o at *;generalize (bQ m l []).2=oe at *;generalize DF m l=wi at *;generalize min (yC m.cls 1) 10000=cs at *;have d1:decide (n<o)=false:=decide_eq_false Ix;have d2:decide (n > wi)=false:=decide_eq_false Ix;((try revert hK K);(repeat'(first|refine Vc (X5 @GS @bd @d1 @d2 @bne_self_eq_false.{0}) (X5 mM he kN agk (X2 hC hW)) ?_|(refine V2 (X5 @GS @bd @d1 @d2 @bne_self_eq_false.{0}) ?_ ?_<;>try with_reducible intro hb)|(refine Xi ?_ ?_<;>try intro ht)|refine VD ?_ ?_|exact Xx|fail))<;>try with_reducible intro K hK)
    all_goals try(exfalso;omega)
    all_goals exact br _ (j+1) Ix Ix (Xs false [] @ao.eq_1)
   ·have oF:=gR hz;clear gR p7;generalize nK m l k=e at *;have zZ:(e != 0)=true:=by simp[hz]
    ((try revert hK K);(repeat'(first|refine Vc (X4 @GS @bd @zZ @bne_self_eq_false.{0}) (X2 oF he) ?_|(refine V2 (X4 @GS @bd @zZ @bne_self_eq_false.{0}) ?_ ?_<;>try with_reducible intro hb)|(refine Xi ?_ ?_<;>try intro ht)|refine VD ?_ ?_|exact Xx|fail))<;>try with_reducible intro K hK)
    all_goals try(exfalso;omega)
    all_goals exact br _ (j+1) Ix Ix (Xs false [] @ao.eq_1)
  ·obtain rfl:j=2:=Ix;((try revert hK K);(repeat'(first|refine Va X0 ?_|(refine V2 X0 ?_ ?_<;>try with_reducible intro hb)|(refine Xi ?_ ?_<;>try intro ht)|refine VD ?_ ?_|exact Xx|fail))<;>try with_reducible intro K hK)
   refine bx _ _ rfl ?_;clear br bx c7;repeat(first|refine Xu ?_)
   ((try revert hK K);(repeat'(first|refine Va X0 ?_|(refine V2 X0 ?_ ?_<;>try with_reducible intro hb)|(refine Xi ?_ ?_<;>try intro ht)|refine VD ?_ ?_|exact Xx|fail))<;>try with_reducible intro K hK)
   exact ak _ (i+1) Ix Ix (Xs false [] @ao.eq_1)
 ·((try revert hK K);(repeat'(first|refine Va X0 ?_|(refine V2 X0 ?_ ?_<;>try with_reducible intro hb)|(refine Xi ?_ ?_<;>try intro ht)|refine VD ?_ ?_|exact Xx|fail))<;>try with_reducible intro K hK)
  refine ar _ _ rfl ?_;clear ak ar Ql;repeat(first|refine Xu ?_)
  ((try revert hK K);(repeat'(first|refine Vd X0 XD ?_|(refine V2 X0 ?_ ?_<;>try with_reducible intro hb)|(refine Xi ?_ ?_<;>try intro ht)|refine VD ?_ ?_|exact Xx|fail))<;>try with_reducible intro K hK)
  exact aS rfl rfl
end T

