import Derived.Test.YtfoopmojjjpapaaGreatX51
import Derived.Test.YtfoopmojjjpapaaGreatX45
set_option linter.all false
set_option maxHeartbeats 0
set_option maxRecDepth 20000
open List renaming take→iv,drop→eC,mem_cons→bj,not_mem_nil→gU
open Nat renaming zero_le→aT
open Go Go.Am Go.Proofs
namespace T
def af0(L:List Int)(k:Nat)(hk:k<=L.length)(hL:L.length<1000000):
  cL Tryz.prog 11 [.ptr 0 0 0] [fV L k] (λr os=>∃ m k',jF 5 m/\k'<=L.length/\r=.agg (ao m)/\os=[fV L k']):=by
 have W8:=gD L k 8 (by unfold cS;omega) hk hL;have hv:=jB (L:=L) (k:=k) (n:=8) Iv;have bb:=eQ hk;generalize dL L k 8=v at *;generalize cg L k=k2 at *;clear hk;unfold fV at *;refine cL.aK 18 1 [.cell 2 32] Tryz.func11 ?_;((try revert hK K);(repeat'(first|refine Va X0 ?_|(refine V2 X0 ?_ ?_<;>try with_reducible intro hb)|(refine Xi ?_ ?_<;>try intro ht)|refine VD ?_ ?_|exact Xx|fail))<;>try with_reducible intro K hK)
 (refine Xn [0] (W8) ?_;simp(disch:=omega)only[Ac,↓Pc,simprocAttr])
 have yz:∀ (env:Nat->AV) (m:ah) (k':Nat),jF 5 m->k'<=L.length->env 2=.ptr 1 0 0->eH Tryz.prog 1 [.cell 2 32] (λr os=>∃ m k',jF 5 m/\k'<=L.length/\r=.agg (ao m)/\os=[.var [.tree 1 (ints L),NX k']]) .ret ⟨env,[.var [.tree 1 (ints L),NX k'],.var (ao m)]⟩:=by
  intro env m k' fJ ba kl;unfold eH;simp only[dx,du,kl];simp(disch:=omega)only[Ac,↓Pc,simprocAttr,kl];refine⟨_,_,⟨m,k',fJ,ba,rfl,rfl⟩,?_⟩;exact Xw true [0] X0
 clear W8;by_cases ni:v=0
 ·repeat'(first|((fail_if_success (first|refine ei 3 ?_|refine ej 3 ?_));refine Xr X0 ?_;intro K hK)|refine Xo X0 ?_|(refine hK _ ?_;clear hK K)|(refine Xg X0 ?_ ?_<;>try intro hb)|(refine Xi ?_ ?_<;>try intro ht)|refine Xy ?_|refine Xd ?_ ?_|exact Xx|fail)
  have sI:=af1 L k2 3 3 bb hL NF NF NF;unfold fV at sI;refine aeI 2 0 NF _ _ rfl rfl ?_;intro K hK;simp(disch:=omega)only[Ac,↓Pc,simprocAttr,iv,eC];refine⟨rfl,(show jz Tryz.prog 37 [.ptr 0 0 0,NX (3:Nat),NX (3:Nat)] (some 9) _ _ from ?_)⟩;refine yb [0] sI NF ⟨rfl,trivial⟩ ⟨.eq rfl,.pure rfl,.pure rfl,trivial⟩ ?_;rintro r os⟨m,k,hm,hk,rfl,rfl⟩;have W9:=af2 3 NF L k m hm.vm hm.rF hk hL;unfold fV at W9;simp(disch:=omega)only[Ac,↓Pc,simprocAttr];refine⟨rfl,(show jz Tryz.prog 36 [.ptr 0 0 0,.agg (ao m)] (some 10) _ _ from ?_)⟩;refine yb [0] W9 NF ⟨rfl,trivial⟩ ⟨.eq rfl,.pure rfl,trivial⟩ ?_;rintro r os⟨m,k,hm,hk,rfl,rfl⟩;simp(disch:=omega)only[Ac,↓Pc,simprocAttr];refine hK _ ?_;clear hK K;((try revert hK K);(repeat'(first|refine Va X0 ?_|(refine V2 X0 ?_ ?_<;>try with_reducible intro hb)|(refine Xi ?_ ?_<;>try intro ht)|refine VD ?_ ?_|exact Xx|fail))<;>try with_reducible intro K hK)
  exact yz _ m k (hm.mono NF) hk (by simp only[Kc,simprocAttr])
 by_cases kN:v=1\/v=2
 ·have BI:=af3 L k2 bb hL;unfold fV at BI;repeat'(first|((fail_if_success (first|refine ei 6 ?_|refine ej 6 ?_));refine Xr X0 ?_;intro K hK)|refine Xo X0 ?_|(refine hK _ ?_;clear hK K)|(refine Xg X0 ?_ ?_<;>try intro hb)|(refine Xi ?_ ?_<;>try intro ht)|refine Xy ?_|refine Xd ?_ ?_|exact Xx|fail)
  all_goals try(exfalso;omega)
  all_goals
   refine nf 1 NF _ rfl ?_;intro K hK;simp(disch:=omega)only[Ac,↓Pc,simprocAttr,iv,eC];refine⟨rfl,(show jz Tryz.prog 21 [.ptr 0 0 0] (some 15) _ _ from ?_)⟩;refine yb [0] BI NF ⟨rfl,trivial⟩ ⟨.eq rfl,trivial⟩ ?_;rintro r os⟨m,par,k,hm,hk,rfl,rfl⟩;simp(disch:=omega)only[Ac,↓Pc,simprocAttr];refine hK _ ?_;clear hK K;((try revert hK K);(repeat'(first|refine Va X0 ?_|(refine V2 X0 ?_ ?_<;>try with_reducible intro hb)|(refine Xi ?_ ?_<;>try intro ht)|refine VD ?_ ?_|exact Xx|fail))<;>try with_reducible intro K hK)
   exact yz _ m k hm.KP hk (by simp only[Kc,simprocAttr])
 ·have Xa:=af4 L k2 bb hL;unfold fV at Xa;repeat'(first|((fail_if_success (first|refine ei 7 ?_|refine ej 7 ?_));refine Xr X0 ?_;intro K hK)|refine Xo X0 ?_|(refine hK _ ?_;clear hK K)|(refine Xg X0 ?_ ?_<;>try intro hb)|(refine Xi ?_ ?_<;>try intro ht)|refine Xy ?_|refine Xd ?_ ?_|exact Xx|fail)
  all_goals try(exfalso;omega)
  all_goals
   refine nf 1 NF _ rfl ?_;intro K hK;simp(disch:=omega)only[Ac,↓Pc,simprocAttr,iv,eC];refine⟨rfl,(show jz Tryz.prog 33 [.ptr 0 0 0] (some 17) _ _ from ?_)⟩;refine yb [0] Xa NF ⟨rfl,trivial⟩ ⟨.eq rfl,trivial⟩ ?_;rintro r os⟨m,k,hm,hk,rfl,rfl⟩;simp(disch:=omega)only[Ac,↓Pc,simprocAttr];refine hK _ ?_;clear hK K;((try revert hK K);(repeat'(first|refine Va X0 ?_|(refine V2 X0 ?_ ?_<;>try with_reducible intro hb)|(refine Xi ?_ ?_<;>try intro ht)|refine VD ?_ ?_|exact Xx|fail))<;>try with_reducible intro K hK)
   exact yz _ m k ⟨hm.vm.mb,by have:=hm.rF;omega,λl hl=>by have:=hm.opt l hl;omega⟩ hk (by simp only[Kc,simprocAttr])
def yA:List (List cE)->Int->Int
 |[],n=>n
 |l::r,n=>if n<10000 then yA r (n*l.length) else n
def af5(m:ah)(hm:VM m):Holds Tryz.prog 19 [.agg (ao m)] [] (NX (min (yA m.cls 1) 10000)) []:=by
 have qD:=hm.cls;generalize au:yA m.cls 1=res;refine Holds.aK 26 0 [.tmp 2] Tryz.func19 ?_;((try revert hK K);(repeat'(first|refine Vb X0 ?_|(refine V2 X0 ?_ ?_<;>try with_reducible intro hb)|(refine Xi ?_ ?_<;>try intro ht)|refine VD ?_ ?_|exact Xx|fail))<;>try with_reducible intro K hK)
 refine aU (λz:Nat×Int=>(⟨an [(1,.ptr 0 0 0),(3,NX z.2),(4,NX z.1)],[.var (ao m)]⟩:St)) (λz=>z.1<=m.cls.length/\(0<=z.2/\z.2<=240000)/\yA (m.cls.drop z.1) z.2=res) (λz=>m.cls.length-z.1) (0,1) ⟨aT _,⟨NF,NF⟩,au⟩ (Xv X0) ?_;rintro⟨i,n⟩⟨hi,⟨lS,mq⟩,hr⟩Ql ak ar;dsimp only at hi lS mq hr ⊢;by_cases aq:i<m.cls.length/\n<10000
 ·obtain⟨aq,Xf⟩:=aq;have uH:=hm.opt _ (aG (l:=m.cls) (i:=i) (d:=default) aq);rw[j3 m.cls i default aq,yA,if_pos Xf]at hr;generalize bd:m.cls.getD i default=c at *;have sQ:0<=n*(c.length:Int):=Int.mul_nonneg lS Iv;have uk:n*(c.length:Int)<=10000*24:=Int.mul_le_mul Iv Iv Iv Iv;generalize zF:n*(c.length:Int)=nc at *;((try revert hK K);(repeat'(first|refine Va (X3 @bd @aQ.eq_1 @zF) ?_|(refine V2 (X3 @bd @aQ.eq_1 @zF) ?_ ?_<;>try with_reducible intro hb)|(refine Xi ?_ ?_<;>try intro ht)|refine VD ?_ ?_|exact Xx|fail))<;>try with_reducible intro K hK)
  exact ak _ (i+1,nc) ⟨NN,⟨sQ,NN⟩,hr⟩ NN (Xv X0)
 ·have jM:n=res:=by
   rw[<- hr];by_cases h1:i<m.cls.length
   ·rw[j3 m.cls i default h1,yA,if_neg Iv]
   ·rw[List.drop_eq_nil_of_le Iv,yA]
  subst jM;((try revert hK K);(repeat'(first|refine Va X0 ?_|(refine V2 X0 ?_ ?_<;>try with_reducible intro hb)|(refine Xi ?_ ?_<;>try intro ht)|refine VD ?_ ?_|exact Xx|fail))<;>try with_reducible intro K hK)
  all_goals try(exfalso;omega)
  all_goals
   refine ar _ _ rfl ?_;clear ak ar Ql;repeat(first|refine Xu ?_)
   ((try revert hK K);(repeat'(first|refine Vb X0 ?_|(refine V2 X0 ?_ ?_<;>try with_reducible intro hb)|(refine Xi ?_ ?_<;>try intro ht)|refine VD ?_ ?_|exact Xx|fail))<;>try with_reducible intro K hK)
   exact Xw true [] X0
def af6(m:ah)(left:List (List Bool))(rounds:Int)(lv:MB m)(lW:BB left)(hr:cS rounds):
  Holds Tryz.prog 16 [.agg (ao m),.tree 1 (rowsOf aA left),NX rounds] [] (NX (nK m left rounds)) []:=by
 have hv:=KQ m left [] lv lW NF;have h1:Holds Tryz.prog 18 [.agg (ao m),.tree 1 (rowsOf aA left),.lit (.slice none 0 0)] [] (.bu [NX (bQ m left []).1,NX (bQ m left []).2]) []:=Holds.Dh (pre:=[.agg (ao m),.tree 1 (rowsOf aA left)]) (post:=[]) hv;have vK:=GO m left;unfold nK;generalize bQ m left []=v at *;obtain⟨n,e⟩:=v;have he:e=kn m left:=by
  by_cases h:kn m left≠0
  ·rw[if_pos h]at vK;exact congrArg Prod.snd vK
  ·rw[if_neg h]at vK;have:=congrArg Prod.snd vK;dsimp only at this;omega
 subst he;dsimp only at h1;generalize kn m left=e at *;unfold cS at hr;by_cases h0:e≠0
 ·rw[if_pos h0];refine Holds.aK 24 0 [.tmp 6] Tryz.func16 ?_;((try revert hK K);(repeat'(first|refine Vd X0 h1 ?_|(refine V2 X0 ?_ ?_<;>try with_reducible intro hb)|(refine Xi ?_ ?_<;>try intro ht)|refine VD ?_ ?_|exact Xx|fail))<;>try with_reducible intro K hK)
  all_goals try(exfalso;omega)
  all_goals exact aS rfl rfl
 ·rw[if_neg h0];have h0:e=0:=Iv;subst h0;by_cases h2:rounds<0\/64<rounds
  ·rw[if_pos h2];refine Holds.aK 24 0 [.tmp 6] Tryz.func16 ?_;((try revert hK K);(repeat'(first|refine Vd @bne_self_eq_false.{0} h1 ?_|(refine V2 @bne_self_eq_false.{0} ?_ ?_<;>try with_reducible intro hb)|(refine Xi ?_ ?_<;>try intro ht)|refine VD ?_ ?_|exact Xx|fail))<;>try with_reducible intro K hK)
   all_goals try(exfalso;omega)
   all_goals exact aS rfl rfl
  ·rw[if_neg h2];refine Holds.aK 24 0 [.tmp 6] Tryz.func16 ?_;((try revert hK K);(repeat'(first|refine Vd @bne_self_eq_false.{0} h1 ?_|(refine V2 @bne_self_eq_false.{0} ?_ ?_<;>try with_reducible intro hb)|(refine Xi ?_ ?_<;>try intro ht)|refine VD ?_ ?_|exact Xx|fail))<;>try with_reducible intro K hK)
   all_goals try(exfalso;omega)
   all_goals exact aS rfl rfl
def Xj{m:ah}{left:List (List Bool)}{r:Int}(h:nK m left r=0):kn m left=0/\(bQ m left []).2=0:=by
 unfold nK at h;split at h
 ·rename_i h0;exact absurd h h0
 ·rename_i h0;refine⟨Iv,?_⟩;rw[GO,if_neg h0]
def af7{m:ah}{left:List (List Bool)}{r:Int}(h:nK m left r=0):VM m/\df m left/\(bQ m left (nj m left r)).1<=DC m left:=by
 obtain⟨h1,h2⟩:=Xj h;obtain⟨hv,hf⟩:=GA h1;have h3:=(KR (m:=m) (left:=left) r h2).1;obtain⟨_,h4,h5⟩:=Xm h3;refine⟨hv,hf,af8 hv h5 λplan hp eP=>?_⟩;rw[h4]at h3 ⊢;unfold iO at h3 ⊢;split at h3
 ·cases h3
 ·split at h3
  ·cases h3
  ·rename_i h6 h7;rw[if_neg h6,if_neg h7];exact af9 hv hp left hf eP _ λx hx=>by
    cases hb:iC m x with
    |true=>rfl
    |false=>exact absurd (List.all_eq_false.2 ⟨x,hx,by simp[hb]⟩) h7
def xc(l:List (List Bool)):List AV:=[.tree 1 (rowsOf aA l)]
instance:Row xc 1:=⟨λ_=>rfl,λC v hv=>by
 unfold xc at hv;rw[List.mem_singleton]at hv;subst hv;exact .inr ⟨_,_,rfl⟩⟩
def al3(tape:List Int)(raw:List (List Bool))(rounds:Int)(af':BB raw)(Xp:cS rounds):Holds Tryz.prog 3 [.tree 1 (ints tape),.tree 1 (rowsOf aA raw),NX rounds] [] (.lit (.bool true)) []:=by
 refine Holds.aK 114 0 [.tmp 6] Tryz.func3 ?_;repeat'(first|((fail_if_success (first|refine ei 3 ?_|refine ej 3 ?_));refine Xq X0 ?_;intro K hK)|refine Xo X0 ?_|refine Xc (aev _) ?_|refine Xc (Xt) ?_|(refine hK _ ?_;clear hK K)|(refine Xg X0 ?_ ?_<;>try intro hb)|(refine Xi ?_ ?_<;>try intro ht)|refine XY ?_|refine Xd ?_ ?_|exact Xx|fail)
 all_goals try(exact aS rfl rfl)
 have hL:tape.length<1000000:=Iv;have al4:raw.length<=50:=Iv;repeat'(first|((fail_if_success (first|refine ei 4 ?_|refine ej 4 ?_));refine Xq X0 ?_;intro K hK)|refine Xo X0 ?_|refine Xc (TB tape) ?_|(refine hK _ ?_;clear hK K)|(refine Xg X0 ?_ ?_<;>try intro hb)|(refine Xi ?_ ?_<;>try intro ht)|refine Xy ?_|refine Xd ?_ ?_|exact Xx|fail)
 (refine Xn [] (TB tape) ?_;simp(disch:=omega)only[Ac,↓Pc,simprocAttr])
 repeat'(first|((fail_if_success (first|refine ei 4 ?_|refine ej 4 ?_));refine Xr X0 ?_;intro K hK)|refine Xo X0 ?_|(refine hK _ ?_;clear hK K)|(refine Xg X0 ?_ ?_<;>try intro hb)|(refine Xi ?_ ?_<;>try intro ht)|refine Xy ?_|refine Xd ?_ ?_|exact Xx|fail)
 have sI:=af0 tape 0 (aT _) hL;unfold fV at sI;refine nf 1 NF _ rfl ?_;intro K hK;simp(disch:=omega)only[Ac,↓Pc,simprocAttr,iv,eC];refine⟨rfl,(show jz Tryz.prog 11 [.ptr 0 0 0] (some 32) _ _ from ?_)⟩;refine yb [0] sI NF ⟨rfl,trivial⟩ ⟨.eq rfl,trivial⟩ ?_;rintro r os⟨m,k,hm,hk,rfl,rfl⟩;simp(disch:=omega)only[Ac,↓Pc,simprocAttr,eC];refine hK _ ?_;clear hK K sI;repeat'(first|((fail_if_success (first|refine ei 5 ?_|refine ej 5 ?_));refine Xr X0 ?_;intro K hK)|refine Xo X0 ?_|(refine hK _ ?_;clear hK K)|(refine Xg X0 ?_ ?_<;>try intro hb)|(refine Xi ?_ ?_<;>try intro ht)|refine Xy ?_|refine Xd ?_ ?_|exact Xx|fail)
 have lv:=hm.mb;have hf5:=hm.rF;have XA:=hm.opt;refine cp (aF.Bs 8 1 (cells:=ao m) NW (by simp only[Kc,simprocAttr]) (by simp[ao])) ?_;have hA:=aga m lv;have hAb:=XB lv;have DD:=agc m Iv (λl hl=>by have:=XA l hl;omega) tape k hk hL;unfold fV at DD;have zV:BB (ly tape m.cls m.cls.length k).1:=⟨by rw[xd];omega,λr hr=>by
  obtain⟨i,hi,rfl⟩:=List.getElem_of_mem hr;have h1:=XC (L:=tape) (cls:=m.cls) m.cls.length k i (by rwa [xd]at hi);rw[List.getD_eq_getElem?_getD,List.getElem?_eq_getElem hi,Option.getD_some]at h1;rw[xd]at hi;have:=XA _ (aG (l:=m.cls) (i:=i) (d:=default) hi);omega⟩
 generalize ly tape m.cls m.cls.length k=lf at *;obtain⟨lf,k2⟩:=lf;dsimp only at DD zV;generalize eS m=al at *;refine Gp 0 [1,4] [5] (.take 0 (.take 1 (.take 2 (.take 3 (.take 4 (.take 5 (.take 6 (.take 7 (.take 8 .nil))))))))) rfl NF (by decide +kernel) ?_;simp(disch:=omega)only[Ac,↓Pc,simprocAttr,Hc,eY,↓Lq,ao];refine bR hA rfl rfl ?_;simp(disch:=omega)only[Ac,↓Pc,simprocAttr,Hc,eY,↓Lq,ao];simp only[ao]at DD;(refine yj (DD) rfl rfl rfl rfl (by(repeat'(first|exact trivial|refine And.intro ?_ ?_))<;>first|exact .inl ⟨rfl,rfl⟩|exact .inr ⟨rfl,rfl⟩) ?_;simp(disch:=omega)only[Ac,↓Pc,simprocAttr,Hc,eY,↓Lq,ao])
 repeat'(first|with_reducible refine And.intro ?_ ?_|omega|with_reducible rfl)
 repeat(first|refine Xu ?_)
 refine cp (aF.zW 39 2 1 (rows:=rowsOf xc [raw,al,lf]) rfl (by rw[cf,show [raw,al,lf].length=3 from rfl];simp only[Kc,simprocAttr]) (ig _) (my _)) ?_;have s8:∀ l∈[raw,al,lf],BB l:=λl hl=>by
  simp only[bj,gU,or_false]at hl;rcases hl with rfl|rfl|rfl
  ·exact af'
  ·exact hAb
  ·exact zV
 have s9:[raw,al,lf].length=3:=rfl;generalize [raw,al,lf]=ls at *;clear DD hA;((try revert hK K);(repeat'(first|refine Va X0 ?_|(refine V2 X0 ?_ ?_<;>try with_reducible intro hb)|(refine Xi ?_ ?_<;>try intro ht)|refine VD ?_ ?_|exact Xx|fail))<;>try with_reducible intro K hK)
 refine aU (λi:Nat=>(⟨an [(2,NX rounds),(8,.cd (ao m)),(39,.tree 1 (rowsOf xc ls)),(40,NX 3),(41,NX i)],[]⟩:St)) (λi=>i<=3) (λi=>3-i) 0 (aT _) ?_ ?_
 ·exact Xs false [] @ao.eq_1
 rintro i hi Ql ak ar;by_cases aq:i<3
 ·have rG:=s8 _ (aG (l:=ls) (i:=i) (d:=default) Iv);have DE:(rowsOf xc ls)[i]?=some (xc (ls.getD i default)):=JS _ _ Iv;have fh:(rowsOf xc ls).length=3:=by rw[cf];exact s9
  generalize XD:ls.getD i default=l at *;have hE:xc l=[.tree 1 (rowsOf aA l)]:=rfl;have hmd:=TA rounds 5 (by unfold cS;omega);have hmr:=V3 rounds 5 Iv;have yB:∀ k∈[rounds,vv rounds 5],cS k:=λk hk=>by
   simp only[bj,gU,or_false]at hk;rcases hk with rfl|rfl
   ·exact Xp
   ·unfold cS;omega
  generalize vv rounds 5=r2 at *;((try revert hK K);(repeat'(first|refine Vc (X4 @DE @fh @XD @hE) hmd ?_|(refine V2 (X4 @DE @fh @XD @hE) ?_ ?_<;>try with_reducible intro hb)|(refine Xi ?_ ?_<;>try intro ht)|refine VD ?_ ?_|exact Xx|fail))<;>try with_reducible intro K hK)
  refine cp (aF.zW 48 0 1 (rows:=ints [rounds,r2]) rfl (by rw[show(ints [rounds,r2]).length=2 from rfl];simp only[Kc,simprocAttr]) (tY _) (wK _)) ?_;have bb:[rounds,r2].length=2:=rfl;generalize [rounds,r2]=ks at *;refine aU (λj:Nat=>(⟨an [(2,NX rounds),(8,.cd (ao m)),(10,.tree 1 (rowsOf aA l)),(39,.tree 1 (rowsOf xc ls)),(40,NX 3),(41,NX i),(48,.tree 1 (ints ks)),(49,NX 2),(50,NX j)],[]⟩:St)) (λj=>j<=2) (λj=>2-j) 0 (aT _) ?_ ?_
  ·exact Xs false [] @ao.eq_1
  rintro j hj c7 br bx;by_cases fe:j<2
  ·have KS:=yB _ (aG (l:=ks) (i:=j) (d:=0) Iv);generalize GP:ks.getD j 0=k at *;have he:=af6 m l k lv rG KS;have gR:=age m l k lv rG KS;have p6:=XE m l k lv rG KS;by_cases hz:nK m l k=0
   ·obtain⟨cA,nG,hwi⟩:=af7 hz;have mM:=p6 hz;rw[hz]at he;obtain⟨jI,kZ⟩:=Xj hz;have gf:=KR (m:=m) (left:=l) k kZ;have qE:=KT gf.1;have kN:=KU m l (nj m l k) lv rG Iv;have ni:=KQ m l [] lv rG NF;have agf:Holds Tryz.prog 18 [.agg (ao m),.tree 1 (rowsOf aA l),.lit (.slice none 0 0)] [] (.bu [NX (bQ m l []).1,NX (bQ m l []).2]) []:=Holds.Dh (pre:=[.agg (ao m),.tree 1 (rowsOf aA l)]) (post:=[]) ni;have hC:=af5 m cA;have hW:=agh m l cA nG;rw[gf.1]at kN;have a6:=gf.2;clear ni gR p6 gf;generalize nj m l k=X at *;generalize (bQ m l X).1=n at *;generalize (bQ m l []).1=o at *;generalize (bQ m l []).2=oe at *;generalize DC m l=wi at *;generalize min (yA m.cls 1) 10000=cs at *;have d1:decide (n<o)=false:=decide_eq_false Iv;have d2:decide (n > wi)=false:=decide_eq_false Iv;((try revert hK K);(repeat'(first|refine Vc (X5 @GP @bb @d1 @d2 @bne_self_eq_false.{0}) (X5 mM he kN agf (X2 hC hW)) ?_|(refine V2 (X5 @GP @bb @d1 @d2 @bne_self_eq_false.{0}) ?_ ?_<;>try with_reducible intro hb)|(refine Xi ?_ ?_<;>try intro ht)|refine VD ?_ ?_|exact Xx|fail))<;>try with_reducible intro K hK)
    all_goals try(exfalso;omega)
    all_goals exact br _ (j+1) Iv Iv (Xs false [] @ao.eq_1)
   ·have oF:=gR hz;clear gR p6;generalize nK m l k=e at *;have zX:(e != 0)=true:=by simp[hz]
    ((try revert hK K);(repeat'(first|refine Vc (X4 @GP @bb @zX @bne_self_eq_false.{0}) (X2 oF he) ?_|(refine V2 (X4 @GP @bb @zX @bne_self_eq_false.{0}) ?_ ?_<;>try with_reducible intro hb)|(refine Xi ?_ ?_<;>try intro ht)|refine VD ?_ ?_|exact Xx|fail))<;>try with_reducible intro K hK)
    all_goals try(exfalso;omega)
    all_goals exact br _ (j+1) Iv Iv (Xs false [] @ao.eq_1)
  ·obtain rfl:j=2:=Iv;((try revert hK K);(repeat'(first|refine Va X0 ?_|(refine V2 X0 ?_ ?_<;>try with_reducible intro hb)|(refine Xi ?_ ?_<;>try intro ht)|refine VD ?_ ?_|exact Xx|fail))<;>try with_reducible intro K hK)
   refine bx _ _ rfl ?_;clear br bx c7;repeat(first|refine Xu ?_)
   ((try revert hK K);(repeat'(first|refine Va X0 ?_|(refine V2 X0 ?_ ?_<;>try with_reducible intro hb)|(refine Xi ?_ ?_<;>try intro ht)|refine VD ?_ ?_|exact Xx|fail))<;>try with_reducible intro K hK)
   exact ak _ (i+1) Iv Iv (Xs false [] @ao.eq_1)
 ·((try revert hK K);(repeat'(first|refine Va X0 ?_|(refine V2 X0 ?_ ?_<;>try with_reducible intro hb)|(refine Xi ?_ ?_<;>try intro ht)|refine VD ?_ ?_|exact Xx|fail))<;>try with_reducible intro K hK)
  refine ar _ _ rfl ?_;clear ak ar Ql;repeat(first|refine Xu ?_)
  ((try revert hK K);(repeat'(first|refine Vd X0 Xt ?_|(refine V2 X0 ?_ ?_<;>try with_reducible intro hb)|(refine Xi ?_ ?_<;>try intro ht)|refine VD ?_ ?_|exact Xx|fail))<;>try with_reducible intro K hK)
  exact aS rfl rfl
end T

