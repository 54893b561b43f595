import Derived.Test.YtfoopmojjjpapaaGreatX42
import Derived.Test.YtfoopmojjjpapaaGreatX38
import Derived.Test.YtfoopmojjjpapaaGreatX43
import Derived.Test.YtfoopmojjjpapaaGreatX36
set_option linter.all false
set_option maxHeartbeats 0
set_option maxRecDepth 20000
open Nat renaming le_refl→aY,mul_le_mul→wC,le_trans→tL,zero_le→aS
open List renaming take→ja,drop→eR,getElem?_eq_some_iff→aV
open Go Go.Am Go.Proofs
namespace T
def Tg{m:ah}{w:Nat}(h:∀ l∈m.cls,l.length<=w):∀ d,d<=m.cls.length->HU m d<=w^d
 |0,_=>aY _
 |d+1,hd=>by
  rw[HU,Nat.pow_succ,Nat.mul_comm];exact wC (Tg h d GK) (h _ (aF GK))
structure FW(m:ah):Prop where
 vm:VM m
 rF:m.cls.length<=4
 opt:∀ l∈m.cls,l.length<=4
def FW.cap{m:ah}(h:FW m):HU m m.cls.length<=8000 :=
 tL (Tg h.opt _ (aY _)) (tL (Nat.pow_le_pow_right GS h.rF) GS)
def MM.fw{m:ah}{a b:Nat}(h:MM m a b)(ha:a<=4)(hb:b<=4):FW m:=⟨h.vm,tL h.rF ha,λl hl=>tL (h.some l hl).2 hb⟩
def FW.Bf{m:ah}(h:FW m){c:Int}(hc:0<=c):FW (qx m c):=⟨agD h.vm hc,by unfold qx;simpa using h.rF,λl hl=>by
 rcases List.mem_or_eq_of_mem_set hl with h1|h1
 ·exact h.opt l h1
 ·rw[h1];exact aS _⟩
def agE(L:List Int)(k:Nat)(hk:k<=L.length)(hL:L.length<1000000):
  cX Tryz.prog 33 [.ptr 0 0 0] [iU L k] (λr os=>∃ m k',FW m/\k'<=L.length/\r=.agg (zE m)/\os=[iU L k',.arr 4 (rowsOf aI m.ae)]):=by
 have ry:=Th L k 4 4 hk hL GS GS GS;unfold iU at *;refine cX.aM 117 1 [.cell 2 32] Tryz.func33 ?_;repeat'(first|((fail_if_success (first|refine eM 1 ?_|refine eN 1 ?_));refine Xr X0 ?_;intro K hK)|(refine hK _ ?_;clear hK K)|refine Xy ?_|fail)
 refine oa 1 GS _ rfl ?_;intro K hK;simp(disch:=omega)only[Ac,↓Pc,simprocAttr,ja,eR];refine⟨rfl,(show j1 Tryz.prog 37 [.ptr 0 0 0,Qf (4:Nat),Qf (4:Nat)] (some 11) _ _ from ?_)⟩;refine zA [0] ry GS ⟨rfl,trivial⟩ ⟨.eq rfl,.pure rfl,.pure rfl,trivial⟩ ?_;rintro r os⟨m,k1,hm,fP,rfl,rfl⟩;clear ry hk;have EC:=hm.fw (aY 4) (aY 4);have fR:pG m.cls<=256:=Int.le_trans (Ti (w:=4) m.cls 4 GS hm.rF hm.some) GS;have gD:=agF m hm.vm (λl hl=>(hm.some l hl).1) GK;generalize pG m.cls=pn at *;unfold zE;simp(disch:=omega)only[Ac,↓Pc,simprocAttr,wR];refine hK _ ?_;clear hK K;repeat(refine Xu ?_)
 have n9:=ED L k1 12 (by unfold cR;omega) GK fP hL;have bz:=fH fP;refine Va X0 ?_;refine aR (λ_:Unit=>(⟨ao [(0,.ptr 0 0 0),(2,.ptr 1 0 0),(3,.ptr 3 0 0)],[.var [.tree 1 (ints L),Qf k1],.var [.lit (.slice none 0 0),.lit (.slice none 0 0),.lit (.slice none 0 0),Qf 0],.arr 4 (rowsOf aI m.ae),.var [.tree 1 (rowsOf aW m.cls),.ref 2 4 0 m.ae.length,.tree 4 (rowsOf dv m.aD),Qf m.rules]]⟩:St)) (λ_=>True) (λ_=>0) () trivial (Xv X0) ?_;rintro _ _ Ql ak aq;((refine Va X0 ?_)<;>try with_reducible intro K hK)
 refine xW [] gD GS trivial ⟨(aZ.agg _ _ rfl (jE.spec (R:=aZ _ _ _ _) (cs:=an m) (ds:=[.tree 1 (rowsOf aW m.cls),.ref 2 4 0 m.ae.length,.tree 4 (rowsOf dv m.aD),Qf m.rules]) ⟨.pure rfl,aZ.cO rfl (jd _) (by rw[cH]) GM (oS _),.pure rfl,.pure rfl,trivial⟩).2),trivial⟩ rfl GM ?_;simp(disch:=omega)only[Ac,↓Pc,simprocAttr];((try revert hK K);(repeat'(first|refine Va X0 ?_|(refine Xi ?_ ?_<;>try intro ht)|exact Xx|fail)))
 refine aq _ _ rfl ?_;clear ak aq Ql;repeat(refine Xu ?_)
 clear gD fR;have Bg:∀ (env:Nat->AV) (m:ah) (k':Nat) (q:Nat) (os:List Ob),FW m->k'<=L.length->env 2=.ptr 1 0 0->os[0]?=some (.var [.tree 1 (ints L),Qf k'])->os[1]?=some (.var [.tree 1 (rowsOf aW m.cls),.ref q 4 0 m.ae.length,.tree 4 (rowsOf dv m.aD),Qf m.rules])->os[q]?=some (.arr 4 (rowsOf aI m.ae))->q≠0 ->
   eU Tryz.prog 1 [.cell 2 32] (λr os=>∃ m k',FW m/\k'<=L.length/\r=.agg (zE m)/\os=[.var [.tree 1 (ints L),Qf k'],.arr 4 (rowsOf aI m.ae)]) .ret ⟨env,os⟩:=by
  intro env m k' q os gf bg jY h0 h1 hq L9;have hl0:=(aV.1 h0).1;have hlq:=(aV.1 hq).1;unfold eU;simp only[dI,dE,jY];simp(disch:=omega)only[Ac,↓Pc,simprocAttr,jY,h1];refine⟨_,_,⟨m,k',gf,bg,rfl,rfl⟩,?_⟩;refine iD [0,q] true (by simp[Ne.symm L9]) ⟨⟨hl0,.inr (by rw[h0];rfl)⟩,⟨hlq,.inr (by rw[hq,wR])⟩,trivial⟩ GM (λi hi=>by
   obtain rfl:i=0:=GK;rfl) ?_
  refine(aZ.agg _ _ rfl (jE.spec (R:=aZ _ _ _ _) (cs:=zE m) (ds:=[.tree 1 (rowsOf aW m.cls),.ref q 4 0 m.ae.length,.tree 4 (rowsOf dv m.aD),Qf m.rules]) ⟨.pure rfl,.eq rfl,.pure rfl,.pure rfl,trivial⟩).2)
 ((repeat'(first|refine Va X0 ?_|(refine V2 X0 ?_ ?_<;>try with_reducible intro hb)|(refine Xi ?_ ?_<;>try intro ht)|exact Xx|fail))<;>try with_reducible intro K hK)
 rotate_left
 ·exact Bg _ m k1 2 _ EC fP (by simp only[Kc,simprocAttr]) rfl rfl rfl GS
 have mM:0<m.cls.length:=GK;have nx:=gY L (cK L k1) (m.cls.length:Int) (by unfold cR;have:=hm.vm.cls;omega) bz hL;have CS:=j4 (L:=L) (k:=cK L k1) (n:=(m.cls.length:Int)) GK;have Tj:=agH m hm.vm (ef L (cK L k1) (m.cls.length:Int)) CS;have hwf:=EC.Bf CS.1;have gx:=fH bz;unfold iU at *;generalize CT L k1 12=bo at *;generalize ef L (cK L k1) (m.cls.length:Int)=v at *;generalize cK L (cK L k1)=k3 at *;generalize cK L k1=k2 at *;generalize qx m v=mw at *;(refine Xn [0] (n9) ?_;simp(disch:=omega)only[Ac,↓Pc,simprocAttr])
 ((try revert hK K);(repeat'(first|refine Va X0 ?_|(refine Xi ?_ ?_<;>try intro ht)|fail))<;>try with_reducible intro K hK)
 ·(refine Xn [0] (nx) ?_;simp(disch:=omega)only[Ac,↓Pc,simprocAttr])
  repeat'(first|(refine hK _ ?_;clear hK K)|refine Xy ?_|fail)
  refine cL (aH.yg 2 3 1 4 P8 P8 (by rw[cH];rfl) (jd _) (oS _)) ?_;unfold Ma at Tj;((refine Va X0 ?_)<;>try with_reducible intro K hK)
  (refine Xn [] (Tj) ?_;simp(disch:=omega)only[Ac,↓Pc,simprocAttr,wR])
  ((try revert hK K);(refine Va X0 ?_))
  exact Bg _ mw k3 4 _ hwf gx (by simp only[Kc,simprocAttr]) rfl rfl rfl GS
 ·exact Bg _ m k2 2 _ EC bz (by simp only[Kc,simprocAttr]) rfl rfl rfl GS
def agJ(L:List Int)(k:Nat)(hk:k<=L.length)(hL:L.length<1000000):
  cX Tryz.prog 33 [.ptr 0 0 0] [iU L k] (λr os=>∃ m k',FW m/\k'<=L.length/\r=.agg (an m)/\os=[iU L k']) :=
 Tk (agE L k hk hL) λr os h=>by
  obtain⟨m,k',h1,h2,rfl,rfl⟩:=h;exact⟨_,_,⟨m,k',h1,h2,rfl,rfl⟩,Tl m _ (λ_=>rfl)⟩
def agt(L:List Int)(k:Nat)(hk:k<=L.length)(hL:L.length<1000000):
  cX Tryz.prog 11 [.ptr 0 0 0] [iU L k] (λr os=>∃ m k',EE m/\k'<=L.length/\r=.agg (an m)/\os=[iU L k']):=by
 have Tm:=gY L k 8 (by unfold cR;omega) hk hL;have hv:=j4 (L:=L) (k:=k) (n:=8) GK;have bz:=fH hk;generalize ef L k 8=v at *;generalize cK L k=k2 at *;clear hk;unfold iU at *;refine cX.aM 18 1 [.cell 2 32] Tryz.func11 ?_;((try revert hK K);(repeat'(first|refine Va X0 ?_|(refine V2 X0 ?_ ?_<;>try with_reducible intro hb)|(refine Xi ?_ ?_<;>try intro ht)|refine VD ?_ ?_|exact Xx|fail))<;>try with_reducible intro K hK)
 (refine Xn [0] (Tm) ?_;simp(disch:=omega)only[Ac,↓Pc,simprocAttr])
 have Bg:∀ (env:Nat->AV) (m:ah) (k':Nat),EE m->k'<=L.length->env 2=.ptr 1 0 0->eU Tryz.prog 1 [.cell 2 32] (λr os=>∃ m k',EE m/\k'<=L.length/\r=.agg (an m)/\os=[.var [.tree 1 (ints L),Qf k']]) .ret ⟨env,[.var [.tree 1 (ints L),Qf k'],.var (an m)]⟩:=by
  intro env m k' gf bg jY;unfold eU;simp only[dI,dE,jY];simp(disch:=omega)only[Ac,↓Pc,simprocAttr,jY];refine⟨_,_,⟨m,k',gf,bg,rfl,rfl⟩,?_⟩;exact Xw true [0] X0
 clear Tm;by_cases qy:v=0
 ·repeat'(first|((fail_if_success (first|refine eM 3 ?_|refine eN 3 ?_));refine Xr X0 ?_;intro K hK)|refine Xo X0 ?_|(refine hK _ ?_;clear hK K)|(refine Xg X0 ?_ ?_<;>try intro hb)|(refine Xi ?_ ?_<;>try intro ht)|refine Xy ?_|refine Xd ?_ ?_|exact Xx|fail)
  have ry:=agK L k2 3 3 bz hL GS GS GS;unfold iU at ry;refine agL 2 0 GS _ _ rfl rfl ?_;intro K hK;simp(disch:=omega)only[Ac,↓Pc,simprocAttr,ja,eR];refine⟨rfl,(show j1 Tryz.prog 37 [.ptr 0 0 0,Qf (3:Nat),Qf (3:Nat)] (some 9) _ _ from ?_)⟩;refine zA [0] ry GS ⟨rfl,trivial⟩ ⟨.eq rfl,.pure rfl,.pure rfl,trivial⟩ ?_;rintro r os⟨m,k,hm,hk,rfl,rfl⟩;have yj:=hm;have Tn:=agM 3 GS L k m hm.vm hm.rF hk hL;unfold iU at Tn;simp(disch:=omega)only[Ac,↓Pc,simprocAttr];refine⟨rfl,(show j1 Tryz.prog 36 [.ptr 0 0 0,.agg (an m)] (some 10) _ _ from ?_)⟩;refine zA [0] Tn GS ⟨rfl,trivial⟩ ⟨.eq rfl,.pure rfl,trivial⟩ ?_;rintro r os⟨m2,k,hm,hk,rfl,rfl⟩;simp(disch:=omega)only[Ac,↓Pc,simprocAttr];refine hK _ ?_;clear hK K;((try revert hK K);(repeat'(first|refine Va X0 ?_|(refine V2 X0 ?_ ?_<;>try with_reducible intro hb)|(refine Xi ?_ ?_<;>try intro ht)|refine VD ?_ ?_|exact Xx|fail))<;>try with_reducible intro K hK)
  refine Bg _ m2 k ⟨hm.om.mono GS,?_⟩ hk (by simp only[Kc,simprocAttr]);have h3:=Mb (b:=3) GS m.cls (λl hl=>(yj.some l hl).2);have h4:3^m.cls.length<=3^3:=Nat.pow_le_pow_right GS yj.rF;rcases hm.cl with e|⟨x,hx,e⟩
  ·rw[e];omega
  ·have h5:=hm.om.opt x (by rw[e];simp);rw[e,To];have h6:qu m.cls*max 1 x.length<=27*25:=wC GK GK;omega
 by_cases np:v=1\/v=2
 ·have CU:=agN L k2 bz hL;unfold iU at CU;repeat'(first|((fail_if_success (first|refine eM 6 ?_|refine eN 6 ?_));refine Xr X0 ?_;intro K hK)|refine Xo X0 ?_|(refine hK _ ?_;clear hK K)|(refine Xg X0 ?_ ?_<;>try intro hb)|(refine Xi ?_ ?_<;>try intro ht)|refine Xy ?_|refine Xd ?_ ?_|exact Xx|fail)
  all_goals try(exfalso;omega)
  all_goals
   refine oa 1 GS _ rfl ?_;intro K hK;simp(disch:=omega)only[Ac,↓Pc,simprocAttr,ja,eR];refine⟨rfl,(show j1 Tryz.prog 21 [.ptr 0 0 0] (some 15) _ _ from ?_)⟩;refine zA [0] CU GS ⟨rfl,trivial⟩ ⟨.eq rfl,trivial⟩ ?_;rintro r os⟨m,par,k,hm,hk,rfl,rfl⟩;simp(disch:=omega)only[Ac,↓Pc,simprocAttr];refine hK _ ?_;clear hK K;((try revert hK K);(repeat'(first|refine Va X0 ?_|(refine V2 X0 ?_ ?_<;>try with_reducible intro hb)|(refine Xi ?_ ?_<;>try intro ht)|refine VD ?_ ?_|exact Xx|fail))<;>try with_reducible intro K hK)
   exact Bg _ m k (.of hm.Md λl hl=>by have:=(hm.cl l hl).1;omega) hk (by simp only[Kc,simprocAttr])
 ·have Tp:=agJ L k2 bz hL;unfold iU at Tp;repeat'(first|((fail_if_success (first|refine eM 7 ?_|refine eN 7 ?_));refine Xr X0 ?_;intro K hK)|refine Xo X0 ?_|(refine hK _ ?_;clear hK K)|(refine Xg X0 ?_ ?_<;>try intro hb)|(refine Xi ?_ ?_<;>try intro ht)|refine Xy ?_|refine Xd ?_ ?_|exact Xx|fail)
  all_goals try(exfalso;omega)
  all_goals
   refine oa 1 GS _ rfl ?_;intro K hK;simp(disch:=omega)only[Ac,↓Pc,simprocAttr,ja,eR];refine⟨rfl,(show j1 Tryz.prog 33 [.ptr 0 0 0] (some 17) _ _ from ?_)⟩;refine zA [0] Tp GS ⟨rfl,trivial⟩ ⟨.eq rfl,trivial⟩ ?_;rintro r os⟨m,k,hm,hk,rfl,rfl⟩;simp(disch:=omega)only[Ac,↓Pc,simprocAttr];refine hK _ ?_;clear hK K;((try revert hK K);(repeat'(first|refine Va X0 ?_|(refine V2 X0 ?_ ?_<;>try with_reducible intro hb)|(refine Xi ?_ ?_<;>try intro ht)|refine VD ?_ ?_|exact Xx|fail))<;>try with_reducible intro K hK)
   exact Bg _ m k (.of ⟨hm.vm.mb,by have:=hm.rF;omega,λl hl=>by have:=hm.opt l hl;omega⟩ hm.opt) hk (by simp only[Kc,simprocAttr])
def um:List (List cz)->Int->Int
 |[],n=>n
 |l::r,n=>if n<10000 then um r (n*l.length) else n
def agz(m:ah)(hm:VM m):Holds Tryz.prog 19 [.agg (an m)] [] (Qf (min (um m.cls 1) 10000)) []:=by
 have oT:=hm.cls;generalize au:um m.cls 1=res;refine Holds.aM 26 0 [.tmp 2] Tryz.func19 ?_;((try revert hK K);(repeat'(first|refine Vb X0 ?_|(refine V2 X0 ?_ ?_<;>try with_reducible intro hb)|(refine Xi ?_ ?_<;>try intro ht)|refine VD ?_ ?_|exact Xx|fail))<;>try with_reducible intro K hK)
 refine aR (λz:Nat×Int=>(⟨ao [(1,.ptr 0 0 0),(3,Qf z.2),(4,Qf z.1)],[.var (an m)]⟩:St)) (λz=>z.1<=m.cls.length/\(0<=z.2/\z.2<=240000)/\um (m.cls.drop z.1) z.2=res) (λz=>m.cls.length-z.1) (0,1) ⟨aS _,⟨GS,GS⟩,au⟩ (Xv X0) ?_;rintro⟨i,n⟩⟨hi,⟨mL,nm⟩,hr⟩Ql ak aq;dsimp only at hi mL nm hr ⊢;by_cases ar:i<m.cls.length/\n<10000
 ·obtain⟨ar,Tq⟩:=ar;have sU:=hm.opt _ (aF (l:=m.cls) (i:=i) (d:=default) ar);rw[kd m.cls i default ar,um,if_pos Tq]at hr;generalize bc:m.cls.getD i default=c at *;have uu:0<=n*(c.length:Int):=Int.mul_nonneg mL GK;have vG:n*(c.length:Int)<=10000*24:=Int.mul_le_mul GK GK GK GK;generalize Bh:n*(c.length:Int)=nc at *;((try revert hK K);(repeat'(first|refine Va (X3 @bc @aW.eq_1 @Bh) ?_|(refine V2 (X3 @bc @aW.eq_1 @Bh) ?_ ?_<;>try with_reducible intro hb)|(refine Xi ?_ ?_<;>try intro ht)|refine VD ?_ ?_|exact Xx|fail))<;>try with_reducible intro K hK)
  exact ak _ (i+1,nc) ⟨PW,⟨uu,PW⟩,hr⟩ PW (Xv X0)
 ·have kh:n=res:=by
   rw[<- hr];by_cases h1:i<m.cls.length
   ·rw[kd m.cls i default h1,um,if_neg GK]
   ·rw[List.drop_eq_nil_of_le GK,um]
  subst kh;((try revert hK K);(repeat'(first|refine Va X0 ?_|(refine V2 X0 ?_ ?_<;>try with_reducible intro hb)|(refine Xi ?_ ?_<;>try intro ht)|refine VD ?_ ?_|exact Xx|fail))<;>try with_reducible intro K hK)
  all_goals try(exfalso;omega)
  all_goals
   refine aq _ _ rfl ?_;clear ak aq Ql;repeat(first|refine Xu ?_)
   ((try revert hK K);(repeat'(first|refine Vb X0 ?_|(refine V2 X0 ?_ ?_<;>try with_reducible intro hb)|(refine Xi ?_ ?_<;>try intro ht)|refine VD ?_ ?_|exact Xx|fail))<;>try with_reducible intro K hK)
   exact Xw true [] X0
def agy{m:ah}{left:List (List Bool)}{r:Int}(h:nv m left r=0):lg m left=0/\(b8 m left []).2=0:=by
 unfold nv at h;split at h
 ·rename_i h0;exact absurd h h0
 ·rename_i h0;refine⟨GK,?_⟩;rw[Me,if_neg h0]
end T

