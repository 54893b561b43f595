import Derived.Test.YtdipcmigdbnheaaGreatX28
set_option linter.all false
set_option maxHeartbeats 0
set_option maxRecDepth 20000
open List renaming mem_or_eq_of_mem_set→tz,getD_eq_getElem?_getD→aA,length_filter_le→BH,map_set→ry,mem_of_mem_drop→vT,getElem?_eq_some_iff→a8
open Nat renaming le_trans→j7,zero_le→aI,le_refl→aN
open Int renaming le_refl→eC,mul_le_mul→qj,min_eq_left→Kk
open Option renaming getD_some→jB,getD_none→Gz,map_some→fl
open Bool renaming not_false→je,not_true→gT
open Go Go.Am Go.Proofs
namespace T
def zT(c:Int)(p:Pr):Bool:=decide (p.fst≠c/\p.snd≠c)
def rm(m:aj)(c:Int):aj:=⟨m.cls.set c.toNat [],m.ae.filter (zT c),[],m.rules⟩
def ak7{m:aj}(hm:VM m){c:Int}(hc:0<=c):VM (rm m c):=by
 have bO:∀ l∈(rm m c).cls,l=[]\/l∈m.cls:=λl hl=>(tz hl).symm;have key:∀ (l:List Pr) (q:Option Pr),(∀ p∈l,zT c p=true)->fH m q l=true->fH (rm m c) q l=true:=by
  intro l
  induction l with
  |nil=>intro q _ _;cases q<;>rfl
  |cons p r ih =>
   intro q ho h;rw[fH.eq_def]at h ⊢;simp only[Bool.and_eq_true]at h ⊢;obtain⟨⟨a,b⟩,d⟩:=h;have hp:=ho p GF;unfold zT at hp;rw[decide_eq_true_eq]at hp;refine⟨⟨?_,b⟩,ih _ (λx hx=>ho x (by simp[hx])) d⟩;have e:∀ x:Int,0<=x->x≠c->(rm m c).cls.getD x.toNat default=m.cls.getD x.toNat default:=λx h0 hx=>by
    unfold rm;dsimp only;rw[aA,List.getElem?_set_ne GC,<- aA]
   have q:=(lT a).2;unfold gH at *;rw[e _ q.1 hp.1,e _ GC hp.2,show(rm m c).cls.length=m.cls.length by unfold rm;simp];exact a
 refine⟨by unfold rm;simpa using hm.cls,λl hl=>?_,j7 (BH _ _) hm.ae,aI _,hm.jq,λl hl o ho=>?_,key _ _ (λp hp=>(List.mem_filter.1 hp).2) (IE _ hm.pr),λc hc=>by cases hc⟩
 ·rcases bO l hl with rfl|h
  ·exact aI _
  ·exact hm.opt l h
 ·rcases bO l hl with rfl|h
  ·cases ho
  ·exact hm.mA l h o ho
def ab6{R:AV->AV->Prop}:∀ {a c:List (List AV)} {x y:List AV} (j:Nat),kQ R a c->fF R x y->kQ R (a.set j x) (c.set j y)
 |[],[],_,_,_,_,_=>trivial
 |_::_,_::_,_,_,0,h,k=>⟨k,h.2⟩
 |_::_,_::_,_,_,j+1,h,k=>⟨h.1,ab6 j h.2 k⟩
 |[],_::_,_,_,_,h,_=>h.elim
 |_::_,[],_,_,_,h,_=>h.elim
def ak8{α:Type}{enc:α->List AV}{w:Nat}[Row enc w]{σ:St}{kp:Nat->Prop}(xs:List α):kQ (cL σ kp) (rowsOf enc xs) (rowsOf enc xs) :=
 kQ.AY (f:=λ_=>[]) (g:=λ_=>[]) rfl λj c d hc hd=>by rw[hc]at hd;cases hd;exact Il (λv hv=>kW _ _ (List.mem_of_getElem? hc) v hv) rfl
def ak9{σ:St}{kp:Nat->Prop}{id n c:Nat}{cls:List (List bU)}(ho:σ.aa[id]?=some (.arr 1 ((rowsOf bu cls).set c [.lit (.slice none 0 0)])))(hn:n=cls.length)(hk:¬ kp id):cL σ kp (.tree 1 (rowsOf bu (cls.set c []))) (.ref id 1 0 n):=by
 have e:rowsOf bu (cls.set c [])=(rowsOf bu cls).set c (bu []):=by unfold rowsOf;rw[ry]
 refine cL.mk ho (by rw[hn,List.length_set,b8]) hk (gr _) ?_;rw[e];exact ab6 c (ak8 cls) ⟨.nil 6,trivial⟩
def OI(m:aj):List AV:=[.tree 1 (rowsOf bu m.cls),.ref 0 4 0 m.ae.length,.tree 4 (rowsOf aV m.av),aaC m.rules]
def ak'(m:aj)(hm:VM m)(c:Int)(hc:0<=c/\c<m.cls.length):ao Tryz.prog 79 [.agg (aq m),aaC c] [] (.agg (OI (rm m c))) [.arr 4 (rowsOf aP (rm m c).ae)]:=by
 have nu:=hm.cls;have s5:=hm.ae;have cD:(rowsOf bu m.cls).length=m.cls.length:=b8 _;have ala:∀ ρ,cg ρ (.arr 1 ((rowsOf bu m.cls).set c.toNat [.lit (.slice none 0 0)]))=.arr 1 ((rowsOf bu m.cls).set c.toNat [.lit (.slice none 0 0)]):=λρ=>by
  have h:cg ρ (.arr 1 (rowsOf bu m.cls))=.arr 1 (rowsOf bu m.cls):=by rw[tP]
  simp only[cg,Ob.arr.injEq,true_and]at h ⊢;rw[ry,h];simp[bC]
 have CY:∀ (xs:List Pr) (p:Pr),rowsOf aP xs++[[AV.lit (.int .i64 p.fst),AV.lit (.int .i64 p.snd),AV.lit (.int .i64 p.bz),AV.tree 1 (ints p.aB)]]=rowsOf aP (xs++[p]):=λxs p=>lO xs p;refine ao.aD 53 0 [.cell 4 29] Tryz.func79 ?_;repeat'(first|((fail_if_success (first|refine eT 1 ?_|refine eU 1 ?_));refine Xr X0 ?_;intro K hK)|(refine hK _ ?_;clear hK K)|refine XY ?_|fail)
 refine Mx ?_;intro Q hn he;refine yV ⟨aw [(1,aaC c),(2,.ptr 0 0 0),(4,.ptr 1 0 0),(5,.ptr 3 0 0)],[.var (aq m),.var [.lit (.slice none 0 0),.lit (.slice none 0 0),.lit (.slice none 0 0),aaC 0],.arr 1 (rowsOf bu m.cls),.var [.ref 2 1 0 m.cls.length,.lit (.slice none 0 0),.lit (.slice none 0 0),aaC m.rules]]⟩ hn ?_ (λkey=>?_);rotate_left
 ·refine kv [] (.take 0 (.take 1 (.three 2 (.take 3 (.take 4 (.take 5 (.take 6 (.take 7 .nil))))) 3 (.three 2 (.take 4 (.take 5 (.take 6 (.take 7 .nil)))) 4 (.both 2 (.take 5 (.take 6 (.take 7 .nil))) 6 (.take 2 (.take 5 (.take 7 .nil)))) 6 (.both 2 (.take 4 (.take 5 (.take 7 .nil))) 4 (.take 2 (.take 5 (.take 7 .nil))))) 6 (.both 2 (.take 3 (.take 4 (.take 5 (.take 7 .nil)))) 3 (.both 2 (.take 4 (.take 5 (.take 7 .nil))) 4 (.take 2 (.take 5 (.take 7 .nil)))))))) rfl Px (by decide +kernel) ?_;simp(disch:=omega)only[Ac,↓Pc,simprocAttr,Pw];repeat'(first|with_reducible refine And.intro ?_ ?_|omega)
  all_goals
   refine key _ ?_;first|(exact Xv X0;done)|(exact Xs false [0,1,3,2] X0)
 (try clear hn;try clear he)
 refine Vb @cD ?_;refine bY (aF.ni 3 1 4 rfl rfl Px) ?_;refine aM (λz:Nat×List Pr=>(⟨aw [(1,aaC c),(2,.ptr 0 0 0),(4,.ptr 1 0 0),(5,.ptr 3 0 0),(6,aaC z.1)],[.var (aq m),.var [.lit (.slice none 0 0),.lit (.slice none 0 0),.lit (.slice none 0 0),aaC 0],.arr 1 ((rowsOf bu m.cls).set c.toNat [.lit (.slice none 0 0)]),.var [.ref 2 1 0 m.cls.length,.ref 4 4 0 z.2.length,.lit (.slice none 0 0),aaC m.rules],.arr 4 (rowsOf aP z.2)]⟩:St))
  (λz=>z.1<=m.ae.length/\z.2=(m.ae.take z.1).filter (zT c)) (λz=>m.ae.length-z.1) (0,[]) ⟨aI _,rfl⟩ (Xv X0) ?_
 rintro⟨i,xs⟩⟨hi,dy⟩Ql an ar;dsimp only at hi dy ⊢;by_cases hi':i<m.ae.length
 ·have cN:=eG hi';have rT:xs.length<=4000:=by
   rw[dy];exact j7 (BH _ _) (by rw[List.length_take];omega)
  generalize b6:m.ae.getD i default=p at *;have hf:(m.ae.take (i+1)).filter (zT c)=xs++if zT c p=true then [p] else []:=by
   rw[cN,List.filter_append,<- dy];congr 1;rw[List.filter_cons,List.filter_nil]
  by_cases ab7:p.fst≠c/\p.snd≠c
  ·rw[if_pos (by unfold zT;exact decide_eq_true ab7)]at hf;((repeat'(first|refine Va (X2 @b6 @aP.eq_1) ?_|(refine V2 (X2 @b6 @aP.eq_1) ?_ ?_<;>try with_reducible intro hb)|(refine Xi ?_ ?_<;>try intro ht)|exact Xx|fail)))
   all_goals exact an _ (i+1,xs++[p]) ⟨PA,hf.symm⟩ PA (Xs false [0,1,2,3,6] (X2 @ala @CY))
  ·rw[if_neg (by unfold zT;simpa using ab7),List.append_nil]at hf;((repeat'(first|refine Va (X2 @b6 @aP.eq_1) ?_|(refine V2 (X2 @b6 @aP.eq_1) ?_ ?_<;>try with_reducible intro hb)|(refine Xi ?_ ?_<;>try intro ht)|exact Xx|fail)))
   all_goals exact an _ (i+1,xs) ⟨PA,hf.symm⟩ PA (Xv X0)
 ·rw[List.take_of_length_le GC]at dy;((repeat'(first|refine Va X0 ?_|(refine V2 X0 ?_ ?_<;>try with_reducible intro hb)|(refine Xi ?_ ?_<;>try intro ht)|exact Xx|fail)))
  refine ar _ _ rfl ?_;clear an ar Ql;repeat(refine Xu ?_)
  refine Vb X0 ?_;simp(disch:=omega)only[Ac,↓Pc,simprocAttr,rowOf];have lR:(rm m c).ae=xs:=by rw[dy];rfl
  rw[lR];refine cZ [4] true Px ⟨⟨GF,.inr (by rw[tP];rfl)⟩,trivial⟩ Px Px ?_;refine(aJ.agg _ _ rfl (fF.spec (R:=aJ _ _ _ _) (cs:=OI (rm m c)) (ds:=[.ref 2 1 0 m.cls.length,.ref 4 4 0 xs.length,.lit (.slice none 0 0),aaC m.rules]) ⟨.snap _ _ rfl (ak9 rfl rfl (iK Px)),.eq (by rw[lR];rfl),.snap _ _ rfl (.nil 4),.pure rfl,trivial⟩).2)
def qa:List (List bU)->Int
 |[]=>1
 |l::r=>l.length*qa r
def F8:∀ (cls:List (List bU)),(∀ l∈cls,1<=l.length)->1<=qa cls
 |[],_=>eC _
 |l::r,h=>by
  have h1:=h l GF;have h2:=F8 r λx hx=>h x (by simp[hx]);rw[qa];have:(1:Int)*1<=l.length*qa r:=qj GC h2 GC GC;omega
def alb(m:aj)(hm:VM m)(p8:∀ l∈m.cls,1<=l.length)(hb:qa m.cls<=9999):ao Tryz.prog 78 [.agg (aq m)] [] (aaC (qa m.cls)) []:=by
 have nu:=hm.cls;have aof:=F8 m.cls p8;generalize ak:qa m.cls=res at *;refine ao.aD 26 0 [.tmp 2] Tryz.func78 ?_;refine Vb X0 ?_;refine aM (λz:Nat×Int=>(⟨aw [(1,.ptr 0 0 0),(3,aaC z.2),(4,aaC z.1)],[.var (aq m)]⟩:St)) (λz=>z.1<=m.cls.length/\1<=z.2/\z.2*qa (m.cls.drop z.1)=res) (λz=>m.cls.length-z.1) (0,1) ⟨aI _,Px,by rw[List.drop_zero,ak];exact Int.one_mul _⟩ (Xv X0) ?_;rintro⟨i,n⟩⟨hi,gp,hr⟩Ql an ar;dsimp only at hi gp hr ⊢;have MX:=F8 (m.cls.drop i) λx hx=>p8 x (vT hx);have aog:n<=res:=by
  rw[<- hr];have:n*1<=n*qa (m.cls.drop i):=Int.mul_le_mul_of_nonneg_left MX GC;omega
 by_cases hi':i<m.cls.length
 ·have s6:=hm.opt _ (ay (l:=m.cls) (i:=i) (d:=default) hi');have xU:=p8 _ (ay (l:=m.cls) (i:=i) (d:=default) hi');rw[cP m.cls i default hi',qa,<- Int.mul_assoc]at hr;have Y2:=F8 (m.cls.drop (i+1)) λx hx=>p8 x (vT hx);generalize aR:m.cls.getD i default=c at *;have rR:n*1<=n*(c.length:Int):=Int.mul_le_mul_of_nonneg_left GC GC;have rS:n*(c.length:Int)<=10000*24:=qj GC GC GC GC;generalize AP:n*(c.length:Int)=nc at *;((repeat'(first|refine Va (X3 @aR @bu.eq_1 @AP) ?_|(refine V2 (X3 @aR @bu.eq_1 @AP) ?_ ?_<;>try with_reducible intro hb)|(refine Xi ?_ ?_<;>try intro ht)|exact Xx|fail)))
  exact an _ (i+1,nc) ⟨PA,PA,hr⟩ PA (Xv X0)
 ·rw[List.drop_eq_nil_of_le GC,qa,Int.mul_one]at hr;((repeat'(first|refine Va X0 ?_|(refine V2 X0 ?_ ?_<;>try with_reducible intro hb)|(refine Xi ?_ ?_<;>try intro ht)|exact Xx|fail)))
  all_goals
   refine ar _ _ rfl ?_;clear an ar Ql;repeat(refine Xu ?_)
   refine Vb X0 ?_;exact aE rfl (by rw[<- hr,Kk GC])
def ab8{w:Nat}:∀ (cls:List (List bU)) (k:Nat),1<=w->cls.length<=k->(∀ l∈cls,1<=l.length/\l.length<=w)->qa cls<=(w:Int)^k
 |[],k,hw,_,_=>by
  rw[qa];have:(0:Int)<(w:Int)^k:=Int.pow_pos GC;omega
 |l::r,0,_,hk,_=>by simp at hk
 |l::r,k+1,hw,hk,h=>by
  have h1:=h l GF;have h2:=ab8 r k hw (by simpa using hk) λx hx=>h x (by simp[hx]);have h3:=F8 r λx hx=>(h x (by simp[hx])).1;rw[qa,Int.pow_succ,Int.mul_comm ((w:Int)^k)];exact qj GC h2 GC GC
def alc{m:aj}{x:List (List Bool)}(hm:VM m)(h:dD m x):BB x:=by
 have hc:=hm.cls;refine⟨by have:=h.1;omega,λr hr=>?_⟩;obtain⟨i,hi,rfl⟩:=List.getElem_of_mem hr;have h2:=h.2 i hi;have h3:=hm.opt _ (ay (l:=m.cls) (i:=i) (d:=default) (by have:=h.1;omega));rw[aA,List.getElem?_eq_getElem hi,jB]at h2;omega
structure FW(m:aj):Prop where
 vm:VM m
 nr:m.cls.length<=4
 opt:∀ l∈m.cls,l.length<=4
def FW.cap{m:aj}(h:FW m):lE m m.cls.length<=8000 :=
 j7 (abA h.opt _ (aN _)) (j7 (Nat.pow_le_pow_right Px h.nr) Px)
def MM.fw{m:aj}{a b:Nat}(h:MM m a b)(ha:a<=4)(hb:b<=4):FW m:=⟨h.vm,j7 h.nr ha,λl hl=>j7 (h.some l hl).2 hb⟩
def FW.ald{m:aj}(h:FW m){c:Int}(hc:0<=c):FW (rm m c):=⟨ak7 h.vm hc,by unfold rm;simpa using h.nr,λl hl=>by
 rcases tz hl with h1|h1
 ·exact h.opt l h1
 ·rw[h1];exact aI _⟩
def agd(L:List Int)(k:Nat)(hk:k<=L.length)(hL:L.length<1000000):
  fh Tryz.prog 44 [.ptr 0 0 0] [kX L k] (λr os=>∃ m k',FW m/\k'<=L.length/\r=.agg (xS m)/\os=[kX L k',.arr 4 (rowsOf aP m.ae)]):=by
 have y9:=aaE L k 4 4 hk hL Px Px Px;unfold kX at *;refine fh.aD 117 1 [.cell 2 29] Tryz.func44 ?_;repeat'(first|((fail_if_success (first|refine eT 1 ?_|refine eU 1 ?_));refine Xr X0 ?_;intro K hK)|(refine hK _ ?_;clear hK K)|refine Xy ?_|fail)
 refine pe 1 Px _ rfl ?_;intro K hK;simp(disch:=omega)only[Ac,↓Pc,simprocAttr,List.take,List.drop];refine⟨rfl,(show lP Tryz.prog 26 [.ptr 0 0 0,aaC (4:Nat),aaC (4:Nat)] (some 11) _ _ from ?_)⟩;refine En [0] y9 Px ⟨rfl,trivial⟩ ⟨.eq rfl,.pure rfl,.pure rfl,trivial⟩ ?_;rintro r os⟨m,k1,hm,jb,rfl,rfl⟩;clear y9 hk;have OJ:=hm.fw (aN 4) (aN 4);have ky:qa m.cls<=256:=Int.le_trans (ab8 (w:=4) m.cls 4 Px hm.nr hm.some) Px;have iu:=alb m hm.vm (λl hl=>(hm.some l hl).1) GC;generalize qa m.cls=pn at *;unfold xS;simp(disch:=omega)only[Ac,↓Pc,simprocAttr,tP];refine hK _ ?_;clear hK K;repeat(refine Xu ?_)
 have jV:=Cm L k1 12 (by unfold gk;omega) GC jb hL;have b9:=iY jb;refine Va X0 ?_;refine aM (λ_:Unit=>(⟨aw [(0,.ptr 0 0 0),(2,.ptr 1 0 0),(3,.ptr 3 0 0)],[.var [.tree 1 (ints L),aaC k1],.var [.lit (.slice none 0 0),.lit (.slice none 0 0),.lit (.slice none 0 0),aaC 0],.arr 4 (rowsOf aP m.ae),.var [.tree 1 (rowsOf bu m.cls),.ref 2 4 0 m.ae.length,.tree 4 (rowsOf aV m.av),aaC m.rules]]⟩:St)) (λ_=>True) (λ_=>0) () trivial (Xv X0) ?_;rintro _ _ Ql an ar;((refine Va X0 ?_)<;>try with_reducible intro K hK)
 refine nM [] iu Px trivial ⟨(aJ.agg _ _ rfl (fF.spec (R:=aJ _ _ _ _) (cs:=aq m) (ds:=[.tree 1 (rowsOf bu m.cls),.ref 2 4 0 m.ae.length,.tree 4 (rowsOf aV m.av),aaC m.rules]) ⟨.pure rfl,aJ.cC rfl (gr _) (by rw[b8]) GF (kW _),.pure rfl,.pure rfl,trivial⟩).2),trivial⟩ rfl GF ?_;simp(disch:=omega)only[Ac,↓Pc,simprocAttr];((try revert hK K);(repeat'(first|refine Va X0 ?_|(refine Xi ?_ ?_<;>try intro ht)|exact Xx|fail)))
 refine ar _ _ rfl ?_;clear an ar Ql;repeat(refine Xu ?_)
 clear iu ky;have Co:∀ (env:Nat->AV) (m:aj) (k':Nat) (q:Nat) (os:List Ob),FW m->k'<=L.length->env 2=.ptr 1 0 0->os[0]?=some (.var [.tree 1 (ints L),aaC k'])->os[1]?=some (.var [.tree 1 (rowsOf bu m.cls),.ref q 4 0 m.ae.length,.tree 4 (rowsOf aV m.av),aaC m.rules])->os[q]?=some (.arr 4 (rowsOf aP m.ae))->q≠0 ->
   gu Tryz.prog 1 [.cell 2 29] (λr os=>∃ m k',FW m/\k'<=L.length/\r=.agg (xS m)/\os=[.var [.tree 1 (ints L),aaC k'],.arr 4 (rowsOf aP m.ae)]) .ret ⟨env,os⟩:=by
  intro env m k' q os fj aK wa h0 h1 hq L5;have hl0:=(a8.1 h0).1;have hlq:=(a8.1 hq).1;unfold gu;simp only[eF,ew,wa];simp(disch:=omega)only[Ac,↓Pc,simprocAttr,wa,h1];refine⟨_,_,⟨m,k',fj,aK,rfl,rfl⟩,?_⟩;refine cZ [0,q] true (by simp[Ne.symm L5]) ⟨⟨hl0,.inr (by rw[h0];rfl)⟩,⟨hlq,.inr (by rw[hq,tP])⟩,trivial⟩ GF (λi hi=>by
   obtain rfl:i=0:=GC;rfl) ?_
  refine(aJ.agg _ _ rfl (fF.spec (R:=aJ _ _ _ _) (cs:=xS m) (ds:=[.tree 1 (rowsOf bu m.cls),.ref q 4 0 m.ae.length,.tree 4 (rowsOf aV m.av),aaC m.rules]) ⟨.pure rfl,.eq rfl,.pure rfl,.pure rfl,trivial⟩).2)
 ((repeat'(first|refine Va X0 ?_|(refine V2 X0 ?_ ?_<;>try with_reducible intro hb)|(refine Xi ?_ ?_<;>try intro ht)|exact Xx|fail))<;>try with_reducible intro K hK)
 rotate_left
 ·exact Co _ m k1 2 _ OJ jb (by simp only[Kc,simprocAttr]) rfl rfl rfl Px
 have oA:0<m.cls.length:=GC;have rh:=kZ L (dM L k1) (m.cls.length:Int) (by unfold gk;have:=hm.vm.cls;omega) b9 hL;have F7:=oO (L:=L) (k:=dM L k1) (n:=(m.cls.length:Int)) GC;have hwo:=ak' m hm.vm (gl L (dM L k1) (m.cls.length:Int)) F7;have hwf:=OJ.ald F7.1;have mQ:=iY b9;unfold kX at *;generalize AL L k1 12=bo at *;generalize gl L (dM L k1) (m.cls.length:Int)=v at *;generalize dM L (dM L k1)=k3 at *;generalize dM L k1=k2 at *;generalize rm m v=mw at *;(refine Xn [0] (jV) ?_;simp(disch:=omega)only[Ac,↓Pc,simprocAttr])
 ((try revert hK K);(repeat'(first|refine Va X0 ?_|(refine Xi ?_ ?_<;>try intro ht)|fail))<;>try with_reducible intro K hK)
 ·(refine Xn [0] (rh) ?_;simp(disch:=omega)only[Ac,↓Pc,simprocAttr])
  repeat'(first|(refine hK _ ?_;clear hK K)|refine Xy ?_|fail)
  refine bY (aF.wg 2 3 1 4 aau aau (by rw[b8];rfl) (gr _) (kW _)) ?_;unfold OI at hwo;((refine Va X0 ?_)<;>try with_reducible intro K hK)
  (refine Xn [] (hwo) ?_;simp(disch:=omega)only[Ac,↓Pc,simprocAttr,tP])
  ((try revert hK K);(refine Va X0 ?_))
  exact Co _ mw k3 4 _ hwf mQ (by simp only[Kc,simprocAttr]) rfl rfl rfl Px
 ·exact Co _ m k2 2 _ OJ b9 (by simp only[Kc,simprocAttr]) rfl rfl rfl Px
def alg{m:aj}{P:List Nd}:∀ (l:ei) (x:List (List Bool)),dD m x->dD m (qb P l x):=by
 intro l
 induction l with
 |nil=>exact λx h=>h
 |cons a l ih=>exact λx h=>ih _ (FT h (Ik _ _ _))
def alh {m:aj} {P:List Nd} {up:ei} {i:Nat} (h:vJ m P up i=none):∀ j,i<=j->vJ m P up j=none:=by
  intro j hj
  induction j with
  | zero => obtain rfl : i = 0 := by omega
            exact h
  | succ q ih =>
    by_cases e:i=q+1
    · subst e;exact h
    · rw[ab',ih GC];rfl
def Df(m:aj)(P:List Nd):Int×Bool:=if df m=0 then JC m P else(0,false)
def agq(m:aj)(P:List Nd)(hm:MB m)(hP:PB P)(sj:∀ x left,x∈P->VM m->dD m left->ao Tryz.prog 96 [.agg (aq m),.agg (aG x),.tree 1 (rowsOf aQ left)] [] (.lit (.bool (lW m x left))) []):
  ao Tryz.prog 53 [.agg (aq m),.agg (aT P)] [] (.bJ [aaC (Df m P).1,.lit (.bool (Df m P).2)]) []:=by
 have rV:=hP.qJ;have h1:=wx m hm;generalize ak:Df m P=res;unfold Df at ak;refine ao.aD 68 0 [.tmp 4,.tmp 5] Tryz.func53 ?_;by_cases hv:df m=0;rotate_left
 ·rw[if_neg hv]at ak;subst ak;generalize df m=e at *;((repeat'(first|refine Vd @aT.eq_1 h1 ?_|(refine Xi ?_ ?_<;>try intro ht)|exact Xx|fail)))
  exact aE rfl rfl
 rw[if_pos hv]at ak;rw[hv]at h1;have bT:=eK.1 hv;have h2:=ali m P bT hP;unfold JC at ak;unfold aT at h2;cases hf:oa m P with
 |none =>
  rw[hf]at ak h2;simp only[Option.isSome_none,Option.isSome_some,Gz,jB]at h2;dsimp only at ak;subst ak;((repeat'(first|refine Vd (X4 @aT.eq_1 @bne_self_eq_false.{0} @je @gT) (X2 h1 h2) ?_|(refine Xi ?_ ?_<;>try intro ht)|exact Xx|fail)))
  all_goals exact aE rfl rfl
 |some up =>
  rw[hf]at ak h2;simp only[Option.isSome_none,Option.isSome_some,Gz,jB]at h2;dsimp only at ak;have hlen:=(vF (Dg hf)).2;((repeat'(first|refine Vc (X4 @aT.eq_1 @bne_self_eq_false.{0} @je @gT) (X2 h1 h2) ?_|(refine Xi ?_ ?_<;>try intro ht)|exact Xx|fail)))
  refine aM (λz:Nat×Int=>(⟨aw [(2,.ptr 0 0 0),(3,.ptr 1 0 0),(6,.tree 2 (rowsOf aL up)),(8,aaC z.2),(9,aaC z.1)],[.var (aq m),.var (aT P)]⟩:St))
   (λz=>z.1<=P.length/\vJ m P up z.1=some z.2/\z.2<=1099511627776) (λz=>P.length-z.1) (0,1099511627776) ⟨aI _,rfl,eC _⟩ (Xv @aT.eq_1) ?_
  rintro⟨i,b⟩⟨hi,n7,qZ⟩Ql an ar;dsimp only at hi n7 qZ ⊢;by_cases hi':i<P.length;rotate_left
  ·obtain rfl:i=P.length:=GC;rw[n7]at ak;dsimp only at ak;((repeat'(first|refine Va @aT.eq_1 ?_|(refine Xi ?_ ?_<;>try intro ht)|exact Xx|fail)))
   refine ar _ _ rfl ?_;clear an ar Ql;repeat(refine Xu ?_)
   subst ak;refine Vb X0 ?_;exact aE rfl rfl
  have bO:=ay (l:=P) (i:=i) (d:=default) hi';have b2:=hP.cV _ bO;have b3:=hP.a9 _ bO;have w8:=alj m P up i hm bT hP hf hi';have ey:dD m (vK m P up i):=alg _ _ (C5 bT);have De:=sj _ (vK m P up i) bO bT ey;have od:=ab' m P up i;rw[n7]at od;have od:vJ m P up (i+1)=(w9 m (nd P i) (vK m P up i)).map (min b):=od;have gQ:vJ m P up (i+1)=none->res=(0,false):=λh=>by
   rw[<- ak,alh h _ GC]
  unfold nd at od;unfold aT at w8;generalize e7:vK m P up i=left at *;have hval:=aj' m left (P.getD i default).cV hm (alc bT ey) b2;have hvt:CP m left (P.getD i default).cV=iC m left (P.getD i default).cV:=by
   unfold CP IS;rw[if_neg (by rw[if_neg (by rw[hv];simp),if_pos ey];simp)]
  rw[hvt]at hval;generalize aS:P.getD i default=x at *;have qD:∀ n,w9 m x left=some n->n<=1099511627776->True:=λ_ _ _=>trivial;unfold w9 at od;generalize nU:lW m x left=cr at *;obtain⟨c,kids,cV,a9,cells⟩:=x;dsimp only at b2 b3 hval od hvt;generalize iC m left cV=lt at *;unfold aG at De;dsimp only at De;by_cases e9:c = -1;rotate_left
  ·rw[if_pos e9,fl,Kk qZ]at od;((repeat'(first|refine Va (X3 @aT.eq_1 @aS @aG.eq_1) ?_|(refine Xi ?_ ?_<;>try intro ht)|exact Xx|fail)))
   all_goals exact an _ (i+1,b) ⟨PA,od,qZ⟩ PA (Xs false [0,1] @aT.eq_1)
  rw[if_neg (λh=>h e9)]at od;by_cases hg:0<a9.length
  ·rw[if_pos hg]at od;cases cr
   ·have hr:=gQ od;subst hr;((repeat'(first|refine Vc (X5 @aT.eq_1 @aS @aG.eq_1 @je @gT) (X2 w8 De) ?_|(refine Xi ?_ ?_<;>try intro ht)|exact Xx|fail)))
    all_goals
     repeat(refine Xu ?_)
     refine Vb X0 ?_;exact aE rfl rfl
   ·rw[if_pos rfl,fl,Kk qZ]at od;((repeat'(first|refine Vc (X5 @aT.eq_1 @aS @aG.eq_1 @je @gT) (X2 w8 De) ?_|(refine Xi ?_ ?_<;>try intro ht)|exact Xx|fail)))
    all_goals exact an _ (i+1,b) ⟨PA,od,qZ⟩ PA (Xs false [0,1] @aT.eq_1)
  ·rw[if_neg hg]at od;obtain⟨l1,l2⟩:=lt;dsimp only at od hval;by_cases hz:l2=0
   ·rw[if_pos hz,fl]at od;subst hz;((repeat'(first|refine Vc (X5 @aT.eq_1 @aS @aG.eq_1 @je (X2 @gT @bne_self_eq_false.{0})) (X2 w8 hval) ?_|(refine Xi ?_ ?_<;>try intro ht)|exact Xx|fail)))
    all_goals exact an _ (i+1,min b l1) ⟨PA,od,PA⟩ PA (Xs false [0,1] @aT.eq_1)
   ·rw[if_neg hz]at od;have hr:=gQ od;subst hr;((repeat'(first|refine Vc (X5 @aT.eq_1 @aS @aG.eq_1 @je @gT) (X2 w8 hval) ?_|(refine Xi ?_ ?_<;>try intro ht)|exact Xx|fail)))
    all_goals
     repeat(refine Xu ?_)
     refine Vb X0 ?_;exact aE rfl rfl
def ags(m:aj)(P:List Nd):Df m P=jx m P:=by
 unfold Df;by_cases hv:df m=0
 ·rw[if_pos hv,alk (eK.1 hv)]
 ·rw[if_neg hv];have hw:q8 m P (gB m P) 1099511627776=(1099511627776,false):=if_neg λh=>hv h.1;unfold jx;rw[hw,if_neg GF]
end T

