import Derived.Test.YtfoopmojjjpapaaGreatX28
set_option linter.all false
set_option maxHeartbeats 0
set_option maxRecDepth 20000
open List renaming any_eq_true→qH,getD_eq_getElem?_getD→ay,getElem?_eq_getElem→bx,mem_range→nB,contains_iff_mem→ny,drop_eq_nil_of_le→jL
open Bool renaming not_eq_true→vF
open Nat renaming zero_le→aP,not_lt_zero→my
open Int renaming toNat_natCast→dg,mul_nonneg→sY,mul_le_mul→qG
open Go Go.Am Go.Proofs
namespace T
def yH(n:Nat)(l:List Int):Bool:=l.any λc=>decide (c<0\/(n:Int)<=c)
def wa(l:List Int):Bool:=(List.range l.length).any λi=>(l.take i).contains (l.getD i 0)
def rY(cls:List (List cP)):List Int->Int->Int->Bool
 |[],_,_=>true
 |c::r,all,row=>if 20000<all+row*((cls.getD c.toNat default).length:Int) then false else rY cls r (all+row*((cls.getD c.toNat default).length:Int)) (row*((cls.getD c.toNat default).length:Int))
def xE(m:ah)(l:List Int)(rounds:Int):Int :=
 if gv m≠0 then gv m
 else if yH m.cls.length l=true then 3
 else if rounds<0\/64<rounds then 3
 else if wa l=true then 11
 else if rY m.cls l 1 1=false then 2
 else 0
def Qd{n:Nat}{l:List Int}{i:Nat}(hi:i<l.length)(h:l.getD i 0<0\/(n:Int)<=l.getD i 0):yH n l=true:=by
 unfold yH;rw[qH];exact⟨_,aF (d:=0) hi,by rw[decide_eq_true_eq];exact h⟩
def Qe{n:Nat}{l:List Int}(h:∀ i,i<l.length->¬ (l.getD i 0<0\/(n:Int)<=l.getD i 0)):yH n l=false:=by
 rw[<- vF];intro hb;unfold yH at hb;rw[qH]at hb;obtain⟨c,hc,h2⟩:=hb;rw[decide_eq_true_eq]at h2;obtain⟨i,hi,rfl⟩:=List.getElem_of_mem hc;refine h i hi ?_;rw[ay,bx hi];exact h2
def UW{n:Nat}{l:List Int}(h:yH n l=false){i:Nat}(hi:i<l.length):0<=l.getD i 0/\l.getD i 0<n:=by
 by_cases h2:l.getD i 0<0\/(n:Int)<=l.getD i 0
 ·rw[Qd hi h2]at h;cases h
 ·omega
def aeQ{l:List Int}{i k:Nat}(hi:i<l.length)(hk:k<i)(h:l.getD i 0=l.getD k 0):wa l=true:=by
 unfold wa;rw[qH];refine⟨i,nB.2 hi,?_⟩;rw[ny,h];rw[ay,bx (by omega:k<l.length)];exact List.mem_take_iff_getElem.2 ⟨k,Ey,rfl⟩
def aoA{l:List Int}(h:∀ i,i<l.length->∀ k,k<i->l.getD i 0≠l.getD k 0):wa l=false:=by
 rw[<- vF];intro hb;unfold wa at hb;rw[qH]at hb;obtain⟨i,hi,h2⟩:=hb;rw[nB]at hi;rw[ny]at h2;obtain⟨k,hk,e⟩:=List.mem_take_iff_getElem.1 h2;refine h i hi k Ey ?_;rw[<- e,ay,bx (by omega:k<l.length)];rfl
def yp(cls:List (List cP)):List Int->Int->Int->Int
 |[],all,_=>all
 |c::r,all,row=>if 20000<all+row*((cls.getD c.toNat default).length:Int) then 20001 else yp cls r (all+row*((cls.getD c.toNat default).length:Int)) (row*((cls.getD c.toNat default).length:Int))
def aeR(cls:List (List cP)):∀ (l:List Int) (all row:Int),all<=20000->(20000<yp cls l all row↔rY cls l all row=false)
 |[],all,row,h=>by rw[yp,rY];simp;omega
 |c::r,all,row,h=>by
  rw[yp,rY];split
  ·simp
  ·exact aeR cls r _ _ Ey
def aoB(m:ah)(l:List Int)(b8:VM m)(eY:l.length<1000000)(da:∀ j,j<l.length->0<=l.getD j 0/\l.getD j 0<m.cls.length):
  Holds Tryz.prog 57 [.agg (ao m),.tree 1 (ints l)] [] (QM (yp m.cls l 1 1)) []:=by
 have np:=b8.cls;generalize an:yp m.cls l 1 1=res;refine Holds.aM 30 0 [.tmp 4] Tryz.func57 ?_;((try revert hK K);(repeat'(first|refine Vb X0 ?_|(refine V2 X0 ?_ ?_<;>try with_reducible intro hb)|(refine Xi ?_ ?_<;>try intro ht)|refine VD ?_ ?_|exact Xx|fail))<;>try with_reducible intro K hK)
 refine aQ (λz:Nat×Int×Int=>(⟨ar [(2,.ptr 0 0 0),(5,QM z.2.1),(6,QM z.2.2),(9,.tree 1 (ints l)),(10,QM l.length),(11,QM z.1)],[.var (ao m)]⟩:St)) (λz=>z.1<=l.length/\(0<=z.2.1/\z.2.1<=20000/\0<=z.2.2/\z.2.2<=z.2.1)/\yp m.cls (l.drop z.1) z.2.1 z.2.2=res) (λz=>l.length-z.1) (0,1,1) ⟨aP _,Hg,an⟩ (Xv X0) ?_;rintro⟨i,a,b⟩⟨hi,⟨pk,Dr,fN,lG⟩,eR⟩Ql ak aq;dsimp only at hi pk Dr fN lG eR ⊢;by_cases au:i<l.length
 ·have Kh:=da i au;have p8:=b8.opt _ (aF (l:=m.cls) (i:=(l.getD i 0).toNat) (d:=default) Ey);rw[kR l i 0 au,yp]at eR;generalize kz:l.getD i 0=c at *;obtain⟨c,rfl⟩:∃q:Nat,c=q:=⟨c.toNat,Ey⟩;rw[dg]at p8 eR;generalize a6:m.cls.getD c default=o at *;have sr:0<=b*(o.length:Int):=sY fN Ey;have uU:b*(o.length:Int)<=20000*24:=qG Ey Ey Ey Ey;generalize su:b*(o.length:Int)=nb at *;by_cases ho:20000<a+nb
  ·rw[if_pos ho]at eR;subst eR;((try revert hK K);(repeat'(first|refine Va (X4 @kz @a6 @aT.eq_1 @su) ?_|(refine V2 (X4 @kz @a6 @aT.eq_1 @su) ?_ ?_<;>try with_reducible intro hb)|(refine Xi ?_ ?_<;>try intro ht)|refine VD ?_ ?_|exact Xx|fail))<;>try with_reducible intro K hK)
   all_goals try(exfalso;omega)
   all_goals
    refine aq _ _ rfl ?_;repeat(first|refine Xu ?_)
    exact aN rfl rfl
  ·rw[if_neg ho]at eR;((try revert hK K);(repeat'(first|refine Va (X4 @kz @a6 @aT.eq_1 @su) ?_|(refine V2 (X4 @kz @a6 @aT.eq_1 @su) ?_ ?_<;>try with_reducible intro hb)|(refine Xi ?_ ?_<;>try intro ht)|refine VD ?_ ?_|exact Xx|fail))<;>try with_reducible intro K hK)
   all_goals try(exfalso;omega)
   all_goals exact ak _ (i+1,a+nb,nb) ⟨Hi,Hi,eR⟩ Hi (Xv X0)
 ·rw[jL Ey,yp]at eR;subst eR;((try revert hK K);(repeat'(first|refine Va X0 ?_|(refine V2 X0 ?_ ?_<;>try with_reducible intro hb)|(refine Xi ?_ ?_<;>try intro ht)|refine VD ?_ ?_|exact Xx|fail))<;>try with_reducible intro K hK)
  refine aq _ _ rfl ?_;clear ak aq Ql;repeat(first|refine Xu ?_)
  ((try revert hK K);(repeat'(first|refine Vb X0 ?_|(refine V2 X0 ?_ ?_<;>try with_reducible intro hb)|(refine Xi ?_ ?_<;>try intro ht)|refine VD ?_ ?_|exact Xx|fail))<;>try with_reducible intro K hK)
  exact aN rfl rfl
def ahr(m:ah)(l:List Int)(rounds:Int)(mG:MB m)(eY:l.length<1000000)(hr:cY rounds):
  Holds Tryz.prog 26 [.agg (ao m),.tree 1 (ints l),QM rounds] [] (QM (xE m l rounds)) []:=by
 have h1:=Fk m mG;unfold xE;by_cases h0:gv m≠0
 ·rw[if_pos h0];generalize gv m=e at *;refine Holds.aM 88 0 [.tmp 6] Tryz.func26 ?_;((try revert hK K);(repeat'(first|refine Vd X0 h1 ?_|(refine V2 X0 ?_ ?_<;>try with_reducible intro hb)|(refine Xi ?_ ?_<;>try intro ht)|refine VD ?_ ?_|exact Xx|fail))<;>try with_reducible intro K hK)
  all_goals try(exfalso;omega)
  all_goals exact aN rfl rfl
 rw[if_neg h0];have h0:gv m=0:=Ey;have b8:=kf.1 h0;have np:=b8.cls;rw[h0]at h1;unfold cY at hr;generalize an:(if yH m.cls.length l=true then(3:Int) else if rounds<0\/64<rounds then 3 else if wa l=true then 11 else if rY m.cls l 1 1=false then 2 else 0)=res;refine Holds.aM 88 0 [.tmp 6] Tryz.func26 ?_;((try revert hK K);(repeat'(first|refine Vd @bne_self_eq_false.{0} h1 ?_|(refine V2 @bne_self_eq_false.{0} ?_ ?_<;>try with_reducible intro hb)|(refine Xi ?_ ?_<;>try intro ht)|refine VD ?_ ?_|exact Xx|fail))<;>try with_reducible intro K hK)
 refine aQ (λi:Nat=>(⟨ar [(1,.tree 1 (ints l)),(2,QM rounds),(3,.ptr 0 0 0),(8,QM i)],[.var (ao m)]⟩:St)) (λi=>i<=l.length/\∀ j,j<i->¬ (l.getD j 0<0\/(m.cls.length:Int)<=l.getD j 0)) (λi=>l.length-i) 0 ⟨aP _,λj hj=>absurd hj (my _)⟩ (Xv X0) ?_;rintro i⟨hi,iz⟩Ql ak aq;by_cases au:i<l.length
 ·by_cases hb:l.getD i 0<0\/(m.cls.length:Int)<=l.getD i 0
  ·rw[if_pos (Qd au hb)]at an;subst an;generalize kz:l.getD i 0=c at *;((try revert hK K);(repeat'(first|refine Va @kz ?_|(refine V2 @kz ?_ ?_<;>try with_reducible intro hb)|(refine Xi ?_ ?_<;>try intro ht)|refine VD ?_ ?_|exact Xx|fail))<;>try with_reducible intro K hK)
   all_goals try(exfalso;omega)
   all_goals
    refine aq _ _ rfl ?_;repeat(first|refine Xu ?_)
    exact aN rfl rfl
  ·have kB:∀ j,j<i+1->¬ (l.getD j 0<0\/(m.cls.length:Int)<=l.getD j 0):=λj hj=>by
    by_cases e:j=i
    ·rw[e];exact hb
    ·exact iz j Ey
   generalize kz:l.getD i 0=c at *;((try revert hK K);(repeat'(first|refine Va @kz ?_|(refine V2 @kz ?_ ?_<;>try with_reducible intro hb)|(refine Xi ?_ ?_<;>try intro ht)|refine VD ?_ ?_|exact Xx|fail))<;>try with_reducible intro K hK)
   all_goals try(exfalso;omega)
   all_goals exact ak _ (i+1) ⟨Ey,kB⟩ Ey (Xv X0)
 ·obtain rfl:i=l.length:=Ey;rw[if_neg (by rw[Qe iz];simp)]at an;((try revert hK K);(repeat'(first|refine Va X0 ?_|(refine V2 X0 ?_ ?_<;>try with_reducible intro hb)|(refine Xi ?_ ?_<;>try intro ht)|refine VD ?_ ?_|exact Xx|fail))<;>try with_reducible intro K hK)
  refine aq _ _ rfl ?_;clear ak aq Ql;repeat(first|refine Xu ?_)
  by_cases h2:rounds<0\/64<rounds
  ·rw[if_pos h2]at an;subst an;((try revert hK K);(repeat'(first|refine Vb X0 ?_|(refine V2 X0 ?_ ?_<;>try with_reducible intro hb)|(refine Xi ?_ ?_<;>try intro ht)|refine VD ?_ ?_|exact Xx|fail))<;>try with_reducible intro K hK)
   all_goals try(exfalso;omega)
   all_goals exact aN rfl rfl
  rw[if_neg h2]at an;have da:=λj hj=>UW (Qe iz) (i:=j) hj;clear iz;((try revert hK K);(repeat'(first|refine Va X0 ?_|(refine V2 X0 ?_ ?_<;>try with_reducible intro hb)|(refine Xi ?_ ?_<;>try intro ht)|refine VD ?_ ?_|exact Xx|fail))<;>try with_reducible intro K hK)
  all_goals try(exfalso;omega)
  refine aQ (λi:Nat=>(⟨ar [(1,.tree 1 (ints l)),(3,.ptr 0 0 0),(9,QM i)],[.var (ao m)]⟩:St)) (λi=>i<=l.length/\∀ j,j<i->∀ k,k<j->l.getD j 0≠l.getD k 0) (λi=>l.length-i) 0 ⟨aP _,λj hj=>absurd hj (my _)⟩ (Xv X0) ?_;rintro i⟨hi,iz⟩Ql ak aq;by_cases au:i<l.length
  ·((try revert hK K);(repeat'(first|refine Va X0 ?_|(refine V2 X0 ?_ ?_<;>try with_reducible intro hb)|(refine Xi ?_ ?_<;>try intro ht)|refine VD ?_ ?_|exact Xx|fail))<;>try with_reducible intro K hK)
   refine aQ (λk:Nat=>(⟨ar [(1,.tree 1 (ints l)),(3,.ptr 0 0 0),(9,QM i),(10,QM k)],[.var (ao m)]⟩:St)) (λk=>k<=i/\∀ q,q<k->l.getD i 0≠l.getD q 0) (λk=>i-k) 0 ⟨aP _,λj hj=>absurd hj (my _)⟩ (Xv X0) ?_;rintro k⟨hk,PO⟩cR bg bm;by_cases bj:k<i
   ·by_cases hb:l.getD i 0=l.getD k 0
    ·rw[if_pos (aeQ au bj hb)]at an;subst an;have lG:(l.getD i 0==l.getD k 0)=true:=beq_iff_eq.2 hb;((try revert hK K);(repeat'(first|refine Va @lG ?_|(refine V2 @lG ?_ ?_<;>try with_reducible intro hb)|(refine Xi ?_ ?_<;>try intro ht)|refine VD ?_ ?_|exact Xx|fail))<;>try with_reducible intro K hK)
     all_goals try(exfalso;omega)
     all_goals
      refine bm _ _ rfl ?_;repeat(first|refine Xu ?_)
      exact aN rfl rfl
    ·have kB:∀ q,q<k+1->l.getD i 0≠l.getD q 0:=λq hq=>by
      by_cases e:q=k
      ·rw[e];exact hb
      ·exact PO q Ey
     have lG:(l.getD i 0==l.getD k 0)=false:=beq_eq_false_iff_ne.2 hb;((try revert hK K);(repeat'(first|refine Va @lG ?_|(refine V2 @lG ?_ ?_<;>try with_reducible intro hb)|(refine Xi ?_ ?_<;>try intro ht)|refine VD ?_ ?_|exact Xx|fail))<;>try with_reducible intro K hK)
     all_goals try(exfalso;omega)
     all_goals exact bg _ (k+1) ⟨Ey,kB⟩ Ey (Xv X0)
   ·obtain rfl:k=i:=Ey;((try revert hK K);(repeat'(first|refine Va X0 ?_|(refine V2 X0 ?_ ?_<;>try with_reducible intro hb)|(refine Xi ?_ ?_<;>try intro ht)|refine VD ?_ ?_|exact Xx|fail))<;>try with_reducible intro K hK)
    refine bm _ _ rfl ?_;clear bg bm cR;repeat(first|refine Xu ?_)
    ((try revert hK K);(repeat'(first|refine Va X0 ?_|(refine V2 X0 ?_ ?_<;>try with_reducible intro hb)|(refine Xi ?_ ?_<;>try intro ht)|refine VD ?_ ?_|exact Xx|fail))<;>try with_reducible intro K hK)
    exact ak _ (k+1) ⟨Ey,λj hj=>by
     by_cases e:j=k
     ·rw[e];exact PO
     ·exact iz j Ey⟩ Ey (Xv X0)
  ·obtain rfl:i=l.length:=Ey;rw[if_neg (by rw[aoA iz];simp)]at an;clear iz;((try revert hK K);(repeat'(first|refine Va X0 ?_|(refine V2 X0 ?_ ?_<;>try with_reducible intro hb)|(refine Xi ?_ ?_<;>try intro ht)|refine VD ?_ ?_|exact Xx|fail))<;>try with_reducible intro K hK)
   refine aq _ _ rfl ?_;clear ak aq Ql;repeat(first|refine Xu ?_)
   ((try revert hK K);(repeat'(first|refine Va X0 ?_|(refine V2 X0 ?_ ?_<;>try with_reducible intro hb)|(refine Xi ?_ ?_<;>try intro ht)|refine VD ?_ ?_|exact Xx|fail))<;>try with_reducible intro K hK)
   refine aQ (λz:Nat×Int×Int=>(⟨ar [(1,.tree 1 (ints l)),(3,.ptr 0 0 0),(11,QM z.2.1),(12,QM z.2.2),(13,QM z.1)],[.var (ao m)]⟩:St)) (λz=>z.1<=l.length/\(0<=z.2.1/\z.2.1<=20000/\0<=z.2.2/\z.2.2<=z.2.1)/\(if rY m.cls (l.drop z.1) z.2.1 z.2.2=false then(2:Int) else 0)=res) (λz=>l.length-z.1) (0,1,1) ⟨aP _,Hg,an⟩ (Xv X0) ?_;rintro⟨i,a,b⟩⟨hi,⟨pk,Dr,fN,lG⟩,eR⟩Ql ak aq;dsimp only at hi pk Dr fN lG eR ⊢;by_cases au:i<l.length
   ·have Kh:=da i au;have p8:=b8.opt _ (aF (l:=m.cls) (i:=(l.getD i 0).toNat) (d:=default) Ey);rw[kR l i 0 au,rY]at eR;generalize kz:l.getD i 0=c at *;obtain⟨c,rfl⟩:∃q:Nat,c=q:=⟨c.toNat,Ey⟩;rw[dg]at p8 eR;generalize a6:m.cls.getD c default=o at *;have sr:0<=b*(o.length:Int):=sY fN Ey;have uU:b*(o.length:Int)<=20000*24:=qG Ey Ey Ey Ey;generalize su:b*(o.length:Int)=nb at *;by_cases ho:20000<a+nb
    ·rw[if_pos ho,if_pos rfl]at eR;subst eR;((try revert hK K);(repeat'(first|refine Va (X4 @kz @a6 @aT.eq_1 @su) ?_|(refine V2 (X4 @kz @a6 @aT.eq_1 @su) ?_ ?_<;>try with_reducible intro hb)|(refine Xi ?_ ?_<;>try intro ht)|refine VD ?_ ?_|exact Xx|fail))<;>try with_reducible intro K hK)
     all_goals try(exfalso;omega)
     all_goals
      refine aq _ _ rfl ?_;repeat(first|refine Xu ?_)
      exact aN rfl rfl
    ·rw[if_neg ho]at eR;((try revert hK K);(repeat'(first|refine Va (X4 @kz @a6 @aT.eq_1 @su) ?_|(refine V2 (X4 @kz @a6 @aT.eq_1 @su) ?_ ?_<;>try with_reducible intro hb)|(refine Xi ?_ ?_<;>try intro ht)|refine VD ?_ ?_|exact Xx|fail))<;>try with_reducible intro K hK)
     all_goals try(exfalso;omega)
     all_goals exact ak _ (i+1,a+nb,nb) ⟨Hi,Hi,eR⟩ Hi (Xv X0)
   ·rw[jL Ey,rY,if_neg Hg]at eR;subst eR;((try revert hK K);(repeat'(first|refine Va X0 ?_|(refine V2 X0 ?_ ?_<;>try with_reducible intro hb)|(refine Xi ?_ ?_<;>try intro ht)|refine VD ?_ ?_|exact Xx|fail))<;>try with_reducible intro K hK)
    refine aq _ _ rfl ?_;clear ak aq Ql;repeat(first|refine Xu ?_)
    ((try revert hK K);(repeat'(first|refine Vb X0 ?_|(refine V2 X0 ?_ ?_<;>try with_reducible intro hb)|(refine Xi ?_ ?_<;>try intro ht)|refine VD ?_ ?_|exact Xx|fail))<;>try with_reducible intro K hK)
    exact aN rfl rfl
end T

