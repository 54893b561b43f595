import Derived.Test.YtfoopmojjjpapaaGreatX26
set_option linter.all false
set_option maxHeartbeats 0
set_option maxRecDepth 20000
open List renaming any_eq_true→nA,getD_eq_getElem?_getD→ax,getElem?_eq_getElem→bq,mem_range→nv,contains_iff_mem→pY
open Bool renaming not_eq_true→tV
open Go Go.Am Go.Proofs
namespace T
def yh(n:Nat)(l:List Int):Bool:=l.any λc=>decide (c<0\/(n:Int)<=c)
def uo(l:List Int):Bool:=(List.range l.length).any λi=>(l.take i).contains (l.getD i 0)
def sY(cls:List (List cP)):List Int->Int->Int->Bool
 |[],_,_=>true
 |c::r,all,row=>if 20000<all+row*((cls.getD c.toNat default).length:Int) then false else sY cls r (all+row*((cls.getD c.toNat default).length:Int)) (row*((cls.getD c.toNat default).length:Int))
def yg(m:ah)(l:List Int)(rounds:Int):Int :=
 if iB m≠0 then iB m
 else if yh m.cls.length l=true then 3
 else if rounds<0\/64<rounds then 3
 else if uo l=true then 11
 else if sY m.cls l 1 1=false then 2
 else 0
def ab2{n:Nat}{l:List Int}{i:Nat}(hi:i<l.length)(h:l.getD i 0<0\/(n:Int)<=l.getD i 0):yh n l=true:=by
 unfold yh;rw[nA];exact⟨_,aE (d:=0) hi,by rw[decide_eq_true_eq];exact h⟩
def Rg{n:Nat}{l:List Int}(h:∀ i,i<l.length->¬ (l.getD i 0<0\/(n:Int)<=l.getD i 0)):yh n l=false:=by
 rw[<- tV];intro hb;unfold yh at hb;rw[nA]at hb;obtain⟨c,hc,h2⟩:=hb;rw[decide_eq_true_eq]at h2;obtain⟨i,hi,rfl⟩:=List.getElem_of_mem hc;refine h i hi ?_;rw[ax,bq hi];exact h2
def ad6{n:Nat}{l:List Int}(h:yh n l=false){i:Nat}(hi:i<l.length):0<=l.getD i 0/\l.getD i 0<n:=by
 by_cases h2:l.getD i 0<0\/(n:Int)<=l.getD i 0
 ·rw[ab2 hi h2]at h;cases h
 ·omega
def al9{l:List Int}{i k:Nat}(hi:i<l.length)(hk:k<i)(h:l.getD i 0=l.getD k 0):uo l=true:=by
 unfold uo;rw[nA];refine⟨i,nv.2 hi,?_⟩;rw[pY,h];rw[ax,bq (by omega:k<l.length)];exact List.mem_take_iff_getElem.2 ⟨k,AT,rfl⟩
def ad8{l:List Int}(h:∀ i,i<l.length->∀ k,k<i->l.getD i 0≠l.getD k 0):uo l=false:=by
 rw[<- tV];intro hb;unfold uo at hb;rw[nA]at hb;obtain⟨i,hi,h2⟩:=hb;rw[nv]at hi;rw[pY]at h2;obtain⟨k,hk,e⟩:=List.mem_take_iff_getElem.1 h2;refine h i hi k AT ?_;rw[<- e,ax,bq (by omega:k<l.length)];rfl
def we(cls:List (List cP)):List Int->Int->Int->Int
 |[],all,_=>all
 |c::r,all,row=>if 20000<all+row*((cls.getD c.toNat default).length:Int) then 20001 else we cls r (all+row*((cls.getD c.toNat default).length:Int)) (row*((cls.getD c.toNat default).length:Int))
def ab4(cls:List (List cP)):∀ (l:List Int) (all row:Int),all<=20000->(20000<we cls l all row↔sY cls l all row=false)
 |[],all,row,h=>by rw[we,sY];simp;omega
 |c::r,all,row,h=>by
  rw[we,sY];split
  ·simp
  ·exact ab4 cls r _ _ AT
def al'(m:ah)(l:List Int)(bG:VM m)(fY:l.length<1000000)(bR:∀ j,j<l.length->0<=l.getD j 0/\l.getD j 0<m.cls.length):
  Holds Tryz.prog 57 [.agg (aq m),.tree 1 (ints l)] [] (Oi (we m.cls l 1 1)) []:=by
 have mY:=bG.cls;generalize an:we m.cls l 1 1=res;refine Holds.aN 30 0 [.tmp 4] Tryz.func57 ?_;((try revert hK K);(repeat'(first|refine Vb X0 ?_|(refine V2 X0 ?_ ?_<;>try with_reducible intro hb)|(refine Xi ?_ ?_<;>try intro ht)|refine VD ?_ ?_|exact Xx|fail))<;>try with_reducible intro K hK)
 refine bb (λz:Nat×Int×Int=>(⟨ao [(2,.ptr 0 0 0),(5,Oi z.2.1),(6,Oi z.2.2),(9,.tree 1 (ints l)),(10,Oi l.length),(11,Oi z.1)],[.var (aq m)]⟩:St)) (λz=>z.1<=l.length/\(0<=z.2.1/\z.2.1<=20000/\0<=z.2.2/\z.2.2<=z.2.1)/\we m.cls (l.drop z.1) z.2.1 z.2.2=res) (λz=>l.length-z.1) (0,1,1) ⟨Nat.zero_le _,IP,an⟩ (Xv X0) ?_;rintro⟨i,a,b⟩⟨hi,⟨pQ,ha2,iu,oA⟩,gz⟩Ql ak au;dsimp only at hi pQ ha2 iu oA gz ⊢;by_cases ar:i<l.length
 ·have Nl:=bR i ar;have qD:=bG.opt _ (aE (l:=m.cls) (i:=(l.getD i 0).toNat) (d:=default) AT);rw[kh l i 0 ar,we]at gz;generalize qy:l.getD i 0=c at *;obtain⟨c,rfl⟩:∃q:Nat,c=q:=⟨c.toNat,AT⟩;rw[Int.toNat_natCast]at qD gz;generalize bc:m.cls.getD c default=o at *;have tz:0<=b*(o.length:Int):=Int.mul_nonneg iu AT;have uO:b*(o.length:Int)<=20000*24:=Int.mul_le_mul AT AT AT AT;generalize xo:b*(o.length:Int)=nb at *;by_cases ho:20000<a+nb
  ·rw[if_pos ho]at gz;subst gz;((try revert hK K);(repeat'(first|refine Va (X4 @qy @bc @aV.eq_1 @xo) ?_|(refine V2 (X4 @qy @bc @aV.eq_1 @xo) ?_ ?_<;>try with_reducible intro hb)|(refine Xi ?_ ?_<;>try intro ht)|refine VD ?_ ?_|exact Xx|fail))<;>try with_reducible intro K hK)
   all_goals try(exfalso;omega)
   all_goals
    refine au _ _ rfl ?_;repeat(first|refine Xu ?_)
    exact aU rfl rfl
  ·rw[if_neg ho]at gz;((try revert hK K);(repeat'(first|refine Va (X4 @qy @bc @aV.eq_1 @xo) ?_|(refine V2 (X4 @qy @bc @aV.eq_1 @xo) ?_ ?_<;>try with_reducible intro hb)|(refine Xi ?_ ?_<;>try intro ht)|refine VD ?_ ?_|exact Xx|fail))<;>try with_reducible intro K hK)
   all_goals try(exfalso;omega)
   all_goals exact ak _ (i+1,a+nb,nb) ⟨NZ,NZ,gz⟩ NZ (Xv X0)
 ·rw[List.drop_eq_nil_of_le AT,we]at gz;subst gz;((try revert hK K);(repeat'(first|refine Va X0 ?_|(refine V2 X0 ?_ ?_<;>try with_reducible intro hb)|(refine Xi ?_ ?_<;>try intro ht)|refine VD ?_ ?_|exact Xx|fail))<;>try with_reducible intro K hK)
  refine au _ _ rfl ?_;clear ak au Ql;repeat(first|refine Xu ?_)
  ((try revert hK K);(repeat'(first|refine Vb X0 ?_|(refine V2 X0 ?_ ?_<;>try with_reducible intro hb)|(refine Xi ?_ ?_<;>try intro ht)|refine VD ?_ ?_|exact Xx|fail))<;>try with_reducible intro K hK)
  exact aU rfl rfl
end T

