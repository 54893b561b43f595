import Derived.Test.YtodilglobhifaaaGreatDoorX45
import Derived.Test.YtodilglobhifaaaGreatDoorX42
set_option linter.all false
set_option maxHeartbeats 0
set_option maxRecDepth 20000
open Nat renaming zero_le→aN,sub_self→kB
open List renaming replicate→ax,replicate_zero→sJ,set_append_right→uj,length_replicate→sF,replicate_succ→xT,set_cons_zero→uc,append_nil→fF,take_of_length_le→kW,length_append→aJ,getD_eq_getElem?_getD→aw
open Go Go.Am Go.Proofs
namespace T
def XJ(m:ah)(hm:MB m):ao Tryz.prog 11 [.agg (aA m)] [] (.tree 1 (rowsOf bE (xk m))) []:=by
 have h1:=FX m hm;have pL:=hm.cls;generalize az:xk m=res;unfold xk at az;refine ao.aO 38 0 [.tmp 2] Tryz.func11 ?_;by_cases hv:l7 m=0;rotate_left
 ·rw[if_neg hv]at az;rw[<- az];generalize l7 m=e at *;((try revert hK K);(repeat'(first|refine Vd X0 h1 ?_|(refine V2 X0 ?_ ?_<;>try with_reducible intro hb)|(refine Xi ?_ ?_<;>try intro ht)|refine VD ?_ ?_|exact Xx|fail))<;>try with_reducible intro K hK)
  all_goals try(exfalso;omega)
  exact eU [] true Ha trivial Ha Ha a9.nil
 rw[if_pos hv]at az;rw[hv]at h1;have sh:=yT.1 hv;have Cm:=sh.cls;((try revert hK K);(repeat'(first|refine Vd @bne_self_eq_false.{0} h1 ?_|(refine V2 @bne_self_eq_false.{0} ?_ ?_<;>try with_reducible intro hb)|(refine Xi ?_ ?_<;>try intro ht)|refine VD ?_ ?_|exact Xx|fail))<;>try with_reducible intro K hK)
 refine aX (λz:Nat×List (List Bool)=>(⟨au [(1,.ptr 0 0 0),(3,.ref 1 1 0 z.2.length),(4,aah z.1)],[.var (aA m),.arr 1 (rowsOf bE z.2)]⟩:St))
  (λz=>z.1<=m.cls.length/\z.2=(vP m).take z.1) (λz=>m.cls.length-z.1) (0,[]) ⟨aN _,rfl⟩ ?_ ?_
 ·refine aC.trans (aC.nil 3 1 (by simp only[Kc,simprocAttr]) Ha) ?_;exact Xv X0
 rintro⟨i,xs⟩⟨hi,rW⟩Ql an ay;dsimp only at hi rW ⊢;have jv:(vP m).length=m.cls.length:=by simp[vP]
 by_cases hi':i<m.cls.length
 ·have pQ:xs.length=i:=by rw[rW,List.length_take];omega
  have je:(vP m).take (i+1)=xs++[ax (m.cls.getD i default).length true]:=by
   rw[tE Ay,<- rW];unfold vP;rw[vp _ _ _ hi']
  have Wv:=sh.opt _ (aG (d:=default) hi');generalize bJ:m.cls.getD i default=c at *;((try revert hK K);(repeat'(first|refine Va (X2 @bJ @bk.eq_1) ?_|(refine V2 (X2 @bJ @bk.eq_1) ?_ ?_<;>try with_reducible intro hb)|(refine Xi ?_ ?_<;>try intro ht)|refine VD ?_ ?_|exact Xx|fail))<;>try with_reducible intro K hK)
  refine aX (λk:Nat=>(⟨au [(1,.ptr 0 0 0),(3,.ref 1 1 0 xs.length),(4,aah i),(5,.ref 2 1 0 c.length),(6,aah k)],[.var (aA m),.arr 1 (rowsOf bE xs),.arr 1 (b8 (ax k true++ax (c.length-k) false))]⟩:St))
   (λk=>k<=c.length) (λk=>c.length-k) 0 (aN _) (by simp only[Nat.sub_zero,sJ,List.nil_append];exact Xv X0) ?_
  rintro k hk cC aS bf;have dH:(ax k true++ax (c.length-k) false).length=c.length:=aab;by_cases aQ:k<c.length
  ·have km:(ax k true++ax (c.length-k) false).set k true=ax (k+1) true++ax (c.length-(k+1)) false:=by
    rw[uj _ _ Dg,sF,kB,show c.length-k=(c.length-(k+1))+1 by omega,xT,uc,List.replicate_succ',List.append_assoc];rfl
   ((try revert hK K);(repeat'(first|refine Va (X2 @dH @A9) ?_|(refine V2 (X2 @dH @A9) ?_ ?_<;>try with_reducible intro hb)|(refine Xi ?_ ?_<;>try intro ht)|refine VD ?_ ?_|exact Xx|fail))<;>try with_reducible intro K hK)
   rw[km];exact aS _ (k+1) Ay Ay (Xv X0)
  ·obtain rfl:k=c.length:=Ay;((try revert hK K);(repeat'(first|refine Va X0 ?_|(refine V2 X0 ?_ ?_<;>try with_reducible intro hb)|(refine Xi ?_ ?_<;>try intro ht)|refine VD ?_ ?_|exact Xx|fail))<;>try with_reducible intro K hK)
   refine bf _ _ rfl ?_;clear aS bf cC;repeat(first|refine Xu ?_)
   rw[kB,sJ,fF]at *;refine cE (σ':=⟨au [(1,.ptr 0 0 0),(3,.ref 1 1 0 xs.length),(4,aah i),(5,.tree 1 (b8 (ax c.length true)))],[.var (aA m),.arr 1 (rowsOf bE xs)]⟩) (Xs true [0,1] @sF.{0}) ?_;((try revert hK K);(repeat'(first|refine Va @De ?_|(refine V2 @De ?_ ?_<;>try with_reducible intro hb)|(refine Xi ?_ ?_<;>try intro ht)|refine VD ?_ ?_|exact Xx|fail))<;>try with_reducible intro K hK)
   refine an _ (i+1,xs++[ax c.length true]) ⟨aaa,je.symm⟩ aaa ?_;exact Xs false [0,3] X0
 ·rw[kW Ay]at rW;((try revert hK K);(repeat'(first|refine Va X0 ?_|(refine V2 X0 ?_ ?_<;>try with_reducible intro hb)|(refine Xi ?_ ?_<;>try intro ht)|refine VD ?_ ?_|exact Xx|fail))<;>try with_reducible intro K hK)
  refine ay _ _ rfl ?_;clear an ay Ql;repeat(first|refine Xu ?_)
  ((try revert hK K);(repeat'(first|refine Vb X0 ?_|(refine V2 X0 ?_ ?_<;>try with_reducible intro hb)|(refine Xi ?_ ?_<;>try intro ht)|refine VD ?_ ?_|exact Xx|fail))<;>try with_reducible intro K hK)
  rw[rW,az];exact Xw true [] X0
def jl(L:List Int):Nat->Nat->List Bool×Nat
 |0,k=>([],k)
 |n+1,k=>((jl L n k).1++[!oA L (jl L n k).2 4],bH L (jl L n k).2)
def jg(L:List Int)(cls:List (List bh)):Nat->Nat->List (List Bool)×Nat
 |0,k=>([],k)
 |c+1,k=>((jg L cls c k).1++[(jl L (cls.getD c default).length (jg L cls c k).2).1],(jl L (cls.getD c default).length (jg L cls c k).2).2)
def Df{L:List Int}:∀ n k,(jl L n k).1.length=n
 |0,k=>rfl
 |n+1,k=>by rw[jl,aJ,Df n];rfl
def G5{L:List Int}:∀ n k,k<=L.length->(jl L n k).2<=L.length
 |0,k,h=>h
 |n+1,k,h=>by rw[jl];exact dg (G5 n k h)
def sn{L:List Int}{cls:List (List bh)}:∀ c k,(jg L cls c k).1.length=c
 |0,k=>rfl
 |c+1,k=>by rw[jg,aJ,sn c];rfl
def RU{L:List Int}{cls:List (List bh)}:∀ c k,k<=L.length->(jg L cls c k).2<=L.length
 |0,k,h=>h
 |c+1,k,h=>by rw[jg];exact G5 _ _ (RU c k h)
def Qq{L:List Int}{cls:List (List bh)}:∀ c k i,i<c->((jg L cls c k).1.getD i default).length=(cls.getD i default).length
 |0,k,i,h=>absurd h (Nat.not_lt_zero _)
 |c+1,k,i,h=>by
  rw[jg];dsimp only;by_cases e:i<c
  ·rw[aw,List.getElem?_append_left (by rw[sn];exact e),<- aw];exact Qq c k i e
  ·obtain rfl:i=c:=Ay;rw[aw,List.getElem?_append_right (by rw[sn];omega),sn,kB];exact Df _ _
def ZS(bs:List Bool)(n:Nat)(b:Bool):(bs++ax (n+1) false).set bs.length b=(bs++[b])++ax n false:=by
 rw[uj _ _ (Nat.le_refl _),kB,xT,uc];simp
def XM(m:ah)(hc:m.cls.length<1000000)(z8:∀ l∈m.cls,l.length<1000000)(L:List Int)(k:Nat)(hk:k<=L.length)(hL:L.length<1000000):
  ao Tryz.prog 12 [.ptr 0 0 0,.agg (aA m)] [c9 L k] (.tree 1 (rowsOf bE (jg L m.cls m.cls.length k).1)) [c9 L (jg L m.cls m.cls.length k).2]:=by
 unfold c9;refine ao.aO 40 1 [.tmp 4] Tryz.func12 ?_;((try revert hK K);(repeat'(first|refine Va X0 ?_|(refine V2 X0 ?_ ?_<;>try with_reducible intro hb)|(refine Xi ?_ ?_<;>try intro ht)|refine VD ?_ ?_|exact Xx|fail))<;>try with_reducible intro K hK)
 refine aX (λi:Nat=>(⟨au [(0,.ptr 0 0 0),(3,.ptr 1 0 0),(5,.ref 2 1 0 i),(6,aah i)],[.var [.tree 1 (ints L),aah (jg L m.cls i k).2],.var (aA m),.arr 1 (rowsOf bE (jg L m.cls i k).1)]⟩:St))
  (λi=>i<=m.cls.length) (λi=>m.cls.length-i) 0 (aN _) ?_ ?_
 ·refine aC.trans (aC.nil 5 1 (by simp only[Kc,simprocAttr]) Ha) ?_;exact Xv X0
 rintro i hi Ql an ay;by_cases hi':i<m.cls.length
 ·have py:=z8 _ (aG (l:=m.cls) (i:=i) (d:=default) hi');have fi:=RU (cls:=m.cls) i k hk;have kv:jg L m.cls (i+1) k=((jg L m.cls i k).1++[(jl L (m.cls.getD i default).length (jg L m.cls i k).2).1],(jl L (m.cls.getD i default).length (jg L m.cls i k).2).2):=rfl;have pQ:=sn (L:=L) (cls:=m.cls) i k;generalize hX:jg L m.cls i k=X at *;obtain⟨xs,k1⟩:=X;dsimp only at fi kv pQ;generalize bJ:m.cls.getD i default=c at *;((try revert hK K);(repeat'(first|refine Va (X2 @bJ @bk.eq_1) ?_|(refine V2 (X2 @bJ @bk.eq_1) ?_ ?_<;>try with_reducible intro hb)|(refine Xi ?_ ?_<;>try intro ht)|refine VD ?_ ?_|exact Xx|fail))<;>try with_reducible intro K hK)
  refine aX (λj:Nat=>(⟨au [(0,.ptr 0 0 0),(3,.ptr 1 0 0),(5,.ref 2 1 0 i),(6,aah i),(7,.ref 3 1 0 c.length),(8,aah j)],[.var [.tree 1 (ints L),aah (jl L j k1).2],.var (aA m),.arr 1 (rowsOf bE xs),.arr 1 (b8 ((jl L j k1).1++ax (c.length-j) false))]⟩:St))
   (λj=>j<=c.length) (λj=>c.length-j) 0 (aN _) ?_ ?_
  ·rw[show(jl L 0 k1).1++ax (c.length-0) false=ax c.length false from rfl,show(jl L 0 k1).2=k1 from rfl];exact Xv X0
  rintro j hj cC aS bf;by_cases fW:j<c.length
  ·have aK:=G5 (L:=L) j k1 fi;have RV:jl L (j+1) k1=((jl L j k1).1++[!oA L (jl L j k1).2 4],bH L (jl L j k1).2):=rfl;have pX:=Df (L:=L) j k1;generalize hB:jl L j k1=B at *;obtain⟨bs,k2⟩:=B;dsimp only at aK RV pX;have kJ:=rZ L k2 4 (by unfold df;omega) Ha aK hL;generalize oA L k2 4=b at *;generalize bH L k2=k3 at *;have G6:=ZS bs (c.length-(j+1)) (!b);rw[show c.length-(j+1)+1=c.length-j by omega,pX]at G6;have bl:(bs++ax (c.length-j) false).length=c.length:=by rw[aJ,sF];omega
   ((try revert hK K);(repeat'(first|refine Va @bl ?_|(refine V2 @bl ?_ ?_<;>try with_reducible intro hb)|(refine Xi ?_ ?_<;>try intro ht)|refine VD ?_ ?_|exact Xx|fail))<;>try with_reducible intro K hK)
   (refine Xn [0] (kJ) ?_;simp(disch:=omega)only[Ac,↓Pc,simprocAttr])
   ((try revert hK K);(repeat'(first|refine Va (X2 @bl @G6) ?_|(refine V2 (X2 @bl @G6) ?_ ?_<;>try with_reducible intro hb)|(refine Xi ?_ ?_<;>try intro ht)|refine VD ?_ ?_|exact Xx|fail))<;>try with_reducible intro K hK)
   refine aS _ (j+1) Ay Ay ?_;rw[RV];exact Xv X0
  ·have ib:j=c.length:=Ay;rw[ib,kB,sJ,fF];have pX:=Df (L:=L) c.length k1;generalize jl L c.length k1=B at *;obtain⟨bs,k2⟩:=B;dsimp only at kv pX ⊢;((try revert hK K);(repeat'(first|refine Va X0 ?_|(refine V2 X0 ?_ ?_<;>try with_reducible intro hb)|(refine Xi ?_ ?_<;>try intro ht)|refine VD ?_ ?_|exact Xx|fail))<;>try with_reducible intro K hK)
   refine bf _ _ rfl ?_;clear aS bf cC;repeat(first|refine Xu ?_)
   refine cE (aC.zR 7 3 1 (rows:=b8 bs) rfl (by rw[ym,pX];simp only[Kc,simprocAttr]) (KF _) (KE _)) ?_;have tg:(rowsOf bE xs).length=i:=by rw[cH];exact pQ
   have RW:List.take i (rowsOf bE xs)=rowsOf bE xs:=kW Ay;((try revert hK K);(repeat'(first|refine Va (X3 @De @tg @RW) ?_|(refine V2 (X3 @De @tg @RW) ?_ ?_<;>try with_reducible intro hb)|(refine Xi ?_ ?_<;>try intro ht)|refine VD ?_ ?_|exact Xx|fail))<;>try with_reducible intro K hK)
   refine an _ (i+1) Ay Ay ?_;rw[kv];exact Xs false [0,1,5] X0
 ·have ZT:i=m.cls.length:=Ay;rw[ZT];((try revert hK K);(repeat'(first|refine Va X0 ?_|(refine V2 X0 ?_ ?_<;>try with_reducible intro hb)|(refine Xi ?_ ?_<;>try intro ht)|refine VD ?_ ?_|exact Xx|fail))<;>try with_reducible intro K hK)
  refine ay _ _ rfl ?_;clear an ay Ql;repeat(first|refine Xu ?_)
  refine cE (aC.zR 5 2 1 (rows:=rowsOf bE (jg L m.cls m.cls.length k).1) rfl (by rw[cH,sn];simp only[Kc,simprocAttr]) (gb _) (jt _)) ?_;((try revert hK K);(repeat'(first|refine Vb X0 ?_|(refine V2 X0 ?_ ?_<;>try with_reducible intro hb)|(refine Xi ?_ ?_<;>try intro ht)|refine VD ?_ ?_|exact Xx|fail))<;>try with_reducible intro K hK)
  exact Xw true [0] X0
def o0:bh:=⟨0,0,0,0,0,[]⟩
def m1:ah:=⟨[[o0,o0],[o0,o0]],[⟨0,1,0,[0,2,4,3]⟩],[],1⟩
def XL{m:ah}(hm:MB m):BB (xk m):=by
 unfold xk;split
 ·refine⟨by unfold vP;rw[List.length_map];exact hm.cls,λr hr=>?_⟩;obtain⟨l,hl,rfl⟩:=List.mem_map.1 hr;rw[sF];exact hm.opt l hl
 ·exact⟨Ha,Dg⟩
end T

