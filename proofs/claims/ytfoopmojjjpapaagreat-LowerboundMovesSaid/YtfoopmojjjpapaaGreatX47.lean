import Derived.Test.YtfoopmojjjpapaaGreatX46
import Derived.Test.YtfoopmojjjpapaaGreatX36
import Derived.Test.YtfoopmojjjpapaaGreatX26
set_option linter.all false
set_option maxHeartbeats 0
set_option maxRecDepth 20000
open Nat renaming zero_le→aT,sub_self→iT
open List renaming replicate→aJ,replicate_zero→AQ,set_append_right→Cw,length_replicate→mL,replicate_succ→E6,set_cons_zero→tP,append_nil→pP,take_of_length_le→c8,length_append→bF,getD_eq_getElem?_getD→aB
open Go Go.Am Go.Proofs
namespace T
def age(m:ah)(hm:MB m):Holds Tryz.prog 12 [.agg (ao m)] [] (.tree 1 (rowsOf aA (eS m))) []:=by
 have h1:=LA m hm;have sR:=hm.cls;generalize au:eS m=res;unfold eS at au;refine Holds.aK 38 0 [.tmp 2] Tryz.func12 ?_;by_cases hv:jO m=0;rotate_left
 ·rw[if_neg hv]at au;rw[<- au];generalize jO m=e at *;((try revert hK K);(repeat'(first|refine Vd X0 h1 ?_|(refine V2 X0 ?_ ?_<;>try with_reducible intro hb)|(refine Xi ?_ ?_<;>try intro ht)|refine VD ?_ ?_|exact Xx|fail))<;>try with_reducible intro K hK)
  all_goals try(exfalso;omega)
  exact j1 [] true NI trivial NI NI bw.nil
 rw[if_pos hv]at au;rw[hv]at h1;have cB:=rA.1 hv;have qE:=cB.cls;((try revert hK K);(repeat'(first|refine Vd @bne_self_eq_false.{0} h1 ?_|(refine V2 @bne_self_eq_false.{0} ?_ ?_<;>try with_reducible intro hb)|(refine Xi ?_ ?_<;>try intro ht)|refine VD ?_ ?_|exact Xx|fail))<;>try with_reducible intro K hK)
 refine aU (λz:Nat×List (List Bool)=>(⟨an [(1,.ptr 0 0 0),(3,.ref 1 1 0 z.2.length),(4,N0 z.1)],[.var (ao m),.arr 1 (rowsOf aA z.2)]⟩:St))
  (λz=>z.1<=m.cls.length/\z.2=(dP m).take z.1) (λz=>m.cls.length-z.1) (0,[]) ⟨aT _,rfl⟩ ?_ ?_
 ·refine aF.trans (aF.nil 3 1 (by simp only[Kc,simprocAttr]) NI) ?_;exact Xv X0
 rintro⟨i,xs⟩⟨hi,dq⟩Ql ak ar;dsimp only at hi dq ⊢;have kM:(dP m).length=m.cls.length:=by simp[dP]
 by_cases aq:i<m.cls.length
 ·have qF:xs.length=i:=by rw[dq,List.length_take];omega
  have e9:(dP m).take (i+1)=xs++[aJ (m.cls.getD i default).length true]:=by
   rw[eZ Ix,<- dq];unfold dP;rw[iX _ _ _ aq]
  have uH:=cB.opt _ (aG (d:=default) aq);generalize bc:m.cls.getD i default=c at *;((try revert hK K);(repeat'(first|refine Va (X2 @bc @aQ.eq_1) ?_|(refine V2 (X2 @bc @aQ.eq_1) ?_ ?_<;>try with_reducible intro hb)|(refine Xi ?_ ?_<;>try intro ht)|refine VD ?_ ?_|exact Xx|fail))<;>try with_reducible intro K hK)
  refine aU (λk:Nat=>(⟨an [(1,.ptr 0 0 0),(3,.ref 1 1 0 xs.length),(4,N0 i),(5,.ref 2 1 0 c.length),(6,N0 k)],[.var (ao m),.arr 1 (rowsOf aA xs),.arr 1 (bm (aJ k true++aJ (c.length-k) false))]⟩:St))
   (λk=>k<=c.length) (λk=>c.length-k) 0 (aT _) (by simp only[Nat.sub_zero,AQ,List.nil_append];exact Xv X0) ?_
  rintro k hk c7 br bx;have cI:(aJ k true++aJ (c.length-k) false).length=c.length:=NS;by_cases ba:k<c.length
  ·have iL:(aJ k true++aJ (c.length-k) false).set k true=aJ (k+1) true++aJ (c.length-(k+1)) false:=by
    rw[Cw _ _ Iy,mL,iT,show c.length-k=(c.length-(k+1))+1 by omega,E6,tP,List.replicate_succ',List.append_assoc];rfl
   ((try revert hK K);(repeat'(first|refine Va (X2 @cI @wM) ?_|(refine V2 (X2 @cI @wM) ?_ ?_<;>try with_reducible intro hb)|(refine Xi ?_ ?_<;>try intro ht)|refine VD ?_ ?_|exact Xx|fail))<;>try with_reducible intro K hK)
   rw[iL];exact br _ (k+1) Ix Ix (Xv X0)
  ·obtain rfl:k=c.length:=Ix;((try revert hK K);(repeat'(first|refine Va X0 ?_|(refine V2 X0 ?_ ?_<;>try with_reducible intro hb)|(refine Xi ?_ ?_<;>try intro ht)|refine VD ?_ ?_|exact Xx|fail))<;>try with_reducible intro K hK)
   refine bx _ _ rfl ?_;clear br bx c7;repeat(first|refine Xu ?_)
   rw[iT,AQ,pP]at *;refine cr (σ':=⟨an [(1,.ptr 0 0 0),(3,.ref 1 1 0 xs.length),(4,N0 i),(5,.tree 1 (bm (aJ c.length true)))],[.var (ao m),.arr 1 (rowsOf aA xs)]⟩) (Xs true [0,1] @mL.{0}) ?_;((try revert hK K);(repeat'(first|refine Va @DX ?_|(refine V2 @DX ?_ ?_<;>try with_reducible intro hb)|(refine Xi ?_ ?_<;>try intro ht)|refine VD ?_ ?_|exact Xx|fail))<;>try with_reducible intro K hK)
   refine ak _ (i+1,xs++[aJ c.length true]) ⟨NQ,e9.symm⟩ NQ ?_;exact Xs false [0,3] X0
 ·rw[c8 Ix]at dq;((try revert hK K);(repeat'(first|refine Va X0 ?_|(refine V2 X0 ?_ ?_<;>try with_reducible intro hb)|(refine Xi ?_ ?_<;>try intro ht)|refine VD ?_ ?_|exact Xx|fail))<;>try with_reducible intro K hK)
  refine ar _ _ rfl ?_;clear ak ar Ql;repeat(first|refine Xu ?_)
  ((try revert hK K);(repeat'(first|refine Vb X0 ?_|(refine V2 X0 ?_ ?_<;>try with_reducible intro hb)|(refine Xi ?_ ?_<;>try intro ht)|refine VD ?_ ?_|exact Xx|fail))<;>try with_reducible intro K hK)
  rw[dq,au];exact Xw true [] X0
def o0:cg:=⟨0,0,0,0,0,[]⟩
def m1:ah:=⟨[[o0,o0],[o0,o0]],[⟨0,1,0,[0,2,4,3]⟩],[],1⟩
def lG(L:List Int):Nat->Nat->List Bool×Nat
 |0,k=>([],k)
 |n+1,k=>((lG L n k).1++[!w0 L (lG L n k).2 4],cj L (lG L n k).2)
def ly(L:List Int)(cls:List (List cg)):Nat->Nat->List (List Bool)×Nat
 |0,k=>([],k)
 |c+1,k=>((ly L cls c k).1++[(lG L (cls.getD c default).length (ly L cls c k).2).1],(lG L (cls.getD c default).length (ly L cls c k).2).2)
def Ia{L:List Int}:∀ n k,(lG L n k).1.length=n
 |0,k=>rfl
 |n+1,k=>by rw[lG,bF,Ia n];rfl
def M1{L:List Int}:∀ n k,k<=L.length->(lG L n k).2<=L.length
 |0,k,h=>h
 |n+1,k,h=>by rw[lG];exact eQ (M1 n k h)
def xh{L:List Int}{cls:List (List cg)}:∀ c k,(ly L cls c k).1.length=c
 |0,k=>rfl
 |c+1,k=>by rw[ly,bF,xh c];rfl
def aaZ{L:List Int}{cls:List (List cg)}:∀ c k,k<=L.length->(ly L cls c k).2<=L.length
 |0,k,h=>h
 |c+1,k,h=>by rw[ly];exact M1 _ _ (aaZ c k h)
def XG{L:List Int}{cls:List (List cg)}:∀ c k i,i<c->((ly L cls c k).1.getD i default).length=(cls.getD i default).length
 |0,k,i,h=>absurd h (Nat.not_lt_zero _)
 |c+1,k,i,h=>by
  rw[ly];dsimp only;by_cases e:i<c
  ·rw[aB,List.getElem?_append_left (by rw[xh];exact e),<- aB];exact XG c k i e
  ·obtain rfl:i=c:=Ix;rw[aB,List.getElem?_append_right (by rw[xh];omega),xh,iT];exact Ia _ _
def akz(bs:List Bool)(n:Nat)(b:Bool):(bs++aJ (n+1) false).set bs.length b=(bs++[b])++aJ n false:=by
 rw[Cw _ _ (Nat.le_refl _),iT,E6,tP];simp
def agh(m:ah)(hc:m.cls.length<1000000)(LB:∀ l∈m.cls,l.length<1000000)(L:List Int)(k:Nat)(hk:k<=L.length)(hL:L.length<1000000):
  Holds Tryz.prog 13 [.ptr 0 0 0,.agg (ao m)] [gv L k] (.tree 1 (rowsOf aA (ly L m.cls m.cls.length k).1)) [gv L (ly L m.cls m.cls.length k).2]:=by
 unfold gv;refine Holds.aK 40 1 [.tmp 4] Tryz.func13 ?_;((try revert hK K);(repeat'(first|refine Va X0 ?_|(refine V2 X0 ?_ ?_<;>try with_reducible intro hb)|(refine Xi ?_ ?_<;>try intro ht)|refine VD ?_ ?_|exact Xx|fail))<;>try with_reducible intro K hK)
 refine aU (λi:Nat=>(⟨an [(0,.ptr 0 0 0),(3,.ptr 1 0 0),(5,.ref 2 1 0 i),(6,N0 i)],[.var [.tree 1 (ints L),N0 (ly L m.cls i k).2],.var (ao m),.arr 1 (rowsOf aA (ly L m.cls i k).1)]⟩:St))
  (λi=>i<=m.cls.length) (λi=>m.cls.length-i) 0 (aT _) ?_ ?_
 ·refine aF.trans (aF.nil 5 1 (by simp only[Kc,simprocAttr]) NI) ?_;exact Xv X0
 rintro i hi Ql ak ar;by_cases aq:i<m.cls.length
 ·have mV:=LB _ (aG (l:=m.cls) (i:=i) (d:=default) aq);have eJ:=aaZ (cls:=m.cls) i k hk;have kr:ly L m.cls (i+1) k=((ly L m.cls i k).1++[(lG L (m.cls.getD i default).length (ly L m.cls i k).2).1],(lG L (m.cls.getD i default).length (ly L m.cls i k).2).2):=rfl;have qF:=xh (L:=L) (cls:=m.cls) i k;generalize hX:ly L m.cls i k=X at *;obtain⟨xs,k1⟩:=X;dsimp only at eJ kr qF;generalize bc:m.cls.getD i default=c at *;((try revert hK K);(repeat'(first|refine Va (X2 @bc @aQ.eq_1) ?_|(refine V2 (X2 @bc @aQ.eq_1) ?_ ?_<;>try with_reducible intro hb)|(refine Xi ?_ ?_<;>try intro ht)|refine VD ?_ ?_|exact Xx|fail))<;>try with_reducible intro K hK)
  refine aU (λj:Nat=>(⟨an [(0,.ptr 0 0 0),(3,.ptr 1 0 0),(5,.ref 2 1 0 i),(6,N0 i),(7,.ref 3 1 0 c.length),(8,N0 j)],[.var [.tree 1 (ints L),N0 (lG L j k1).2],.var (ao m),.arr 1 (rowsOf aA xs),.arr 1 (bm ((lG L j k1).1++aJ (c.length-j) false))]⟩:St))
   (λj=>j<=c.length) (λj=>c.length-j) 0 (aT _) ?_ ?_
  ·rw[show(lG L 0 k1).1++aJ (c.length-0) false=aJ c.length false from rfl,show(lG L 0 k1).2=k1 from rfl];exact Xv X0
  rintro j hj c7 br bx;by_cases fe:j<c.length
  ·have bd:=M1 (L:=L) j k1 eJ;have hnj:lG L (j+1) k1=((lG L j k1).1++[!w0 L (lG L j k1).2 4],cj L (lG L j k1).2):=rfl;have pK:=Ia (L:=L) j k1;generalize hB:lG L j k1=B at *;obtain⟨bs,k2⟩:=B;dsimp only at bd hnj pK;have ot:=Bs L k2 4 (by unfold cS;omega) NI bd hL;generalize w0 L k2 4=b at *;generalize cj L k2=k3 at *;have M3:=akz bs (c.length-(j+1)) (!b);rw[show c.length-(j+1)+1=c.length-j by omega,pK]at M3;have fh:(bs++aJ (c.length-j) false).length=c.length:=by rw[bF,mL];omega
   ((try revert hK K);(repeat'(first|refine Va @fh ?_|(refine V2 @fh ?_ ?_<;>try with_reducible intro hb)|(refine Xi ?_ ?_<;>try intro ht)|refine VD ?_ ?_|exact Xx|fail))<;>try with_reducible intro K hK)
   (refine Xn [0] (ot) ?_;simp(disch:=omega)only[Ac,↓Pc,simprocAttr])
   ((try revert hK K);(repeat'(first|refine Va (X2 @fh @M3) ?_|(refine V2 (X2 @fh @M3) ?_ ?_<;>try with_reducible intro hb)|(refine Xi ?_ ?_<;>try intro ht)|refine VD ?_ ?_|exact Xx|fail))<;>try with_reducible intro K hK)
   refine br _ (j+1) Ix Ix ?_;rw[hnj];exact Xv X0
  ·have k9:j=c.length:=Ix;rw[k9,iT,AQ,pP];have pK:=Ia (L:=L) c.length k1;generalize lG L c.length k1=B at *;obtain⟨bs,k2⟩:=B;dsimp only at kr pK ⊢;((try revert hK K);(repeat'(first|refine Va X0 ?_|(refine V2 X0 ?_ ?_<;>try with_reducible intro hb)|(refine Xi ?_ ?_<;>try intro ht)|refine VD ?_ ?_|exact Xx|fail))<;>try with_reducible intro K hK)
   refine bx _ _ rfl ?_;clear br bx c7;repeat(first|refine Xu ?_)
   refine cr (aF.zY 7 3 1 (rows:=bm bs) rfl (by rw[xU,pK];simp only[Kc,simprocAttr]) (Fp _) (I' _)) ?_;have ED:(rowsOf aA xs).length=i:=by rw[cf];exact qF
   have hxt:List.take i (rowsOf aA xs)=rowsOf aA xs:=c8 Ix;((try revert hK K);(repeat'(first|refine Va (X3 @DX @ED @hxt) ?_|(refine V2 (X3 @DX @ED @hxt) ?_ ?_<;>try with_reducible intro hb)|(refine Xi ?_ ?_<;>try intro ht)|refine VD ?_ ?_|exact Xx|fail))<;>try with_reducible intro K hK)
   refine ak _ (i+1) Ix Ix ?_;rw[kr];exact Xs false [0,1,5] X0
 ·have M4:i=m.cls.length:=Ix;rw[M4];((try revert hK K);(repeat'(first|refine Va X0 ?_|(refine V2 X0 ?_ ?_<;>try with_reducible intro hb)|(refine Xi ?_ ?_<;>try intro ht)|refine VD ?_ ?_|exact Xx|fail))<;>try with_reducible intro K hK)
  refine ar _ _ rfl ?_;clear ak ar Ql;repeat(first|refine Xu ?_)
  refine cr (aF.zY 5 2 1 (rows:=rowsOf aA (ly L m.cls m.cls.length k).1) rfl (by rw[cf,xh];simp only[Kc,simprocAttr]) (ig _) (my _)) ?_;((try revert hK K);(repeat'(first|refine Vb X0 ?_|(refine V2 X0 ?_ ?_<;>try with_reducible intro hb)|(refine Xi ?_ ?_<;>try intro ht)|refine VD ?_ ?_|exact Xx|fail))<;>try with_reducible intro K hK)
  exact Xw true [0] X0
end T

