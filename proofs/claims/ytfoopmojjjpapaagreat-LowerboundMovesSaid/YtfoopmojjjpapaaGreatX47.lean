import Derived.Test.YtfoopmojjjpapaaGreatX46
import Derived.Test.YtfoopmojjjpapaaGreatX36
import Derived.Test.YtfoopmojjjpapaaGreatX26
set_option linter.all false
set_option maxHeartbeats 0
set_option maxRecDepth 20000
open Nat renaming zero_le→aT,sub_self→iT
open List renaming replicate→aJ,replicate_zero→AN,set_append_right→Cu,length_replicate→mL,replicate_succ→E3,set_cons_zero→tP,append_nil→pO,take_of_length_le→c8,length_append→bE,getD_eq_getElem?_getD→aB
open Go Go.Am Go.Proofs
namespace T
def aga(m:ah)(hm:MB m):Holds Tryz.prog 12 [.agg (ao m)] [] (.tree 1 (rowsOf aA (eS m))) []:=by
 have h1:=Lx m hm;have sQ:=hm.cls;generalize au:eS m=res;unfold eS at au;refine Holds.aK 38 0 [.tmp 2] Tryz.func12 ?_;by_cases hv:jP m=0;rotate_left
 ·rw[if_neg hv]at au;rw[<- au];generalize jP m=e at *;((try revert hK K);(repeat'(first|refine Vd X0 h1 ?_|(refine V2 X0 ?_ ?_<;>try with_reducible intro hb)|(refine Xi ?_ ?_<;>try intro ht)|refine VD ?_ ?_|exact Xx|fail))<;>try with_reducible intro K hK)
  all_goals try(exfalso;omega)
  exact j2 [] true NF trivial NF NF bw.nil
 rw[if_pos hv]at au;rw[hv]at h1;have cA:=rz.1 hv;have qD:=cA.cls;((try revert hK K);(repeat'(first|refine Vd @bne_self_eq_false.{0} h1 ?_|(refine V2 @bne_self_eq_false.{0} ?_ ?_<;>try with_reducible intro hb)|(refine Xi ?_ ?_<;>try intro ht)|refine VD ?_ ?_|exact Xx|fail))<;>try with_reducible intro K hK)
 refine aU (λz:Nat×List (List Bool)=>(⟨an [(1,.ptr 0 0 0),(3,.ref 1 1 0 z.2.length),(4,NX z.1)],[.var (ao m),.arr 1 (rowsOf aA z.2)]⟩:St))
  (λz=>z.1<=m.cls.length/\z.2=(dO m).take z.1) (λz=>m.cls.length-z.1) (0,[]) ⟨aT _,rfl⟩ ?_ ?_
 ·refine aF.trans (aF.nil 3 1 (by simp only[Kc,simprocAttr]) NF) ?_;exact Xv X0
 rintro⟨i,xs⟩⟨hi,dp⟩Ql ak ar;dsimp only at hi dp ⊢;have kM:(dO m).length=m.cls.length:=by simp[dO]
 by_cases aq:i<m.cls.length
 ·have qE:xs.length=i:=by rw[dp,List.length_take];omega
  have e9:(dO m).take (i+1)=xs++[aJ (m.cls.getD i default).length true]:=by
   rw[eZ Iv,<- dp];unfold dO;rw[iX _ _ _ aq]
  have uH:=cA.opt _ (aG (d:=default) aq);generalize bd:m.cls.getD i default=c at *;((try revert hK K);(repeat'(first|refine Va (X2 @bd @aQ.eq_1) ?_|(refine V2 (X2 @bd @aQ.eq_1) ?_ ?_<;>try with_reducible intro hb)|(refine Xi ?_ ?_<;>try intro ht)|refine VD ?_ ?_|exact Xx|fail))<;>try with_reducible intro K hK)
  refine aU (λk:Nat=>(⟨an [(1,.ptr 0 0 0),(3,.ref 1 1 0 xs.length),(4,NX i),(5,.ref 2 1 0 c.length),(6,NX k)],[.var (ao m),.arr 1 (rowsOf aA xs),.arr 1 (bm (aJ k true++aJ (c.length-k) false))]⟩:St))
   (λk=>k<=c.length) (λk=>c.length-k) 0 (aT _) (by simp only[Nat.sub_zero,AN,List.nil_append];exact Xv X0) ?_
  rintro k hk c7 br bx;have cQ:(aJ k true++aJ (c.length-k) false).length=c.length:=NP;by_cases ba:k<c.length
  ·have iK:(aJ k true++aJ (c.length-k) false).set k true=aJ (k+1) true++aJ (c.length-(k+1)) false:=by
    rw[Cu _ _ Iw,mL,iT,show c.length-k=(c.length-(k+1))+1 by omega,E3,tP,List.replicate_succ',List.append_assoc];rfl
   ((try revert hK K);(repeat'(first|refine Va (X2 @cQ @xS) ?_|(refine V2 (X2 @cQ @xS) ?_ ?_<;>try with_reducible intro hb)|(refine Xi ?_ ?_<;>try intro ht)|refine VD ?_ ?_|exact Xx|fail))<;>try with_reducible intro K hK)
   rw[iK];exact br _ (k+1) Iv Iv (Xv X0)
  ·obtain rfl:k=c.length:=Iv;((try revert hK K);(repeat'(first|refine Va X0 ?_|(refine V2 X0 ?_ ?_<;>try with_reducible intro hb)|(refine Xi ?_ ?_<;>try intro ht)|refine VD ?_ ?_|exact Xx|fail))<;>try with_reducible intro K hK)
   refine bx _ _ rfl ?_;clear br bx c7;repeat(first|refine Xu ?_)
   rw[iT,AN,pO]at *;refine cp (σ':=⟨an [(1,.ptr 0 0 0),(3,.ref 1 1 0 xs.length),(4,NX i),(5,.tree 1 (bm (aJ c.length true)))],[.var (ao m),.arr 1 (rowsOf aA xs)]⟩) (Xs true [0,1] @mL.{0}) ?_;((try revert hK K);(repeat'(first|refine Va @DU ?_|(refine V2 @DU ?_ ?_<;>try with_reducible intro hb)|(refine Xi ?_ ?_<;>try intro ht)|refine VD ?_ ?_|exact Xx|fail))<;>try with_reducible intro K hK)
   refine ak _ (i+1,xs++[aJ c.length true]) ⟨NN,e9.symm⟩ NN ?_;exact Xs false [0,3] X0
 ·rw[c8 Iv]at dp;((try revert hK K);(repeat'(first|refine Va X0 ?_|(refine V2 X0 ?_ ?_<;>try with_reducible intro hb)|(refine Xi ?_ ?_<;>try intro ht)|refine VD ?_ ?_|exact Xx|fail))<;>try with_reducible intro K hK)
  refine ar _ _ rfl ?_;clear ak ar Ql;repeat(first|refine Xu ?_)
  ((try revert hK K);(repeat'(first|refine Vb X0 ?_|(refine V2 X0 ?_ ?_<;>try with_reducible intro hb)|(refine Xi ?_ ?_<;>try intro ht)|refine VD ?_ ?_|exact Xx|fail))<;>try with_reducible intro K hK)
  rw[dp,au];exact Xw true [] X0
def o0:cE:=⟨0,0,0,0,0,[]⟩
def m1:ah:=⟨[[o0,o0],[o0,o0]],[⟨0,1,0,[0,2,4,3]⟩],[],1⟩
def lG(L:List Int):Nat->Nat->List Bool×Nat
 |0,k=>([],k)
 |n+1,k=>((lG L n k).1++[!wX L (lG L n k).2 4],cg L (lG L n k).2)
def ly(L:List Int)(cls:List (List cE)):Nat->Nat->List (List Bool)×Nat
 |0,k=>([],k)
 |c+1,k=>((ly L cls c k).1++[(lG L (cls.getD c default).length (ly L cls c k).2).1],(lG L (cls.getD c default).length (ly L cls c k).2).2)
def H8{L:List Int}:∀ n k,(lG L n k).1.length=n
 |0,k=>rfl
 |n+1,k=>by rw[lG,bE,H8 n];rfl
def MY{L:List Int}:∀ n k,k<=L.length->(lG L n k).2<=L.length
 |0,k,h=>h
 |n+1,k,h=>by rw[lG];exact eQ (MY n k h)
def xd{L:List Int}{cls:List (List cE)}:∀ c k,(ly L cls c k).1.length=c
 |0,k=>rfl
 |c+1,k=>by rw[ly,bE,xd c];rfl
def aaU{L:List Int}{cls:List (List cE)}:∀ c k,k<=L.length->(ly L cls c k).2<=L.length
 |0,k,h=>h
 |c+1,k,h=>by rw[ly];exact MY _ _ (aaU c k h)
def XC{L:List Int}{cls:List (List cE)}:∀ c k i,i<c->((ly L cls c k).1.getD i default).length=(cls.getD i default).length
 |0,k,i,h=>absurd h (Nat.not_lt_zero _)
 |c+1,k,i,h=>by
  rw[ly];dsimp only;by_cases e:i<c
  ·rw[aB,List.getElem?_append_left (by rw[xd];exact e),<- aB];exact XC c k i e
  ·obtain rfl:i=c:=Iv;rw[aB,List.getElem?_append_right (by rw[xd];omega),xd,iT];exact H8 _ _
def akw(bs:List Bool)(n:Nat)(b:Bool):(bs++aJ (n+1) false).set bs.length b=(bs++[b])++aJ n false:=by
 rw[Cu _ _ (Nat.le_refl _),iT,E3,tP];simp
def agc(m:ah)(hc:m.cls.length<1000000)(Ly:∀ l∈m.cls,l.length<1000000)(L:List Int)(k:Nat)(hk:k<=L.length)(hL:L.length<1000000):
  Holds Tryz.prog 13 [.ptr 0 0 0,.agg (ao m)] [fV L k] (.tree 1 (rowsOf aA (ly L m.cls m.cls.length k).1)) [fV L (ly L m.cls m.cls.length k).2]:=by
 unfold fV;refine Holds.aK 40 1 [.tmp 4] Tryz.func13 ?_;((try revert hK K);(repeat'(first|refine Va X0 ?_|(refine V2 X0 ?_ ?_<;>try with_reducible intro hb)|(refine Xi ?_ ?_<;>try intro ht)|refine VD ?_ ?_|exact Xx|fail))<;>try with_reducible intro K hK)
 refine aU (λi:Nat=>(⟨an [(0,.ptr 0 0 0),(3,.ptr 1 0 0),(5,.ref 2 1 0 i),(6,NX i)],[.var [.tree 1 (ints L),NX (ly L m.cls i k).2],.var (ao m),.arr 1 (rowsOf aA (ly L m.cls i k).1)]⟩:St))
  (λi=>i<=m.cls.length) (λi=>m.cls.length-i) 0 (aT _) ?_ ?_
 ·refine aF.trans (aF.nil 5 1 (by simp only[Kc,simprocAttr]) NF) ?_;exact Xv X0
 rintro i hi Ql ak ar;by_cases aq:i<m.cls.length
 ·have mV:=Ly _ (aG (l:=m.cls) (i:=i) (d:=default) aq);have eJ:=aaU (cls:=m.cls) i k hk;have kr:ly L m.cls (i+1) k=((ly L m.cls i k).1++[(lG L (m.cls.getD i default).length (ly L m.cls i k).2).1],(lG L (m.cls.getD i default).length (ly L m.cls i k).2).2):=rfl;have qE:=xd (L:=L) (cls:=m.cls) i k;generalize hX:ly L m.cls i k=X at *;obtain⟨xs,k1⟩:=X;dsimp only at eJ kr qE;generalize bd:m.cls.getD i default=c at *;((try revert hK K);(repeat'(first|refine Va (X2 @bd @aQ.eq_1) ?_|(refine V2 (X2 @bd @aQ.eq_1) ?_ ?_<;>try with_reducible intro hb)|(refine Xi ?_ ?_<;>try intro ht)|refine VD ?_ ?_|exact Xx|fail))<;>try with_reducible intro K hK)
  refine aU (λj:Nat=>(⟨an [(0,.ptr 0 0 0),(3,.ptr 1 0 0),(5,.ref 2 1 0 i),(6,NX i),(7,.ref 3 1 0 c.length),(8,NX j)],[.var [.tree 1 (ints L),NX (lG L j k1).2],.var (ao m),.arr 1 (rowsOf aA xs),.arr 1 (bm ((lG L j k1).1++aJ (c.length-j) false))]⟩:St))
   (λj=>j<=c.length) (λj=>c.length-j) 0 (aT _) ?_ ?_
  ·rw[show(lG L 0 k1).1++aJ (c.length-0) false=aJ c.length false from rfl,show(lG L 0 k1).2=k1 from rfl];exact Xv X0
  rintro j hj c7 br bx;by_cases fe:j<c.length
  ·have bb:=MY (L:=L) j k1 eJ;have hnj:lG L (j+1) k1=((lG L j k1).1++[!wX L (lG L j k1).2 4],cg L (lG L j k1).2):=rfl;have pJ:=H8 (L:=L) j k1;generalize hB:lG L j k1=B at *;obtain⟨bs,k2⟩:=B;dsimp only at bb hnj pJ;have ot:=Bo L k2 4 (by unfold cS;omega) NF bb hL;generalize wX L k2 4=b at *;generalize cg L k2=k3 at *;have MZ:=akw bs (c.length-(j+1)) (!b);rw[show c.length-(j+1)+1=c.length-j by omega,pJ]at MZ;have fh:(bs++aJ (c.length-j) false).length=c.length:=by rw[bE,mL];omega
   ((try revert hK K);(repeat'(first|refine Va @fh ?_|(refine V2 @fh ?_ ?_<;>try with_reducible intro hb)|(refine Xi ?_ ?_<;>try intro ht)|refine VD ?_ ?_|exact Xx|fail))<;>try with_reducible intro K hK)
   (refine Xn [0] (ot) ?_;simp(disch:=omega)only[Ac,↓Pc,simprocAttr])
   ((try revert hK K);(repeat'(first|refine Va (X2 @fh @MZ) ?_|(refine V2 (X2 @fh @MZ) ?_ ?_<;>try with_reducible intro hb)|(refine Xi ?_ ?_<;>try intro ht)|refine VD ?_ ?_|exact Xx|fail))<;>try with_reducible intro K hK)
   refine br _ (j+1) Iv Iv ?_;rw[hnj];exact Xv X0
  ·have k9:j=c.length:=Iv;rw[k9,iT,AN,pO];have pJ:=H8 (L:=L) c.length k1;generalize lG L c.length k1=B at *;obtain⟨bs,k2⟩:=B;dsimp only at kr pJ ⊢;((try revert hK K);(repeat'(first|refine Va X0 ?_|(refine V2 X0 ?_ ?_<;>try with_reducible intro hb)|(refine Xi ?_ ?_<;>try intro ht)|refine VD ?_ ?_|exact Xx|fail))<;>try with_reducible intro K hK)
   refine bx _ _ rfl ?_;clear br bx c7;repeat(first|refine Xu ?_)
   refine cp (aF.zW 7 3 1 (rows:=bm bs) rfl (by rw[xR,pJ];simp only[Kc,simprocAttr]) (Fl _) (I8 _)) ?_;have EA:(rowsOf aA xs).length=i:=by rw[cf];exact qE
   have hxt:List.take i (rowsOf aA xs)=rowsOf aA xs:=c8 Iv;((try revert hK K);(repeat'(first|refine Va (X3 @DU @EA @hxt) ?_|(refine V2 (X3 @DU @EA @hxt) ?_ ?_<;>try with_reducible intro hb)|(refine Xi ?_ ?_<;>try intro ht)|refine VD ?_ ?_|exact Xx|fail))<;>try with_reducible intro K hK)
   refine ak _ (i+1) Iv Iv ?_;rw[kr];exact Xs false [0,1,5] X0
 ·have M0:i=m.cls.length:=Iv;rw[M0];((try revert hK K);(repeat'(first|refine Va X0 ?_|(refine V2 X0 ?_ ?_<;>try with_reducible intro hb)|(refine Xi ?_ ?_<;>try intro ht)|refine VD ?_ ?_|exact Xx|fail))<;>try with_reducible intro K hK)
  refine ar _ _ rfl ?_;clear ak ar Ql;repeat(first|refine Xu ?_)
  refine cp (aF.zW 5 2 1 (rows:=rowsOf aA (ly L m.cls m.cls.length k).1) rfl (by rw[cf,xd];simp only[Kc,simprocAttr]) (ig _) (my _)) ?_;((try revert hK K);(repeat'(first|refine Vb X0 ?_|(refine V2 X0 ?_ ?_<;>try with_reducible intro hb)|(refine Xi ?_ ?_<;>try intro ht)|refine VD ?_ ?_|exact Xx|fail))<;>try with_reducible intro K hK)
  exact Xw true [0] X0
end T

