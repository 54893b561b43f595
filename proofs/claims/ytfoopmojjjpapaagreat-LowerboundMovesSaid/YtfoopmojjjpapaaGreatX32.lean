import Derived.Test.YtfoopmojjjpapaaGreatX31
import Derived.Test.YtfoopmojjjpapaaGreatX30
import Derived.Test.YtfoopmojjjpapaaGreatX24
set_option linter.all false
set_option maxHeartbeats 0
set_option maxRecDepth 20000
open Nat renaming zero_le→aT,min_eq_left→wA,zero_add→gm
open Bool renaming not_true→lI,not_false→mK
open List renaming take_zero→nU,length_take→e8,take_of_length_le→c8
open Go Go.Am Go.Proofs
namespace T
def ahD{most bX n:Int}(hp:bM bX):Bt (n-most) bX=kQ most bX n:=by
 unfold Bt kQ bM at *;by_cases h:n<=most
 ·rw[if_pos Ix,if_pos h]
 ·rw[if_neg Ix,if_neg h];split
  ·have:bX=1099511627776:=Ix;subst this;omega
  ·rfl
def ahO(a:List cg)(b:List Bool):Holds Tryz.prog 109 [.tree 6 (rowsOf b6 a),.tree 1 (bm b)] [] (.lit (.bool (decide (a.length=b.length)))) []:=by
 refine Holds.aK 10 0 [.tmp 4] Tryz.func109 ?_;repeat'(first|(refine Xr X0 ?_;intro K hK)|refine Xo X0 ?_|(refine hK _ ?_;clear hK K)|(refine Xg X0 ?_ ?_<;>try intro hb)|(refine Xi ?_ ?_<;>try intro ht)|refine Xz ?_|refine Xh ?_|(refine Xe ?_;first|refine aS rfl ?_|refine Xl ?_ ?_)|refine Xd ?_ ?_|exact Xx|fail)
 ·congr 2;rw[Bool.eq_iff_iff,beq_iff_eq,decide_eq_true_eq];omega
def ahP(m:ah)(left:List (List Bool))(hm:MB m)(hb:BB left):Holds Tryz.prog 77 [.agg (ao m),.tree 1 (rowsOf aA left)] [] (.lit (.bool (decide (df m left)))) []:=by
 have sR:=hm.cls;have gR:=hb.1;generalize au:decide (df m left)=res;have hE:Holds Tryz.prog 108 [.tree 1 (rowsOf aQ m.cls),.tree 1 (rowsOf aA left),.fn 109 []] [] (.lit (.bool res)) []:=by
  refine Holds.aK 32 0 [.tmp 6] Tryz.func108 ?_;by_cases hl:left.length=m.cls.length;rotate_left
  ·rw[decide_eq_false (λh:df m left=>hl h.1)]at au;((try revert hK K);(repeat'(first|refine Va X0 ?_|(refine V2 X0 ?_ ?_<;>try with_reducible intro hb)|(refine Xi ?_ ?_<;>try intro ht)|refine VD ?_ ?_|exact Xx|fail))<;>try with_reducible intro K hK)
   all_goals try(exfalso;omega)
   repeat(first|refine Xu ?_|(refine bx _ _ rfl ?_;clear br bx;try clear c7)|(refine fI _ _ rfl ?_;clear gG fI;try clear mC)|(refine sS _ _ rfl ?_;clear Hj sS;try clear LZ))
   ((try revert hK K);(repeat'(first|refine Vb X0 ?_|(refine V2 X0 ?_ ?_<;>try with_reducible intro hb)|(refine Xi ?_ ?_<;>try intro ht)|refine VD ?_ ?_|exact Xx|fail))<;>try with_reducible intro K hK)
   exact aS rfl (by rw[<- au])
  ((try revert hK K);(repeat'(first|refine Va X0 ?_|(refine V2 X0 ?_ ?_<;>try with_reducible intro hb)|(refine Xi ?_ ?_<;>try intro ht)|refine VD ?_ ?_|exact Xx|fail))<;>try with_reducible intro K hK)
  all_goals try(exfalso;omega)
  refine aU (λk:Nat=>(⟨an [(1,.tree 1 (rowsOf aA left)),(2,.fn 109 []),(15,.tree 1 (rowsOf aQ m.cls)),(16,N0 m.cls.length),(17,N0 k)],[]⟩:St)) (λk=>k<=m.cls.length/\∀ i,i<k->(left.getD i default).length=(m.cls.getD i default).length) (λk=>m.cls.length-k) 0 ⟨aT _,Ix⟩ (Xv X0) ?_;rintro k⟨hk,hr⟩Ql ak ar;by_cases ba:k<m.cls.length
  ·have h1:=hm.opt _ (aG (d:=default) ba);have h2:=hb.2 _ (aG (l:=left) (i:=k) (d:=default) Ix);have hc:=ahO (m.cls.getD k default) (left.getD k default);generalize rN:m.cls.getD k default=a at *;generalize gR:left.getD k default=b at *;by_cases iY:a.length=b.length
   ·rw[decide_eq_true iY]at hc;((try revert hK K);(repeat'(first|refine Vc (X4 @rN @gR @aQ.eq_1 @aA.eq_1) hc ?_|(refine V2 (X4 @rN @gR @aQ.eq_1 @aA.eq_1) ?_ ?_<;>try with_reducible intro hb)|(refine Xi ?_ ?_<;>try intro ht)|refine VD ?_ ?_|exact Xx|fail))<;>try with_reducible intro K hK)
    all_goals try(exfalso;omega)
    exact ak _ (k+1) ⟨Ix,λi hi=>by
     by_cases e:i=k
     ·subst e;rw[gR,rN];exact iY.symm
     ·exact hr i Ix⟩ Ix (Xv X0)
   ·rw[decide_eq_false iY]at hc;rw[decide_eq_false (λh:df m left=>iY (by have:=h.2 k Ix;rw[gR,rN]at this;exact this.symm))]at au;((try revert hK K);(repeat'(first|refine Vc (X4 @rN @gR @aQ.eq_1 @aA.eq_1) hc ?_|(refine V2 (X4 @rN @gR @aQ.eq_1 @aA.eq_1) ?_ ?_<;>try with_reducible intro hb)|(refine Xi ?_ ?_<;>try intro ht)|refine VD ?_ ?_|exact Xx|fail))<;>try with_reducible intro K hK)
    all_goals try(exfalso;omega)
    repeat(first|refine Xu ?_|(refine bx _ _ rfl ?_;clear br bx;try clear c7)|(refine fI _ _ rfl ?_;clear gG fI;try clear mC)|(refine sS _ _ rfl ?_;clear Hj sS;try clear LZ))
    ((try revert hK K);(repeat'(first|refine Vb X0 ?_|(refine V2 X0 ?_ ?_<;>try with_reducible intro hb)|(refine Xi ?_ ?_<;>try intro ht)|refine VD ?_ ?_|exact Xx|fail))<;>try with_reducible intro K hK)
    exact aS rfl (by rw[<- au])
  ·rw[decide_eq_true (show df m left from⟨hl,λi hi=>hr i Ix⟩)]at au;((try revert hK K);(repeat'(first|refine Va X0 ?_|(refine V2 X0 ?_ ?_<;>try with_reducible intro hb)|(refine Xi ?_ ?_<;>try intro ht)|refine VD ?_ ?_|exact Xx|fail))<;>try with_reducible intro K hK)
   refine ar _ _ rfl ?_;clear ak ar Ql;repeat(first|refine Xu ?_)
   ((try revert hK K);(repeat'(first|refine Vb X0 ?_|(refine V2 X0 ?_ ?_<;>try with_reducible intro hb)|(refine Xi ?_ ?_<;>try intro ht)|refine VD ?_ ?_|exact Xx|fail))<;>try with_reducible intro K hK)
   exact aS rfl (by rw[<- au])
 refine Holds.aK 9 0 [.tmp 4] Tryz.func77 ?_;((try revert hK K);(repeat'(first|refine Vd X0 hE ?_|(refine V2 X0 ?_ ?_<;>try with_reducible intro hb)|(refine Xi ?_ ?_<;>try intro ht)|refine VD ?_ ?_|exact Xx|fail))<;>try with_reducible intro K hK)
 exact aS rfl rfl
def ahp(m:ah)(left:List (List Bool))(hm:MB m)(hb:BB left):Holds Tryz.prog 43 [.agg (ao m),.tree 1 (rowsOf aA left)] [] (.lit (.bool (decide (df m left)))) []:=by
 have sR:=hm.cls;have gR:=hb.1;generalize au:decide (df m left)=res;refine Holds.aK 30 0 [.tmp 4] Tryz.func43 ?_;by_cases hl:left.length=m.cls.length;rotate_left
 ·rw[decide_eq_false (λh:df m left=>hl h.1)]at au;((repeat'(first|refine Va X0 ?_|(refine Xi ?_ ?_<;>try intro ht)|exact Xx|fail)))
  ((skip))
  exact aS rfl (by rw[<- au])
 ((repeat'(first|refine Va X0 ?_|(refine Xi ?_ ?_<;>try intro ht)|exact Xx|fail)))
 refine aU (λk:Nat=>(⟨an [(1,.tree 1 (rowsOf aA left)),(2,.ptr 0 0 0),(5,N0 k)],[.var (ao m)]⟩:St)) (λk=>k<=left.length/\∀ i,i<k->(left.getD i default).length=(m.cls.getD i default).length) (λk=>left.length-k) 0 ⟨aT _,Ix⟩ (Xv X0) ?_;rintro k⟨hk,hr⟩Ql ak ar;by_cases ba:k<left.length
 ·have h1:=hm.opt _ (aG (l:=m.cls) (i:=k) (d:=default) Ix);have h2:=hb.2 _ (aG (d:=default) ba);generalize rN:m.cls.getD k default=a at *;generalize gR:left.getD k default=b at *;by_cases iY:b.length=a.length
  ·((repeat'(first|refine Va (X4 @rN @gR @aQ.eq_1 @aA.eq_1) ?_|(refine Xi ?_ ?_<;>try intro ht)|exact Xx|fail)))
   exact ak _ (k+1) ⟨Ix,λi hi=>by
    by_cases e:i=k
    ·subst e;rw[gR,rN];exact iY
    ·exact hr i Ix⟩ Ix (Xv X0)
  ·rw[decide_eq_false (λh:df m left=>iY (by have:=h.2 k Ix;rw[gR,rN]at this;exact this))]at au;((repeat'(first|refine Va (X4 @rN @gR @aQ.eq_1 @aA.eq_1) ?_|(refine Xi ?_ ?_<;>try intro ht)|exact Xx|fail)))
   repeat(refine Xu ?_)
   refine Vb X0 ?_;exact aS rfl (by rw[<- au])
 ·rw[decide_eq_true (show df m left from⟨hl,λi hi=>hr i Ix⟩)]at au;((repeat'(first|refine Va X0 ?_|(refine Xi ?_ ?_<;>try intro ht)|exact Xx|fail)))
  refine ar _ _ rfl ?_;clear ak ar Ql;repeat(refine Xu ?_)
  refine Vb X0 ?_;exact aS rfl (by rw[<- au])
def ag7(m:ah)(left:List (List Bool))(hm:MB m)(hb:BB left):Holds Tryz.prog 41 [.agg (ao m),.tree 1 (rowsOf aA left)] [] (N0 (kn m left)) []:=by
 have h1:=Ka m hm;have h2:=ahP m left hm hb;generalize au:kn m left=res;unfold kn at au;refine Holds.aK 15 0 [.tmp 4] Tryz.func41 ?_;by_cases hv:jO m=0
 ·rw[if_neg (by rw[hv];simp)]at au;rw[hv]at h1;by_cases hf:df m left
  ·rw[if_pos hf]at au;rw[decide_eq_true hf]at h2;subst au;((try revert hK K);(repeat'(first|refine Vd (X2 @bne_self_eq_false.{0} @lI) (X2 h1 h2) ?_|(refine V2 (X2 @bne_self_eq_false.{0} @lI) ?_ ?_<;>try with_reducible intro hb)|(refine Xi ?_ ?_<;>try intro ht)|refine VD ?_ ?_|exact Xx|fail))<;>try with_reducible intro K hK)
   all_goals exact aS rfl rfl
  ·rw[if_neg hf]at au;rw[decide_eq_false hf]at h2;subst au;((try revert hK K);(repeat'(first|refine Vd (X2 @bne_self_eq_false.{0} @mK) (X2 h1 h2) ?_|(refine V2 (X2 @bne_self_eq_false.{0} @mK) ?_ ?_<;>try with_reducible intro hb)|(refine Xi ?_ ?_<;>try intro ht)|refine VD ?_ ?_|exact Xx|fail))<;>try with_reducible intro K hK)
   all_goals exact aS rfl rfl
 ·rw[if_pos hv]at au;generalize jO m=e at *;subst au;((try revert hK K);(repeat'(first|refine Vd X0 (X2 h1 h2) ?_|(refine V2 X0 ?_ ?_<;>try with_reducible intro hb)|(refine Xi ?_ ?_<;>try intro ht)|refine VD ?_ ?_|exact Xx|fail))<;>try with_reducible intro K hK)
  all_goals try(exfalso;omega)
  all_goals exact aS rfl rfl
def Lm{m:ah}{left:List (List Bool)}(hm:VM m)(hf:df m left){c:Ct}(hc:c∈m.aC):(∀ x∈c.aY,(0<=x.cls/\x.cls<left.length)/\1<=x.wt/\x.wt<=1000)/\0<=c.most/\bM c.bX/\c.aY.length<=1000000:=by
 obtain⟨_,h2,h3,h4⟩:=sY (hm.ct c hc);refine⟨λx hx=>?_,h2.1,uz h3,?_⟩
 ·obtain⟨h5,h6⟩:=vH h4 x hx;obtain⟨a,b,_,_⟩:=kR.1 h5;have:=hf.1;exact⟨⟨a,Ix⟩,h6⟩
 ·have:=V' hm h4;omega
def ahC (m:ah) (left:List (List Bool)) (c:Ct) (hm:VM m) (hf:df m left) (hc:c∈m.aC):Holds Tryz.prog 49 [.agg (ao m),.tree 1 (rowsOf aA left),.agg (db c)] [] (N0 (jN c.aY 0 left 0 - c.most)) []:=by
  obtain ⟨q1,q2,q3,q4⟩:=Lm hm hf hc
  have ye:∀ x∈c.aY,1<=x.wt/\x.wt<=1000:=λx hx=>(q1 x hx).2
  have sR:=hm.cls
  have hl:=hf.1
  have amq:=(sY (hm.ct c hc)).2.1
  refine Holds.aK 85 0 [.tmp 6] Tryz.func49 ?_
  refine Va X0 ?_
  refine aU (λi:Nat=>(⟨an [(1,.tree 1 (rowsOf aA left)),(3,.ptr 0 0 0),(5,.ptr 1 0 0),(7,N0 (jN c.aY 0 (left.take i) 0)),(8,N0 i)],[.var (ao m),.var (db c)]⟩:St)) (λi=>i<=left.length) (λi=>left.length - i) 0 (aT _) (Xv (X2 @nU.{0} (X2 @jN.eq_1 @jN.eq_2))) ?_
  rintro i hi Ql ak ar
  have xW:=C6 ye (left.take i)
  rw[e8] at xW
  by_cases aq:i<left.length
  · have bG:(left.getD i default).length=(m.cls.getD i default).length:=hf.2 i aq
    have Hf:=hm.opt _ (aG (l:=m.cls) (i:=i) (d:=default) Ix)
    have e9:=eZ aq
    have vP:=Wv c.aY (left.getD i default) (left.take i) 0 0
    rw[<- e9,e8,wA Ix,gm] at vP
    generalize jN c.aY 0 (left.take i) 0=n at *
    generalize Br:left.getD i default=row at *
    generalize cZ:m.cls.getD i default=l at *
    ((repeat' (first|refine Va X0 ?_|(refine Xi ?_ ?_<;>try intro ht)|exact Xx|fail)))
    refine aU (λo:Nat=>(⟨an [(1,.tree 1 (rowsOf aA left)),(3,.ptr 0 0 0),(5,.ptr 1 0 0),(7,N0 n),(8,N0 i),(9,N0 (max (dG c.aY i 0 (row.take o) (-1)) 0)),(10,.lit (.bool (decide (0<=dG c.aY i 0 (row.take o) (-1))))),(11,N0 o)],[.var (ao m),.var (db c)]⟩:St)) (λo=>o<=row.length) (λo=>row.length - o) 0 (aT _) (Xv (X2 @nU.{0} (X2 @dG.eq_1 @dG.eq_2))) ?_
    rintro o ho c7 br bx
    have hb:=Gf ye i (row.take o) 0 (-1) Ix
    by_cases cE:o<row.length
    · have iA:dG c.aY i 0 (row.take (o+1)) (-1)=if row.getD o false=true/\(dG c.aY i 0 (row.take o) (-1)<0\/fH c.aY i o 0<dG c.aY i 0 (row.take o) (-1)) then fH c.aY i o 0 else dG c.aY i 0 (row.take o) (-1):=by
        rw[List.take_succ_eq_append_getElem cE,J6,List.getD_eq_getElem?_getD,List.getElem?_eq_getElem cE,e8,wA Ix,gm];rfl
      have hw:=yg ye i o 0 Ix
      generalize dG c.aY i 0 (row.take o) (-1)=b at *
      generalize zG:row.getD o false=is at *
      cases is with
      | false =>
        rw[if_neg Iy] at iA
        ((repeat' (first|refine Va (X5 @cZ @Br @zG @aQ.eq_1 @aA.eq_1) ?_|(refine Xi ?_ ?_<;>try intro ht)|exact Xx|fail)))
        exact br _ (o+1) Ix Ix (by simp only[iA];exact Xv X0)
      | true =>
        simp only[eq_self,true_and] at iA
        ((repeat' (first|refine Va (X5 @cZ @Br @zG @aQ.eq_1 @aA.eq_1) ?_|(refine Xi ?_ ?_<;>try intro ht)|exact Xx|fail)))
        refine aU (λk:Nat=>(⟨an [(1,.tree 1 (rowsOf aA left)),(3,.ptr 0 0 0),(5,.ptr 1 0 0),(7,N0 n),(8,N0 i),(9,N0 (max b 0)),(10,.lit (.bool (decide (0<=b)))),(11,N0 o),(12,N0 (fH (c.aY.take k) i o 0)),(13,N0 k)],[.var (ao m),.var (db c)]⟩:St)) (λk=>k<=c.aY.length) (λk=>c.aY.length - k) 0 (aT _) (Xv (X2 @nU.{0} (X2 @fH.eq_1 @fH.eq_2))) ?_
        rintro k hk mC gG fI
        by_cases ba:k<c.aY.length
        · have ahQ:=eZ ba
          have cW:=q1 _ (aG (d:=default) ba)
          have eO:=Wo (c.aY.take k) (c.aY.getD k default) i o 0
          rw[<- ahQ] at eO
          generalize fH (c.aY.take k) i o 0=w at *
          generalize C1:c.aY.getD k default=x at *
          ((repeat' (first|refine Va (X2 @C1 @qq.eq_1) ?_|(refine V2 (X2 @C1 @qq.eq_1) ?_ ?_<;>try with_reducible intro hb)|(refine Xi ?_ ?_<;>try intro ht)|exact Xx|fail)))
          all_goals
            refine gG _ (k+1) Ix Ix ?_
            simp only[eO]
            first
              | rw[if_pos Ix]
              | rw[if_neg Ix]
            exact Xv X0
        · ((repeat' (first|refine Va X0 ?_|(refine V2 X0 ?_ ?_<;>try with_reducible intro hb)|(refine Xi ?_ ?_<;>try intro ht)|exact Xx|fail)))
          rw[c8 Ix]
          refine fI _ _ rfl ?_
          clear gG fI mC
          repeat (refine Xu ?_)
          generalize fH c.aY i o 0=w at *
          ((repeat' (first|refine Va X0 ?_|(refine V2 X0 ?_ ?_<;>try with_reducible intro hb)|(refine Xi ?_ ?_<;>try intro ht)|exact Xx|fail)))
          all_goals
            refine br _ (o+1) Ix Ix ?_
            simp only[iA]
            first
              | (rw[if_pos Ix];have e1:max w 0=w:=Ix
                 have e2:decide (0<=w)=true:=decide_eq_true Ix
                 simp only[e1,e2];exact Xv X0)
              | (rw[if_neg Ix];exact Xv X0)
    · rw[c8 Ix] at hb
      have jt:lX c.aY i row=max (dG c.aY i 0 row (-1)) 0:=rfl
      ((repeat' (first|refine Va (X3 @cZ @aQ.eq_1 (c8 (show row.length<=o by omega))) ?_|(refine Xi ?_ ?_<;>try intro ht)|exact Xx|fail)))
      refine bx _ _ rfl ?_
      clear br bx c7
      repeat (refine Xu ?_)
      refine Va X0 ?_
      exact ak _ (i+1) Ix Ix (by simp only[vP,jt];exact Xv X0)
  · ((repeat' (first|refine Va (c8 (show left.length<=i by omega)) ?_|(refine Xi ?_ ?_<;>try intro ht)|exact Xx|fail)))
    refine ar _ _ rfl ?_;clear ak ar Ql
    repeat (refine Xu ?_)
    rw[c8 Ix] at xW
    repeat' (first|(refine Xr X0 ?_;intro K hK)|(refine hK _ ?_;clear hK K)|refine Xz ?_|(refine Xe ?_;first|refine aS rfl ?_|refine Xl ?_ ?_)|refine Xd ?_ ?_|exact Xx|fail)
def Ln(x:Int):Holds Tryz.prog 111 [N0 x] [] (.agg (aW (ez x))) []:=by
 refine Holds.aK 7 0 [.cell 2 182] Tryz.func111 ?_;refine Vb X0 ?_;simp(disch:=omega)only[Ac,↓Pc,simprocAttr,aW,ez,dv];exact aS rfl rfl
end T

