import Derived.Test.YtfoopmojjjpapaaGreatX20
import Derived.Test.YtfoopmojjjpapaaGreatX19
set_option linter.all false
set_option maxHeartbeats 0
set_option maxRecDepth 20000
open Nat renaming zero_le→aP,min_eq_left→yr,zero_add→gR
open Bool renaming not_true→iH,not_false→kP
open List renaming take_zero→mu,length_take→e9,take_of_length_le→dt
open Go Go.Am Go.Proofs
namespace T
def ake(a:List cP)(b:List Bool):Holds Tryz.prog 109 [.tree 6 (rowsOf cB a),.tree 1 (aV b)] [] (.lit (.bool (decide (a.length=b.length)))) []:=by
 refine Holds.aM 10 0 [.tmp 4] Tryz.func109 ?_;repeat'(first|(refine Xr X0 ?_;intro K hK)|refine Xo X0 ?_|(refine hK _ ?_;clear hK K)|(refine Xg X0 ?_ ?_<;>try intro hb)|(refine Xi ?_ ?_<;>try intro ht)|refine Xz ?_|refine Xh ?_|(refine Xe ?_;first|refine aN rfl ?_|refine Xl ?_ ?_)|refine Xd ?_ ?_|exact Xx|fail)
 ·congr 2;rw[Bool.eq_iff_iff,beq_iff_eq,decide_eq_true_eq];omega
def akf(m:ah)(left:List (List Bool))(hm:MB m)(hb:BB left):Holds Tryz.prog 77 [.agg (ao m),.tree 1 (rowsOf aA left)] [] (.lit (.bool (decide (cK m left)))) []:=by
 have sr:=hm.cls;have fN:=hb.1;generalize an:decide (cK m left)=res;have hE:Holds Tryz.prog 108 [.tree 1 (rowsOf aT m.cls),.tree 1 (rowsOf aA left),.fn 109 []] [] (.lit (.bool res)) []:=by
  refine Holds.aM 32 0 [.tmp 6] Tryz.func108 ?_;by_cases hl:left.length=m.cls.length;rotate_left
  ·rw[decide_eq_false (λh:cK m left=>hl h.1)]at an;((try revert hK K);(repeat'(first|refine Va X0 ?_|(refine V2 X0 ?_ ?_<;>try with_reducible intro hb)|(refine Xi ?_ ?_<;>try intro ht)|refine VD ?_ ?_|exact Xx|fail))<;>try with_reducible intro K hK)
   all_goals try(exfalso;omega)
   repeat(first|refine Xu ?_|(refine bm _ _ rfl ?_;clear bg bm;try clear cR)|(refine fK _ _ rfl ?_;clear gw fK;try clear mH)|(refine uS _ _ rfl ?_;clear Iu uS;try clear M0))
   ((try revert hK K);(repeat'(first|refine Vb X0 ?_|(refine V2 X0 ?_ ?_<;>try with_reducible intro hb)|(refine Xi ?_ ?_<;>try intro ht)|refine VD ?_ ?_|exact Xx|fail))<;>try with_reducible intro K hK)
   exact aN rfl (by rw[<- an])
  ((try revert hK K);(repeat'(first|refine Va X0 ?_|(refine V2 X0 ?_ ?_<;>try with_reducible intro hb)|(refine Xi ?_ ?_<;>try intro ht)|refine VD ?_ ?_|exact Xx|fail))<;>try with_reducible intro K hK)
  all_goals try(exfalso;omega)
  refine aQ (λk:Nat=>(⟨ar [(1,.tree 1 (rowsOf aA left)),(2,.fn 109 []),(15,.tree 1 (rowsOf aT m.cls)),(16,QM m.cls.length),(17,QM k)],[]⟩:St)) (λk=>k<=m.cls.length/\∀ i,i<k->(left.getD i default).length=(m.cls.getD i default).length) (λk=>m.cls.length-k) 0 ⟨aP _,Ey⟩ (Xv X0) ?_;rintro k⟨hk,hr⟩Ql ak aq;by_cases bj:k<m.cls.length
  ·have h1:=hm.opt _ (aF (d:=default) bj);have h2:=hb.2 _ (aF (l:=left) (i:=k) (d:=default) Ey);have hc:=ake (m.cls.getD k default) (left.getD k default);generalize pk:m.cls.getD k default=a at *;generalize fN:left.getD k default=b at *;by_cases gN:a.length=b.length
   ·rw[decide_eq_true gN]at hc;((try revert hK K);(repeat'(first|refine Vc (X4 @pk @fN @aT.eq_1 @aA.eq_1) hc ?_|(refine V2 (X4 @pk @fN @aT.eq_1 @aA.eq_1) ?_ ?_<;>try with_reducible intro hb)|(refine Xi ?_ ?_<;>try intro ht)|refine VD ?_ ?_|exact Xx|fail))<;>try with_reducible intro K hK)
    all_goals try(exfalso;omega)
    exact ak _ (k+1) ⟨Ey,λi hi=>by
     by_cases e:i=k
     ·subst e;rw[fN,pk];exact gN.symm
     ·exact hr i Ey⟩ Ey (Xv X0)
   ·rw[decide_eq_false gN]at hc;rw[decide_eq_false (λh:cK m left=>gN (by have:=h.2 k Ey;rw[fN,pk]at this;exact this.symm))]at an;((try revert hK K);(repeat'(first|refine Vc (X4 @pk @fN @aT.eq_1 @aA.eq_1) hc ?_|(refine V2 (X4 @pk @fN @aT.eq_1 @aA.eq_1) ?_ ?_<;>try with_reducible intro hb)|(refine Xi ?_ ?_<;>try intro ht)|refine VD ?_ ?_|exact Xx|fail))<;>try with_reducible intro K hK)
    all_goals try(exfalso;omega)
    repeat(first|refine Xu ?_|(refine bm _ _ rfl ?_;clear bg bm;try clear cR)|(refine fK _ _ rfl ?_;clear gw fK;try clear mH)|(refine uS _ _ rfl ?_;clear Iu uS;try clear M0))
    ((try revert hK K);(repeat'(first|refine Vb X0 ?_|(refine V2 X0 ?_ ?_<;>try with_reducible intro hb)|(refine Xi ?_ ?_<;>try intro ht)|refine VD ?_ ?_|exact Xx|fail))<;>try with_reducible intro K hK)
    exact aN rfl (by rw[<- an])
  ·rw[decide_eq_true (show cK m left from⟨hl,λi hi=>hr i Ey⟩)]at an;((try revert hK K);(repeat'(first|refine Va X0 ?_|(refine V2 X0 ?_ ?_<;>try with_reducible intro hb)|(refine Xi ?_ ?_<;>try intro ht)|refine VD ?_ ?_|exact Xx|fail))<;>try with_reducible intro K hK)
   refine aq _ _ rfl ?_;clear ak aq Ql;repeat(first|refine Xu ?_)
   ((try revert hK K);(repeat'(first|refine Vb X0 ?_|(refine V2 X0 ?_ ?_<;>try with_reducible intro hb)|(refine Xi ?_ ?_<;>try intro ht)|refine VD ?_ ?_|exact Xx|fail))<;>try with_reducible intro K hK)
   exact aN rfl (by rw[<- an])
 refine Holds.aM 9 0 [.tmp 4] Tryz.func77 ?_;((try revert hK K);(repeat'(first|refine Vd X0 hE ?_|(refine V2 X0 ?_ ?_<;>try with_reducible intro hb)|(refine Xi ?_ ?_<;>try intro ht)|refine VD ?_ ?_|exact Xx|fail))<;>try with_reducible intro K hK)
 exact aN rfl rfl
def aj4(m:ah)(left:List (List Bool))(hm:MB m)(hb:BB left):Holds Tryz.prog 43 [.agg (ao m),.tree 1 (rowsOf aA left)] [] (.lit (.bool (decide (cK m left)))) []:=by
 have sr:=hm.cls;have fN:=hb.1;generalize an:decide (cK m left)=res;refine Holds.aM 30 0 [.tmp 4] Tryz.func43 ?_;by_cases hl:left.length=m.cls.length;rotate_left
 ·rw[decide_eq_false (λh:cK m left=>hl h.1)]at an;((repeat'(first|refine Va X0 ?_|(refine Xi ?_ ?_<;>try intro ht)|exact Xx|fail)))
  ((skip))
  exact aN rfl (by rw[<- an])
 ((repeat'(first|refine Va X0 ?_|(refine Xi ?_ ?_<;>try intro ht)|exact Xx|fail)))
 refine aQ (λk:Nat=>(⟨ar [(1,.tree 1 (rowsOf aA left)),(2,.ptr 0 0 0),(5,QM k)],[.var (ao m)]⟩:St)) (λk=>k<=left.length/\∀ i,i<k->(left.getD i default).length=(m.cls.getD i default).length) (λk=>left.length-k) 0 ⟨aP _,Ey⟩ (Xv X0) ?_;rintro k⟨hk,hr⟩Ql ak aq;by_cases bj:k<left.length
 ·have h1:=hm.opt _ (aF (l:=m.cls) (i:=k) (d:=default) Ey);have h2:=hb.2 _ (aF (d:=default) bj);generalize pk:m.cls.getD k default=a at *;generalize fN:left.getD k default=b at *;by_cases gN:b.length=a.length
  ·((repeat'(first|refine Va (X4 @pk @fN @aT.eq_1 @aA.eq_1) ?_|(refine Xi ?_ ?_<;>try intro ht)|exact Xx|fail)))
   exact ak _ (k+1) ⟨Ey,λi hi=>by
    by_cases e:i=k
    ·subst e;rw[fN,pk];exact gN
    ·exact hr i Ey⟩ Ey (Xv X0)
  ·rw[decide_eq_false (λh:cK m left=>gN (by have:=h.2 k Ey;rw[fN,pk]at this;exact this))]at an;((repeat'(first|refine Va (X4 @pk @fN @aT.eq_1 @aA.eq_1) ?_|(refine Xi ?_ ?_<;>try intro ht)|exact Xx|fail)))
   repeat(refine Xu ?_)
   refine Vb X0 ?_;exact aN rfl (by rw[<- an])
 ·rw[decide_eq_true (show cK m left from⟨hl,λi hi=>hr i Ey⟩)]at an;((repeat'(first|refine Va X0 ?_|(refine Xi ?_ ?_<;>try intro ht)|exact Xx|fail)))
  refine aq _ _ rfl ?_;clear ak aq Ql;repeat(refine Xu ?_)
  refine Vb X0 ?_;exact aN rfl (by rw[<- an])
def ajD(m:ah)(left:List (List Bool))(hm:MB m)(hb:BB left):Holds Tryz.prog 41 [.agg (ao m),.tree 1 (rowsOf aA left)] [] (QM (kj m left)) []:=by
 have h1:=Fp m hm;have h2:=akf m left hm hb;generalize an:kj m left=res;unfold kj at an;refine Holds.aM 15 0 [.tmp 4] Tryz.func41 ?_;by_cases hv:gv m=0
 ·rw[if_neg (by rw[hv];simp)]at an;rw[hv]at h1;by_cases hf:cK m left
  ·rw[if_pos hf]at an;rw[decide_eq_true hf]at h2;subst an;((try revert hK K);(repeat'(first|refine Vd (X2 @bne_self_eq_false.{0} @iH) (X2 h1 h2) ?_|(refine V2 (X2 @bne_self_eq_false.{0} @iH) ?_ ?_<;>try with_reducible intro hb)|(refine Xi ?_ ?_<;>try intro ht)|refine VD ?_ ?_|exact Xx|fail))<;>try with_reducible intro K hK)
   all_goals exact aN rfl rfl
  ·rw[if_neg hf]at an;rw[decide_eq_false hf]at h2;subst an;((try revert hK K);(repeat'(first|refine Vd (X2 @bne_self_eq_false.{0} @kP) (X2 h1 h2) ?_|(refine V2 (X2 @bne_self_eq_false.{0} @kP) ?_ ?_<;>try with_reducible intro hb)|(refine Xi ?_ ?_<;>try intro ht)|refine VD ?_ ?_|exact Xx|fail))<;>try with_reducible intro K hK)
   all_goals exact aN rfl rfl
 ·rw[if_pos hv]at an;generalize gv m=e at *;subst an;((try revert hK K);(repeat'(first|refine Vd X0 (X2 h1 h2) ?_|(refine V2 X0 ?_ ?_<;>try with_reducible intro hb)|(refine Xi ?_ ?_<;>try intro ht)|refine VD ?_ ?_|exact Xx|fail))<;>try with_reducible intro K hK)
  all_goals try(exfalso;omega)
  all_goals exact aN rfl rfl
def N3{m:ah}{left:List (List Bool)}(hm:VM m)(hf:cK m left){c:Ct}(hc:c∈m.aE):(∀ x∈c.bd,(0<=x.cls/\x.cls<left.length)/\1<=x.wt/\x.wt<=1000)/\0<=c.most/\bX c.cA/\c.bd.length<=1000000:=by
 obtain⟨_,h2,h3,h4⟩:=u6 (hm.ct c hc);refine⟨λx hx=>?_,h2.1,wC h3,?_⟩
 ·obtain⟨h5,h6⟩:=xQ h4 x hx;obtain⟨a,b,_,_⟩:=k0.1 h5;have:=hf.1;exact⟨⟨a,Ey⟩,h6⟩
 ·have:=ZY hm h4;omega
def akd (m:ah) (left:List (List Bool)) (c:Ct) (hm:VM m) (hf:cK m left) (hc:c∈m.aE):Holds Tryz.prog 49 [.agg (ao m),.tree 1 (rowsOf aA left),.agg (dz c)] [] (QM (kE c.bd 0 left 0 - c.most)) []:=by
  obtain ⟨q1,q2,q3,q4⟩:=N3 hm hf hc
  have Aq:∀ x∈c.bd,1<=x.wt/\x.wt<=1000:=λx hx=>(q1 x hx).2
  have sr:=hm.cls
  have hl:=hf.1
  have aqC:=(u6 (hm.ct c hc)).2.1
  refine Holds.aM 85 0 [.tmp 6] Tryz.func49 ?_
  refine Va X0 ?_
  refine aQ (λi:Nat=>(⟨ar [(1,.tree 1 (rowsOf aA left)),(3,.ptr 0 0 0),(5,.ptr 1 0 0),(7,QM (kE c.bd 0 (left.take i) 0)),(8,QM i)],[.var (ao m),.var (dz c)]⟩:St)) (λi=>i<=left.length) (λi=>left.length - i) 0 (aP _) (Xv (X2 @mu.{0} (X2 @kE.eq_1 @kE.eq_2))) ?_
  rintro i hi Ql ak aq
  have zL:=FG Aq (left.take i)
  rw[e9] at zL
  by_cases au:i<left.length
  · have bI:(left.getD i default).length=(m.cls.getD i default).length:=hf.2 i au
    have I2:=hm.opt _ (aF (l:=m.cls) (i:=i) (d:=default) Ey)
    have eu:=ep au
    have py:=aal c.bd (left.getD i default) (left.take i) 0 0
    rw[<- eu,e9,yr Ey,gR] at py
    generalize kE c.bd 0 (left.take i) 0=n at *
    generalize y7:left.getD i default=row at *
    generalize cT:m.cls.getD i default=l at *
    ((repeat' (first|refine Va X0 ?_|(refine Xi ?_ ?_<;>try intro ht)|exact Xx|fail)))
    refine aQ (λo:Nat=>(⟨ar [(1,.tree 1 (rowsOf aA left)),(3,.ptr 0 0 0),(5,.ptr 1 0 0),(7,QM n),(8,QM i),(9,QM (max (ef c.bd i 0 (row.take o) (-1)) 0)),(10,.lit (.bool (decide (0<=ef c.bd i 0 (row.take o) (-1))))),(11,QM o)],[.var (ao m),.var (dz c)]⟩:St)) (λo=>o<=row.length) (λo=>row.length - o) 0 (aP _) (Xv (X2 @mu.{0} (X2 @ef.eq_1 @ef.eq_2))) ?_
    rintro o ho cR bg bm
    have hb:=IP Aq i (row.take o) 0 (-1) Ey
    by_cases cz:o<row.length
    · have ik:ef c.bd i 0 (row.take (o+1)) (-1)=if row.getD o false=true/\(ef c.bd i 0 (row.take o) (-1)<0\/gy c.bd i o 0<ef c.bd i 0 (row.take o) (-1)) then gy c.bd i o 0 else ef c.bd i 0 (row.take o) (-1):=by
        rw[List.take_succ_eq_append_getElem cz,NI,List.getD_eq_getElem?_getD,List.getElem?_eq_getElem cz,e9,yr Ey,gR];rfl
      have hw:=BT Aq i o 0 Ey
      generalize ef c.bd i 0 (row.take o) (-1)=b at *
      generalize B9:row.getD o false=is at *
      cases is with
      | false =>
        rw[if_neg G9] at ik
        ((repeat' (first|refine Va (X5 @cT @y7 @B9 @aT.eq_1 @aA.eq_1) ?_|(refine Xi ?_ ?_<;>try intro ht)|exact Xx|fail)))
        exact bg _ (o+1) Ey Ey (by simp only[ik];exact Xv X0)
      | true =>
        simp only[eq_self,true_and] at ik
        ((repeat' (first|refine Va (X5 @cT @y7 @B9 @aT.eq_1 @aA.eq_1) ?_|(refine Xi ?_ ?_<;>try intro ht)|exact Xx|fail)))
        refine aQ (λk:Nat=>(⟨ar [(1,.tree 1 (rowsOf aA left)),(3,.ptr 0 0 0),(5,.ptr 1 0 0),(7,QM n),(8,QM i),(9,QM (max b 0)),(10,.lit (.bool (decide (0<=b)))),(11,QM o),(12,QM (gy (c.bd.take k) i o 0)),(13,QM k)],[.var (ao m),.var (dz c)]⟩:St)) (λk=>k<=c.bd.length) (λk=>c.bd.length - k) 0 (aP _) (Xv (X2 @mu.{0} (X2 @gy.eq_1 @gy.eq_2))) ?_
        rintro k hk mH gw fK
        by_cases bj:k<c.bd.length
        · have Jj:=ep bj
          have cd:=q1 _ (aF (d:=default) bj)
          have eX:=Z8 (c.bd.take k) (c.bd.getD k default) i o 0
          rw[<- Jj] at eX
          generalize gy (c.bd.take k) i o 0=w at *
          generalize E9:c.bd.getD k default=x at *
          ((repeat' (first|refine Va (X2 @E9 @rX.eq_1) ?_|(refine V2 (X2 @E9 @rX.eq_1) ?_ ?_<;>try with_reducible intro hb)|(refine Xi ?_ ?_<;>try intro ht)|exact Xx|fail)))
          all_goals
            refine gw _ (k+1) Ey Ey ?_
            simp only[eX]
            first
              | rw[if_pos Ey]
              | rw[if_neg Ey]
            exact Xv X0
        · ((repeat' (first|refine Va X0 ?_|(refine V2 X0 ?_ ?_<;>try with_reducible intro hb)|(refine Xi ?_ ?_<;>try intro ht)|exact Xx|fail)))
          rw[dt Ey]
          refine fK _ _ rfl ?_
          clear gw fK mH
          repeat (refine Xu ?_)
          generalize gy c.bd i o 0=w at *
          ((repeat' (first|refine Va X0 ?_|(refine V2 X0 ?_ ?_<;>try with_reducible intro hb)|(refine Xi ?_ ?_<;>try intro ht)|exact Xx|fail)))
          all_goals
            refine bg _ (o+1) Ey Ey ?_
            simp only[ik]
            first
              | (rw[if_pos Ey];have e1:max w 0=w:=Ey
                 have e2:decide (0<=w)=true:=decide_eq_true Ey
                 simp only[e1,e2];exact Xv X0)
              | (rw[if_neg Ey];exact Xv X0)
    · rw[dt Ey] at hb
      have j6:k9 c.bd i row=max (ef c.bd i 0 row (-1)) 0:=rfl
      ((repeat' (first|refine Va (X3 @cT @aT.eq_1 (dt (show row.length<=o by omega))) ?_|(refine Xi ?_ ?_<;>try intro ht)|exact Xx|fail)))
      refine bm _ _ rfl ?_
      clear bg bm cR
      repeat (refine Xu ?_)
      refine Va X0 ?_
      exact ak _ (i+1) Ey Ey (by simp only[py,j6];exact Xv X0)
  · ((repeat' (first|refine Va (dt (show left.length<=i by omega)) ?_|(refine Xi ?_ ?_<;>try intro ht)|exact Xx|fail)))
    refine aq _ _ rfl ?_;clear ak aq Ql
    repeat (refine Xu ?_)
    rw[dt Ey] at zL
    repeat' (first|(refine Xr X0 ?_;intro K hK)|(refine hK _ ?_;clear hK K)|refine Xz ?_|(refine Xe ?_;first|refine aN rfl ?_|refine Xl ?_ ?_)|refine Xd ?_ ?_|exact Xx|fail)
def N4(x:Int):Holds Tryz.prog 111 [QM x] [] (.agg (bb (e8 x))) []:=by
 refine Holds.aM 7 0 [.cell 2 182] Tryz.func111 ?_;refine Vb X0 ?_;simp(disch:=omega)only[Ac,↓Pc,simprocAttr,bb,e8,dP];exact aN rfl rfl
end T

