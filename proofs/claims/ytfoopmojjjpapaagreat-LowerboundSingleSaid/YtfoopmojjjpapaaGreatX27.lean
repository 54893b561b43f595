import Derived.Test.YtfoopmojjjpapaaGreatX26
import Derived.Test.YtfoopmojjjpapaaGreatX25
import Derived.Test.YtfoopmojjjpapaaGreatX17
import Derived.Test.YtfoopmojjjpapaaGreatX23
set_option linter.all false
set_option maxHeartbeats 0
set_option maxRecDepth 20000
open Nat renaming zero_le→aS,min_eq_left→xS,zero_add→gJ,mul_le_mul→wC,sub_self→jz,add_zero→jq
open Bool renaming not_true→iN,not_false→kB,true_and→gK,false_and→qU,and_eq_true→bb
open List renaming take_zero→mD,length_take→eY,getD_eq_getElem?_getD→az,getElem?_eq_getElem→bF,take_of_length_le→dm,getElem?_map→bI,map_nil→nQ,foldl_nil→AA,mem_of_mem_take→ss,mem_append→cG,mem_singleton→cV,length_map→fK,append_assoc→bE,length_append→bO,length_set→bJ,getElem?_eq_some_iff→aV,map_append→dS,nodup_append→p9,mem_cons→bw,not_mem_nil→iM,set_set→wD,range_zero→P1
open Go Go.Am Go.Proofs
namespace T
def aj5{most cf n:Int}(hp:bT cf):Dk (n-most) cf=lK most cf n:=by
 unfold Dk lK bT at *;by_cases h:n<=most
 ·rw[if_pos GK,if_pos h]
 ·rw[if_neg GK,if_neg h];split
  ·have:cf=1099511627776:=GK;subst this;omega
  ·rfl
def aj6(a:List cz)(b:List Bool):Holds Tryz.prog 109 [.tree 6 (rowsOf cp a),.tree 1 (a8 b)] [] (.lit (.bool (decide (a.length=b.length)))) []:=by
 refine Holds.aM 10 0 [.tmp 4] Tryz.func109 ?_;repeat'(first|(refine Xr X0 ?_;intro K hK)|refine Xo X0 ?_|(refine hK _ ?_;clear hK K)|(refine Xg X0 ?_ ?_<;>try intro hb)|(refine Xi ?_ ?_<;>try intro ht)|refine Xz ?_|refine Xh ?_|(refine Xe ?_;first|refine aO rfl ?_|refine Xl ?_ ?_)|refine Xd ?_ ?_|exact Xx|fail)
 ·congr 2;rw[Bool.eq_iff_iff,beq_iff_eq,decide_eq_true_eq];omega
def aj7(m:ah)(left:List (List Bool))(hm:MB m)(hb:BB left):Holds Tryz.prog 77 [.agg (an m),.tree 1 (rowsOf aC left)] [] (.lit (.bool (decide (dh m left)))) []:=by
 have uu:=hm.cls;have fN:=hb.1;generalize au:decide (dh m left)=res;have hE:Holds Tryz.prog 108 [.tree 1 (rowsOf aW m.cls),.tree 1 (rowsOf aC left),.fn 109 []] [] (.lit (.bool res)) []:=by
  refine Holds.aM 32 0 [.tmp 6] Tryz.func108 ?_;by_cases hl:left.length=m.cls.length;rotate_left
  ·rw[decide_eq_false (λh:dh m left=>hl h.1)]at au;((try revert hK K);(repeat'(first|refine Va X0 ?_|(refine V2 X0 ?_ ?_<;>try with_reducible intro hb)|(refine Xi ?_ ?_<;>try intro ht)|refine VD ?_ ?_|exact Xx|fail))<;>try with_reducible intro K hK)
   all_goals try(exfalso;omega)
   repeat(first|refine Xu ?_|(refine br _ _ rfl ?_;clear bj br;try clear cJ)|(refine fk _ _ rfl ?_;clear gm fk;try clear mq)|(refine uK _ _ rfl ?_;clear Ja uK;try clear N5))
   ((try revert hK K);(repeat'(first|refine Vb X0 ?_|(refine V2 X0 ?_ ?_<;>try with_reducible intro hb)|(refine Xi ?_ ?_<;>try intro ht)|refine VD ?_ ?_|exact Xx|fail))<;>try with_reducible intro K hK)
   exact aO rfl (by rw[<- au])
  ((try revert hK K);(repeat'(first|refine Va X0 ?_|(refine V2 X0 ?_ ?_<;>try with_reducible intro hb)|(refine Xi ?_ ?_<;>try intro ht)|refine VD ?_ ?_|exact Xx|fail))<;>try with_reducible intro K hK)
  all_goals try(exfalso;omega)
  refine aR (λk:Nat=>(⟨ao [(1,.tree 1 (rowsOf aC left)),(2,.fn 109 []),(15,.tree 1 (rowsOf aW m.cls)),(16,Qf m.cls.length),(17,Qf k)],[]⟩:St)) (λk=>k<=m.cls.length/\∀ i,i<k->(left.getD i default).length=(m.cls.getD i default).length) (λk=>m.cls.length-k) 0 ⟨aS _,GK⟩ (Xv X0) ?_;rintro k⟨hk,hr⟩Ql ak aq;by_cases bg:k<m.cls.length
  ·have h1:=hm.opt _ (aF (d:=default) bg);have h2:=hb.2 _ (aF (l:=left) (i:=k) (d:=default) GK);have hc:=aj6 (m.cls.getD k default) (left.getD k default);generalize tw:m.cls.getD k default=a at *;generalize fN:left.getD k default=b at *;by_cases ju:a.length=b.length
   ·rw[decide_eq_true ju]at hc;((try revert hK K);(repeat'(first|refine Vc (X4 @tw @fN @aW.eq_1 @aC.eq_1) hc ?_|(refine V2 (X4 @tw @fN @aW.eq_1 @aC.eq_1) ?_ ?_<;>try with_reducible intro hb)|(refine Xi ?_ ?_<;>try intro ht)|refine VD ?_ ?_|exact Xx|fail))<;>try with_reducible intro K hK)
    all_goals try(exfalso;omega)
    exact ak _ (k+1) ⟨GK,λi hi=>by
     by_cases e:i=k
     ·subst e;rw[fN,tw];exact ju.symm
     ·exact hr i GK⟩ GK (Xv X0)
   ·rw[decide_eq_false ju]at hc;rw[decide_eq_false (λh:dh m left=>ju (by have:=h.2 k GK;rw[fN,tw]at this;exact this.symm))]at au;((try revert hK K);(repeat'(first|refine Vc (X4 @tw @fN @aW.eq_1 @aC.eq_1) hc ?_|(refine V2 (X4 @tw @fN @aW.eq_1 @aC.eq_1) ?_ ?_<;>try with_reducible intro hb)|(refine Xi ?_ ?_<;>try intro ht)|refine VD ?_ ?_|exact Xx|fail))<;>try with_reducible intro K hK)
    all_goals try(exfalso;omega)
    repeat(first|refine Xu ?_|(refine br _ _ rfl ?_;clear bj br;try clear cJ)|(refine fk _ _ rfl ?_;clear gm fk;try clear mq)|(refine uK _ _ rfl ?_;clear Ja uK;try clear N5))
    ((try revert hK K);(repeat'(first|refine Vb X0 ?_|(refine V2 X0 ?_ ?_<;>try with_reducible intro hb)|(refine Xi ?_ ?_<;>try intro ht)|refine VD ?_ ?_|exact Xx|fail))<;>try with_reducible intro K hK)
    exact aO rfl (by rw[<- au])
  ·rw[decide_eq_true (show dh m left from⟨hl,λi hi=>hr i GK⟩)]at au;((try revert hK K);(repeat'(first|refine Va X0 ?_|(refine V2 X0 ?_ ?_<;>try with_reducible intro hb)|(refine Xi ?_ ?_<;>try intro ht)|refine VD ?_ ?_|exact Xx|fail))<;>try with_reducible intro K hK)
   refine aq _ _ rfl ?_;clear ak aq Ql;repeat(first|refine Xu ?_)
   ((try revert hK K);(repeat'(first|refine Vb X0 ?_|(refine V2 X0 ?_ ?_<;>try with_reducible intro hb)|(refine Xi ?_ ?_<;>try intro ht)|refine VD ?_ ?_|exact Xx|fail))<;>try with_reducible intro K hK)
   exact aO rfl (by rw[<- au])
 refine Holds.aM 9 0 [.tmp 4] Tryz.func77 ?_;((try revert hK K);(repeat'(first|refine Vd X0 hE ?_|(refine V2 X0 ?_ ?_<;>try with_reducible intro hb)|(refine Xi ?_ ?_<;>try intro ht)|refine VD ?_ ?_|exact Xx|fail))<;>try with_reducible intro K hK)
 exact aO rfl rfl
def aj8(m:ah)(left:List (List Bool))(hm:MB m)(hb:BB left):Holds Tryz.prog 43 [.agg (an m),.tree 1 (rowsOf aC left)] [] (.lit (.bool (decide (dh m left)))) []:=by
 have uu:=hm.cls;have fN:=hb.1;generalize au:decide (dh m left)=res;refine Holds.aM 30 0 [.tmp 4] Tryz.func43 ?_;by_cases hl:left.length=m.cls.length;rotate_left
 ·rw[decide_eq_false (λh:dh m left=>hl h.1)]at au;((repeat'(first|refine Va X0 ?_|(refine Xi ?_ ?_<;>try intro ht)|exact Xx|fail)))
  ((skip))
  exact aO rfl (by rw[<- au])
 ((repeat'(first|refine Va X0 ?_|(refine Xi ?_ ?_<;>try intro ht)|exact Xx|fail)))
 refine aR (λk:Nat=>(⟨ao [(1,.tree 1 (rowsOf aC left)),(2,.ptr 0 0 0),(5,Qf k)],[.var (an m)]⟩:St)) (λk=>k<=left.length/\∀ i,i<k->(left.getD i default).length=(m.cls.getD i default).length) (λk=>left.length-k) 0 ⟨aS _,GK⟩ (Xv X0) ?_;rintro k⟨hk,hr⟩Ql ak aq;by_cases bg:k<left.length
 ·have h1:=hm.opt _ (aF (l:=m.cls) (i:=k) (d:=default) GK);have h2:=hb.2 _ (aF (d:=default) bg);generalize tw:m.cls.getD k default=a at *;generalize fN:left.getD k default=b at *;by_cases ju:b.length=a.length
  ·((repeat'(first|refine Va (X4 @tw @fN @aW.eq_1 @aC.eq_1) ?_|(refine Xi ?_ ?_<;>try intro ht)|exact Xx|fail)))
   exact ak _ (k+1) ⟨GK,λi hi=>by
    by_cases e:i=k
    ·subst e;rw[fN,tw];exact ju
    ·exact hr i GK⟩ GK (Xv X0)
  ·rw[decide_eq_false (λh:dh m left=>ju (by have:=h.2 k GK;rw[fN,tw]at this;exact this))]at au;((repeat'(first|refine Va (X4 @tw @fN @aW.eq_1 @aC.eq_1) ?_|(refine Xi ?_ ?_<;>try intro ht)|exact Xx|fail)))
   repeat(refine Xu ?_)
   refine Vb X0 ?_;exact aO rfl (by rw[<- au])
 ·rw[decide_eq_true (show dh m left from⟨hl,λi hi=>hr i GK⟩)]at au;((repeat'(first|refine Va X0 ?_|(refine Xi ?_ ?_<;>try intro ht)|exact Xx|fail)))
  refine aq _ _ rfl ?_;clear ak aq Ql;repeat(refine Xu ?_)
  refine Vb X0 ?_;exact aO rfl (by rw[<- au])
def ajB(m:ah)(left:List (List Bool))(hm:MB m)(hb:BB left):Holds Tryz.prog 41 [.agg (an m),.tree 1 (rowsOf aC left)] [] (Qf (lg m left)) []:=by
 have h1:=Ng m hm;have h2:=aj7 m left hm hb;generalize au:lg m left=res;unfold lg at au;refine Holds.aM 15 0 [.tmp 4] Tryz.func41 ?_;by_cases hv:iR m=0
 ·rw[if_neg (by rw[hv];simp)]at au;rw[hv]at h1;by_cases hf:dh m left
  ·rw[if_pos hf]at au;rw[decide_eq_true hf]at h2;subst au;((try revert hK K);(repeat'(first|refine Vd (X2 @bne_self_eq_false.{0} @iN) (X2 h1 h2) ?_|(refine V2 (X2 @bne_self_eq_false.{0} @iN) ?_ ?_<;>try with_reducible intro hb)|(refine Xi ?_ ?_<;>try intro ht)|refine VD ?_ ?_|exact Xx|fail))<;>try with_reducible intro K hK)
   all_goals exact aO rfl rfl
  ·rw[if_neg hf]at au;rw[decide_eq_false hf]at h2;subst au;((try revert hK K);(repeat'(first|refine Vd (X2 @bne_self_eq_false.{0} @kB) (X2 h1 h2) ?_|(refine V2 (X2 @bne_self_eq_false.{0} @kB) ?_ ?_<;>try with_reducible intro hb)|(refine Xi ?_ ?_<;>try intro ht)|refine VD ?_ ?_|exact Xx|fail))<;>try with_reducible intro K hK)
   all_goals exact aO rfl rfl
 ·rw[if_pos hv]at au;generalize iR m=e at *;subst au;((try revert hK K);(repeat'(first|refine Vd X0 (X2 h1 h2) ?_|(refine V2 X0 ?_ ?_<;>try with_reducible intro hb)|(refine Xi ?_ ?_<;>try intro ht)|refine VD ?_ ?_|exact Xx|fail))<;>try with_reducible intro K hK)
  all_goals try(exfalso;omega)
  all_goals exact aO rfl rfl
def NO{m:ah}{left:List (List Bool)}(hm:VM m)(hf:dh m left){c:Ct}(hc:c∈m.aD):(∀ x∈c.bh,(0<=x.cls/\x.cls<left.length)/\1<=x.wt/\x.wt<=1000)/\0<=c.most/\bT c.cf/\c.bh.length<=1000000:=by
 obtain⟨_,h2,h3,h4⟩:=ux (hm.ct c hc);refine⟨λx hx=>?_,h2.1,vK h3,?_⟩
 ·obtain⟨h5,h6⟩:=w5 h4 x hx;obtain⟨a,b,_,_⟩:=jN.1 h5;have:=hf.1;exact⟨⟨a,GK⟩,h6⟩
 ·have:=UY hm h4;omega
def aj9 (m:ah) (left:List (List Bool)) (c:Ct) (hm:VM m) (hf:dh m left) (hc:c∈m.aD):Holds Tryz.prog 49 [.agg (an m),.tree 1 (rowsOf aC left),.agg (dv c)] [] (Qf (kk c.bh 0 left 0 - c.most)) []:=by
  obtain ⟨q1,q2,q3,q4⟩:=NO hm hf hc
  have Aa:∀ x∈c.bh,1<=x.wt/\x.wt<=1000:=λx hx=>(q1 x hx).2
  have uu:=hm.cls
  have hl:=hf.1
  have ao8:=(ux (hm.ct c hc)).2.1
  refine Holds.aM 85 0 [.tmp 6] Tryz.func49 ?_
  refine Va X0 ?_
  refine aR (λi:Nat=>(⟨ao [(1,.tree 1 (rowsOf aC left)),(3,.ptr 0 0 0),(5,.ptr 1 0 0),(7,Qf (kk c.bh 0 (left.take i) 0)),(8,Qf i)],[.var (an m),.var (dv c)]⟩:St)) (λi=>i<=left.length) (λi=>left.length - i) 0 (aS _) (Xv (X2 @mD.{0} (X2 @kk.eq_1 @kk.eq_2))) ?_
  rintro i hi Ql ak aq
  have zn:=EK Aa (left.take i)
  rw[eY] at zn
  by_cases ar:i<left.length
  · have bK:(left.getD i default).length=(m.cls.getD i default).length:=hf.2 i ar
    have I3:=hm.opt _ (aF (l:=m.cls) (i:=i) (d:=default) GK)
    have ez:=eu ar
    have xC:=UL c.bh (left.getD i default) (left.take i) 0 0
    rw[<- ez,eY,xS GK,gJ] at xC
    generalize kk c.bh 0 (left.take i) 0=n at *
    generalize CZ:left.getD i default=row at *
    generalize cM:m.cls.getD i default=l at *
    ((repeat' (first|refine Va X0 ?_|(refine Xi ?_ ?_<;>try intro ht)|exact Xx|fail)))
    refine aR (λo:Nat=>(⟨ao [(1,.tree 1 (rowsOf aC left)),(3,.ptr 0 0 0),(5,.ptr 1 0 0),(7,Qf n),(8,Qf i),(9,Qf (max (dX c.bh i 0 (row.take o) (-1)) 0)),(10,.lit (.bool (decide (0<=dX c.bh i 0 (row.take o) (-1))))),(11,Qf o)],[.var (an m),.var (dv c)]⟩:St)) (λo=>o<=row.length) (λo=>row.length - o) 0 (aS _) (Xv (X2 @mD.{0} (X2 @dX.eq_1 @dX.eq_2))) ?_
    rintro o ho cJ bj br
    have hb:=Ip Aa i (row.take o) 0 (-1) GK
    by_cases cm:o<row.length
    · have gR:dX c.bh i 0 (row.take (o+1)) (-1)=if row.getD o false=true/\(dX c.bh i 0 (row.take o) (-1)<0\/gj c.bh i o 0<dX c.bh i 0 (row.take o) (-1)) then gj c.bh i o 0 else dX c.bh i 0 (row.take o) (-1):=by
        rw[List.take_succ_eq_append_getElem cm,ML,az,bF cm,eY,xS GK,gJ];rfl
      have hw:=zG Aa i o 0 GK
      generalize dX c.bh i 0 (row.take o) (-1)=b at *
      generalize BH:row.getD o false=is at *
      cases is with
      | false =>
        rw[if_neg GM] at gR
        ((repeat' (first|refine Va (X5 @cM @CZ @BH @aW.eq_1 @aC.eq_1) ?_|(refine Xi ?_ ?_<;>try intro ht)|exact Xx|fail)))
        exact bj _ (o+1) GK GK (by simp only[gR];exact Xv X0)
      | true =>
        simp only[eq_self,true_and] at gR
        ((repeat' (first|refine Va (X5 @cM @CZ @BH @aW.eq_1 @aC.eq_1) ?_|(refine Xi ?_ ?_<;>try intro ht)|exact Xx|fail)))
        refine aR (λk:Nat=>(⟨ao [(1,.tree 1 (rowsOf aC left)),(3,.ptr 0 0 0),(5,.ptr 1 0 0),(7,Qf n),(8,Qf i),(9,Qf (max b 0)),(10,.lit (.bool (decide (0<=b)))),(11,Qf o),(12,Qf (gj (c.bh.take k) i o 0)),(13,Qf k)],[.var (an m),.var (dv c)]⟩:St)) (λk=>k<=c.bh.length) (λk=>c.bh.length - k) 0 (aS _) (Xv (X2 @mD.{0} (X2 @gj.eq_1 @gj.eq_2))) ?_
        rintro k hk mq gm fk
        by_cases bg:k<c.bh.length
        · have Jb:=eu bg
          have bZ:=q1 _ (aF (d:=default) bg)
          have fc:=Ux (c.bh.take k) (c.bh.getD k default) i o 0
          rw[<- Jb] at fc
          generalize gj (c.bh.take k) i o 0=w at *
          generalize Ew:c.bh.getD k default=x at *
          ((repeat' (first|refine Va (X2 @Ew @rz.eq_1) ?_|(refine V2 (X2 @Ew @rz.eq_1) ?_ ?_<;>try with_reducible intro hb)|(refine Xi ?_ ?_<;>try intro ht)|exact Xx|fail)))
          all_goals
            refine gm _ (k+1) GK GK ?_
            simp only[fc]
            first
              | rw[if_pos GK]
              | rw[if_neg GK]
            exact Xv X0
        · ((repeat' (first|refine Va X0 ?_|(refine V2 X0 ?_ ?_<;>try with_reducible intro hb)|(refine Xi ?_ ?_<;>try intro ht)|exact Xx|fail)))
          rw[dm GK]
          refine fk _ _ rfl ?_
          clear gm fk mq
          repeat (refine Xu ?_)
          generalize gj c.bh i o 0=w at *
          ((repeat' (first|refine Va X0 ?_|(refine V2 X0 ?_ ?_<;>try with_reducible intro hb)|(refine Xi ?_ ?_<;>try intro ht)|exact Xx|fail)))
          all_goals
            refine bj _ (o+1) GK GK ?_
            simp only[gR]
            first
              | (rw[if_pos GK];have e1:max w 0=w:=GK
                 have e2:decide (0<=w)=true:=decide_eq_true GK
                 simp only[e1,e2];exact Xv X0)
              | (rw[if_neg GK];exact Xv X0)
    · rw[dm GK] at hb
      have jV:mP c.bh i row=max (dX c.bh i 0 row (-1)) 0:=rfl
      ((repeat' (first|refine Va (X3 @cM @aW.eq_1 (dm (show row.length<=o by omega))) ?_|(refine Xi ?_ ?_<;>try intro ht)|exact Xx|fail)))
      refine br _ _ rfl ?_
      clear bj br cJ
      repeat (refine Xu ?_)
      refine Va X0 ?_
      exact ak _ (i+1) GK GK (by simp only[xC,jV];exact Xv X0)
  · ((repeat' (first|refine Va (dm (show left.length<=i by omega)) ?_|(refine Xi ?_ ?_<;>try intro ht)|exact Xx|fail)))
    refine aq _ _ rfl ?_;clear ak aq Ql
    repeat (refine Xu ?_)
    rw[dm GK] at zn
    repeat' (first|(refine Xr X0 ?_;intro K hK)|(refine hK _ ?_;clear hK K)|refine Xz ?_|(refine Xe ?_;first|refine aO rfl ?_|refine Xl ?_ ?_)|refine Xd ?_ ?_|exact Xx|fail)
def ND(x:Int):Holds Tryz.prog 111 [Qf x] [] (.agg (ba (eP x))) []:=by
 refine Holds.aM 7 0 [.cell 2 182] Tryz.func111 ?_;refine Vb X0 ?_;simp(disch:=omega)only[Ac,↓Pc,simprocAttr,ba,eP,dE];exact aO rfl rfl
def aj'(l:List cz)(R:Int)(hl:l.length<=24)(l7:∀ o∈l,eK R none o.ch=true)(hlen:∀ o∈l,o.ch.length<=100):Holds Tryz.prog 46 [.tree 6 (rowsOf cp l)] [] (.tree 1 (ints (b9 l))) []:=by
 refine Holds.aM 39 0 [.tmp 2] Tryz.func46 ?_;refine Vb X0 ?_;refine aR (λz:Nat×List Int=>(⟨ao [(0,.tree 6 (rowsOf cp l)),(3,.ref 0 1 0 z.2.length),(4,Qf z.1)],[.arr 1 (ints z.2)]⟩:St)) (λz=>z.1<=l.length/\z.2=(b9 l).take z.1) (λz=>l.length-z.1) (0,[]) ⟨aS _,rfl⟩ ?_ ?_
 ·refine aH.trans (aH.nil 3 1 (by simp only[Kc,simprocAttr]) GS) ?_;exact Xv X0
 rintro⟨i,xs⟩⟨hi,dz⟩Ql ak aq;dsimp only at hi dz ⊢;have nt:(b9 l).length=l.length:=by unfold b9;simp
 by_cases ar:i<l.length
 ·have ez:=eu (l:=b9 l) (k:=i) GK;have pU:(b9 l).getD i default=rK (l.getD i default):=by
   unfold b9;rw[az,bI,az,bF ar];rfl
  have gf:=aF (l:=l) (d:=default) ar;have hc:=Ir (l7 _ gf);have hle:=hlen _ gf;have aX:xs.length=i:=by rw[dz,eY];omega
  rw[pU,<- dz]at ez;generalize uM:l.getD i default=o at *;((repeat'(first|refine Va @uM ?_|(refine Xi ?_ ?_<;>try intro ht)|exact Xx|fail)))
  refine aR (λk:Nat=>(⟨ao [(0,.tree 6 (rowsOf cp l)),(3,.ref 0 1 0 xs.length),(4,Qf i),(5,Qf (((o.ch.take k).map (·.2)).foldl eB 0)),(6,Qf k)],[.arr 1 (ints xs)]⟩:St)) (λk=>k<=o.ch.length) (λk=>o.ch.length-k) 0 (aS _) (Xv (X3 @mD.{0} @nQ.{0,0} @AA.{0,0})) ?_;rintro k hk cJ bj br;have hs:=E4 ((o.ch.take k).map (·.2)) 0 (λx hx=>by
   obtain⟨c,fY,rfl⟩:=List.mem_map.1 hx;exact hc c (ss fY)) (by unfold bT;decide)
  by_cases bg:k<o.ch.length
  ·have bc:=hc _ (aF (d:=default) bg);have dV:=UM o.ch k bg;generalize ((o.ch.take k).map (·.2)).foldl eB 0=s at *;have xA:=aiO s (o.ch.getD k default).2 hs bc;generalize bZ:o.ch.getD k default=x at *;((repeat'(first|refine Vc (X4 @uM @bZ @cp.eq_1 @bd.eq_1) xA ?_|(refine Xi ?_ ?_<;>try intro ht)|exact Xx|fail)))
   exact bj _ (k+1) GK GK (by simp only[dV];exact Xv X0)
  ·have lv:((o.ch.take k).map (·.2)).foldl eB 0=rK o:=by rw[dm GK];rfl
   rw[lv]at hs;generalize ((o.ch.take k).map (·.2)).foldl eB 0=s at *;((repeat'(first|refine Va (X2 @uM @cp.eq_1) ?_|(refine Xi ?_ ?_<;>try intro ht)|exact Xx|fail)))
   refine br _ _ rfl ?_;clear bj br cJ;repeat(refine Xu ?_)
   refine Va X0 ?_;refine ak _ (i+1,xs++[s]) ⟨PW,by rw[ez,<- lv]⟩ PW ?_;exact Xs false [2] X0
 ·rw[dm GK]at dz;subst dz;((repeat'(first|refine Va X0 ?_|(refine Xi ?_ ?_<;>try intro ht)|exact Xx|fail)))
  refine aq _ _ rfl ?_;clear ak aq Ql;repeat(refine Xu ?_)
  refine Vb X0 ?_;exact Xw true [] X0
def aa9(l:List Int)(hl:l.length<=1000):Holds Tryz.prog 45 [.tree 1 (ints l)] [] (.ref 0 2 0 (dJ l).length) [.arr 2 (rowsOf jx (dJ l))]:=by
 refine Holds.aM 25 0 [.tmp 2] Tryz.func45 ?_;refine Vb X0 ?_;refine aR (λz:Nat×List Nm=>(⟨ao [(0,.tree 1 (ints l)),(3,.ref 0 2 0 z.2.length),(4,Qf z.1)],[.arr 2 (rowsOf jx z.2)]⟩:St)) (λz=>z.1<=l.length/\z.2=(dJ l).take z.1) (λz=>l.length-z.1) (0,[]) ⟨aS _,rfl⟩ ?_ ?_
 ·refine aH.trans (aH.nil 3 2 (by simp only[Kc,simprocAttr]) GS) ?_;exact Xv X0
 rintro⟨i,xs⟩⟨hi,dz⟩Ql ak aq;dsimp only at hi dz ⊢;have nt:(dJ l).length=l.length:=by unfold dJ;simp
 by_cases ar:i<l.length
 ·have ez:=eu (l:=dJ l) (k:=i) GK;have pU:(dJ l).getD i default=eP (l.getD i 0):=by
   unfold dJ;rw[az,bI,az,bF ar];rfl
  have aX:xs.length=i:=by rw[dz,eY];omega
  rw[pU,<- dz]at ez;generalize uM:l.getD i 0=o at *;((repeat'(first|refine Va @uM ?_|(refine Xi ?_ ?_<;>try intro ht)|exact Xx|fail)))
  refine ak _ (i+1,xs++[eP o]) ⟨PW,ez.symm⟩ PW ?_;have eno:[[AV.lit (.bool (decide (o >= 1099511627776))),AV.lit (.int .i64 o)]]=rowsOf jx [eP o]:=rfl;exact Xs false [2] (X2 @eno @LQ)
 ·rw[dm GK]at dz;subst dz;((repeat'(first|refine Va X0 ?_|(refine Xi ?_ ?_<;>try intro ht)|exact Xx|fail)))
  refine aq _ _ rfl ?_;clear ak aq Ql;repeat(refine Xu ?_)
  refine Vb X0 ?_;exact Xw false [0] X0
def aa'(l:List Nm)(s:List Bool)(hl:l.length=s.length)(ij:l.length<9223372036854775808):Holds Tryz.prog 47 [.tree 2 (rowsOf jx l),.tree 1 (a8 s)] [] (.bD [Qf (dC l s (0,false)).1,.lit (.bool (dC l s (0,false)).2)]) []:=by
 refine Holds.aM 47 0 [.tmp 4,.tmp 5] Tryz.func47 ?_;refine Vb X0 ?_;refine aR (λi:Nat=>(⟨ao [(0,.tree 2 (rowsOf jx l)),(1,.tree 1 (a8 s)),(6,Qf (dC (l.take i) (s.take i) (0,false)).1),(7,.lit (.bool (dC (l.take i) (s.take i) (0,false)).2)),(8,Qf i)],[]⟩:St)) (λi=>i<=l.length) (λi=>l.length-i) 0 (aS _) (Xv (X2 @mD.{0} (X2 @dC.eq_1 @dC.eq_2))) ?_;rintro i hi Ql ak aq;by_cases ar:i<l.length
 ·have h1:=eu ar;have h2:=eu (l:=s) (k:=i) GK;have h3:=UQ (l.getD i default) (s.getD i default) (l.take i) (s.take i) (0,false) (by rw[eY,eY];omega);rw[<- h1,<- h2]at h3;have uE:s.getD i default=s.getD i false:=rfl;rw[uE]at h3;generalize dC (l.take i) (s.take i) (0,false)=b at *;generalize cg:l.getD i default=p at *;generalize xC:s.getD i false=is at *;unfold UP at h3;obtain⟨b1,b2⟩:=b;obtain⟨p1,p2⟩:=p;dsimp only at h3 ⊢;by_cases aX:p1<b1;all_goals
   cases is<;>cases p2<;>cases b2
  all_goals
   simp[aX]at h3;((repeat'(first|refine Va (X3 @cg @xC @jx.eq_1) ?_|(refine Xi ?_ ?_<;>try intro ht)|exact Xx|fail)))
   all_goals
    refine ak _ (i+1) GK GK ?_;simp only[h3];exact Xv X0
 ·((repeat'(first|refine Va X0 ?_|(refine V2 X0 ?_ ?_<;>try with_reducible intro hb)|(refine Xi ?_ ?_<;>try intro ht)|exact Xx|fail)))
  refine aq _ _ rfl ?_;clear ak aq Ql;repeat(refine Xu ?_)
  rw[dm GK,dm GK];refine Vb X0 ?_;exact aO rfl rfl
def aaV(l:List Nm)(ij:l.length<9223372036854775808):Holds Tryz.prog 114 [.tree 2 (rowsOf ba l)] [] (.agg (ba (uB l))) []:=by
 refine Holds.aM 30 0 [.cell 2 182] Tryz.func114 ?_;refine Vb X0 ?_;refine aR (λi:Nat=>(⟨ao [(2,.ptr 0 0 0),(3,.ptr 1 0 0),(7,.tree 2 (rowsOf ba l)),(8,Qf l.length),(9,Qf i)],[.var [Qf 0,.lit (.bool false)],.var (ba (uB (l.take i)))]⟩:St)) (λi=>i<=l.length) (λi=>l.length-i) 0 (aS _) (Xv @mD.{0}) ?_;rintro i hi Ql ak aq;by_cases ar:i<l.length
 ·have h1:=eu ar;have h3:=ahB (l.take i) (l.getD i default);rw[<- h1]at h3;generalize uB (l.take i)=b at *;generalize cg:l.getD i default=p at *;unfold Dd at h3;obtain⟨b1,b2⟩:=b;obtain⟨p1,p2⟩:=p;dsimp only at h3 ⊢;unfold ba;dsimp only;by_cases aX:p1<b1;all_goals
   cases p2<;>cases b2
  all_goals
   simp[aX]at h3;((repeat'(first|refine Va (X2 @cg @ba.eq_1) ?_|(refine Xi ?_ ?_<;>try intro ht)|exact Xx|fail)))
   all_goals
    refine ak _ (i+1) GK GK ?_;simp only[h3];exact Xs false [0,1] @ba.eq_1
 ·((repeat'(first|refine Va @ba.eq_1 ?_|(refine V2 @ba.eq_1 ?_ ?_<;>try with_reducible intro hb)|(refine Xi ?_ ?_<;>try intro ht)|exact Xx|fail)))
  refine aq _ _ rfl ?_;clear ak aq Ql;repeat(refine Xu ?_)
  rw[dm GK];refine Vb @ba.eq_1 ?_;simp(disch:=omega)only[Ac,↓Pc,simprocAttr,ba,dE];exact aO rfl rfl
def akb(m:ah)(x:Mv)(hm:VM m):Holds Tryz.prog 44 [.agg (an m),.agg (aU x)] [] (.lit (.bool (iT m x))) []:=by
 have vG:=hm.ae;have ho:=Nv m (eV m x) x.opt;generalize au:iT m x=res;unfold iT at au;unfold eV at au ho;refine Holds.aM 58 0 [.tmp 4] Tryz.func44 ?_;by_cases hr:0<=x.pair/\x.pair<m.ae.length/\0<=x.side/\x.side<=1/\-268435456<=x.amt/\x.amt<=268435456
 ·rw[decide_eq_true hr,gK]at au;generalize cg:m.ae.getD x.pair.toNat default=p at *;by_cases hs:x.side=0
  ·rw[if_pos hs]at au ho;rw[au]at ho;((repeat'(first|refine Vd (X3 @cg @aU.eq_1 @aI.eq_1) ho ?_|(refine V2 (X3 @cg @aU.eq_1 @aI.eq_1) ?_ ?_<;>try with_reducible intro hb)|(refine Xi ?_ ?_<;>try intro ht)|exact Xx|fail)))
   all_goals exact aO rfl rfl
  ·rw[if_neg hs]at au ho;rw[au]at ho;((repeat'(first|refine Vd (X3 @cg @aU.eq_1 @aI.eq_1) ho ?_|(refine V2 (X3 @cg @aU.eq_1 @aI.eq_1) ?_ ?_<;>try with_reducible intro hb)|(refine Xi ?_ ?_<;>try intro ht)|exact Xx|fail)))
   all_goals exact aO rfl rfl
 ·rw[decide_eq_false hr,qU]at au;((repeat'(first|refine Vb (X2 @aU.eq_1 @aI.eq_1) ?_|(refine V2 (X2 @aU.eq_1 @aI.eq_1) ?_ ?_<;>try with_reducible intro hb)|(refine Xi ?_ ?_<;>try intro ht)|exact Xx|fail)))
  all_goals exact aO rfl (by rw[au])
def aaR{m:ah}(hm:VM m){c:List cz}(hc:c∈m.cls){o:cz}(ho:o∈c):o.ch.length<=100:=by
 have h:=hm.sW c hc o ho;have hr:=hm.vL;cases l7:o.ch with
 |nil=>simp
 |cons x r =>
  rw[l7,eK]at h;simp only[bb,decide_eq_true_eq,j8]at h;rcases MR h.2 with rfl|h2
  ·simp
  ·simp only[List.length_cons];omega
def Ds{m:ah}{p:Pr}(hp:hJ m p=true)(hm:VM m):p.ay.length<=576:=by
 unfold hJ at hp;simp only[bb,decide_eq_true_eq]at hp;obtain⟨⟨_,h1,h2,h3,h4⟩,_⟩:=hp;have a:=hm.opt _ (aF (l:=m.cls) (i:=p.fst.toNat) (d:=default) GK);have b:=hm.opt _ (aF (l:=m.cls) (i:=p.snd.toNat) (d:=default) GK);have:=wC a b;have e:(p.ay.length:Int)=((m.cls.getD p.fst.toNat default).length*(m.cls.getD p.snd.toNat default).length:Nat):=by rw[h4];simp
 omega
def FA{m:ah}{p:Pr}(hp:hJ m p=true):0<=p.fst/\p.fst<p.snd/\p.snd<m.cls.length/\(p.ay.length:Int)=(m.cls.getD p.fst.toNat default).length*(m.cls.getD p.snd.toNat default).length:=by
 unfold hJ at hp;simp only[bb,decide_eq_true_eq]at hp;exact hp.1.2
def I7{a k c n:Int}(ha:0<=a/\a<n)(hk:0<=k/\k<c)(hc:c<=24)(hn:n<=24):0<=a*c/\a*c<=576/\0<=a*c+k/\a*c+k<n*c:=by
 have h1:0<=a*c:=Int.mul_nonneg ha.1 GK;have h2:(a+1)*c<=n*c:=Int.mul_le_mul_of_nonneg_right GK GK;rw[Int.add_mul]at h2;have h3:n*c<=24*24:=Int.mul_le_mul hn hc GK GK;omega
def Tf(m:ah)(left:List (List Bool))(l:List Mv)(hm:MB m)(hb:BB left)(hl:l.length<9223372036854775808):Holds Tryz.prog 18 [.agg (an m),.tree 1 (rowsOf aC left),.tree 4 (rowsOf aU l)] [] (.bD [Qf (b8 m left l).1,Qf (b8 m left l).2]) []:=by
 have h1:=Ez m hm;have h2:=aj8 m left hm hb;generalize au:b8 m left l=res;unfold b8 lg at au;refine Holds.aM 342 0 [.tmp 6,.tmp 7] Tryz.func18 ?_;by_cases hv:iR m=0;rotate_left
 ·rw[if_pos (c:=iR m≠0) hv,if_pos hv]at au;generalize iR m=e at *;subst au;((repeat'(first|refine Vd X0 (X2 h1 h2) ?_|(refine Xi ?_ ?_<;>try intro ht)|exact Xx|fail)))
  all_goals exact aO rfl rfl
 rw[if_neg (c:=iR m≠0) (by rw[hv];simp)]at au;rw[hv]at h1;by_cases hf:dh m left;rotate_left
 ·rw[if_neg hf,if_pos GM]at au;rw[decide_eq_false hf]at h2;subst au;((repeat'(first|refine Vd (X2 @bne_self_eq_false.{0} @kB) (X2 h1 h2) ?_|(refine Xi ?_ ?_<;>try intro ht)|exact Xx|fail)))
  all_goals exact aO rfl rfl
 rw[if_pos hf,if_neg GM]at au;rw[decide_eq_true hf]at h2;have cP:=nu.1 hv;have oT:=cP.cls;have pT:=cP.ae;have Ht:=cP.aD;unfold gH at au;by_cases hlen:2000<l.length
 ·rw[if_pos hlen]at au;subst au;((repeat'(first|refine Vd (X2 @bne_self_eq_false.{0} @iN) (X2 h1 h2) ?_|(refine Xi ?_ ?_<;>try intro ht)|exact Xx|fail)))
  all_goals exact aO rfl rfl
 rw[if_neg hlen]at au;((repeat'(first|refine Vd (X2 @bne_self_eq_false.{0} @iN) (X2 h1 h2) ?_|(refine Xi ?_ ?_<;>try intro ht)|exact Xx|fail)))
 refine aR (λi:Nat=>(⟨ao [(1,.tree 1 (rowsOf aC left)),(2,.tree 4 (rowsOf aU l)),(3,.ptr 0 0 0),(9,Qf i)],[.var (an m)]⟩:St)) (λi=>i<=l.length/\∀ x∈l.take i,iT m x=true) (λi=>l.length-i) 0 ⟨aS _,GM⟩ (Xv X0) ?_;rintro i⟨hi,dY⟩Ql ak aq;by_cases ar:i<l.length
 ·have rH:=akb m (l.getD i default) cP;have ez:=eu ar;have bR:=aF (d:=default) ar;generalize bZ:l.getD i default=x at *;by_cases hx:iT m x=true
  ·rw[hx]at rH;((repeat'(first|refine Vc (X3 @bZ @aU.eq_1 @iN) rH ?_|(refine Xi ?_ ?_<;>try intro ht)|exact Xx|fail)))
   exact ak _ (i+1) ⟨GK,λy hy=>by
    rw[ez]at hy;rcases cG.1 hy with hy|hy
    ·exact dY y hy
    ·simp only[cV]at hy;subst hy;exact hx⟩ GK (Xv X0)
  ·have b6:iT m x=false:=by simpa using hx
   rw[b6]at rH;rw[if_pos (by rw[List.all_eq_false];exact⟨x,bR,hx⟩)]at au;subst au;((repeat'(first|refine Vc (X3 @bZ @aU.eq_1 @kB) rH ?_|(refine Xi ?_ ?_<;>try intro ht)|exact Xx|fail)))
   repeat(refine Xu ?_)
   refine Vb X0 ?_;exact aO rfl rfl
 rw[dm GK]at dY;rw[if_neg (by rw[Bool.not_eq_false];exact List.all_eq_true.2 dY)]at au;((repeat'(first|refine Va X0 ?_|(refine Xi ?_ ?_<;>try intro ht)|exact Xx|fail)))
 refine aq _ _ rfl ?_;clear ak aq Ql;repeat(refine Xu ?_)
 refine Va X0 ?_;have ho0:([.var (an m)]:List Ob)[0]?=some (.var (an m)):=rfl;refine aR (λz:Nat×List Ob×Nat×List (Nat×Nat)=>(⟨ao [(1,.tree 1 (rowsOf aC left)),(2,.tree 4 (rowsOf aU l)),(3,.ptr 0 0 0),(10,.ref z.2.2.1 1 0 z.2.2.2.length),(11,.lit (.slice none 0 0)),(12,Qf z.1)],z.2.1⟩:St))
  (λz=>z.1<=m.cls.length/\z.2.2.2.length=z.1/\z.2.1[0]?=some (.var (an m))/\z.2.1[z.2.2.1]?=some (.arr 1 (rowsOf cE z.2.2.2))/\RI jx z.2.1 z.2.2.2 ((S0 m).take z.1)/\(z.2.2.2.map (·.1)).Nodup)
  (λz=>m.cls.length-z.1) (0,[.var (an m),.arr 1 []],1,[]) ⟨aS _,rfl,rfl,rfl,by rw[mD];exact RI.nil,GM⟩ ?_ ?_
 ·refine aH.trans (aH.nil 10 1 (by simp only[Kc,simprocAttr]) GS) ?_;exact Xv X0
 clear hi ar ho0;rintro⟨i,os,ai,D⟩⟨hi,hD,f0,fa,hR,bV⟩Ql ak aq;dsimp only at hi hD f0 fa hR bV ⊢;have e0:=aN f0;have ea:=aN fa;have sa:=iy fa;by_cases ar:i<m.cls.length
 ·have kj:=aF (d:=default) ar;have sU:=cP.opt _ kj;have BI:=aj' (m.cls.getD i default) m.rules sU (cP.sW _ kj) (λo ho=>aaR cP kj ho);have N6:=aa9 (b9 (m.cls.getD i default)) (by unfold b9;rw[fK];omega);generalize bc:m.cls.getD i default=c at *;((repeat'(first|refine Vc (X5 @f0 @fa @e0 @ea (X3 @bc @aW.eq_1 @bH)) BI ?_|(refine Xi ?_ ?_<;>try intro ht)|exact Xx|fail))<;>try with_reducible intro K hK)
  refine jF [] N6 GM trivial ⟨.pure rfl,trivial⟩ ?_;have N7:(0:Nat)≠ai:=λe=>by rw[<- e,f0]at fa;cases fa
  obtain⟨g1,g2,g3,g4⟩:=RI.step fa GM hR bV (dJ (b9 c)) (.arr 1 [[.ref os.length 2 0 (dJ (b9 c)).length]]) (.arr 1 (rowsOf cE (D++[(os.length,(dJ (b9 c)).length)])));have ez:(S0 m).take (i+1)=(S0 m).take i++[dJ (b9 c)]:=by
   rw[eu (by unfold S0;rw[fK];exact ar)];unfold S0;rw[iS _ _ _ ar,bc]
  ((try revert hK K);((refine Va (X5 @f0 @fa @e0 @ea (X5 @sa @bc @aW.eq_1 @bH (X5 @bE.{0} @jz @jq @It (X2 @bO.{0} @bJ.{0})))) ?_)))
  refine ak _ (i+1,_,os.length+2,D++[(os.length,(dJ (b9 c)).length)]) ⟨PW,P2,g4 _ _ f0 N7,g1,by rw[ez];exact g2,g3⟩ PW ?_;exact Xv X0
 rw[dm (by unfold S0;rw[fK];omega)]at hR;have yE:D.length=m.cls.length:=GK;((repeat'(first|refine Va (X4 @f0 @fa @e0 @ea) ?_|(refine Xi ?_ ?_<;>try intro ht)|exact Xx|fail)))
 refine aq _ _ rfl ?_;clear ak aq Ql;repeat(refine Xu ?_)
 refine Va (X2 @f0 @fa) ?_;clear hi ar hD e0 ea sa;have fb0:(os++[Ob.arr 1 []])[os.length]?=some (.arr 1 (rowsOf cE [])):=by rw[kl];rfl
 refine aR (λz:Nat×List Ob×Nat×List (Nat×Nat)=>(⟨ao [(1,.tree 1 (rowsOf aC left)),(2,.tree 4 (rowsOf aU l)),(3,.ptr 0 0 0),(10,.ref ai 1 0 D.length),(11,.ref z.2.2.1 1 0 z.2.2.2.length),(13,Qf z.1)],z.2.1⟩:St))
  (λz=>z.1<=m.ae.length/\z.2.2.2.length=z.1/\z.2.1[0]?=some (.var (an m))/\z.2.1[ai]?=some (.arr 1 (rowsOf cE D))/\z.2.1[z.2.2.1]?=some (.arr 1 (rowsOf cE z.2.2.2))/\z.2.2.1≠ai/\RI jx z.2.1 D (S0 m)/\RI jx z.2.1 z.2.2.2 ((T0 m).take z.1)/\((D++z.2.2.2).map (·.1)).Nodup)
  (λz=>m.ae.length-z.1) (0,os++[.arr 1 []],os.length,[]) ⟨aS _,rfl,aN f0 _,aN fa _,fb0,λe=>by have h2:=(aV.1 fa).1;dsimp only at e;omega,hR.app _,by rw[mD];exact RI.nil,by simpa using bV⟩ ?_ ?_
 ·refine aH.trans (aH.nil 11 1 (by simp only[Kc,simprocAttr]) GS) ?_;exact Xv X0
 clear f0 fa hR bV fb0 os;rintro⟨i,os,bi,E⟩⟨hi,hE,f0,fa,fb,ju,FH,FI,bV⟩Ql ak aq;dsimp only at hi hE f0 fa fb ju FH FI bV ⊢;have e0:=aN f0;have eb:=aN fb;have sb:=iy fb;by_cases ar:i<m.ae.length
 ·have Jc:=j6 cP.pr _ (aF (d:=default) ar);have oz:=(Ds Jc cP);have N6:=aa9 (m.ae.getD i default).ay GK;have N7:(0:Nat)≠bi:=λe=>by rw[<- e,f0]at fb;cases fb
  rw[dS,p9]at bV;obtain⟨g1,g2,g3,g4⟩:=RI.step fb GM FI bV.2.1 (dJ (m.ae.getD i default).ay) (.arr 1 [[.ref os.length 2 0 (dJ (m.ae.getD i default).ay).length]]) (.arr 1 (rowsOf cE (E++[(os.length,(dJ (m.ae.getD i default).ay).length)])));have ez:(T0 m).take (i+1)=(T0 m).take i++[dJ (m.ae.getD i default).ay]:=by
   rw[eu (by unfold T0;rw[fK];exact ar)];unfold T0;rw[iS _ _ _ ar]
  have akd:=(FH.kill (y:=.gone) fb GM).app [.arr 2 (rowsOf jx (dJ (m.ae.getD i default).ay)),.arr 1 [[.ref os.length 2 0 (dJ (m.ae.getD i default).ay).length]],.arr 1 (rowsOf cE (E++[(os.length,(dJ (m.ae.getD i default).ay).length)]))];have Jd:((D++(E++[(os.length,(dJ (m.ae.getD i default).ay).length)])).map (·.1)).Nodup:=by
   rw[dS,p9];refine⟨bV.1,g3,λa ha b hb=>?_⟩;rw[dS,cG]at hb;rcases hb with hb|hb
   ·exact bV.2.2 a ha b hb
   ·simp only[List.map_cons,nQ,cV]at hb;subst hb;exact λe=>FH.fresh (Nat.le_refl _) (e▸ha)
  have fal:=(aV.1 fa).1;generalize cg:m.ae.getD i default=p at *;((repeat'(first|refine Va (X5 @f0 @fb @e0 @eb (X3 @cg @aI.eq_1 @bH)) ?_|(refine Xi ?_ ?_<;>try intro ht)|exact Xx|fail))<;>try with_reducible intro K hK)
  refine jF [] N6 GM trivial ⟨.pure rfl,trivial⟩ ?_;((try revert hK K);((refine Va (X5 @f0 @fb @e0 @eb (X5 @sb @cg @aI.eq_1 @bH (X5 @bE.{0} @jz @jq @It (X2 @bO.{0} @bJ.{0})))) ?_)))
  refine ak _ (i+1,_,os.length+2,E++[(os.length,(dJ p.ay).length)]) ⟨PW,P2,g4 _ _ f0 N7,g4 _ _ fa ju.symm,g1,PW,akd,by rw[ez];exact g2,Jd⟩ PW ?_;exact Xv X0
 rw[dm (by unfold T0;rw[fK];omega)]at FI;have Ab:E.length=m.ae.length:=GK;((repeat'(first|refine Va (X4 @f0 @fa @e0 @eb) ?_|(refine Xi ?_ ?_<;>try intro ht)|exact Xx|fail)))
 refine aq _ _ rfl ?_;clear ak aq Ql;repeat(refine Xu ?_)
 refine Va (X2 @f0 @fa) ?_;clear hi ar hE e0 eb sb;have iX:LO jx [(0,.var (an m)),(ai,.arr 1 (rowsOf cE D)),(bi,.arr 1 (rowsOf cE E))] D E (S0 m) (T0 m) os:=⟨λb hb=>by
  simp only[bw,iM,or_false]at hb;rcases hb with rfl|rfl|rfl
  ·exact⟨f0,GM⟩
  ·exact⟨fa,GM⟩
  ·exact⟨fb,GM⟩,FH,FI,bV⟩
 refine aR (λz:Nat×List Ob=>(⟨ao [(1,.tree 1 (rowsOf aC left)),(2,.tree 4 (rowsOf aU l)),(3,.ptr 0 0 0),(10,.ref ai 1 0 D.length),(11,.ref bi 1 0 E.length),(14,Qf z.1)],z.2⟩:St))
  (λz=>z.1<=l.length/\LO jx [(0,.var (an m)),(ai,.arr 1 (rowsOf cE D)),(bi,.arr 1 (rowsOf cE E))] D E (iV m (l.take z.1) (S0 m,T0 m)).1 (iV m (l.take z.1) (S0 m,T0 m)).2 z.2)
  (λz=>l.length-z.1) (0,os) ⟨aS _,iX⟩ (Xv X0) ?_
 clear f0 fa fb FH FI bV iX os;rintro⟨i,os⟩⟨hi,iX⟩Ql ak aq;dsimp only at hi iX ⊢;have f0:=(iX.base (0,.var (an m)) GM).1;have fa:=(iX.base (ai,.arr 1 (rowsOf cE D)) GM).1;have fb:=(iX.base (bi,.arr 1 (rowsOf cE E)) GM).1;have e0:=aN f0;have ea:=aN fa;have eb:=aN fb;dsimp only at f0 fa fb e0 ea eb;by_cases ar:i<l.length
 ·have hxm:=aF (d:=default) ar;have nq:=dY _ hxm;have ez:iV m (l.take (i+1)) (S0 m,T0 m)=j5 m (l.getD i default) (iV m (l.take i) (S0 m,T0 m)):=by rw[eu ar,T']
  have lk:=Ib cP (l.take i) (λx hx=>dY x (ss hx));rw[eY,xS GK]at lk;generalize iV m (l.take i) (S0 m,T0 m)=g at *;generalize bZ:l.getD i default=x at *;have N8:=nq;unfold iT at N8;rw[bb,decide_eq_true_eq]at N8;obtain⟨⟨x1,x2,x3,x4,x5,x6⟩,mQ⟩:=N8;obtain⟨o1,o2,o3,o4⟩:=jN.1 mQ;have dO:=j6 cP.pr _ (aF (l:=m.ae) (i:=x.pair.toNat) (d:=default) GK);obtain⟨NS,NT,NU,FC⟩:=FA dO;have hlF:=cP.opt _ (aF (l:=m.cls) (i:=(m.ae.getD x.pair.toNat default).fst.toNat) (d:=default) GK);have hlS:=cP.opt _ (aF (l:=m.cls) (i:=(m.ae.getD x.pair.toNat default).snd.toNat) (d:=default) GK);obtain⟨tq,FD⟩:=iX.rE.row x.pair.toNat GK;obtain⟨mu,z8⟩:=iX.rD.row (eV m x).toNat GK;have qe:=aN tq;have qd:=aN mu;have FE:=lk.sl (eV m x).toNat GK;have Dp:=lk.tl x.pair.toNat GK;have ao':(List.getD E x.pair.toNat default).1=(List.getD E x.pair.toNat default).1:=rfl;by_cases hs:x.side=0
  ·have hc:eV m x=(m.ae.getD x.pair.toNat default).fst:=by unfold eV;rw[if_pos hs]
   rw[hc]at mu z8 qd FE o1 o2 o4;have sd:=iy mu;have np:=(uz lk.sb (m.ae.getD x.pair.toNat default).fst.toNat).get GK x.opt.toNat;have hF:oU m x=(λk:Nat=>(x.opt*(m.cls.getD (m.ae.getD x.pair.toNat default).snd.toNat default).length+k).toNat,(m.cls.getD (m.ae.getD x.pair.toNat default).snd.toNat default).length):=by unfold oU;rw[if_pos hs]
   have yn:j5 m x g=(g.1.set (m.ae.getD x.pair.toNat default).fst.toNat (jQ (g.1.getD (m.ae.getD x.pair.toNat default).fst.toNat default) x.opt.toNat x.amt),g.2.set x.pair.toNat (gQ (oU m x).1 x.amt (oU m x).2 (g.2.getD x.pair.toNat default))):=by unfold j5;rw[hc]
   have Dt:=(iX.Bo (j:=(m.ae.getD x.pair.toNat default).fst.toNat) GK (r:=jQ (g.1.getD (m.ae.getD x.pair.toNat default).fst.toNat default) x.opt.toNat x.amt) (yr _ _ _)).vars (bJ ..) (.var (aU x)) (.var (aI (m.ae.getD x.pair.toNat default))) GM GM;generalize cg:m.ae.getD x.pair.toNat default=p at *;generalize FF:(m.cls.getD p.snd.toNat default).length=dw at *;((repeat'(first|refine Va (X5 @f0 @fa @fb @e0 (X5 @ea @eb @bZ @cg (X5 @FF @aU.eq_1 @aI.eq_1 @aW.eq_1 (X5 @cE.eq_1 @jx.eq_1 @tq @mu (X5 @qe @qd @sd @bH (X5 @Iv @bE.{0} @jz @jq @bO.{0})))))) ?_|(refine Xi ?_ ?_<;>try intro ht)|exact Xx|fail)))
   rw[hF]at yn;dsimp only at yn;refine aR (λz:Nat×List Ob=>(⟨ao [(1,.tree 1 (rowsOf aC left)),(2,.tree 4 (rowsOf aU l)),(3,.ptr 0 0 0),(10,.ref ai 1 0 D.length),(11,.ref bi 1 0 E.length),(14,Qf i),(15,.ptr os.length 0 0),(18,Qf dw),(19,.ref (E.getD x.pair.toNat default).1 2 0 (E.getD x.pair.toNat default).2),(20,Qf z.1)],z.2⟩:St))
    (λz=>z.1<=dw/\LO jx ((os.length,.var (aU x))::(os.length+1,.var (aI p))::[(0,.var (an m)),(ai,.arr 1 (rowsOf cE D)),(bi,.arr 1 (rowsOf cE E))]) D E (g.1.set p.fst.toNat (jQ (g.1.getD p.fst.toNat default) x.opt.toNat x.amt)) (g.2.set x.pair.toNat (gQ (λk:Nat=>(x.opt*dw+k).toNat) x.amt z.1 (g.2.getD x.pair.toNat default))) z.2)
    (λz=>dw-z.1) (0,_) ⟨aS _,by rw[gQ,zC];exact Dt⟩ (Xv X0) ?_
   rintro⟨k,ok⟩⟨hk,kr⟩cJ bj br;dsimp only at hk kr ⊢;have fx:=(kr.base (os.length,.var (aU x)) GM).1;dsimp only at fx;obtain⟨tu,BG⟩:=kr.rE.row x.pair.toNat GK;have xB:x.pair.toNat<g.2.length:=by rw[lk.t];omega
   rw[uq _ _ _ xB]at tu BG;have lX:=Bj (λk:Nat=>(x.opt*dw+k).toNat) x.amt k (g.2.getD x.pair.toNat default);have NY:=((uz lk.tb x.pair.toNat).sub GK (λk:Nat=>(x.opt*dw+k).toNat) (a:=x.amt) GK k).get GK (x.opt*dw+k:Int).toNat;by_cases bg:k<dw
   ·have mU:=kr.zR (j:=x.pair.toNat) GK (r:=jQ (gQ (λk:Nat=>(x.opt*dw+k).toNat) x.amt k (g.2.getD x.pair.toNat default)) (x.opt*dw+k:Int).toNat (-x.amt)) (by rw[uq _ _ _ xB];exact yr _ _ _);rw[wD]at mU;obtain⟨NZ,N0,N1,N2⟩:=I7 (a:=x.opt) (k:=(k:Int)) (c:=(dw:Int)) (n:=((m.cls.getD p.fst.toNat default).length:Int)) ⟨o3,o4⟩ GK GK GK;generalize vZ:(x.opt*dw+k:Int)=ix at *;generalize gR:gQ (λk:Nat=>(x.opt*dw+k).toNat) x.amt k (g.2.getD x.pair.toNat default)=tk at *;((repeat'(first|refine Va (X5 @fx @bZ @tu @aU.eq_1 (X4 @jx.eq_1 @Iv @vZ @Int.sub_eq_add_neg)) ?_|(refine Xi ?_ ?_<;>try intro ht)|exact Xx|fail)))
    refine bj _ (k+1,_) ⟨PW,by rw[gQ,gR,vZ];exact mU⟩ PW ?_;exact Xv X0
   ·have tv:k=dw:=GK;rw[tv]at kr;((repeat'(first|refine Va X0 ?_|(refine Xi ?_ ?_<;>try intro ht)|exact Xx|fail)))
    refine br _ _ rfl ?_;clear bj br cJ;repeat(refine Xu ?_)
    refine Va X0 ?_;refine ak _ (i+1,_) ⟨PW,by rw[ez,yn];exact kr.sub GM⟩ PW ?_;exact Xv X0
  ·have hc:eV m x=(m.ae.getD x.pair.toNat default).snd:=by unfold eV;rw[if_neg hs]
   rw[hc]at mu z8 qd FE o1 o2 o4;have sd:=iy mu;have np:=(uz lk.sb (m.ae.getD x.pair.toNat default).snd.toNat).get GK x.opt.toNat;have hF:oU m x=(λk:Nat=>((k:Int)*(m.cls.getD (m.ae.getD x.pair.toNat default).snd.toNat default).length+x.opt).toNat,(m.cls.getD (m.ae.getD x.pair.toNat default).fst.toNat default).length):=by unfold oU;rw[if_neg hs]
   have yn:j5 m x g=(g.1.set (m.ae.getD x.pair.toNat default).snd.toNat (jQ (g.1.getD (m.ae.getD x.pair.toNat default).snd.toNat default) x.opt.toNat x.amt),g.2.set x.pair.toNat (gQ (oU m x).1 x.amt (oU m x).2 (g.2.getD x.pair.toNat default))):=by unfold j5;rw[hc]
   have Dt:=(iX.Bo (j:=(m.ae.getD x.pair.toNat default).snd.toNat) GK (r:=jQ (g.1.getD (m.ae.getD x.pair.toNat default).snd.toNat default) x.opt.toNat x.amt) (yr _ _ _)).vars (bJ ..) (.var (aU x)) (.var (aI (m.ae.getD x.pair.toNat default))) GM GM;generalize cg:m.ae.getD x.pair.toNat default=p at *;generalize FF:(m.cls.getD p.snd.toNat default).length=dw at *;generalize NW:(m.cls.getD p.fst.toNat default).length=rows at *;((repeat'(first|refine Va (X5 @f0 @fa @fb @e0 (X5 @ea @eb @bZ @cg (X5 @FF @NW @aU.eq_1 @aI.eq_1 (X5 @aW.eq_1 @cE.eq_1 @jx.eq_1 @tq (X5 @mu @qe @qd @sd (X5 @bH @Iv @bE.{0} @jz (X2 @jq @bO.{0}))))))) ?_|(refine Xi ?_ ?_<;>try intro ht)|exact Xx|fail)))
   rw[hF]at yn;dsimp only at yn;refine aR (λz:Nat×List Ob=>(⟨ao [(1,.tree 1 (rowsOf aC left)),(2,.tree 4 (rowsOf aU l)),(3,.ptr 0 0 0),(10,.ref ai 1 0 D.length),(11,.ref bi 1 0 E.length),(14,Qf i),(15,.ptr os.length 0 0),(17,Qf rows),(18,Qf dw),(19,.ref (E.getD x.pair.toNat default).1 2 0 (E.getD x.pair.toNat default).2),(21,Qf z.1)],z.2⟩:St))
    (λz=>z.1<=rows/\LO jx ((os.length,.var (aU x))::(os.length+1,.var (aI p))::[(0,.var (an m)),(ai,.arr 1 (rowsOf cE D)),(bi,.arr 1 (rowsOf cE E))]) D E (g.1.set p.snd.toNat (jQ (g.1.getD p.snd.toNat default) x.opt.toNat x.amt)) (g.2.set x.pair.toNat (gQ (λk:Nat=>((k:Int)*dw+x.opt).toNat) x.amt z.1 (g.2.getD x.pair.toNat default))) z.2)
    (λz=>rows-z.1) (0,_) ⟨aS _,by rw[gQ,zC];exact Dt⟩ (Xv X0) ?_
   rintro⟨k,ok⟩⟨hk,kr⟩cJ bj br;dsimp only at hk kr ⊢;have fx:=(kr.base (os.length,.var (aU x)) GM).1;dsimp only at fx;obtain⟨tu,BG⟩:=kr.rE.row x.pair.toNat GK;have xB:x.pair.toNat<g.2.length:=by rw[lk.t];omega
   rw[uq _ _ _ xB]at tu BG;have lX:=Bj (λk:Nat=>((k:Int)*dw+x.opt).toNat) x.amt k (g.2.getD x.pair.toNat default);have NY:=((uz lk.tb x.pair.toNat).sub GK (λk:Nat=>((k:Int)*dw+x.opt).toNat) (a:=x.amt) GK k).get GK ((k:Int)*dw+x.opt).toNat;by_cases bg:k<rows
   ·have mU:=kr.zR (j:=x.pair.toNat) GK (r:=jQ (gQ (λk:Nat=>((k:Int)*dw+x.opt).toNat) x.amt k (g.2.getD x.pair.toNat default)) ((k:Int)*dw+x.opt).toNat (-x.amt)) (by rw[uq _ _ _ xB];exact yr _ _ _);rw[wD]at mU;obtain⟨NZ,N0,N1,N2⟩:=I7 (a:=(k:Int)) (k:=x.opt) (c:=(dw:Int)) (n:=(rows:Int)) GK ⟨o3,o4⟩ GK GK;generalize vZ:((k:Int)*dw+x.opt)=ix at *;generalize gR:gQ (λk:Nat=>((k:Int)*dw+x.opt).toNat) x.amt k (g.2.getD x.pair.toNat default)=tk at *;((repeat'(first|refine Va (X5 @fx @bZ @tu @aU.eq_1 (X4 @jx.eq_1 @Iv @vZ @Int.sub_eq_add_neg)) ?_|(refine Xi ?_ ?_<;>try intro ht)|exact Xx|fail)))
    refine bj _ (k+1,_) ⟨PW,by rw[gQ,gR,vZ];exact mU⟩ PW ?_;exact Xv X0
   ·have tv:k=rows:=GK;rw[tv]at kr;((repeat'(first|refine Va X0 ?_|(refine Xi ?_ ?_<;>try intro ht)|exact Xx|fail)))
    refine br _ _ rfl ?_;clear bj br cJ;repeat(refine Xu ?_)
    refine Va X0 ?_;refine ak _ (i+1,_) ⟨PW,by rw[ez,yn];exact kr.sub GM⟩ PW ?_;exact Xv X0
 rw[dm GK]at iX;have lk:=Ib cP l dY;have apa:l.length<=2000:=GK;generalize iV m l (S0 m,T0 m)=g at *;have Du:(∀ r∈g.1,NB mf r)/\∀ r∈g.2,NB mf r:=⟨λr hr=>(lk.sb r hr).mono (by unfold mf;omega),λr hr=>(lk.tb r hr).mono (by unfold mf;omega)⟩;((repeat'(first|refine Va @f0 ?_|(refine Xi ?_ ?_<;>try intro ht)|exact Xx|fail)))
 refine aq _ _ rfl ?_;clear ak aq Ql;repeat(refine Xu ?_)
 refine Va @f0 ?_;have iP:=hf.1;refine aR (λi:Nat=>(⟨ao [(1,.tree 1 (rowsOf aC left)),(3,.ptr 0 0 0),(10,.ref ai 1 0 D.length),(11,.ref bi 1 0 E.length),(22,Qf (bQ (PC left g.1 i) (0,false)).1),(23,.lit (.bool (bQ (PC left g.1 i) (0,false)).2)),(24,Qf i)],os⟩:St))
  (λi=>i<=m.cls.length) (λi=>m.cls.length-i) 0 (aS _) (Xv (X5 @PC.eq_1 @bQ.eq_1 @P1 @nQ.{0,0} @AA.{0,0})) ?_
 rintro i hi Ql ak aq;by_cases ar:i<m.cls.length
 ·have jM:=zP _ (0,false) (MC (left:=left) (by unfold mf;decide) Du.1 i);rw[C5]at jM;have hlen:=hf.2 i GK;have cD:=lk.sl i ar;have FJ:=aa' (g.1.getD i default) (left.getD i default) GK (by have:=cP.opt _ (aF (d:=default) ar);omega);have mO:=EZ (g.1.getD i default) (left.getD i default) (0,false) (uz Du.1 i) (by unfold mf;decide);have dV:bQ (PC left g.1 (i+1)) (0,false)=((bQ (PC left g.1 i) (0,false)).1+(dC (g.1.getD i default) (left.getD i default) (0,false)).1,(bQ (PC left g.1 i) (0,false)).2||!(dC (g.1.getD i default) (left.getD i default) (0,false)).2):=by
   rw[show PC left g.1 (i+1)=PC left g.1 i++[dC (g.1.getD i default) (left.getD i default) (0,false)] from zM _ i,C4]
  obtain⟨mu,z8⟩:=iX.rD.row i GK;generalize bQ (PC left g.1 i) (0,false)=z at *;obtain⟨z1,z2⟩:=z;generalize dC (g.1.getD i default) (left.getD i default) (0,false)=q at *;obtain⟨q1,q2⟩:=q;unfold mf at jM mO;dsimp only at *;generalize ij:left.getD i default=ll at *;((repeat'(first|refine Va (X5 @f0 @fa @mu @cE.eq_1 (X2 @ij @aC.eq_1)) ?_|(refine Xi ?_ ?_<;>try intro ht)|exact Xx|fail))<;>try with_reducible intro K hK)
  cases z2<;>cases q2;all_goals
   refine xW [] FJ GM trivial ⟨aZ.fz mu (by rw[cH];exact z8.symm) GM,.pure rfl,trivial⟩ rfl GM ?_;((try revert hK K);(repeat'(first|refine Va (X4 @f0 @fa @iN @kB) ?_|fail)))
   refine ak _ (i+1) GK GK ?_;simp only[dV];exact Xv X0
 have IX:i=m.cls.length:=GK;rw[IX];have Je:=zP _ (0,false) (MC (left:=left) (by unfold mf;decide) Du.1 m.cls.length);rw[C5]at Je;unfold l8 at au;generalize bQ (PC left g.1 m.cls.length) (0,false)=zc at *;((repeat'(first|refine Va @f0 ?_|(refine Xi ?_ ?_<;>try intro ht)|exact Xx|fail)))
 refine aq _ _ rfl ?_;clear ak aq Ql;repeat(refine Xu ?_)
 refine Va @f0 ?_;clear hi ar;have abb:LO jx [(0,.var (an m)),(bi,.arr 1 (rowsOf cE E))] D E g.1 g.2 os:=iX.sub GM;refine aR (λz:Nat×List Ob=>(⟨ao [(1,.tree 1 (rowsOf aC left)),(3,.ptr 0 0 0),(11,.ref bi 1 0 E.length),(22,Qf (bQ (PP m left g.2 z.1) zc).1),(23,.lit (.bool (bQ (PP m left g.2 z.1) zc).2)),(27,Qf z.1)],z.2⟩:St))
  (λz=>z.1<=m.ae.length/\LO jx [(0,.var (an m)),(bi,.arr 1 (rowsOf cE E))] D E g.1 g.2 z.2) (λz=>m.ae.length-z.1) (0,os) ⟨aS _,abb⟩ (Xv (X5 @PP.eq_1 @bQ.eq_1 @P1 @nQ.{0,0} @AA.{0,0})) ?_
 clear iX abb f0 fa fb e0 ea eb os;rintro⟨i,os⟩⟨hi,iX⟩Ql ak aq;dsimp only at hi iX ⊢;have f0:=(iX.base (0,.var (an m)) GM).1;have fb:=(iX.base (bi,.arr 1 (rowsOf cE E)) GM).1;dsimp only at f0 fb;have e0:=aN f0;have eb:=aN fb;by_cases ar:i<m.ae.length
 ·have dO:=j6 cP.pr _ (aF (d:=default) ar);obtain⟨NS,NT,NU,FC⟩:=FA dO;have jM:=zP _ zc (MD (m:=m) (left:=left) (by unfold mf;decide) Du.2 i);rw[E0]at jM;have dV:bQ (PP m left g.2 (i+1)) zc=((bQ (PP m left g.2 i) zc).1+(dC (g.2.getD i default) (iI m left i) (0,false)).1,(bQ (PP m left g.2 i) zc).2||!(dC (g.2.getD i default) (iI m left i) (0,false)).2):=by
   rw[show PP m left g.2 (i+1)=PP m left g.2 i++[dC (g.2.getD i default) (iI m left i) (0,false)] from zM _ i,C4]
  have mO:=EZ (g.2.getD i default) (iI m left i) (0,false) (uz Du.2 i) (by unfold mf;decide);have I9:=hf.2 (m.ae.getD i default).fst.toNat GK;have z':=hf.2 (m.ae.getD i default).snd.toNat GK;have hoa:=cP.opt _ (aF (l:=m.cls) (i:=(m.ae.getD i default).fst.toNat) (d:=default) GK);have bP:=cP.opt _ (aF (l:=m.cls) (i:=(m.ae.getD i default).snd.toNat) (d:=default) GK);have cD:=lk.tl i ar;have yH:(g.2.getD i default).length=(iI m left i).length:=by
   unfold iI;rw[EY,I9,z',cD];have:=FC;rw[<- Int.natCast_mul]at this;exact Int.ofNat_inj.1 this
  have oz:=Ds dO cP;have FJ:=aa' (g.2.getD i default) (iI m left i) yH GK;have N4:iI m left i=rJ (left.getD (m.ae.getD i default).fst.toNat default) (left.getD (m.ae.getD i default).snd.toNat default):=rfl;generalize dC (g.2.getD i default) (iI m left i) (0,false)=q at *;generalize bQ (PP m left g.2 i) zc=z at *;generalize iI m left i=pb at *;generalize cg:m.ae.getD i default=p at *;generalize FG:left.getD p.fst.toNat default=la at *;generalize xD:left.getD p.snd.toNat default=lb at *;obtain⟨z1,z2⟩:=z;obtain⟨q1,q2⟩:=q;unfold mf at jM mO Je;dsimp only at dV jM mO FJ ⊢;((repeat'(first|refine Va (X4 @f0 @fb @cg @bH) ?_|(refine Xi ?_ ?_<;>try intro ht)|exact Xx|fail)))
  have hLv:LO jx ((os.length,.var (aI p))::[(0,.var (an m)),(bi,.arr 1 (rowsOf cE E))]) D E g.1 g.2 ((os++[.var (aI p)])++[.arr 1 []]):=((iX.app _).app _).add (aN (kl _ _ _) _) GM;refine aR (λy:Nat×List Ob×Nat×List Bool=>(⟨ao [(1,.tree 1 (rowsOf aC left)),(3,.ptr 0 0 0),(11,.ref bi 1 0 E.length),(22,Qf z1),(23,.lit (.bool z2)),(27,Qf i),(28,.ptr os.length 0 0),(29,.ref y.2.2.1 1 0 y.2.2.2.length),(30,Qf y.1)],y.2.1⟩:St))
   (λy=>y.1<=la.length/\LO jx ((os.length,.var (aI p))::[(0,.var (an m)),(bi,.arr 1 (rowsOf cE E))]) D E g.1 g.2 y.2.1/\y.2.1[y.2.2.1]?=some (.arr 1 (a8 y.2.2.2))/\os.length<y.2.2.1/\y.2.2.2=rJ (la.take y.1) lb)
   (λy=>la.length-y.1) (0,(os++[.var (aI p)])++[.arr 1 []],(os++[Ob.var (aI p)]).length,[]) ⟨aS _,hLv,kl _ _ _,GM,rfl⟩ ?_ ?_
  ·refine aH.trans (aH.nil 29 1 (by simp only[Kc,simprocAttr]) GS) ?_;exact Xv X0
  clear hLv;rintro⟨a,oy,ti,bs⟩⟨ha,Dv,eX,kS,qo⟩cJ bj br;dsimp only at ha Dv eX kS qo ⊢;have fp:=(Dv.base (os.length,.var (aI p)) GM).1;have fby:=(Dv.base (bi,.arr 1 (rowsOf cE E)) GM).1;have bil:=(aV.1 fb).1;have osl:=(aV.1 f0).1;dsimp only at fp fby
  by_cases nC:a<la.length
  ·((repeat'(first|refine Va (X5 @fp @cg @FG @aC.eq_1 @aI.eq_1) ?_|(refine Xi ?_ ?_<;>try intro ht)|exact Xx|fail)))
   have hta:=eu nC;refine aR (λy:Nat×List Ob×Nat×List Bool=>(⟨ao [(1,.tree 1 (rowsOf aC left)),(3,.ptr 0 0 0),(11,.ref bi 1 0 E.length),(22,Qf z1),(23,.lit (.bool z2)),(27,Qf i),(28,.ptr os.length 0 0),(29,.ref y.2.2.1 1 0 y.2.2.2.length),(30,Qf a),(31,Qf y.1)],y.2.1⟩:St))
    (λy=>y.1<=lb.length/\LO jx ((os.length,.var (aI p))::[(0,.var (an m)),(bi,.arr 1 (rowsOf cE E))]) D E g.1 g.2 y.2.1/\y.2.1[y.2.2.1]?=some (.arr 1 (a8 y.2.2.2))/\os.length<y.2.2.1/\y.2.2.2=bs++(lb.take y.1).map (la.getD a default && ·))
    (λy=>lb.length-y.1) (0,oy,ti,bs) ⟨aS _,Dv,eX,kS,GM⟩ (Xv X0) ?_
   rintro⟨b,ob,tb,cs⟩⟨a6,Jf,BJ,FK,gD⟩mq gm fk;dsimp only at a6 Jf BJ FK gD ⊢;have FL:=(Jf.base (os.length,.var (aI p)) GM).1;dsimp only at FL;have tg:=aN BJ;have epb:=aN FL;have stb:=iy BJ;have bK:cs.length<=24*24+24:=by
    rw[gD,qo,bO,EY,fK,eY,eY];have:=wC (show min a la.length<=24 by omega) (show lb.length<=24 by omega);omega
   by_cases qw:b<lb.length
   ·have aki:=eu qw;have hLn:=((Jf.kill (y:=.gone) BJ GM (by simp only[bw,iM,or_false,forall_eq_or_imp,forall_eq];omega)).app [.arr 1 [[.lit (.bool (la.getD a false&&lb.getD b false))]],.arr 1 (a8 (cs++[la.getD a false&&lb.getD b false]))]);have fj:cs++[la.getD a false&&lb.getD b false]=bs++(lb.take (b+1)).map (la.getD a default && ·):=by rw[aki,dS,<- bE,<- gD];rfl
    have apd:=(aV.1 BJ).1;generalize hxa:la.getD a false=xa at *;generalize akk:lb.getD b false=xb at *;cases xa;all_goals
     simp only[qU,gK]at hLn fj;((repeat'(first|refine Va (X5 @FL @BJ @tg @epb (X5 @stb @cg @FG @xD (X5 @hxa @akk @aC.eq_1 @aI.eq_1 (X5 @bH @bE.{0} @jz @jq (X3 @bO.{0} @bJ.{0} @Ea))))) ?_|(refine Xi ?_ ?_<;>try intro ht)|exact Xx|fail)))
     refine gm _ (b+1,_,ob.length+1,_) ⟨PW,hLn,pL _ _ _ _ _,PW,fj⟩ PW ?_;exact Xv X0
   ·rw[dm GK]at gD;((repeat'(first|refine Va (X5 @FL @cg @xD @aC.eq_1 @aI.eq_1) ?_|(refine V2 (X5 @FL @cg @xD @aC.eq_1 @aI.eq_1) ?_ ?_<;>try with_reducible intro hb)|(refine Xi ?_ ?_<;>try intro ht)|exact Xx|fail)))
    refine fk _ _ rfl ?_;clear gm fk mq;repeat(refine Xu ?_)
    refine Va X0 ?_;refine bj _ (a+1,ob,tb,cs) ⟨PW,Jf,BJ,FK,by rw[hta,ahk,<- qo];exact gD⟩ PW ?_;exact Xv X0
  ·rw[dm GK,<- N4]at qo;subst qo;obtain⟨tq,FD⟩:=Dv.rE.row i GK;((repeat'(first|refine Va (X5 @fp @cg @FG @aC.eq_1 @aI.eq_1) ?_|(refine Xi ?_ ?_<;>try intro ht)|exact Xx|fail)))
   refine br _ _ rfl ?_;clear bj br cJ;repeat(refine Xu ?_)
   ((refine Va (X3 @fby @tq @cE.eq_1) ?_)<;>try with_reducible intro K hK)
   cases z2<;>cases q2;all_goals
    refine xW [] FJ GM trivial ⟨aZ.fz tq (by rw[cH];exact FD.symm) GM,aZ.fz eX (by rw[AK]) GM,trivial⟩ rfl GM ?_;((try revert hK K);(repeat'(first|refine Va (X2 @iN @kB) ?_|fail)))
    refine ak _ (i+1,oy) ⟨PW,Dv.sub GM⟩ PW ?_;simp only[dV];exact Xv X0
 have IY:i=m.ae.length:=GK;rw[IY];have N9:=zP _ zc (MD (m:=m) (left:=left) (by unfold mf;decide) Du.2 m.ae.length);rw[E0]at N9;generalize bQ (PP m left g.2 m.ae.length) zc=zp at *;((repeat'(first|refine Va @f0 ?_|(refine Xi ?_ ?_<;>try intro ht)|exact Xx|fail)))
 refine aq _ _ rfl ?_;clear ak aq Ql;repeat(refine Xu ?_)
 refine Va @f0 ?_;clear hi ar;refine aR (λi:Nat=>(⟨ao [(1,.tree 1 (rowsOf aC left)),(3,.ptr 0 0 0),(22,Qf (bQ (PK m left i) zp).1),(23,.lit (.bool (bQ (PK m left i) zp).2)),(34,Qf i)],os⟩:St))
  (λi=>i<=m.aD.length) (λi=>m.aD.length-i) 0 (aS _) (Xv (X5 @PK.eq_1 @bQ.eq_1 @P1 @nQ.{0,0} @AA.{0,0})) ?_
 rintro i hi Ql ak aq;unfold mf at Je N9;dsimp only at Je N9;by_cases ar:i<m.aD.length
 ·have kj:=aF (d:=default) ar;obtain⟨q1,q2,q3,q4⟩:=NO cP hf kj;have h3:=aj9 m left _ cP hf kj;have Jg:=EK (λx hx=>(q1 x hx).2) left;have h4:=aiS (kk (m.aD.getD i default).bh 0 left 0-(m.aD.getD i default).most) (m.aD.getD i default).cf GK q3;rw[aj5 q3]at h4;have jM:=zP _ zp (ME cP (left:=left) i);rw[Ij]at jM;have hvr:=Uc (m.aD.getD i default).most (m.aD.getD i default).cf (kk (m.aD.getD i default).bh 0 left 0) q2 q3.1;have dV:bQ (PK m left (i+1)) zp=((bQ (PK m left i) zp).1+jg left (m.aD.getD i default),(bQ (PK m left i) zp).2||!!(decide ((m.aD.getD i default).cf=1099511627776)&&decide (0<jg left (m.aD.getD i default)))):=by
   rw[show PK m left (i+1)=PK m left i++[(jg left (m.aD.getD i default),!(decide ((m.aD.getD i default).cf=1099511627776)&&decide (0<jg left (m.aD.getD i default))))] from zM _ i,C4]
  unfold jg at dV;generalize bQ (PK m left i) zp=z at *;obtain⟨z1,z2⟩:=z;generalize bc:m.aD.getD i default=c at *;generalize lK c.most c.cf (kk c.bh 0 left 0)=v at *;dsimp only at dV jM ⊢;by_cases N':c.cf=1099511627776;all_goals
   by_cases qy:0<v
  all_goals
   simp only[N',qy,decide_true,decide_false,Bool.and_true,Bool.and_false,iN,kB,Bool.or_true,Bool.or_false]at dV;cases z2
  all_goals
   ((repeat'(first|refine Vc (X3 @f0 @bc @dv.eq_1) (X2 h3 h4) ?_|(refine V2 (X3 @f0 @bc @dv.eq_1) ?_ ?_<;>try with_reducible intro hb)|(refine Xi ?_ ?_<;>try intro ht)|exact Xx|fail)))
   refine ak _ (i+1) GK GK ?_;simp only[dV];exact Xv (X4 @gt_iff_lt.{0} @qy @decide_true @decide_false)
 ·have NP:i=m.aD.length:=GK;rw[NP];have abf:=zP _ zp (ME cP (left:=left) m.aD.length);rw[Ij]at abf;generalize bQ (PK m left m.aD.length) zp=zk at *;obtain⟨k1,k2⟩:=zk;dsimp only at au abf ⊢;((repeat'(first|refine Va @f0 ?_|(refine Xi ?_ ?_<;>try intro ht)|exact Xx|fail)))
  refine aq _ _ rfl ?_;clear ak aq Ql;repeat(refine Xu ?_)
  cases k2
  ·simp only[Bool.false_eq_true,if_false]at au;subst au;((repeat'(first|refine Vb @f0 ?_|(refine Xi ?_ ?_<;>try intro ht)|exact Xx|fail)))
   exact aO rfl rfl
  ·simp only[if_true]at au;subst au;((repeat'(first|refine Vb @f0 ?_|(refine Xi ?_ ?_<;>try intro ht)|exact Xx|fail)))
   exact aO rfl rfl
end T

