import Derived.Test.YtfoopmojjjpapaaGreatX17
import Derived.Test.YtfoopmojjjpapaaGreatX19
set_option linter.all false
set_option maxHeartbeats 0
set_option maxRecDepth 20000
open Nat renaming zero_le→aS,min_eq_left→wF,zero_add→gq,mul_le_mul→xM,sub_self→iq,add_zero→il
open Bool renaming not_true→km,not_false→lG,true_and→iI,false_and→pV,and_eq_true→a7
open List renaming take_zero→mK,length_take→fZ,getD_eq_getElem?_getD→az,getElem?_eq_getElem→bS,take_of_length_le→c9,getElem?_map→bY,map_nil→mf,foldl_nil→yY,mem_of_mem_take→qY,mem_append→da,mem_singleton→dI,length_map→eu,append_assoc→bw,length_append→bI,length_set→bH,getElem?_eq_some_iff→aT,map_append→dJ,nodup_append→oU,mem_cons→a8,not_mem_nil→iJ,set_set→xQ,range_zero→Jk
open Go Go.Am Go.Proofs
namespace T
def akA(a:List dq)(b:List Bool):Holds Tryz.prog 109 [.tree 6 (rowsOf cA a),.tree 1 (br b)] [] (.lit (.bool (decide (a.length=b.length)))) []:=by
 refine Holds.aQ 10 0 [.tmp 4] Tryz.func109 ?_;repeat'(first|(refine Xr X0 ?_;intro K hK)|refine Xo X0 ?_|(refine hK _ ?_;clear hK K)|(refine Xg X0 ?_ ?_<;>try intro hb)|(refine Xi ?_ ?_<;>try intro ht)|refine Xz ?_|refine Xh ?_|(refine Xe ?_;first|refine aW rfl ?_|refine Xl ?_ ?_)|refine Xd ?_ ?_|exact Xx|fail)
 ·congr 2;rw[Bool.eq_iff_iff,beq_iff_eq,decide_eq_true_eq];omega
def akB(m:aj)(left:List (List Bool))(hm:MB m)(hb:BB left):Holds Tryz.prog 77 [.agg (ay m),.tree 1 (rowsOf aE left)] [] (.lit (.bool (decide (cP m left)))) []:=by
 have xf:=hm.cls;have jf:=hb.1;generalize au:decide (cP m left)=res;have hE:Holds Tryz.prog 108 [.tree 1 (rowsOf bm m.cls),.tree 1 (rowsOf aE left),.fn 109 []] [] (.lit (.bool res)) []:=by
  refine Holds.aQ 32 0 [.tmp 6] Tryz.func108 ?_;by_cases hl:left.length=m.cls.length;rotate_left
  ·rw[decide_eq_false (λh:cP m left=>hl h.1)]at au;((try revert hK K);(repeat'(first|refine Va X0 ?_|(refine V2 X0 ?_ ?_<;>try with_reducible intro hb)|(refine Xi ?_ ?_<;>try intro ht)|refine VD ?_ ?_|exact Xx|fail))<;>try with_reducible intro K hK)
   all_goals try(exfalso;omega)
   repeat(first|refine Xu ?_|(refine bG _ _ rfl ?_;clear bE bG;try clear du)|(refine iB _ _ rfl ?_;clear kE iB;try clear qH)|(refine xy _ _ rfl ?_;clear akC xy;try clear Ql4))
   ((try revert hK K);(repeat'(first|refine Vb X0 ?_|(refine V2 X0 ?_ ?_<;>try with_reducible intro hb)|(refine Xi ?_ ?_<;>try intro ht)|refine VD ?_ ?_|exact Xx|fail))<;>try with_reducible intro K hK)
   exact aW rfl (by rw[<- au])
  ((try revert hK K);(repeat'(first|refine Va X0 ?_|(refine V2 X0 ?_ ?_<;>try with_reducible intro hb)|(refine Xi ?_ ?_<;>try intro ht)|refine VD ?_ ?_|exact Xx|fail))<;>try with_reducible intro K hK)
  all_goals try(exfalso;omega)
  refine bd (λk:Nat=>(⟨ar [(1,.tree 1 (rowsOf aE left)),(2,.fn 109 []),(15,.tree 1 (rowsOf bm m.cls)),(16,OJ m.cls.length),(17,OJ k)],[]⟩:St)) (λk=>k<=m.cls.length/\∀ i,i<k->(left.getD i default).length=(m.cls.getD i default).length) (λk=>m.cls.length-k) 0 ⟨aS _,CZ⟩ (Xv X0) ?_;rintro k⟨hk,hr⟩Ql ao ax;by_cases bc:k<m.cls.length
  ·have h1:=hm.opt _ (aF (d:=default) bc);have h2:=hb.2 _ (aF (l:=left) (i:=k) (d:=default) CZ);have hc:=akA (m.cls.getD k default) (left.getD k default);generalize uM:m.cls.getD k default=a at *;generalize jf:left.getD k default=b at *;by_cases eX:a.length=b.length
   ·rw[decide_eq_true eX]at hc;((try revert hK K);(repeat'(first|refine Vc (X4 @uM @jf @bm.eq_1 @aE.eq_1) hc ?_|(refine V2 (X4 @uM @jf @bm.eq_1 @aE.eq_1) ?_ ?_<;>try with_reducible intro hb)|(refine Xi ?_ ?_<;>try intro ht)|refine VD ?_ ?_|exact Xx|fail))<;>try with_reducible intro K hK)
    all_goals try(exfalso;omega)
    exact ao _ (k+1) ⟨CZ,λi hi=>by
     by_cases e:i=k
     ·subst e;rw[jf,uM];exact eX.symm
     ·exact hr i CZ⟩ CZ (Xv X0)
   ·rw[decide_eq_false eX]at hc;rw[decide_eq_false (λh:cP m left=>eX (by have:=h.2 k CZ;rw[jf,uM]at this;exact this.symm))]at au;((try revert hK K);(repeat'(first|refine Vc (X4 @uM @jf @bm.eq_1 @aE.eq_1) hc ?_|(refine V2 (X4 @uM @jf @bm.eq_1 @aE.eq_1) ?_ ?_<;>try with_reducible intro hb)|(refine Xi ?_ ?_<;>try intro ht)|refine VD ?_ ?_|exact Xx|fail))<;>try with_reducible intro K hK)
    all_goals try(exfalso;omega)
    repeat(first|refine Xu ?_|(refine bG _ _ rfl ?_;clear bE bG;try clear du)|(refine iB _ _ rfl ?_;clear kE iB;try clear qH)|(refine xy _ _ rfl ?_;clear akC xy;try clear Ql4))
    ((try revert hK K);(repeat'(first|refine Vb X0 ?_|(refine V2 X0 ?_ ?_<;>try with_reducible intro hb)|(refine Xi ?_ ?_<;>try intro ht)|refine VD ?_ ?_|exact Xx|fail))<;>try with_reducible intro K hK)
    exact aW rfl (by rw[<- au])
  ·rw[decide_eq_true (show cP m left from⟨hl,λi hi=>hr i CZ⟩)]at au;((try revert hK K);(repeat'(first|refine Va X0 ?_|(refine V2 X0 ?_ ?_<;>try with_reducible intro hb)|(refine Xi ?_ ?_<;>try intro ht)|refine VD ?_ ?_|exact Xx|fail))<;>try with_reducible intro K hK)
   refine ax _ _ rfl ?_;clear ao ax Ql;repeat(first|refine Xu ?_)
   ((try revert hK K);(repeat'(first|refine Vb X0 ?_|(refine V2 X0 ?_ ?_<;>try with_reducible intro hb)|(refine Xi ?_ ?_<;>try intro ht)|refine VD ?_ ?_|exact Xx|fail))<;>try with_reducible intro K hK)
   exact aW rfl (by rw[<- au])
 refine Holds.aQ 9 0 [.tmp 4] Tryz.func77 ?_;((try revert hK K);(repeat'(first|refine Vd X0 hE ?_|(refine V2 X0 ?_ ?_<;>try with_reducible intro hb)|(refine Xi ?_ ?_<;>try intro ht)|refine VD ?_ ?_|exact Xx|fail))<;>try with_reducible intro K hK)
 exact aW rfl rfl
def akE(m:aj)(left:List (List Bool))(hm:MB m)(hb:BB left):Holds Tryz.prog 43 [.agg (ay m),.tree 1 (rowsOf aE left)] [] (.lit (.bool (decide (cP m left)))) []:=by
 have xf:=hm.cls;have jf:=hb.1;generalize au:decide (cP m left)=res;refine Holds.aQ 30 0 [.tmp 4] Tryz.func43 ?_;by_cases hl:left.length=m.cls.length;rotate_left
 ·rw[decide_eq_false (λh:cP m left=>hl h.1)]at au;((repeat'(first|refine Va X0 ?_|(refine Xi ?_ ?_<;>try intro ht)|exact Xx|fail)))
  ((skip))
  exact aW rfl (by rw[<- au])
 ((repeat'(first|refine Va X0 ?_|(refine Xi ?_ ?_<;>try intro ht)|exact Xx|fail)))
 refine bd (λk:Nat=>(⟨ar [(1,.tree 1 (rowsOf aE left)),(2,.ptr 0 0 0),(5,OJ k)],[.var (ay m)]⟩:St)) (λk=>k<=left.length/\∀ i,i<k->(left.getD i default).length=(m.cls.getD i default).length) (λk=>left.length-k) 0 ⟨aS _,CZ⟩ (Xv X0) ?_;rintro k⟨hk,hr⟩Ql ao ax;by_cases bc:k<left.length
 ·have h1:=hm.opt _ (aF (l:=m.cls) (i:=k) (d:=default) CZ);have h2:=hb.2 _ (aF (d:=default) bc);generalize uM:m.cls.getD k default=a at *;generalize jf:left.getD k default=b at *;by_cases eX:b.length=a.length
  ·((repeat'(first|refine Va (X4 @uM @jf @bm.eq_1 @aE.eq_1) ?_|(refine Xi ?_ ?_<;>try intro ht)|exact Xx|fail)))
   exact ao _ (k+1) ⟨CZ,λi hi=>by
    by_cases e:i=k
    ·subst e;rw[jf,uM];exact eX
    ·exact hr i CZ⟩ CZ (Xv X0)
  ·rw[decide_eq_false (λh:cP m left=>eX (by have:=h.2 k CZ;rw[jf,uM]at this;exact this))]at au;((repeat'(first|refine Va (X4 @uM @jf @bm.eq_1 @aE.eq_1) ?_|(refine Xi ?_ ?_<;>try intro ht)|exact Xx|fail)))
   repeat(refine Xu ?_)
   refine Vb X0 ?_;exact aW rfl (by rw[<- au])
 ·rw[decide_eq_true (show cP m left from⟨hl,λi hi=>hr i CZ⟩)]at au;((repeat'(first|refine Va X0 ?_|(refine Xi ?_ ?_<;>try intro ht)|exact Xx|fail)))
  refine ax _ _ rfl ?_;clear ao ax Ql;repeat(refine Xu ?_)
  refine Vb X0 ?_;exact aW rfl (by rw[<- au])
def akF(m:aj)(left:List (List Bool))(hm:MB m)(hb:BB left):Holds Tryz.prog 41 [.agg (ay m),.tree 1 (rowsOf aE left)] [] (OJ (kR m left)) []:=by
 have h1:=MQ m hm;have h2:=akB m left hm hb;generalize au:kR m left=res;unfold kR at au;refine Holds.aQ 15 0 [.tmp 4] Tryz.func41 ?_;by_cases hv:j6 m=0
 ·rw[if_neg (by rw[hv];simp)]at au;rw[hv]at h1;by_cases hf:cP m left
  ·rw[if_pos hf]at au;rw[decide_eq_true hf]at h2;subst au;((try revert hK K);(repeat'(first|refine Vd (X2 @bne_self_eq_false.{0} @km) (X2 h1 h2) ?_|(refine V2 (X2 @bne_self_eq_false.{0} @km) ?_ ?_<;>try with_reducible intro hb)|(refine Xi ?_ ?_<;>try intro ht)|refine VD ?_ ?_|exact Xx|fail))<;>try with_reducible intro K hK)
   all_goals exact aW rfl rfl
  ·rw[if_neg hf]at au;rw[decide_eq_false hf]at h2;subst au;((try revert hK K);(repeat'(first|refine Vd (X2 @bne_self_eq_false.{0} @lG) (X2 h1 h2) ?_|(refine V2 (X2 @bne_self_eq_false.{0} @lG) ?_ ?_<;>try with_reducible intro hb)|(refine Xi ?_ ?_<;>try intro ht)|refine VD ?_ ?_|exact Xx|fail))<;>try with_reducible intro K hK)
   all_goals exact aW rfl rfl
 ·rw[if_pos hv]at au;generalize j6 m=e at *;subst au;((try revert hK K);(repeat'(first|refine Vd X0 (X2 h1 h2) ?_|(refine V2 X0 ?_ ?_<;>try with_reducible intro hb)|(refine Xi ?_ ?_<;>try intro ht)|refine VD ?_ ?_|exact Xx|fail))<;>try with_reducible intro K hK)
  all_goals try(exfalso;omega)
  all_goals exact aW rfl rfl
def Na{m:aj}{left:List (List Bool)}(hm:VM m)(hf:cP m left){c:Ct}(hc:c∈m.aK):(∀ x∈c.a6,(0<=x.cls/\x.cls<left.length)/\1<=x.wt/\x.wt<=1000)/\0<=c.most/\bQ c.cI/\c.a6.length<=1000000:=by
 obtain⟨_,h2,h3,h4⟩:=td (hm.ct c hc);refine⟨λx hx=>?_,h2.1,uF h3,?_⟩
 ·obtain⟨h5,h6⟩:=vW h4 x hx;obtain⟨a,b,_,_⟩:=jK.1 h5;have:=hf.1;exact⟨⟨a,CZ⟩,h6⟩
 ·have:=Wg hm h4;omega
def akG (m:aj) (left:List (List Bool)) (c:Ct) (hm:VM m) (hf:cP m left) (hc:c∈m.aK):Holds Tryz.prog 49 [.agg (ay m),.tree 1 (rowsOf aE left),.agg (ej c)] [] (OJ (j5 c.a6 0 left 0 - c.most)) []:=by
  obtain ⟨q1,q2,q3,q4⟩:=Na hm hf hc
  have yM:∀ x∈c.a6,1<=x.wt/\x.wt<=1000:=λx hx=>(q1 x hx).2
  have xf:=hm.cls
  have hl:=hf.1
  have an5:=(td (hm.ct c hc)).2.1
  refine Holds.aQ 85 0 [.tmp 6] Tryz.func49 ?_
  refine Va X0 ?_
  refine bd (λi:Nat=>(⟨ar [(1,.tree 1 (rowsOf aE left)),(3,.ptr 0 0 0),(5,.ptr 1 0 0),(7,OJ (j5 c.a6 0 (left.take i) 0)),(8,OJ i)],[.var (ay m),.var (ej c)]⟩:St)) (λi=>i<=left.length) (λi=>left.length - i) 0 (aS _) (Xv (X2 @mK.{0} (X2 @j5.eq_1 @j5.eq_2))) ?_
  rintro i hi Ql ao ax
  have vq:=Ef yM (left.take i)
  rw[fZ] at vq
  by_cases aq:i<left.length
  · have bz:(left.getD i default).length=(m.cls.getD i default).length:=hf.2 i aq
    have Ho:=hm.opt _ (aF (l:=m.cls) (i:=i) (d:=default) CZ)
    have fP:=eQ aq
    have vQ:=VR c.a6 (left.getD i default) (left.take i) 0 0
    rw[<- fP,fZ,wF CZ,gq] at vQ
    generalize j5 c.a6 0 (left.take i) 0=n at *
    generalize Cg:left.getD i default=row at *
    generalize cO:m.cls.getD i default=l at *
    ((repeat' (first|refine Va X0 ?_|(refine Xi ?_ ?_<;>try intro ht)|exact Xx|fail)))
    refine bd (λo:Nat=>(⟨ar [(1,.tree 1 (rowsOf aE left)),(3,.ptr 0 0 0),(5,.ptr 1 0 0),(7,OJ n),(8,OJ i),(9,OJ (max (dG c.a6 i 0 (row.take o) (-1)) 0)),(10,.lit (.bool (decide (0<=dG c.a6 i 0 (row.take o) (-1))))),(11,OJ o)],[.var (ay m),.var (ej c)]⟩:St)) (λo=>o<=row.length) (λo=>row.length - o) 0 (aS _) (Xv (X2 @mK.{0} (X2 @dG.eq_1 @dG.eq_2))) ?_
    rintro o ho du bE bG
    have hb:=HD yM i (row.take o) 0 (-1) CZ
    by_cases cH:o<row.length
    · have hZ:dG c.a6 i 0 (row.take (o+1)) (-1)=if row.getD o false=true/\(dG c.a6 i 0 (row.take o) (-1)<0\/fM c.a6 i o 0<dG c.a6 i 0 (row.take o) (-1)) then fM c.a6 i o 0 else dG c.a6 i 0 (row.take o) (-1):=by
        rw[List.take_succ_eq_append_getElem cH,Mi,az,bS cH,fZ,wF CZ,gq];rfl
      have hw:=yA yM i o 0 CZ
      generalize dG c.a6 i 0 (row.take o) (-1)=b at *
      generalize Al:row.getD o false=is at *
      cases is with
      | false =>
        rw[if_neg Fl] at hZ
        ((repeat' (first|refine Va (X5 @cO @Cg @Al @bm.eq_1 @aE.eq_1) ?_|(refine Xi ?_ ?_<;>try intro ht)|exact Xx|fail)))
        exact bE _ (o+1) CZ CZ (by simp only[hZ];exact Xv X0)
      | true =>
        simp only[eq_self,true_and] at hZ
        ((repeat' (first|refine Va (X5 @cO @Cg @Al @bm.eq_1 @aE.eq_1) ?_|(refine Xi ?_ ?_<;>try intro ht)|exact Xx|fail)))
        refine bd (λk:Nat=>(⟨ar [(1,.tree 1 (rowsOf aE left)),(3,.ptr 0 0 0),(5,.ptr 1 0 0),(7,OJ n),(8,OJ i),(9,OJ (max b 0)),(10,.lit (.bool (decide (0<=b)))),(11,OJ o),(12,OJ (fM (c.a6.take k) i o 0)),(13,OJ k)],[.var (ay m),.var (ej c)]⟩:St)) (λk=>k<=c.a6.length) (λk=>c.a6.length - k) 0 (aS _) (Xv (X2 @mK.{0} (X2 @fM.eq_1 @fM.eq_2))) ?_
        rintro k hk qH kE iB
        by_cases bc:k<c.a6.length
        · have akH:=eQ bc
          have cE:=q1 _ (aF (d:=default) bc)
          have eN:=VE (c.a6.take k) (c.a6.getD k default) i o 0
          rw[<- akH] at eN
          generalize fM (c.a6.take k) i o 0=w at *
          generalize Dx:c.a6.getD k default=x at *
          ((repeat' (first|refine Va (X2 @Dx @yd.eq_1) ?_|(refine V2 (X2 @Dx @yd.eq_1) ?_ ?_<;>try with_reducible intro hb)|(refine Xi ?_ ?_<;>try intro ht)|exact Xx|fail)))
          all_goals
            refine kE _ (k+1) CZ CZ ?_
            simp only[eN]
            first
              | rw[if_pos CZ]
              | rw[if_neg CZ]
            exact Xv X0
        · ((repeat' (first|refine Va X0 ?_|(refine V2 X0 ?_ ?_<;>try with_reducible intro hb)|(refine Xi ?_ ?_<;>try intro ht)|exact Xx|fail)))
          rw[c9 CZ]
          refine iB _ _ rfl ?_
          clear kE iB qH
          repeat (refine Xu ?_)
          generalize fM c.a6 i o 0=w at *
          ((repeat' (first|refine Va X0 ?_|(refine V2 X0 ?_ ?_<;>try with_reducible intro hb)|(refine Xi ?_ ?_<;>try intro ht)|exact Xx|fail)))
          all_goals
            refine bE _ (o+1) CZ CZ ?_
            simp only[hZ]
            first
              | (rw[if_pos CZ];have e1:max w 0=w:=CZ
                 have e2:decide (0<=w)=true:=decide_eq_true CZ
                 simp only[e1,e2];exact Xv X0)
              | (rw[if_neg CZ];exact Xv X0)
    · rw[c9 CZ] at hb
      have jC:lY c.a6 i row=max (dG c.a6 i 0 row (-1)) 0:=rfl
      ((repeat' (first|refine Va (X3 @cO @bm.eq_1 (c9 (show row.length<=o by omega))) ?_|(refine Xi ?_ ?_<;>try intro ht)|exact Xx|fail)))
      refine bG _ _ rfl ?_
      clear bE bG du
      repeat (refine Xu ?_)
      refine Va X0 ?_
      exact ao _ (i+1) CZ CZ (by simp only[vQ,jC];exact Xv X0)
  · ((repeat' (first|refine Va (c9 (show left.length<=i by omega)) ?_|(refine Xi ?_ ?_<;>try intro ht)|exact Xx|fail)))
    refine ax _ _ rfl ?_;clear ao ax Ql
    repeat (refine Xu ?_)
    rw[c9 CZ] at vq
    repeat' (first|(refine Xr X0 ?_;intro K hK)|(refine hK _ ?_;clear hK K)|refine Xz ?_|(refine Xe ?_;first|refine aW rfl ?_|refine Xl ?_ ?_)|refine Xd ?_ ?_|exact Xx|fail)
def Nb(x:Int):Holds Tryz.prog 111 [OJ x] [] (.agg (aX (ez x))) []:=by
 refine Holds.aQ 7 0 [.cell 2 182] Tryz.func111 ?_;refine Vb X0 ?_;simp(disch:=omega)only[Ac,↓Pc,simprocAttr,aX,ez,gv];exact aW rfl rfl
def akI(l:List dq)(R:Int)(hl:l.length<=24)(qF:∀ o∈l,gy R none o.ch=true)(hlen:∀ o∈l,o.ch.length<=100):Holds Tryz.prog 46 [.tree 6 (rowsOf cA l)] [] (.tree 1 (ints (b8 l))) []:=by
 refine Holds.aQ 39 0 [.tmp 2] Tryz.func46 ?_;refine Vb X0 ?_;refine bd (λz:Nat×List Int=>(⟨ar [(0,.tree 6 (rowsOf cA l)),(3,.ref 0 1 0 z.2.length),(4,OJ z.1)],[.arr 1 (ints z.2)]⟩:St)) (λz=>z.1<=l.length/\z.2=(b8 l).take z.1) (λz=>l.length-z.1) (0,[]) ⟨aS _,rfl⟩ ?_ ?_
 ·refine aH.trans (aH.nil 3 1 (by simp only[Kc,simprocAttr]) Fs) ?_;exact Xv X0
 rintro⟨i,xs⟩⟨hi,dN⟩Ql ao ax;dsimp only at hi dN ⊢;have nE:(b8 l).length=l.length:=by unfold b8;simp
 by_cases aq:i<l.length
 ·have fP:=eQ (l:=b8 l) (k:=i) CZ;have oF:(b8 l).getD i default=lz (l.getD i default):=by
   unfold b8;rw[az,bY,az,bS aq];rfl
  have Ay:=aF (l:=l) (d:=default) aq;have hc:=Hj (qF _ Ay);have hle:=hlen _ Ay;have ba:xs.length=i:=by rw[dN,fZ];omega
  rw[oF,<- dN]at fP;generalize mz:l.getD i default=o at *;((repeat'(first|refine Va @mz ?_|(refine Xi ?_ ?_<;>try intro ht)|exact Xx|fail)))
  refine bd (λk:Nat=>(⟨ar [(0,.tree 6 (rowsOf cA l)),(3,.ref 0 1 0 xs.length),(4,OJ i),(5,OJ (((o.ch.take k).map (·.2)).foldl dK 0)),(6,OJ k)],[.arr 1 (ints xs)]⟩:St)) (λk=>k<=o.ch.length) (λk=>o.ch.length-k) 0 (aS _) (Xv (X3 @mK.{0} @mf.{0,0} @yY.{0,0})) ?_;rintro k hk du bE bG;have hs:=D1 ((o.ch.take k).map (·.2)) 0 (λx hx=>by
   obtain⟨c,fI,rfl⟩:=List.mem_map.1 hx;exact hc c (qY fI)) (by unfold bQ;decide)
  by_cases bc:k<o.ch.length
  ·have bf:=hc _ (aF (d:=default) bc);have dh:=VS o.ch k bc;generalize ((o.ch.take k).map (·.2)).foldl dK 0=s at *;have wq:=ai9 s (o.ch.getD k default).2 hs bf;generalize cE:o.ch.getD k default=x at *;((repeat'(first|refine Vc (X4 @mz @cE @cA.eq_1 @dt.eq_1) wq ?_|(refine Xi ?_ ?_<;>try intro ht)|exact Xx|fail)))
   exact bE _ (k+1) CZ CZ (by simp only[dh];exact Xv X0)
  ·have kD:((o.ch.take k).map (·.2)).foldl dK 0=lz o:=by rw[c9 CZ];rfl
   rw[kD]at hs;generalize ((o.ch.take k).map (·.2)).foldl dK 0=s at *;((repeat'(first|refine Va (X2 @mz @cA.eq_1) ?_|(refine Xi ?_ ?_<;>try intro ht)|exact Xx|fail)))
   refine bG _ _ rfl ?_;clear bE bG du;repeat(refine Xu ?_)
   refine Va X0 ?_;refine ao _ (i+1,xs++[s]) ⟨Ji,by rw[fP,<- kD]⟩ Ji ?_;exact Xs false [2] X0
 ·rw[c9 CZ]at dN;subst dN;((repeat'(first|refine Va X0 ?_|(refine Xi ?_ ?_<;>try intro ht)|exact Xx|fail)))
  refine ax _ _ rfl ?_;clear ao ax Ql;repeat(refine Xu ?_)
  refine Vb X0 ?_;exact Xw true [] X0
def abz(l:List Int)(hl:l.length<=1000):Holds Tryz.prog 45 [.tree 1 (ints l)] [] (.ref 0 2 0 (dm l).length) [.arr 2 (rowsOf jh (dm l))]:=by
 refine Holds.aQ 25 0 [.tmp 2] Tryz.func45 ?_;refine Vb X0 ?_;refine bd (λz:Nat×List Nm=>(⟨ar [(0,.tree 1 (ints l)),(3,.ref 0 2 0 z.2.length),(4,OJ z.1)],[.arr 2 (rowsOf jh z.2)]⟩:St)) (λz=>z.1<=l.length/\z.2=(dm l).take z.1) (λz=>l.length-z.1) (0,[]) ⟨aS _,rfl⟩ ?_ ?_
 ·refine aH.trans (aH.nil 3 2 (by simp only[Kc,simprocAttr]) Fs) ?_;exact Xv X0
 rintro⟨i,xs⟩⟨hi,dN⟩Ql ao ax;dsimp only at hi dN ⊢;have nE:(dm l).length=l.length:=by unfold dm;simp
 by_cases aq:i<l.length
 ·have fP:=eQ (l:=dm l) (k:=i) CZ;have oF:(dm l).getD i default=ez (l.getD i 0):=by
   unfold dm;rw[az,bY,az,bS aq];rfl
  have ba:xs.length=i:=by rw[dN,fZ];omega
  rw[oF,<- dN]at fP;generalize mz:l.getD i 0=o at *;((repeat'(first|refine Va @mz ?_|(refine Xi ?_ ?_<;>try intro ht)|exact Xx|fail)))
  refine ao _ (i+1,xs++[ez o]) ⟨Ji,fP.symm⟩ Ji ?_;have eno:[[AV.lit (.bool (decide (o >= 1099511627776))),AV.lit (.int .i64 o)]]=rowsOf jh [ez o]:=rfl;exact Xs false [2] (X2 @eno @KI)
 ·rw[c9 CZ]at dN;subst dN;((repeat'(first|refine Va X0 ?_|(refine Xi ?_ ?_<;>try intro ht)|exact Xx|fail)))
  refine ax _ _ rfl ?_;clear ao ax Ql;repeat(refine Xu ?_)
  refine Vb X0 ?_;exact Xw false [0] X0
def abA(l:List Nm)(s:List Bool)(hl:l.length=s.length)(ic:l.length<9223372036854775808):Holds Tryz.prog 47 [.tree 2 (rowsOf jh l),.tree 1 (br s)] [] (.bx [OJ (cK l s (0,false)).1,.lit (.bool (cK l s (0,false)).2)]) []:=by
 refine Holds.aQ 47 0 [.tmp 4,.tmp 5] Tryz.func47 ?_;refine Vb X0 ?_;refine bd (λi:Nat=>(⟨ar [(0,.tree 2 (rowsOf jh l)),(1,.tree 1 (br s)),(6,OJ (cK (l.take i) (s.take i) (0,false)).1),(7,.lit (.bool (cK (l.take i) (s.take i) (0,false)).2)),(8,OJ i)],[]⟩:St)) (λi=>i<=l.length) (λi=>l.length-i) 0 (aS _) (Xv (X2 @mK.{0} (X2 @cK.eq_1 @cK.eq_2))) ?_;rintro i hi Ql ao ax;by_cases aq:i<l.length
 ·have h1:=eQ aq;have h2:=eQ (l:=s) (k:=i) CZ;have h3:=VU (l.getD i default) (s.getD i default) (l.take i) (s.take i) (0,false) (by rw[fZ,fZ];omega);rw[<- h1,<- h2]at h3;have th:s.getD i default=s.getD i false:=rfl;rw[th]at h3;generalize cK (l.take i) (s.take i) (0,false)=b at *;generalize cg:l.getD i default=p at *;generalize vQ:s.getD i false=is at *;unfold VT at h3;obtain⟨b1,b2⟩:=b;obtain⟨p1,p2⟩:=p;dsimp only at h3 ⊢;by_cases ba:p1<b1;all_goals
   cases is<;>cases p2<;>cases b2
  all_goals
   simp[ba]at h3;((repeat'(first|refine Va (X3 @cg @vQ @jh.eq_1) ?_|(refine Xi ?_ ?_<;>try intro ht)|exact Xx|fail)))
   all_goals
    refine ao _ (i+1) CZ CZ ?_;simp only[h3];exact Xv X0
 ·((repeat'(first|refine Va X0 ?_|(refine V2 X0 ?_ ?_<;>try with_reducible intro hb)|(refine Xi ?_ ?_<;>try intro ht)|exact Xx|fail)))
  refine ax _ _ rfl ?_;clear ao ax Ql;repeat(refine Xu ?_)
  rw[c9 CZ,c9 CZ];refine Vb X0 ?_;exact aW rfl rfl
def abB(l:List Nm)(ic:l.length<9223372036854775808):Holds Tryz.prog 114 [.tree 2 (rowsOf aX l)] [] (.agg (aX (s9 l))) []:=by
 refine Holds.aQ 30 0 [.cell 2 182] Tryz.func114 ?_;refine Vb X0 ?_;refine bd (λi:Nat=>(⟨ar [(2,.ptr 0 0 0),(3,.ptr 1 0 0),(7,.tree 2 (rowsOf aX l)),(8,OJ l.length),(9,OJ i)],[.var [OJ 0,.lit (.bool false)],.var (aX (s9 (l.take i)))]⟩:St)) (λi=>i<=l.length) (λi=>l.length-i) 0 (aS _) (Xv @mK.{0}) ?_;rintro i hi Ql ao ax;by_cases aq:i<l.length
 ·have h1:=eQ aq;have h3:=aik (l.take i) (l.getD i default);rw[<- h1]at h3;generalize s9 (l.take i)=b at *;generalize cg:l.getD i default=p at *;unfold BZ at h3;obtain⟨b1,b2⟩:=b;obtain⟨p1,p2⟩:=p;dsimp only at h3 ⊢;unfold aX;dsimp only;by_cases ba:p1<b1;all_goals
   cases p2<;>cases b2
  all_goals
   simp[ba]at h3;((repeat'(first|refine Va (X2 @cg @aX.eq_1) ?_|(refine Xi ?_ ?_<;>try intro ht)|exact Xx|fail)))
   all_goals
    refine ao _ (i+1) CZ CZ ?_;simp only[h3];exact Xs false [0,1] @aX.eq_1
 ·((repeat'(first|refine Va @aX.eq_1 ?_|(refine V2 @aX.eq_1 ?_ ?_<;>try with_reducible intro hb)|(refine Xi ?_ ?_<;>try intro ht)|exact Xx|fail)))
  refine ax _ _ rfl ?_;clear ao ax Ql;repeat(refine Xu ?_)
  rw[c9 CZ];refine Vb @aX.eq_1 ?_;simp(disch:=omega)only[Ac,↓Pc,simprocAttr,aX,gv];exact aW rfl rfl
def akK(m:aj)(x:Mv)(hm:VM m):Holds Tryz.prog 44 [.agg (ay m),.agg (aP x)] [] (.lit (.bool (gK m x))) []:=by
 have xd:=hm.ae;have ho:=aaq m (dL m x) x.opt;generalize au:gK m x=res;unfold gK at au;unfold dL at au ho;refine Holds.aQ 58 0 [.tmp 4] Tryz.func44 ?_;by_cases hr:0<=x.pair/\x.pair<m.ae.length/\0<=x.side/\x.side<=1/\-268435456<=x.amt/\x.amt<=268435456
 ·rw[decide_eq_true hr,iI]at au;generalize cg:m.ae.getD x.pair.toNat default=p at *;by_cases hs:x.side=0
  ·rw[if_pos hs]at au ho;rw[au]at ho;((repeat'(first|refine Vd (X3 @cg @aP.eq_1 @aL.eq_1) ho ?_|(refine V2 (X3 @cg @aP.eq_1 @aL.eq_1) ?_ ?_<;>try with_reducible intro hb)|(refine Xi ?_ ?_<;>try intro ht)|exact Xx|fail)))
   all_goals exact aW rfl rfl
  ·rw[if_neg hs]at au ho;rw[au]at ho;((repeat'(first|refine Vd (X3 @cg @aP.eq_1 @aL.eq_1) ho ?_|(refine V2 (X3 @cg @aP.eq_1 @aL.eq_1) ?_ ?_<;>try with_reducible intro hb)|(refine Xi ?_ ?_<;>try intro ht)|exact Xx|fail)))
   all_goals exact aW rfl rfl
 ·rw[decide_eq_false hr,pV]at au;((repeat'(first|refine Vb (X2 @aP.eq_1 @aL.eq_1) ?_|(refine V2 (X2 @aP.eq_1 @aL.eq_1) ?_ ?_<;>try with_reducible intro hb)|(refine Xi ?_ ?_<;>try intro ht)|exact Xx|fail)))
  all_goals exact aW rfl (by rw[au])
def abC{m:aj}(hm:VM m){c:List dq}(hc:c∈m.cls){o:dq}(ho:o∈c):o.ch.length<=100:=by
 have h:=hm.rp c hc o ho;have hr:=hm.uC;cases qF:o.ch with
 |nil=>simp
 |cons x r =>
  rw[qF,gy]at h;simp only[a7,decide_eq_true_eq,k8]at h;rcases Mu h.2 with rfl|h2
  ·simp
  ·simp only[List.length_cons];omega
def Cl{m:aj}{p:Pr}(hp:iD m p=true)(hm:VM m):p.aC.length<=576:=by
 unfold iD at hp;simp only[a7,decide_eq_true_eq]at hp;obtain⟨⟨_,h1,h2,h3,h4⟩,_⟩:=hp;have a:=hm.opt _ (aF (l:=m.cls) (i:=p.fst.toNat) (d:=default) CZ);have b:=hm.opt _ (aF (l:=m.cls) (i:=p.snd.toNat) (d:=default) CZ);have:=xM a b;have e:(p.aC.length:Int)=((m.cls.getD p.fst.toNat default).length*(m.cls.getD p.snd.toNat default).length:Nat):=by rw[h4];simp
 omega
def EI{m:aj}{p:Pr}(hp:iD m p=true):0<=p.fst/\p.fst<p.snd/\p.snd<m.cls.length/\(p.aC.length:Int)=(m.cls.getD p.fst.toNat default).length*(m.cls.getD p.snd.toNat default).length:=by
 unfold iD at hp;simp only[a7,decide_eq_true_eq]at hp;exact hp.1.2
def Ig{a k c n:Int}(ha:0<=a/\a<n)(hk:0<=k/\k<c)(hc:c<=24)(hn:n<=24):0<=a*c/\a*c<=576/\0<=a*c+k/\a*c+k<n*c:=by
 have h1:0<=a*c:=Int.mul_nonneg ha.1 CZ;have h2:(a+1)*c<=n*c:=Int.mul_le_mul_of_nonneg_right CZ CZ;rw[Int.add_mul]at h2;have h3:n*c<=24*24:=Int.mul_le_mul hn hc CZ CZ;omega
def akL(m:aj)(left:List (List Bool))(l:List Mv)(hm:MB m)(hb:BB left)(hl:l.length<9223372036854775808):Holds Tryz.prog 18 [.agg (ay m),.tree 1 (rowsOf aE left),.tree 4 (rowsOf aP l)] [] (.bx [OJ (bP m left l).1,OJ (bP m left l).2]) []:=by
 have h1:=Nc m hm;have h2:=akE m left hm hb;generalize au:bP m left l=res;unfold bP kR at au;refine Holds.aQ 342 0 [.tmp 6,.tmp 7] Tryz.func18 ?_;by_cases hv:j6 m=0;rotate_left
 ·rw[if_pos (c:=j6 m≠0) hv,if_pos hv]at au;generalize j6 m=e at *;subst au;((repeat'(first|refine Vd X0 (X2 h1 h2) ?_|(refine Xi ?_ ?_<;>try intro ht)|exact Xx|fail)))
  all_goals exact aW rfl rfl
 rw[if_neg (c:=j6 m≠0) (by rw[hv];simp)]at au;rw[hv]at h1;by_cases hf:cP m left;rotate_left
 ·rw[if_neg hf,if_pos Fl]at au;rw[decide_eq_false hf]at h2;subst au;((repeat'(first|refine Vd (X2 @bne_self_eq_false.{0} @lG) (X2 h1 h2) ?_|(refine Xi ?_ ?_<;>try intro ht)|exact Xx|fail)))
  all_goals exact aW rfl rfl
 rw[if_pos hf,if_neg Fl]at au;rw[decide_eq_true hf]at h2;have cf:=oB.1 hv;have s8:=cf.cls;have pD:=cf.ae;have Gb:=cf.aK;unfold gH at au;by_cases hlen:2000<l.length
 ·rw[if_pos hlen]at au;subst au;((repeat'(first|refine Vd (X2 @bne_self_eq_false.{0} @km) (X2 h1 h2) ?_|(refine Xi ?_ ?_<;>try intro ht)|exact Xx|fail)))
  all_goals exact aW rfl rfl
 rw[if_neg hlen]at au;((repeat'(first|refine Vd (X2 @bne_self_eq_false.{0} @km) (X2 h1 h2) ?_|(refine Xi ?_ ?_<;>try intro ht)|exact Xx|fail)))
 refine bd (λi:Nat=>(⟨ar [(1,.tree 1 (rowsOf aE left)),(2,.tree 4 (rowsOf aP l)),(3,.ptr 0 0 0),(9,OJ i)],[.var (ay m)]⟩:St)) (λi=>i<=l.length/\∀ x∈l.take i,gK m x=true) (λi=>l.length-i) 0 ⟨aS _,Fl⟩ (Xv X0) ?_;rintro i⟨hi,fk⟩Ql ao ax;by_cases aq:i<l.length
 ·have qK:=akK m (l.getD i default) cf;have fP:=eQ aq;have cD:=aF (d:=default) aq;generalize cE:l.getD i default=x at *;by_cases hx:gK m x=true
  ·rw[hx]at qK;((repeat'(first|refine Vc (X3 @cE @aP.eq_1 @km) qK ?_|(refine Xi ?_ ?_<;>try intro ht)|exact Xx|fail)))
   exact ao _ (i+1) ⟨CZ,λy hy=>by
    rw[fP]at hy;rcases da.1 hy with hy|hy
    ·exact fk y hy
    ·simp only[dI]at hy;subst hy;exact hx⟩ CZ (Xv X0)
  ·have bZ:gK m x=false:=by simpa using hx
   rw[bZ]at qK;rw[if_pos (by rw[List.all_eq_false];exact⟨x,cD,hx⟩)]at au;subst au;((repeat'(first|refine Vc (X3 @cE @aP.eq_1 @lG) qK ?_|(refine Xi ?_ ?_<;>try intro ht)|exact Xx|fail)))
   repeat(refine Xu ?_)
   refine Vb X0 ?_;exact aW rfl rfl
 rw[c9 CZ]at fk;rw[if_neg (by rw[Bool.not_eq_false];exact List.all_eq_true.2 fk)]at au;((repeat'(first|refine Va X0 ?_|(refine Xi ?_ ?_<;>try intro ht)|exact Xx|fail)))
 refine ax _ _ rfl ?_;clear ao ax Ql;repeat(refine Xu ?_)
 refine Va X0 ?_;have ho0:([.var (ay m)]:List Ob)[0]?=some (.var (ay m)):=rfl;refine bd (λz:Nat×List Ob×Nat×List (Nat×Nat)=>(⟨ar [(1,.tree 1 (rowsOf aE left)),(2,.tree 4 (rowsOf aP l)),(3,.ptr 0 0 0),(10,.ref z.2.2.1 1 0 z.2.2.2.length),(11,.lit (.slice none 0 0)),(12,OJ z.1)],z.2.1⟩:St))
  (λz=>z.1<=m.cls.length/\z.2.2.2.length=z.1/\z.2.1[0]?=some (.var (ay m))/\z.2.1[z.2.2.1]?=some (.arr 1 (rowsOf cu z.2.2.2))/\RI jh z.2.1 z.2.2.2 ((S0 m).take z.1)/\(z.2.2.2.map (·.1)).Nodup)
  (λz=>m.cls.length-z.1) (0,[.var (ay m),.arr 1 []],1,[]) ⟨aS _,rfl,rfl,rfl,by rw[mK];exact RI.nil,Fl⟩ ?_ ?_
 ·refine aH.trans (aH.nil 10 1 (by simp only[Kc,simprocAttr]) Fs) ?_;exact Xv X0
 clear hi aq ho0;rintro⟨i,os,ai,D⟩⟨hi,hD,f0,fa,hR,bT⟩Ql ao ax;dsimp only at hi hD f0 fa hR bT ⊢;have e0:=aM f0;have ea:=aM fa;have sa:=gZ fa;by_cases aq:i<m.cls.length
 ·have jT:=aF (d:=default) aq;have vL:=cf.opt _ jT;have Ab:=akI (m.cls.getD i default) m.rules vL (cf.rp _ jT) (λo ho=>abC cf jT ho);have Nf:=abz (b8 (m.cls.getD i default)) (by unfold b8;rw[eu];omega);generalize bf:m.cls.getD i default=c at *;((repeat'(first|refine Vc (X5 @f0 @fa @e0 @ea (X3 @bf @bm.eq_1 @bF)) Ab ?_|(refine Xi ?_ ?_<;>try intro ht)|exact Xx|fail))<;>try with_reducible intro K hK)
  refine tU [] Nf Fl trivial ⟨.pure rfl,trivial⟩ ?_;have Ng:(0:Nat)≠ai:=λe=>by rw[<- e,f0]at fa;cases fa
  obtain⟨g1,g2,g3,g4⟩:=RI.step fa Fl hR bT (dm (b8 c)) (.arr 1 [[.ref os.length 2 0 (dm (b8 c)).length]]) (.arr 1 (rowsOf cu (D++[(os.length,(dm (b8 c)).length)])));have fP:(S0 m).take (i+1)=(S0 m).take i++[dm (b8 c)]:=by
   rw[eQ (by unfold S0;rw[eu];exact aq)];unfold S0;rw[gn _ _ _ aq,bf]
  ((try revert hK K);((refine Va (X5 @f0 @fa @e0 @ea (X5 @sa @bf @bm.eq_1 @bF (X5 @bw.{0} @iq @il @HH (X2 @bI.{0} @bH.{0})))) ?_)))
  refine ao _ (i+1,_,os.length+2,D++[(os.length,(dm (b8 c)).length)]) ⟨Ji,Jo,g4 _ _ f0 Ng,g1,by rw[fP];exact g2,g3⟩ Ji ?_;exact Xv X0
 rw[c9 (by unfold S0;rw[eu];omega)]at hR;have yR:D.length=m.cls.length:=CZ;((repeat'(first|refine Va (X4 @f0 @fa @e0 @ea) ?_|(refine Xi ?_ ?_<;>try intro ht)|exact Xx|fail)))
 refine ax _ _ rfl ?_;clear ao ax Ql;repeat(refine Xu ?_)
 refine Va (X2 @f0 @fa) ?_;clear hi aq hD e0 ea sa;have fb0:(os++[Ob.arr 1 []])[os.length]?=some (.arr 1 (rowsOf cu [])):=by rw[jX];rfl
 refine bd (λz:Nat×List Ob×Nat×List (Nat×Nat)=>(⟨ar [(1,.tree 1 (rowsOf aE left)),(2,.tree 4 (rowsOf aP l)),(3,.ptr 0 0 0),(10,.ref ai 1 0 D.length),(11,.ref z.2.2.1 1 0 z.2.2.2.length),(13,OJ z.1)],z.2.1⟩:St))
  (λz=>z.1<=m.ae.length/\z.2.2.2.length=z.1/\z.2.1[0]?=some (.var (ay m))/\z.2.1[ai]?=some (.arr 1 (rowsOf cu D))/\z.2.1[z.2.2.1]?=some (.arr 1 (rowsOf cu z.2.2.2))/\z.2.2.1≠ai/\RI jh z.2.1 D (S0 m)/\RI jh z.2.1 z.2.2.2 ((T0 m).take z.1)/\((D++z.2.2.2).map (·.1)).Nodup)
  (λz=>m.ae.length-z.1) (0,os++[.arr 1 []],os.length,[]) ⟨aS _,rfl,aM f0 _,aM fa _,fb0,λe=>by have h2:=(aT.1 fa).1;dsimp only at e;omega,hR.app _,by rw[mK];exact RI.nil,by simpa using bT⟩ ?_ ?_
 ·refine aH.trans (aH.nil 11 1 (by simp only[Kc,simprocAttr]) Fs) ?_;exact Xv X0
 clear f0 fa hR bT fb0 os;rintro⟨i,os,bi,E⟩⟨hi,hE,f0,fa,fb,eX,EJ,EK,bT⟩Ql ao ax;dsimp only at hi hE f0 fa fb eX EJ EK bT ⊢;have e0:=aM f0;have eb:=aM fb;have sb:=gZ fb;by_cases aq:i<m.ae.length
 ·have hpm:=jV cf.pr _ (aF (d:=default) aq);have kF:=(Cl hpm cf);have Nf:=abz (m.ae.getD i default).aC CZ;have Ng:(0:Nat)≠bi:=λe=>by rw[<- e,f0]at fb;cases fb
  rw[dJ,oU]at bT;obtain⟨g1,g2,g3,g4⟩:=RI.step fb Fl EK bT.2.1 (dm (m.ae.getD i default).aC) (.arr 1 [[.ref os.length 2 0 (dm (m.ae.getD i default).aC).length]]) (.arr 1 (rowsOf cu (E++[(os.length,(dm (m.ae.getD i default).aC).length)])));have fP:(T0 m).take (i+1)=(T0 m).take i++[dm (m.ae.getD i default).aC]:=by
   rw[eQ (by unfold T0;rw[eu];exact aq)];unfold T0;rw[gn _ _ _ aq]
  have akO:=(EJ.kill (y:=.gone) fb Fl).app [.arr 2 (rowsOf jh (dm (m.ae.getD i default).aC)),.arr 1 [[.ref os.length 2 0 (dm (m.ae.getD i default).aC).length]],.arr 1 (rowsOf cu (E++[(os.length,(dm (m.ae.getD i default).aC).length)]))];have G4:((D++(E++[(os.length,(dm (m.ae.getD i default).aC).length)])).map (·.1)).Nodup:=by
   rw[dJ,oU];refine⟨bT.1,g3,λa ha b hb=>?_⟩;rw[dJ,da]at hb;rcases hb with hb|hb
   ·exact bT.2.2 a ha b hb
   ·simp only[List.map_cons,mf,dI]at hb;subst hb;exact λe=>EJ.fresh (Nat.le_refl _) (e▸ha)
  have fal:=(aT.1 fa).1;generalize cg:m.ae.getD i default=p at *;((repeat'(first|refine Va (X5 @f0 @fb @e0 @eb (X3 @cg @aL.eq_1 @bF)) ?_|(refine Xi ?_ ?_<;>try intro ht)|exact Xx|fail))<;>try with_reducible intro K hK)
  refine tU [] Nf Fl trivial ⟨.pure rfl,trivial⟩ ?_;((try revert hK K);((refine Va (X5 @f0 @fb @e0 @eb (X5 @sb @cg @aL.eq_1 @bF (X5 @bw.{0} @iq @il @HH (X2 @bI.{0} @bH.{0})))) ?_)))
  refine ao _ (i+1,_,os.length+2,E++[(os.length,(dm p.aC).length)]) ⟨Ji,Jo,g4 _ _ f0 Ng,g4 _ _ fa eX.symm,g1,Ji,akO,by rw[fP];exact g2,G4⟩ Ji ?_;exact Xv X0
 rw[c9 (by unfold T0;rw[eu];omega)]at EK;have yx:E.length=m.ae.length:=CZ;((repeat'(first|refine Va (X4 @f0 @fa @e0 @eb) ?_|(refine Xi ?_ ?_<;>try intro ht)|exact Xx|fail)))
 refine ax _ _ rfl ?_;clear ao ax Ql;repeat(refine Xu ?_)
 refine Va (X2 @f0 @fa) ?_;clear hi aq hE e0 eb sb;have iP:LO jh [(0,.var (ay m)),(ai,.arr 1 (rowsOf cu D)),(bi,.arr 1 (rowsOf cu E))] D E (S0 m) (T0 m) os:=⟨λb hb=>by
  simp only[a8,iJ,or_false]at hb;rcases hb with rfl|rfl|rfl
  ·exact⟨f0,Fl⟩
  ·exact⟨fa,Fl⟩
  ·exact⟨fb,Fl⟩,EJ,EK,bT⟩
 refine bd (λz:Nat×List Ob=>(⟨ar [(1,.tree 1 (rowsOf aE left)),(2,.tree 4 (rowsOf aP l)),(3,.ptr 0 0 0),(10,.ref ai 1 0 D.length),(11,.ref bi 1 0 E.length),(14,OJ z.1)],z.2⟩:St))
  (λz=>z.1<=l.length/\LO jh [(0,.var (ay m)),(ai,.arr 1 (rowsOf cu D)),(bi,.arr 1 (rowsOf cu E))] D E (fq m (l.take z.1) (S0 m,T0 m)).1 (fq m (l.take z.1) (S0 m,T0 m)).2 z.2)
  (λz=>l.length-z.1) (0,os) ⟨aS _,iP⟩ (Xv X0) ?_
 clear f0 fa fb EJ EK bT iP os;rintro⟨i,os⟩⟨hi,iP⟩Ql ao ax;dsimp only at hi iP ⊢;have f0:=(iP.base (0,.var (ay m)) Fl).1;have fa:=(iP.base (ai,.arr 1 (rowsOf cu D)) Fl).1;have fb:=(iP.base (bi,.arr 1 (rowsOf cu E)) Fl).1;have e0:=aM f0;have ea:=aM fa;have eb:=aM fb;dsimp only at f0 fa fb e0 ea eb;by_cases aq:i<l.length
 ·have hxm:=aF (d:=default) aq;have nB:=fk _ hxm;have fP:fq m (l.take (i+1)) (S0 m,T0 m)=iY m (l.getD i default) (fq m (l.take i) (S0 m,T0 m)):=by rw[eQ aq,VV]
  have jM:=Eh cf (l.take i) (λx hx=>fk x (qY hx));rw[fZ,wF CZ]at jM;generalize fq m (l.take i) (S0 m,T0 m)=g at *;generalize cE:l.getD i default=x at *;have Nh:=nB;unfold gK at Nh;rw[a7,decide_eq_true_eq]at Nh;obtain⟨⟨x1,x2,x3,x4,x5,x6⟩,l8⟩:=Nh;obtain⟨o1,o2,o3,o4⟩:=jK.1 l8;have dj:=jV cf.pr _ (aF (l:=m.ae) (i:=x.pair.toNat) (d:=default) CZ);obtain⟨Ni,Nj,Nk,EL⟩:=EI dj;have hlF:=cf.opt _ (aF (l:=m.cls) (i:=(m.ae.getD x.pair.toNat default).fst.toNat) (d:=default) CZ);have hlS:=cf.opt _ (aF (l:=m.cls) (i:=(m.ae.getD x.pair.toNat default).snd.toNat) (d:=default) CZ);obtain⟨rJ,EM⟩:=iP.rE.row x.pair.toNat CZ;obtain⟨lE,yS⟩:=iP.rD.row (dL m x).toNat CZ;have qe:=aM rJ;have qd:=aM lE;have BC:=jM.sl (dL m x).toNat CZ;have Cm:=jM.tl x.pair.toNat CZ;have an7:(List.getD E x.pair.toNat default).1=(List.getD E x.pair.toNat default).1:=rfl;by_cases hs:x.side=0
  ·have hc:dL m x=(m.ae.getD x.pair.toNat default).fst:=by unfold dL;rw[if_pos hs]
   rw[hc]at lE yS qd BC o1 o2 o4;have sd:=gZ lE;have sI:=(ta jM.sb (m.ae.getD x.pair.toNat default).fst.toNat).get CZ x.opt.toNat;have hF:nK m x=(λk:Nat=>(x.opt*(m.cls.getD (m.ae.getD x.pair.toNat default).snd.toNat default).length+k).toNat,(m.cls.getD (m.ae.getD x.pair.toNat default).snd.toNat default).length):=by unfold nK;rw[if_pos hs]
   have xE:iY m x g=(g.1.set (m.ae.getD x.pair.toNat default).fst.toNat (jz (g.1.getD (m.ae.getD x.pair.toNat default).fst.toNat default) x.opt.toNat x.amt),g.2.set x.pair.toNat (gz (nK m x).1 x.amt (nK m x).2 (g.2.getD x.pair.toNat default))):=by unfold iY;rw[hc]
   have Cn:=(iP.Aa (j:=(m.ae.getD x.pair.toNat default).fst.toNat) CZ (r:=jz (g.1.getD (m.ae.getD x.pair.toNat default).fst.toNat default) x.opt.toNat x.amt) (xm _ _ _)).vars (bH ..) (.var (aP x)) (.var (aL (m.ae.getD x.pair.toNat default))) Fl Fl;generalize cg:m.ae.getD x.pair.toNat default=p at *;generalize EO:(m.cls.getD p.snd.toNat default).length=c5 at *;((repeat'(first|refine Va (X5 @f0 @fa @fb @e0 (X5 @ea @eb @cE @cg (X5 @EO @aP.eq_1 @aL.eq_1 @bm.eq_1 (X5 @cu.eq_1 @jh.eq_1 @rJ @lE (X5 @qe @qd @sd @bF (X5 @HI @bw.{0} @iq @il @bI.{0})))))) ?_|(refine Xi ?_ ?_<;>try intro ht)|exact Xx|fail)))
   rw[hF]at xE;dsimp only at xE;refine bd (λz:Nat×List Ob=>(⟨ar [(1,.tree 1 (rowsOf aE left)),(2,.tree 4 (rowsOf aP l)),(3,.ptr 0 0 0),(10,.ref ai 1 0 D.length),(11,.ref bi 1 0 E.length),(14,OJ i),(15,.ptr os.length 0 0),(18,OJ c5),(19,.ref (E.getD x.pair.toNat default).1 2 0 (E.getD x.pair.toNat default).2),(20,OJ z.1)],z.2⟩:St))
    (λz=>z.1<=c5/\LO jh ((os.length,.var (aP x))::(os.length+1,.var (aL p))::[(0,.var (ay m)),(ai,.arr 1 (rowsOf cu D)),(bi,.arr 1 (rowsOf cu E))]) D E (g.1.set p.fst.toNat (jz (g.1.getD p.fst.toNat default) x.opt.toNat x.amt)) (g.2.set x.pair.toNat (gz (λk:Nat=>(x.opt*c5+k).toNat) x.amt z.1 (g.2.getD x.pair.toNat default))) z.2)
    (λz=>c5-z.1) (0,_) ⟨aS _,by rw[gz,Ad];exact Cn⟩ (Xv X0) ?_
   rintro⟨k,ok⟩⟨hk,j8⟩du bE bG;dsimp only at hk j8 ⊢;have fx:=(j8.base (os.length,.var (aP x)) Fl).1;dsimp only at fx;obtain⟨rK,Az⟩:=j8.rE.row x.pair.toNat CZ;have wu:x.pair.toNat<g.2.length:=by rw[jM.t];omega
   rw[uE _ _ _ wu]at rK Az;have ln:=Ai (λk:Nat=>(x.opt*c5+k).toNat) x.amt k (g.2.getD x.pair.toNat default);have Nl:=((ta jM.tb x.pair.toNat).sub CZ (λk:Nat=>(x.opt*c5+k).toNat) (a:=x.amt) CZ k).get CZ (x.opt*c5+k:Int).toNat;by_cases bc:k<c5
   ·have lV:=j8.yu (j:=x.pair.toNat) CZ (r:=jz (gz (λk:Nat=>(x.opt*c5+k).toNat) x.amt k (g.2.getD x.pair.toNat default)) (x.opt*c5+k:Int).toNat (-x.amt)) (by rw[uE _ _ _ wu];exact xm _ _ _);rw[xQ]at lV;obtain⟨Nn,Np,Nq,Nr⟩:=Ig (a:=x.opt) (k:=(k:Int)) (c:=(c5:Int)) (n:=((m.cls.getD p.fst.toNat default).length:Int)) ⟨o3,o4⟩ CZ CZ CZ;generalize uN:(x.opt*c5+k:Int)=ix at *;generalize hZ:gz (λk:Nat=>(x.opt*c5+k).toNat) x.amt k (g.2.getD x.pair.toNat default)=tk at *;((repeat'(first|refine Va (X5 @fx @cE @rK @aP.eq_1 (X4 @jh.eq_1 @HI @uN @Int.sub_eq_add_neg)) ?_|(refine Xi ?_ ?_<;>try intro ht)|exact Xx|fail)))
    refine bE _ (k+1,_) ⟨Ji,by rw[gz,hZ,uN];exact lV⟩ Ji ?_;exact Xv X0
   ·have xk:k=c5:=CZ;rw[xk]at j8;((repeat'(first|refine Va X0 ?_|(refine Xi ?_ ?_<;>try intro ht)|exact Xx|fail)))
    refine bG _ _ rfl ?_;clear bE bG du;repeat(refine Xu ?_)
    refine Va X0 ?_;refine ao _ (i+1,_) ⟨Ji,by rw[fP,xE];exact j8.sub Fl⟩ Ji ?_;exact Xv X0
  ·have hc:dL m x=(m.ae.getD x.pair.toNat default).snd:=by unfold dL;rw[if_neg hs]
   rw[hc]at lE yS qd BC o1 o2 o4;have sd:=gZ lE;have sI:=(ta jM.sb (m.ae.getD x.pair.toNat default).snd.toNat).get CZ x.opt.toNat;have hF:nK m x=(λk:Nat=>((k:Int)*(m.cls.getD (m.ae.getD x.pair.toNat default).snd.toNat default).length+x.opt).toNat,(m.cls.getD (m.ae.getD x.pair.toNat default).fst.toNat default).length):=by unfold nK;rw[if_neg hs]
   have xE:iY m x g=(g.1.set (m.ae.getD x.pair.toNat default).snd.toNat (jz (g.1.getD (m.ae.getD x.pair.toNat default).snd.toNat default) x.opt.toNat x.amt),g.2.set x.pair.toNat (gz (nK m x).1 x.amt (nK m x).2 (g.2.getD x.pair.toNat default))):=by unfold iY;rw[hc]
   have Cn:=(iP.Aa (j:=(m.ae.getD x.pair.toNat default).snd.toNat) CZ (r:=jz (g.1.getD (m.ae.getD x.pair.toNat default).snd.toNat default) x.opt.toNat x.amt) (xm _ _ _)).vars (bH ..) (.var (aP x)) (.var (aL (m.ae.getD x.pair.toNat default))) Fl Fl;generalize cg:m.ae.getD x.pair.toNat default=p at *;generalize EO:(m.cls.getD p.snd.toNat default).length=c5 at *;generalize Ns:(m.cls.getD p.fst.toNat default).length=rows at *;((repeat'(first|refine Va (X5 @f0 @fa @fb @e0 (X5 @ea @eb @cE @cg (X5 @EO @Ns @aP.eq_1 @aL.eq_1 (X5 @bm.eq_1 @cu.eq_1 @jh.eq_1 @rJ (X5 @lE @qe @qd @sd (X5 @bF @HI @bw.{0} @iq (X2 @il @bI.{0}))))))) ?_|(refine Xi ?_ ?_<;>try intro ht)|exact Xx|fail)))
   rw[hF]at xE;dsimp only at xE;refine bd (λz:Nat×List Ob=>(⟨ar [(1,.tree 1 (rowsOf aE left)),(2,.tree 4 (rowsOf aP l)),(3,.ptr 0 0 0),(10,.ref ai 1 0 D.length),(11,.ref bi 1 0 E.length),(14,OJ i),(15,.ptr os.length 0 0),(17,OJ rows),(18,OJ c5),(19,.ref (E.getD x.pair.toNat default).1 2 0 (E.getD x.pair.toNat default).2),(21,OJ z.1)],z.2⟩:St))
    (λz=>z.1<=rows/\LO jh ((os.length,.var (aP x))::(os.length+1,.var (aL p))::[(0,.var (ay m)),(ai,.arr 1 (rowsOf cu D)),(bi,.arr 1 (rowsOf cu E))]) D E (g.1.set p.snd.toNat (jz (g.1.getD p.snd.toNat default) x.opt.toNat x.amt)) (g.2.set x.pair.toNat (gz (λk:Nat=>((k:Int)*c5+x.opt).toNat) x.amt z.1 (g.2.getD x.pair.toNat default))) z.2)
    (λz=>rows-z.1) (0,_) ⟨aS _,by rw[gz,Ad];exact Cn⟩ (Xv X0) ?_
   rintro⟨k,ok⟩⟨hk,j8⟩du bE bG;dsimp only at hk j8 ⊢;have fx:=(j8.base (os.length,.var (aP x)) Fl).1;dsimp only at fx;obtain⟨rK,Az⟩:=j8.rE.row x.pair.toNat CZ;have wu:x.pair.toNat<g.2.length:=by rw[jM.t];omega
   rw[uE _ _ _ wu]at rK Az;have ln:=Ai (λk:Nat=>((k:Int)*c5+x.opt).toNat) x.amt k (g.2.getD x.pair.toNat default);have Nl:=((ta jM.tb x.pair.toNat).sub CZ (λk:Nat=>((k:Int)*c5+x.opt).toNat) (a:=x.amt) CZ k).get CZ ((k:Int)*c5+x.opt).toNat;by_cases bc:k<rows
   ·have lV:=j8.yu (j:=x.pair.toNat) CZ (r:=jz (gz (λk:Nat=>((k:Int)*c5+x.opt).toNat) x.amt k (g.2.getD x.pair.toNat default)) ((k:Int)*c5+x.opt).toNat (-x.amt)) (by rw[uE _ _ _ wu];exact xm _ _ _);rw[xQ]at lV;obtain⟨Nn,Np,Nq,Nr⟩:=Ig (a:=(k:Int)) (k:=x.opt) (c:=(c5:Int)) (n:=(rows:Int)) CZ ⟨o3,o4⟩ CZ CZ;generalize uN:((k:Int)*c5+x.opt)=ix at *;generalize hZ:gz (λk:Nat=>((k:Int)*c5+x.opt).toNat) x.amt k (g.2.getD x.pair.toNat default)=tk at *;((repeat'(first|refine Va (X5 @fx @cE @rK @aP.eq_1 (X4 @jh.eq_1 @HI @uN @Int.sub_eq_add_neg)) ?_|(refine Xi ?_ ?_<;>try intro ht)|exact Xx|fail)))
    refine bE _ (k+1,_) ⟨Ji,by rw[gz,hZ,uN];exact lV⟩ Ji ?_;exact Xv X0
   ·have xk:k=rows:=CZ;rw[xk]at j8;((repeat'(first|refine Va X0 ?_|(refine Xi ?_ ?_<;>try intro ht)|exact Xx|fail)))
    refine bG _ _ rfl ?_;clear bE bG du;repeat(refine Xu ?_)
    refine Va X0 ?_;refine ao _ (i+1,_) ⟨Ji,by rw[fP,xE];exact j8.sub Fl⟩ Ji ?_;exact Xv X0
 rw[c9 CZ]at iP;have jM:=Eh cf l fk;have an8:l.length<=2000:=CZ;generalize fq m l (S0 m,T0 m)=g at *;have Co:(∀ r∈g.1,NB lA r)/\∀ r∈g.2,NB lA r:=⟨λr hr=>(jM.sb r hr).mono (by unfold lA;omega),λr hr=>(jM.tb r hr).mono (by unfold lA;omega)⟩;((repeat'(first|refine Va @f0 ?_|(refine Xi ?_ ?_<;>try intro ht)|exact Xx|fail)))
 refine ax _ _ rfl ?_;clear ao ax Ql;repeat(refine Xu ?_)
 refine Va @f0 ?_;have iL:=hf.1;refine bd (λi:Nat=>(⟨ar [(1,.tree 1 (rowsOf aE left)),(3,.ptr 0 0 0),(10,.ref ai 1 0 D.length),(11,.ref bi 1 0 E.length),(22,OJ (bL (PC left g.1 i) (0,false)).1),(23,.lit (.bool (bL (PC left g.1 i) (0,false)).2)),(24,OJ i)],os⟩:St))
  (λi=>i<=m.cls.length) (λi=>m.cls.length-i) 0 (aS _) (Xv (X5 @PC.eq_1 @bL.eq_1 @Jk @mf.{0,0} @yY.{0,0})) ?_
 rintro i hi Ql ao ax;by_cases aq:i<m.cls.length
 ·have iU:=yF _ (0,false) (Mm (left:=left) (by unfold lA;decide) Co.1 i);rw[B5]at iU;have hlen:=hf.2 i CZ;have cr:=jM.sl i aq;have uy:=abA (g.1.getD i default) (left.getD i default) CZ (by have:=cf.opt _ (aF (d:=default) aq);omega);have ot:=Ei (g.1.getD i default) (left.getD i default) (0,false) (ta Co.1 i) (by unfold lA;decide);have dh:bL (PC left g.1 (i+1)) (0,false)=((bL (PC left g.1 i) (0,false)).1+(cK (g.1.getD i default) (left.getD i default) (0,false)).1,(bL (PC left g.1 i) (0,false)).2||!(cK (g.1.getD i default) (left.getD i default) (0,false)).2):=by
   rw[show PC left g.1 (i+1)=PC left g.1 i++[cK (g.1.getD i default) (left.getD i default) (0,false)] from yE _ i,B4]
  obtain⟨lE,yS⟩:=iP.rD.row i CZ;generalize bL (PC left g.1 i) (0,false)=z at *;obtain⟨z1,z2⟩:=z;generalize cK (g.1.getD i default) (left.getD i default) (0,false)=q at *;obtain⟨q1,q2⟩:=q;unfold lA at iU ot;dsimp only at *;generalize ic:left.getD i default=ll at *;((repeat'(first|refine Va (X5 @f0 @fa @lE @cu.eq_1 (X2 @ic @aE.eq_1)) ?_|(refine Xi ?_ ?_<;>try intro ht)|exact Xx|fail))<;>try with_reducible intro K hK)
  cases z2<;>cases q2;all_goals
   refine vh [] uy Fl trivial ⟨cC.fz lE (by rw[cU];exact yS.symm) Fl,.pure rfl,trivial⟩ rfl Fl ?_;((try revert hK K);(repeat'(first|refine Va (X4 @f0 @fa @km @lG) ?_|fail)))
   refine ao _ (i+1) CZ CZ ?_;simp only[dh];exact Xv X0
 have Ih:i=m.cls.length:=CZ;rw[Ih];have Ii:=yF _ (0,false) (Mm (left:=left) (by unfold lA;decide) Co.1 m.cls.length);rw[B5]at Ii;unfold kU at au;generalize bL (PC left g.1 m.cls.length) (0,false)=zc at *;((repeat'(first|refine Va @f0 ?_|(refine Xi ?_ ?_<;>try intro ht)|exact Xx|fail)))
 refine ax _ _ rfl ?_;clear ao ax Ql;repeat(refine Xu ?_)
 refine Va @f0 ?_;clear hi aq;have abE:LO jh [(0,.var (ay m)),(bi,.arr 1 (rowsOf cu E))] D E g.1 g.2 os:=iP.sub Fl;refine bd (λz:Nat×List Ob=>(⟨ar [(1,.tree 1 (rowsOf aE left)),(3,.ptr 0 0 0),(11,.ref bi 1 0 E.length),(22,OJ (bL (PP m left g.2 z.1) zc).1),(23,.lit (.bool (bL (PP m left g.2 z.1) zc).2)),(27,OJ z.1)],z.2⟩:St))
  (λz=>z.1<=m.ae.length/\LO jh [(0,.var (ay m)),(bi,.arr 1 (rowsOf cu E))] D E g.1 g.2 z.2) (λz=>m.ae.length-z.1) (0,os) ⟨aS _,abE⟩ (Xv (X5 @PP.eq_1 @bL.eq_1 @Jk @mf.{0,0} @yY.{0,0})) ?_
 clear iP abE f0 fa fb e0 ea eb os;rintro⟨i,os⟩⟨hi,iP⟩Ql ao ax;dsimp only at hi iP ⊢;have f0:=(iP.base (0,.var (ay m)) Fl).1;have fb:=(iP.base (bi,.arr 1 (rowsOf cu E)) Fl).1;dsimp only at f0 fb;have e0:=aM f0;have eb:=aM fb;by_cases aq:i<m.ae.length
 ·have dj:=jV cf.pr _ (aF (d:=default) aq);obtain⟨Ni,Nj,Nk,EL⟩:=EI dj;have iU:=yF _ zc (Mn (m:=m) (left:=left) (by unfold lA;decide) Co.2 i);rw[Ej]at iU;have dh:bL (PP m left g.2 (i+1)) zc=((bL (PP m left g.2 i) zc).1+(cK (g.2.getD i default) (ig m left i) (0,false)).1,(bL (PP m left g.2 i) zc).2||!(cK (g.2.getD i default) (ig m left i) (0,false)).2):=by
   rw[show PP m left g.2 (i+1)=PP m left g.2 i++[cK (g.2.getD i default) (ig m left i) (0,false)] from yE _ i,B4]
  have ot:=Ei (g.2.getD i default) (ig m left i) (0,false) (ta Co.2 i) (by unfold lA;decide);have Hd:=hf.2 (m.ae.getD i default).fst.toNat CZ;have zW:=hf.2 (m.ae.getD i default).snd.toNat CZ;have hoa:=cf.opt _ (aF (l:=m.cls) (i:=(m.ae.getD i default).fst.toNat) (d:=default) CZ);have bK:=cf.opt _ (aF (l:=m.cls) (i:=(m.ae.getD i default).snd.toNat) (d:=default) CZ);have cr:=jM.tl i aq;have nJ:(g.2.getD i default).length=(ig m left i).length:=by
   unfold ig;rw[Ek,Hd,zW,cr];have:=EL;rw[<- Int.natCast_mul]at this;exact Int.ofNat_inj.1 this
  have kF:=Cl dj cf;have uy:=abA (g.2.getD i default) (ig m left i) nJ CZ;have Nt:ig m left i=qN (left.getD (m.ae.getD i default).fst.toNat default) (left.getD (m.ae.getD i default).snd.toNat default):=rfl;generalize cK (g.2.getD i default) (ig m left i) (0,false)=q at *;generalize bL (PP m left g.2 i) zc=z at *;generalize ig m left i=pb at *;generalize cg:m.ae.getD i default=p at *;generalize EP:left.getD p.fst.toNat default=la at *;generalize vI:left.getD p.snd.toNat default=lb at *;obtain⟨z1,z2⟩:=z;obtain⟨q1,q2⟩:=q;unfold lA at iU ot Ii;dsimp only at dh iU ot uy ⊢;((repeat'(first|refine Va (X4 @f0 @fb @cg @bF) ?_|(refine Xi ?_ ?_<;>try intro ht)|exact Xx|fail)))
  have hLv:LO jh ((os.length,.var (aL p))::[(0,.var (ay m)),(bi,.arr 1 (rowsOf cu E))]) D E g.1 g.2 ((os++[.var (aL p)])++[.arr 1 []]):=((iP.app _).app _).add (aM (jX _ _ _) _) Fl;refine bd (λy:Nat×List Ob×Nat×List Bool=>(⟨ar [(1,.tree 1 (rowsOf aE left)),(3,.ptr 0 0 0),(11,.ref bi 1 0 E.length),(22,OJ z1),(23,.lit (.bool z2)),(27,OJ i),(28,.ptr os.length 0 0),(29,.ref y.2.2.1 1 0 y.2.2.2.length),(30,OJ y.1)],y.2.1⟩:St))
   (λy=>y.1<=la.length/\LO jh ((os.length,.var (aL p))::[(0,.var (ay m)),(bi,.arr 1 (rowsOf cu E))]) D E g.1 g.2 y.2.1/\y.2.1[y.2.2.1]?=some (.arr 1 (br y.2.2.2))/\os.length<y.2.2.1/\y.2.2.2=qN (la.take y.1) lb)
   (λy=>la.length-y.1) (0,(os++[.var (aL p)])++[.arr 1 []],(os++[Ob.var (aL p)]).length,[]) ⟨aS _,hLv,jX _ _ _,Fl,rfl⟩ ?_ ?_
  ·refine aH.trans (aH.nil 29 1 (by simp only[Kc,simprocAttr]) Fs) ?_;exact Xv X0
  clear hLv;rintro⟨a,oy,ti,bs⟩⟨ha,Cp,eL,kk,pg⟩du bE bG;dsimp only at ha Cp eL kk pg ⊢;have fp:=(Cp.base (os.length,.var (aL p)) Fl).1;have fby:=(Cp.base (bi,.arr 1 (rowsOf cu E)) Fl).1;have bil:=(aT.1 fb).1;have osl:=(aT.1 f0).1;dsimp only at fp fby
  by_cases oJ:a<la.length
  ·((repeat'(first|refine Va (X5 @fp @cg @EP @aE.eq_1 @aL.eq_1) ?_|(refine Xi ?_ ?_<;>try intro ht)|exact Xx|fail)))
   have hta:=eQ oJ;refine bd (λy:Nat×List Ob×Nat×List Bool=>(⟨ar [(1,.tree 1 (rowsOf aE left)),(3,.ptr 0 0 0),(11,.ref bi 1 0 E.length),(22,OJ z1),(23,.lit (.bool z2)),(27,OJ i),(28,.ptr os.length 0 0),(29,.ref y.2.2.1 1 0 y.2.2.2.length),(30,OJ a),(31,OJ y.1)],y.2.1⟩:St))
    (λy=>y.1<=lb.length/\LO jh ((os.length,.var (aL p))::[(0,.var (ay m)),(bi,.arr 1 (rowsOf cu E))]) D E g.1 g.2 y.2.1/\y.2.1[y.2.2.1]?=some (.arr 1 (br y.2.2.2))/\os.length<y.2.2.1/\y.2.2.2=bs++(lb.take y.1).map (la.getD a default && ·))
    (λy=>lb.length-y.1) (0,oy,ti,bs) ⟨aS _,Cp,eL,kk,Fl⟩ (Xv X0) ?_
   rintro⟨b,ob,tb,cs⟩⟨aV,Ij,AA,Eb,jD⟩qH kE iB;dsimp only at aV Ij AA Eb jD ⊢;have ER:=(Ij.base (os.length,.var (aL p)) Fl).1;dsimp only at ER;have rL:=aM AA;have epb:=aM ER;have stb:=gZ AA;have bz:cs.length<=24*24+24:=by
    rw[jD,pg,bI,Ek,eu,fZ,fZ];have:=xM (show min a la.length<=24 by omega) (show lb.length<=24 by omega);omega
   by_cases nG:b<lb.length
   ·have akW:=eQ nG;have hLn:=((Ij.kill (y:=.gone) AA Fl (by simp only[a8,iJ,or_false,forall_eq_or_imp,forall_eq];omega)).app [.arr 1 [[.lit (.bool (la.getD a false&&lb.getD b false))]],.arr 1 (br (cs++[la.getD a false&&lb.getD b false]))]);have iV:cs++[la.getD a false&&lb.getD b false]=bs++(lb.take (b+1)).map (la.getD a default && ·):=by rw[akW,dJ,<- bw,<- jD];rfl
    have aoa:=(aT.1 AA).1;generalize hxa:la.getD a false=xa at *;generalize akY:lb.getD b false=xb at *;cases xa;all_goals
     simp only[pV,iI]at hLn iV;((repeat'(first|refine Va (X5 @ER @AA @rL @epb (X5 @stb @cg @EP @vI (X5 @hxa @akY @aE.eq_1 @aL.eq_1 (X5 @bF @bw.{0} @iq @il (X3 @bI.{0} @bH.{0} @C6))))) ?_|(refine Xi ?_ ?_<;>try intro ht)|exact Xx|fail)))
     refine kE _ (b+1,_,ob.length+1,_) ⟨Ji,hLn,oH _ _ _ _ _,Ji,iV⟩ Ji ?_;exact Xv X0
   ·rw[c9 CZ]at jD;((repeat'(first|refine Va (X5 @ER @cg @vI @aE.eq_1 @aL.eq_1) ?_|(refine V2 (X5 @ER @cg @vI @aE.eq_1 @aL.eq_1) ?_ ?_<;>try with_reducible intro hb)|(refine Xi ?_ ?_<;>try intro ht)|exact Xx|fail)))
    refine iB _ _ rfl ?_;clear kE iB qH;repeat(refine Xu ?_)
    refine Va X0 ?_;refine bE _ (a+1,ob,tb,cs) ⟨Ji,Ij,AA,Eb,by rw[hta,air,<- pg];exact jD⟩ Ji ?_;exact Xv X0
  ·rw[c9 CZ,<- Nt]at pg;subst pg;obtain⟨rJ,EM⟩:=Cp.rE.row i CZ;((repeat'(first|refine Va (X5 @fp @cg @EP @aE.eq_1 @aL.eq_1) ?_|(refine Xi ?_ ?_<;>try intro ht)|exact Xx|fail)))
   refine bG _ _ rfl ?_;clear bE bG du;repeat(refine Xu ?_)
   ((refine Va (X3 @fby @rJ @cu.eq_1) ?_)<;>try with_reducible intro K hK)
   cases z2<;>cases q2;all_goals
    refine vh [] uy Fl trivial ⟨cC.fz rJ (by rw[cU];exact EM.symm) Fl,cC.fz eL (by rw[ze]) Fl,trivial⟩ rfl Fl ?_;((try revert hK K);(repeat'(first|refine Va (X2 @km @lG) ?_|fail)))
    refine ao _ (i+1,oy) ⟨Ji,Cp.sub Fl⟩ Ji ?_;simp only[dh];exact Xv X0
 have Ik:i=m.ae.length:=CZ;rw[Ik];have Nu:=yF _ zc (Mn (m:=m) (left:=left) (by unfold lA;decide) Co.2 m.ae.length);rw[Ej]at Nu;generalize bL (PP m left g.2 m.ae.length) zc=zp at *;((repeat'(first|refine Va @f0 ?_|(refine Xi ?_ ?_<;>try intro ht)|exact Xx|fail)))
 refine ax _ _ rfl ?_;clear ao ax Ql;repeat(refine Xu ?_)
 refine Va @f0 ?_;clear hi aq;refine bd (λi:Nat=>(⟨ar [(1,.tree 1 (rowsOf aE left)),(3,.ptr 0 0 0),(22,OJ (bL (PK m left i) zp).1),(23,.lit (.bool (bL (PK m left i) zp).2)),(34,OJ i)],os⟩:St))
  (λi=>i<=m.aK.length) (λi=>m.aK.length-i) 0 (aS _) (Xv (X5 @PK.eq_1 @bL.eq_1 @Jk @mf.{0,0} @yY.{0,0})) ?_
 rintro i hi Ql ao ax;unfold lA at Ii Nu;dsimp only at Ii Nu;by_cases aq:i<m.aK.length
 ·have jT:=aF (d:=default) aq;obtain⟨q1,q2,q3,q4⟩:=Na cf hf jT;have h3:=akG m left _ cf hf jT;have UG:=Ef (λx hx=>(q1 x hx).2) left;have h4:=ajb (j5 (m.aK.getD i default).a6 0 left 0-(m.aK.getD i default).most) (m.aK.getD i default).cI CZ q3;rw[akZ q3]at h4;have iU:=yF _ zp (Mo cf (left:=left) i);rw[HL]at iU;have hvr:=VY (m.aK.getD i default).most (m.aK.getD i default).cI (j5 (m.aK.getD i default).a6 0 left 0) q2 q3.1;have dh:bL (PK m left (i+1)) zp=((bL (PK m left i) zp).1+iW left (m.aK.getD i default),(bL (PK m left i) zp).2||!!(decide ((m.aK.getD i default).cI=1099511627776)&&decide (0<iW left (m.aK.getD i default)))):=by
   rw[show PK m left (i+1)=PK m left i++[(iW left (m.aK.getD i default),!(decide ((m.aK.getD i default).cI=1099511627776)&&decide (0<iW left (m.aK.getD i default))))] from yE _ i,B4]
  unfold iW at dh;generalize bL (PK m left i) zp=z at *;obtain⟨z1,z2⟩:=z;generalize bf:m.aK.getD i default=c at *;generalize k0 c.most c.cI (j5 c.a6 0 left 0)=v at *;dsimp only at dh iU ⊢;by_cases ak0:c.cI=1099511627776;all_goals
   by_cases qy:0<v
  all_goals
   simp only[ak0,qy,decide_true,decide_false,Bool.and_true,Bool.and_false,km,lG,Bool.or_true,Bool.or_false]at dh;cases z2
  all_goals
   ((repeat'(first|refine Vc (X3 @f0 @bf @ej.eq_1) (X2 h3 h4) ?_|(refine V2 (X3 @f0 @bf @ej.eq_1) ?_ ?_<;>try with_reducible intro hb)|(refine Xi ?_ ?_<;>try intro ht)|exact Xx|fail)))
   refine ao _ (i+1) CZ CZ ?_;simp only[dh];exact Xv (X4 @gt_iff_lt.{0} @qy @decide_true @decide_false)
 ·have Nv:i=m.aK.length:=CZ;rw[Nv];have abI:=yF _ zp (Mo cf (left:=left) m.aK.length);rw[HL]at abI;generalize bL (PK m left m.aK.length) zp=zk at *;obtain⟨k1,k2⟩:=zk;dsimp only at au abI ⊢;((repeat'(first|refine Va @f0 ?_|(refine Xi ?_ ?_<;>try intro ht)|exact Xx|fail)))
  refine ax _ _ rfl ?_;clear ao ax Ql;repeat(refine Xu ?_)
  cases k2
  ·simp only[Bool.false_eq_true,if_false]at au;subst au;((repeat'(first|refine Vb @f0 ?_|(refine Xi ?_ ?_<;>try intro ht)|exact Xx|fail)))
   exact aW rfl rfl
  ·simp only[if_true]at au;subst au;((repeat'(first|refine Vb @f0 ?_|(refine Xi ?_ ?_<;>try intro ht)|exact Xx|fail)))
   exact aW rfl rfl
end T

