import Derived.Test.YtfoopmojjjpapaaGreatX15
import Derived.Test.YtfoopmojjjpapaaGreatX16
import Derived.Test.YtfoopmojjjpapaaGreatX18
set_option linter.all false
set_option maxHeartbeats 0
set_option maxRecDepth 20000
open Nat renaming zero_le→aW,min_eq_left→wm,zero_add→fc,mul_le_mul→xM,sub_self→kW,add_zero→iw
open Bool renaming not_true→kU,not_false→mH,true_and→iy,false_and→p8,and_eq_true→bg
open List renaming take_zero→lZ,length_take→fe,getD_eq_getElem?_getD→ax,getElem?_eq_getElem→bq,take_of_length_le→cZ,getElem?_map→bV,map_nil→ns,foldl_nil→zd,mem_of_mem_take→q8,mem_append→cT,mem_singleton→c8,length_map→fF,append_assoc→bz,length_append→bL,length_set→bw,getElem?_eq_some_iff→aR,map_append→dH,nodup_append→ny,mem_cons→bm,not_mem_nil→iT,set_set→rf,range_zero→Oh
open Go Go.Am Go.Proofs
namespace T
def aho(a:List cP)(b:List Bool):Holds Tryz.prog 109 [.tree 6 (rowsOf dK a),.tree 1 (a8 b)] [] (.lit (.bool (decide (a.length=b.length)))) []:=by
 refine Holds.aN 10 0 [.tmp 4] Tryz.func109 ?_;repeat'(first|(refine Xr X0 ?_;intro K hK)|refine Xo X0 ?_|(refine hK _ ?_;clear hK K)|(refine Xg X0 ?_ ?_<;>try intro hb)|(refine Xi ?_ ?_<;>try intro ht)|refine Xz ?_|refine Xh ?_|(refine Xe ?_;first|refine aU rfl ?_|refine Xl ?_ ?_)|refine Xd ?_ ?_|exact Xx|fail)
 ·congr 2;rw[Bool.eq_iff_iff,beq_iff_eq,decide_eq_true_eq];omega
def ahp(m:ah)(left:List (List Bool))(hm:MB m)(hb:BB left):Holds Tryz.prog 77 [.agg (aq m),.tree 1 (rowsOf ay left)] [] (.lit (.bool (decide (cp m left)))) []:=by
 have tz:=hm.cls;have iu:=hb.1;generalize an:decide (cp m left)=res;have hE:Holds Tryz.prog 108 [.tree 1 (rowsOf aV m.cls),.tree 1 (rowsOf ay left),.fn 109 []] [] (.lit (.bool res)) []:=by
  refine Holds.aN 32 0 [.tmp 6] Tryz.func108 ?_;by_cases hl:left.length=m.cls.length;rotate_left
  ·rw[decide_eq_false (λh:cp m left=>hl h.1)]at an;((try revert hK K);(repeat'(first|refine Va X0 ?_|(refine V2 X0 ?_ ?_<;>try with_reducible intro hb)|(refine Xi ?_ ?_<;>try intro ht)|refine VD ?_ ?_|exact Xx|fail))<;>try with_reducible intro K hK)
   all_goals try(exfalso;omega)
   repeat(first|refine Xu ?_|(refine bQ _ _ rfl ?_;clear bO bQ;try clear dL)|(refine gD _ _ rfl ?_;clear iR gD;try clear nR)|(refine tB _ _ rfl ?_;clear HI tB;try clear Me))
   ((try revert hK K);(repeat'(first|refine Vb X0 ?_|(refine V2 X0 ?_ ?_<;>try with_reducible intro hb)|(refine Xi ?_ ?_<;>try intro ht)|refine VD ?_ ?_|exact Xx|fail))<;>try with_reducible intro K hK)
   exact aU rfl (by rw[<- an])
  ((try revert hK K);(repeat'(first|refine Va X0 ?_|(refine V2 X0 ?_ ?_<;>try with_reducible intro hb)|(refine Xi ?_ ?_<;>try intro ht)|refine VD ?_ ?_|exact Xx|fail))<;>try with_reducible intro K hK)
  all_goals try(exfalso;omega)
  refine bb (λk:Nat=>(⟨ao [(1,.tree 1 (rowsOf ay left)),(2,.fn 109 []),(15,.tree 1 (rowsOf aV m.cls)),(16,Oi m.cls.length),(17,Oi k)],[]⟩:St)) (λk=>k<=m.cls.length/\∀ i,i<k->(left.getD i default).length=(m.cls.getD i default).length) (λk=>m.cls.length-k) 0 ⟨aW _,AT⟩ (Xv X0) ?_;rintro k⟨hk,hr⟩Ql ak au;by_cases bf:k<m.cls.length
  ·have h1:=hm.opt _ (aE (d:=default) bf);have h2:=hb.2 _ (aE (l:=left) (i:=k) (d:=default) AT);have hc:=aho (m.cls.getD k default) (left.getD k default);generalize pQ:m.cls.getD k default=a at *;generalize iu:left.getD k default=b at *;by_cases eX:a.length=b.length
   ·rw[decide_eq_true eX]at hc;((try revert hK K);(repeat'(first|refine Vc (X4 @pQ @iu @aV.eq_1 @ay.eq_1) hc ?_|(refine V2 (X4 @pQ @iu @aV.eq_1 @ay.eq_1) ?_ ?_<;>try with_reducible intro hb)|(refine Xi ?_ ?_<;>try intro ht)|refine VD ?_ ?_|exact Xx|fail))<;>try with_reducible intro K hK)
    all_goals try(exfalso;omega)
    exact ak _ (k+1) ⟨AT,λi hi=>by
     by_cases e:i=k
     ·subst e;rw[iu,pQ];exact eX.symm
     ·exact hr i AT⟩ AT (Xv X0)
   ·rw[decide_eq_false eX]at hc;rw[decide_eq_false (λh:cp m left=>eX (by have:=h.2 k AT;rw[iu,pQ]at this;exact this.symm))]at an;((try revert hK K);(repeat'(first|refine Vc (X4 @pQ @iu @aV.eq_1 @ay.eq_1) hc ?_|(refine V2 (X4 @pQ @iu @aV.eq_1 @ay.eq_1) ?_ ?_<;>try with_reducible intro hb)|(refine Xi ?_ ?_<;>try intro ht)|refine VD ?_ ?_|exact Xx|fail))<;>try with_reducible intro K hK)
    all_goals try(exfalso;omega)
    repeat(first|refine Xu ?_|(refine bQ _ _ rfl ?_;clear bO bQ;try clear dL)|(refine gD _ _ rfl ?_;clear iR gD;try clear nR)|(refine tB _ _ rfl ?_;clear HI tB;try clear Me))
    ((try revert hK K);(repeat'(first|refine Vb X0 ?_|(refine V2 X0 ?_ ?_<;>try with_reducible intro hb)|(refine Xi ?_ ?_<;>try intro ht)|refine VD ?_ ?_|exact Xx|fail))<;>try with_reducible intro K hK)
    exact aU rfl (by rw[<- an])
  ·rw[decide_eq_true (show cp m left from⟨hl,λi hi=>hr i AT⟩)]at an;((try revert hK K);(repeat'(first|refine Va X0 ?_|(refine V2 X0 ?_ ?_<;>try with_reducible intro hb)|(refine Xi ?_ ?_<;>try intro ht)|refine VD ?_ ?_|exact Xx|fail))<;>try with_reducible intro K hK)
   refine au _ _ rfl ?_;clear ak au Ql;repeat(first|refine Xu ?_)
   ((try revert hK K);(repeat'(first|refine Vb X0 ?_|(refine V2 X0 ?_ ?_<;>try with_reducible intro hb)|(refine Xi ?_ ?_<;>try intro ht)|refine VD ?_ ?_|exact Xx|fail))<;>try with_reducible intro K hK)
   exact aU rfl (by rw[<- an])
 refine Holds.aN 9 0 [.tmp 4] Tryz.func77 ?_;((try revert hK K);(repeat'(first|refine Vd X0 hE ?_|(refine V2 X0 ?_ ?_<;>try with_reducible intro hb)|(refine Xi ?_ ?_<;>try intro ht)|refine VD ?_ ?_|exact Xx|fail))<;>try with_reducible intro K hK)
 exact aU rfl rfl
def ahq(m:ah)(left:List (List Bool))(hm:MB m)(hb:BB left):Holds Tryz.prog 43 [.agg (aq m),.tree 1 (rowsOf ay left)] [] (.lit (.bool (decide (cp m left)))) []:=by
 have tz:=hm.cls;have iu:=hb.1;generalize an:decide (cp m left)=res;refine Holds.aN 30 0 [.tmp 4] Tryz.func43 ?_;by_cases hl:left.length=m.cls.length;rotate_left
 ·rw[decide_eq_false (λh:cp m left=>hl h.1)]at an;((repeat'(first|refine Va X0 ?_|(refine Xi ?_ ?_<;>try intro ht)|exact Xx|fail)))
  ((skip))
  exact aU rfl (by rw[<- an])
 ((repeat'(first|refine Va X0 ?_|(refine Xi ?_ ?_<;>try intro ht)|exact Xx|fail)))
 refine bb (λk:Nat=>(⟨ao [(1,.tree 1 (rowsOf ay left)),(2,.ptr 0 0 0),(5,Oi k)],[.var (aq m)]⟩:St)) (λk=>k<=left.length/\∀ i,i<k->(left.getD i default).length=(m.cls.getD i default).length) (λk=>left.length-k) 0 ⟨aW _,AT⟩ (Xv X0) ?_;rintro k⟨hk,hr⟩Ql ak au;by_cases bf:k<left.length
 ·have h1:=hm.opt _ (aE (l:=m.cls) (i:=k) (d:=default) AT);have h2:=hb.2 _ (aE (d:=default) bf);generalize pQ:m.cls.getD k default=a at *;generalize iu:left.getD k default=b at *;by_cases eX:b.length=a.length
  ·((repeat'(first|refine Va (X4 @pQ @iu @aV.eq_1 @ay.eq_1) ?_|(refine Xi ?_ ?_<;>try intro ht)|exact Xx|fail)))
   exact ak _ (k+1) ⟨AT,λi hi=>by
    by_cases e:i=k
    ·subst e;rw[iu,pQ];exact eX
    ·exact hr i AT⟩ AT (Xv X0)
  ·rw[decide_eq_false (λh:cp m left=>eX (by have:=h.2 k AT;rw[iu,pQ]at this;exact this))]at an;((repeat'(first|refine Va (X4 @pQ @iu @aV.eq_1 @ay.eq_1) ?_|(refine Xi ?_ ?_<;>try intro ht)|exact Xx|fail)))
   repeat(refine Xu ?_)
   refine Vb X0 ?_;exact aU rfl (by rw[<- an])
 ·rw[decide_eq_true (show cp m left from⟨hl,λi hi=>hr i AT⟩)]at an;((repeat'(first|refine Va X0 ?_|(refine Xi ?_ ?_<;>try intro ht)|exact Xx|fail)))
  refine au _ _ rfl ?_;clear ak au Ql;repeat(refine Xu ?_)
  refine Vb X0 ?_;exact aU rfl (by rw[<- an])
def agX(m:ah)(left:List (List Bool))(hm:MB m)(hb:BB left):Holds Tryz.prog 41 [.agg (aq m),.tree 1 (rowsOf ay left)] [] (Oi (jH m left)) []:=by
 have h1:=D5 m hm;have h2:=ahp m left hm hb;generalize an:jH m left=res;unfold jH at an;refine Holds.aN 15 0 [.tmp 4] Tryz.func41 ?_;by_cases hv:iB m=0
 ·rw[if_neg (by rw[hv];simp)]at an;rw[hv]at h1;by_cases hf:cp m left
  ·rw[if_pos hf]at an;rw[decide_eq_true hf]at h2;subst an;((try revert hK K);(repeat'(first|refine Vd (X2 @bne_self_eq_false.{0} @kU) (X2 h1 h2) ?_|(refine V2 (X2 @bne_self_eq_false.{0} @kU) ?_ ?_<;>try with_reducible intro hb)|(refine Xi ?_ ?_<;>try intro ht)|refine VD ?_ ?_|exact Xx|fail))<;>try with_reducible intro K hK)
   all_goals exact aU rfl rfl
  ·rw[if_neg hf]at an;rw[decide_eq_false hf]at h2;subst an;((try revert hK K);(repeat'(first|refine Vd (X2 @bne_self_eq_false.{0} @mH) (X2 h1 h2) ?_|(refine V2 (X2 @bne_self_eq_false.{0} @mH) ?_ ?_<;>try with_reducible intro hb)|(refine Xi ?_ ?_<;>try intro ht)|refine VD ?_ ?_|exact Xx|fail))<;>try with_reducible intro K hK)
   all_goals exact aU rfl rfl
 ·rw[if_pos hv]at an;generalize iB m=e at *;subst an;((try revert hK K);(repeat'(first|refine Vd X0 (X2 h1 h2) ?_|(refine V2 X0 ?_ ?_<;>try with_reducible intro hb)|(refine Xi ?_ ?_<;>try intro ht)|refine VD ?_ ?_|exact Xx|fail))<;>try with_reducible intro K hK)
  all_goals try(exfalso;omega)
  all_goals exact aU rfl rfl
def LV{m:ah}{left:List (List Bool)}(hm:VM m)(hf:cp m left){c:Ct}(hc:c∈m.aC):(∀ x∈c.aZ,(0<=x.cls/\x.cls<left.length)/\1<=x.wt/\x.wt<=1000)/\0<=c.most/\bJ c.cf/\c.aZ.length<=1000000:=by
 obtain⟨_,h2,h3,h4⟩:=qL (hm.ct c hc);refine⟨λx hx=>?_,h2.1,rL h3,?_⟩
 ·obtain⟨h5,h6⟩:=uA h4 x hx;obtain⟨a,b,_,_⟩:=iN.1 h5;have:=hf.1;exact⟨⟨a,AT⟩,h6⟩
 ·have:=TA hm h4;omega
def ahr (m:ah) (left:List (List Bool)) (c:Ct) (hm:VM m) (hf:cp m left) (hc:c∈m.aC):Holds Tryz.prog 49 [.agg (aq m),.tree 1 (rowsOf ay left),.agg (df c)] [] (Oi (jS c.aZ 0 left 0 - c.most)) []:=by
  obtain ⟨q1,q2,q3,q4⟩:=LV hm hf hc
  have yH:∀ x∈c.aZ,1<=x.wt/\x.wt<=1000:=λx hx=>(q1 x hx).2
  have tz:=hm.cls
  have hl:=hf.1
  have amQ:=(qL (hm.ct c hc)).2.1
  refine Holds.aN 85 0 [.tmp 6] Tryz.func49 ?_
  refine Va X0 ?_
  refine bb (λi:Nat=>(⟨ao [(1,.tree 1 (rowsOf ay left)),(3,.ptr 0 0 0),(5,.ptr 1 0 0),(7,Oi (jS c.aZ 0 (left.take i) 0)),(8,Oi i)],[.var (aq m),.var (df c)]⟩:St)) (λi=>i<=left.length) (λi=>left.length - i) 0 (aW _) (Xv (X2 @lZ.{0} (X2 @jS.eq_1 @jS.eq_2))) ?_
  rintro i hi Ql ak au
  have xZ:=DJ yH (left.take i)
  rw[fe] at xZ
  by_cases ar:i<left.length
  · have bn:(left.getD i default).length=(m.cls.getD i default).length:=hf.2 i ar
    have HA:=hm.opt _ (aE (l:=m.cls) (i:=i) (d:=default) AT)
    have eM:=ei ar
    have nS:=To c.aZ (left.getD i default) (left.take i) 0 0
    rw[<- eM,fe,wm AT,fc] at nS
    generalize jS c.aZ 0 (left.take i) 0=n at *
    generalize w0:left.getD i default=row at *
    generalize dt:m.cls.getD i default=l at *
    ((repeat' (first|refine Va X0 ?_|(refine Xi ?_ ?_<;>try intro ht)|exact Xx|fail)))
    refine bb (λo:Nat=>(⟨ao [(1,.tree 1 (rowsOf ay left)),(3,.ptr 0 0 0),(5,.ptr 1 0 0),(7,Oi n),(8,Oi i),(9,Oi (max (dD c.aZ i 0 (row.take o) (-1)) 0)),(10,.lit (.bool (decide (0<=dD c.aZ i 0 (row.take o) (-1))))),(11,Oi o)],[.var (aq m),.var (df c)]⟩:St)) (λo=>o<=row.length) (λo=>row.length - o) 0 (aW _) (Xv (X2 @lZ.{0} (X2 @dD.eq_1 @dD.eq_2))) ?_
    rintro o ho dL bO bQ
    have hb:=G0 yH i (row.take o) 0 (-1) AT
    by_cases cJ:o<row.length
    · have gV:dD c.aZ i 0 (row.take (o+1)) (-1)=if row.getD o false=true/\(dD c.aZ i 0 (row.take o) (-1)<0\/fj c.aZ i o 0<dD c.aZ i 0 (row.take o) (-1)) then fj c.aZ i o 0 else dD c.aZ i 0 (row.take o) (-1):=by
        rw[List.take_succ_eq_append_getElem cJ,K3,ax,bq cJ,fe,wm AT,fc];rfl
      have hw:=yq yH i o 0 AT
      generalize dD c.aZ i 0 (row.take o) (-1)=b at *
      generalize Ai:row.getD o false=is at *
      cases is with
      | false =>
        rw[if_neg IM] at gV
        ((repeat' (first|refine Va (X5 @dt @w0 @Ai @aV.eq_1 @ay.eq_1) ?_|(refine Xi ?_ ?_<;>try intro ht)|exact Xx|fail)))
        exact bO _ (o+1) AT AT (by simp only[gV];exact Xv X0)
      | true =>
        simp only[eq_self,true_and] at gV
        ((repeat' (first|refine Va (X5 @dt @w0 @Ai @aV.eq_1 @ay.eq_1) ?_|(refine Xi ?_ ?_<;>try intro ht)|exact Xx|fail)))
        refine bb (λk:Nat=>(⟨ao [(1,.tree 1 (rowsOf ay left)),(3,.ptr 0 0 0),(5,.ptr 1 0 0),(7,Oi n),(8,Oi i),(9,Oi (max b 0)),(10,.lit (.bool (decide (0<=b)))),(11,Oi o),(12,Oi (fj (c.aZ.take k) i o 0)),(13,Oi k)],[.var (aq m),.var (df c)]⟩:St)) (λk=>k<=c.aZ.length) (λk=>c.aZ.length - k) 0 (aW _) (Xv (X2 @lZ.{0} (X2 @fj.eq_1 @fj.eq_2))) ?_
        rintro k hk nR iR gD
        by_cases bf:k<c.aZ.length
        · have ahs:=ei bf
          have cS:=q1 _ (aE (d:=default) bf)
          have er:=Tb (c.aZ.take k) (c.aZ.getD k default) i o 0
          rw[<- ahs] at er
          generalize fj (c.aZ.take k) i o 0=w at *
          generalize Dg:c.aZ.getD k default=x at *
          ((repeat' (first|refine Va (X2 @Dg @qC.eq_1) ?_|(refine V2 (X2 @Dg @qC.eq_1) ?_ ?_<;>try with_reducible intro hb)|(refine Xi ?_ ?_<;>try intro ht)|exact Xx|fail)))
          all_goals
            refine iR _ (k+1) AT AT ?_
            simp only[er]
            first
              | rw[if_pos AT]
              | rw[if_neg AT]
            exact Xv X0
        · ((repeat' (first|refine Va X0 ?_|(refine V2 X0 ?_ ?_<;>try with_reducible intro hb)|(refine Xi ?_ ?_<;>try intro ht)|exact Xx|fail)))
          rw[cZ AT]
          refine gD _ _ rfl ?_
          clear iR gD nR
          repeat (refine Xu ?_)
          generalize fj c.aZ i o 0=w at *
          ((repeat' (first|refine Va X0 ?_|(refine V2 X0 ?_ ?_<;>try with_reducible intro hb)|(refine Xi ?_ ?_<;>try intro ht)|exact Xx|fail)))
          all_goals
            refine bO _ (o+1) AT AT ?_
            simp only[gV]
            first
              | (rw[if_pos AT];have e1:max w 0=w:=AT
                 have e2:decide (0<=w)=true:=decide_eq_true AT
                 simp only[e1,e2];exact Xv X0)
              | (rw[if_neg AT];exact Xv X0)
    · rw[cZ AT] at hb
      have jy:jR c.aZ i row=max (dD c.aZ i 0 row (-1)) 0:=rfl
      ((repeat' (first|refine Va (X3 @dt @aV.eq_1 (cZ (show row.length<=o by omega))) ?_|(refine Xi ?_ ?_<;>try intro ht)|exact Xx|fail)))
      refine bQ _ _ rfl ?_
      clear bO bQ dL
      repeat (refine Xu ?_)
      refine Va X0 ?_
      exact ak _ (i+1) AT AT (by simp only[nS,jy];exact Xv X0)
  · ((repeat' (first|refine Va (cZ (show left.length<=i by omega)) ?_|(refine Xi ?_ ?_<;>try intro ht)|exact Xx|fail)))
    refine au _ _ rfl ?_;clear ak au Ql
    repeat (refine Xu ?_)
    rw[cZ AT] at xZ
    repeat' (first|(refine Xr X0 ?_;intro K hK)|(refine hK _ ?_;clear hK K)|refine Xz ?_|(refine Xe ?_;first|refine aU rfl ?_|refine Xl ?_ ?_)|refine Xd ?_ ?_|exact Xx|fail)
def LI(x:Int):Holds Tryz.prog 111 [Oi x] [] (.agg (a6 (ew x))) []:=by
 refine Holds.aN 7 0 [.cell 2 182] Tryz.func111 ?_;refine Vb X0 ?_;simp(disch:=omega)only[Ac,↓Pc,simprocAttr,a6,ew,fW];exact aU rfl rfl
def aht(l:List cP)(R:Int)(hl:l.length<=24)(kM:∀ o∈l,ej R none o.ch=true)(hlen:∀ o∈l,o.ch.length<=100):Holds Tryz.prog 46 [.tree 6 (rowsOf dK l)] [] (.tree 1 (ints (b7 l))) []:=by
 refine Holds.aN 39 0 [.tmp 2] Tryz.func46 ?_;refine Vb X0 ?_;refine bb (λz:Nat×List Int=>(⟨ao [(0,.tree 6 (rowsOf dK l)),(3,.ref 0 1 0 z.2.length),(4,Oi z.1)],[.arr 1 (ints z.2)]⟩:St)) (λz=>z.1<=l.length/\z.2=(b7 l).take z.1) (λz=>l.length-z.1) (0,[]) ⟨aW _,rfl⟩ ?_ ?_
 ·refine aF.trans (aF.nil 3 1 (by simp only[Kc,simprocAttr]) IP) ?_;exact Xv X0
 rintro⟨i,xs⟩⟨hi,cO⟩Ql ak au;dsimp only at hi cO ⊢;have nM:(b7 l).length=l.length:=by unfold b7;simp
 by_cases ar:i<l.length
 ·have eM:=ei (l:=b7 l) (k:=i) AT;have oP:(b7 l).getD i default=qN (l.getD i default):=by
   unfold b7;rw[ax,bV,ax,bq ar];rfl
  have wT:=aE (l:=l) (d:=default) ar;have hc:=G3 (kM _ wT);have hle:=hlen _ wT;have aS:xs.length=i:=by rw[cO,fe];omega
  rw[oP,<- cO]at eM;generalize tx:l.getD i default=o at *;((repeat'(first|refine Va @tx ?_|(refine Xi ?_ ?_<;>try intro ht)|exact Xx|fail)))
  refine bb (λk:Nat=>(⟨ao [(0,.tree 6 (rowsOf dK l)),(3,.ref 0 1 0 xs.length),(4,Oi i),(5,Oi (((o.ch.take k).map (·.2)).foldl dW 0)),(6,Oi k)],[.arr 1 (ints xs)]⟩:St)) (λk=>k<=o.ch.length) (λk=>o.ch.length-k) 0 (aW _) (Xv (X3 @lZ.{0} @ns.{0,0} @zd.{0,0})) ?_;rintro k hk dL bO bQ;have hs:=DT ((o.ch.take k).map (·.2)) 0 (λx hx=>by
   obtain⟨c,iK,rfl⟩:=List.mem_map.1 hx;exact hc c (q8 iK)) (by unfold bJ;decide)
  by_cases bf:k<o.ch.length
  ·have bc:=hc _ (aE (d:=default) bf);have dm:=Tp o.ch k bf;generalize ((o.ch.take k).map (·.2)).foldl dW 0=s at *;have vL:=ahu s (o.ch.getD k default).2 hs bc;generalize cS:o.ch.getD k default=x at *;((repeat'(first|refine Vc (X4 @tx @cS @dK.eq_1 @dv.eq_1) vL ?_|(refine Xi ?_ ?_<;>try intro ht)|exact Xx|fail)))
   exact bO _ (k+1) AT AT (by simp only[dm];exact Xv X0)
  ·have kr:((o.ch.take k).map (·.2)).foldl dW 0=qN o:=by rw[cZ AT];rfl
   rw[kr]at hs;generalize ((o.ch.take k).map (·.2)).foldl dW 0=s at *;((repeat'(first|refine Va (X2 @tx @dK.eq_1) ?_|(refine Xi ?_ ?_<;>try intro ht)|exact Xx|fail)))
   refine bQ _ _ rfl ?_;clear bO bQ dL;repeat(refine Xu ?_)
   refine Va X0 ?_;refine ak _ (i+1,xs++[s]) ⟨NZ,by rw[eM,<- kr]⟩ NZ ?_;exact Xs false [2] X0
 ·rw[cZ AT]at cO;subst cO;((repeat'(first|refine Va X0 ?_|(refine Xi ?_ ?_<;>try intro ht)|exact Xx|fail)))
  refine au _ _ rfl ?_;clear ak au Ql;repeat(refine Xu ?_)
  refine Vb X0 ?_;exact Xw true [] X0
def VQ(l:List Int)(hl:l.length<=1000):Holds Tryz.prog 45 [.tree 1 (ints l)] [] (.ref 0 2 0 (dq l).length) [.arr 2 (rowsOf iX (dq l))]:=by
 refine Holds.aN 25 0 [.tmp 2] Tryz.func45 ?_;refine Vb X0 ?_;refine bb (λz:Nat×List Nm=>(⟨ao [(0,.tree 1 (ints l)),(3,.ref 0 2 0 z.2.length),(4,Oi z.1)],[.arr 2 (rowsOf iX z.2)]⟩:St)) (λz=>z.1<=l.length/\z.2=(dq l).take z.1) (λz=>l.length-z.1) (0,[]) ⟨aW _,rfl⟩ ?_ ?_
 ·refine aF.trans (aF.nil 3 2 (by simp only[Kc,simprocAttr]) IP) ?_;exact Xv X0
 rintro⟨i,xs⟩⟨hi,cO⟩Ql ak au;dsimp only at hi cO ⊢;have nM:(dq l).length=l.length:=by unfold dq;simp
 by_cases ar:i<l.length
 ·have eM:=ei (l:=dq l) (k:=i) AT;have oP:(dq l).getD i default=ew (l.getD i 0):=by
   unfold dq;rw[ax,bV,ax,bq ar];rfl
  have aS:xs.length=i:=by rw[cO,fe];omega
  rw[oP,<- cO]at eM;generalize tx:l.getD i 0=o at *;((repeat'(first|refine Va @tx ?_|(refine Xi ?_ ?_<;>try intro ht)|exact Xx|fail)))
  refine ak _ (i+1,xs++[ew o]) ⟨NZ,eM.symm⟩ NZ ?_;have eno:[[AV.lit (.bool (decide (o >= 1099511627776))),AV.lit (.int .i64 o)]]=rowsOf iX [ew o]:=rfl;exact Xs false [2] (X2 @eno @J9)
 ·rw[cZ AT]at cO;subst cO;((repeat'(first|refine Va X0 ?_|(refine Xi ?_ ?_<;>try intro ht)|exact Xx|fail)))
  refine au _ _ rfl ?_;clear ak au Ql;repeat(refine Xu ?_)
  refine Vb X0 ?_;exact Xw false [0] X0
def VR(l:List Nm)(s:List Bool)(hl:l.length=s.length)(fY:l.length<9223372036854775808):Holds Tryz.prog 47 [.tree 2 (rowsOf iX l),.tree 1 (a8 s)] [] (.bu [Oi (cI l s (0,false)).1,.lit (.bool (cI l s (0,false)).2)]) []:=by
 refine Holds.aN 47 0 [.tmp 4,.tmp 5] Tryz.func47 ?_;refine Vb X0 ?_;refine bb (λi:Nat=>(⟨ao [(0,.tree 2 (rowsOf iX l)),(1,.tree 1 (a8 s)),(6,Oi (cI (l.take i) (s.take i) (0,false)).1),(7,.lit (.bool (cI (l.take i) (s.take i) (0,false)).2)),(8,Oi i)],[]⟩:St)) (λi=>i<=l.length) (λi=>l.length-i) 0 (aW _) (Xv (X2 @lZ.{0} (X2 @cI.eq_1 @cI.eq_2))) ?_;rintro i hi Ql ak au;by_cases ar:i<l.length
 ·have h1:=ei ar;have h2:=ei (l:=s) (k:=i) AT;have h3:=Ts (l.getD i default) (s.getD i default) (l.take i) (s.take i) (0,false) (by rw[fe,fe];omega);rw[<- h1,<- h2]at h3;have tq:s.getD i default=s.getD i false:=rfl;rw[tq]at h3;generalize cI (l.take i) (s.take i) (0,false)=b at *;generalize cB:l.getD i default=p at *;generalize nS:s.getD i false=is at *;unfold Tq at h3;obtain⟨b1,b2⟩:=b;obtain⟨p1,p2⟩:=p;dsimp only at h3 ⊢;by_cases aS:p1<b1;all_goals
   cases is<;>cases p2<;>cases b2
  all_goals
   simp[aS]at h3;((repeat'(first|refine Va (X3 @cB @nS @iX.eq_1) ?_|(refine Xi ?_ ?_<;>try intro ht)|exact Xx|fail)))
   all_goals
    refine ak _ (i+1) AT AT ?_;simp only[h3];exact Xv X0
 ·((repeat'(first|refine Va X0 ?_|(refine V2 X0 ?_ ?_<;>try with_reducible intro hb)|(refine Xi ?_ ?_<;>try intro ht)|exact Xx|fail)))
  refine au _ _ rfl ?_;clear ak au Ql;repeat(refine Xu ?_)
  rw[cZ AT,cZ AT];refine Vb X0 ?_;exact aU rfl rfl
def Vz(l:List Nm)(fY:l.length<9223372036854775808):Holds Tryz.prog 114 [.tree 2 (rowsOf a6 l)] [] (.agg (a6 (tg l))) []:=by
 refine Holds.aN 30 0 [.cell 2 182] Tryz.func114 ?_;refine Vb X0 ?_;refine bb (λi:Nat=>(⟨ao [(2,.ptr 0 0 0),(3,.ptr 1 0 0),(7,.tree 2 (rowsOf a6 l)),(8,Oi l.length),(9,Oi i)],[.var [Oi 0,.lit (.bool false)],.var (a6 (tg (l.take i)))]⟩:St)) (λi=>i<=l.length) (λi=>l.length-i) 0 (aW _) (Xv @lZ.{0}) ?_;rintro i hi Ql ak au;by_cases ar:i<l.length
 ·have h1:=ei ar;have h3:=afA (l.take i) (l.getD i default);rw[<- h1]at h3;generalize tg (l.take i)=b at *;generalize cB:l.getD i default=p at *;unfold BY at h3;obtain⟨b1,b2⟩:=b;obtain⟨p1,p2⟩:=p;dsimp only at h3 ⊢;unfold a6;dsimp only;by_cases aS:p1<b1;all_goals
   cases p2<;>cases b2
  all_goals
   simp[aS]at h3;((repeat'(first|refine Va (X2 @cB @a6.eq_1) ?_|(refine Xi ?_ ?_<;>try intro ht)|exact Xx|fail)))
   all_goals
    refine ak _ (i+1) AT AT ?_;simp only[h3];exact Xs false [0,1] @a6.eq_1
 ·((repeat'(first|refine Va @a6.eq_1 ?_|(refine V2 @a6.eq_1 ?_ ?_<;>try with_reducible intro hb)|(refine Xi ?_ ?_<;>try intro ht)|exact Xx|fail)))
  refine au _ _ rfl ?_;clear ak au Ql;repeat(refine Xu ?_)
  rw[cZ AT];refine Vb @a6.eq_1 ?_;simp(disch:=omega)only[Ac,↓Pc,simprocAttr,a6,fW];exact aU rfl rfl
def ahw(m:ah)(x:Mv)(hm:VM m):Holds Tryz.prog 44 [.agg (aq m),.agg (aP x)] [] (.lit (.bool (il m x))) []:=by
 have uO:=hm.ae;have ho:=VS m (eI m x) x.opt;generalize an:il m x=res;unfold il at an;unfold eI at an ho;refine Holds.aN 58 0 [.tmp 4] Tryz.func44 ?_;by_cases hr:0<=x.pair/\x.pair<m.ae.length/\0<=x.side/\x.side<=1/\-268435456<=x.amt/\x.amt<=268435456
 ·rw[decide_eq_true hr,iy]at an;generalize cB:m.ae.getD x.pair.toNat default=p at *;by_cases hs:x.side=0
  ·rw[if_pos hs]at an ho;rw[an]at ho;((repeat'(first|refine Vd (X3 @cB @aP.eq_1 @aG.eq_1) ho ?_|(refine V2 (X3 @cB @aP.eq_1 @aG.eq_1) ?_ ?_<;>try with_reducible intro hb)|(refine Xi ?_ ?_<;>try intro ht)|exact Xx|fail)))
   all_goals exact aU rfl rfl
  ·rw[if_neg hs]at an ho;rw[an]at ho;((repeat'(first|refine Vd (X3 @cB @aP.eq_1 @aG.eq_1) ho ?_|(refine V2 (X3 @cB @aP.eq_1 @aG.eq_1) ?_ ?_<;>try with_reducible intro hb)|(refine Xi ?_ ?_<;>try intro ht)|exact Xx|fail)))
   all_goals exact aU rfl rfl
 ·rw[decide_eq_false hr,p8]at an;((repeat'(first|refine Vb (X2 @aP.eq_1 @aG.eq_1) ?_|(refine V2 (X2 @aP.eq_1 @aG.eq_1) ?_ ?_<;>try with_reducible intro hb)|(refine Xi ?_ ?_<;>try intro ht)|exact Xx|fail)))
  all_goals exact aU rfl (by rw[an])
def Vv{m:ah}(hm:VM m){c:List cP}(hc:c∈m.cls){o:cP}(ho:o∈c):o.ch.length<=100:=by
 have h:=hm.qK c hc o ho;have hr:=hm.uD;cases kM:o.ch with
 |nil=>simp
 |cons x r =>
  rw[kM,ej]at h;simp only[bg,decide_eq_true_eq,jJ]at h;rcases K8 h.2 with rfl|h2
  ·simp
  ·simp only[List.length_cons];omega
def Ce{m:ah}{p:Pr}(hp:gA m p=true)(hm:VM m):p.aB.length<=576:=by
 unfold gA at hp;simp only[bg,decide_eq_true_eq]at hp;obtain⟨⟨_,h1,h2,h3,h4⟩,_⟩:=hp;have a:=hm.opt _ (aE (l:=m.cls) (i:=p.fst.toNat) (d:=default) AT);have b:=hm.opt _ (aE (l:=m.cls) (i:=p.snd.toNat) (d:=default) AT);have:=xM a b;have e:(p.aB.length:Int)=((m.cls.getD p.fst.toNat default).length*(m.cls.getD p.snd.toNat default).length:Nat):=by rw[h4];simp
 omega
def Eb{m:ah}{p:Pr}(hp:gA m p=true):0<=p.fst/\p.fst<p.snd/\p.snd<m.cls.length/\(p.aB.length:Int)=(m.cls.getD p.fst.toNat default).length*(m.cls.getD p.snd.toNat default).length:=by
 unfold gA at hp;simp only[bg,decide_eq_true_eq]at hp;exact hp.1.2
def HF{a k c n:Int}(ha:0<=a/\a<n)(hk:0<=k/\k<c)(hc:c<=24)(hn:n<=24):0<=a*c/\a*c<=576/\0<=a*c+k/\a*c+k<n*c:=by
 have h1:0<=a*c:=Int.mul_nonneg ha.1 AT;have h2:(a+1)*c<=n*c:=Int.mul_le_mul_of_nonneg_right AT AT;rw[Int.add_mul]at h2;have h3:n*c<=24*24:=Int.mul_le_mul hn hc AT AT;omega
def ael(m:ah)(left:List (List Bool))(l:List Mv)(hm:MB m)(hb:BB left)(hl:l.length<9223372036854775808):Holds Tryz.prog 18 [.agg (aq m),.tree 1 (rowsOf ay left),.tree 4 (rowsOf aP l)] [] (.bu [Oi (b6 m left l).1,Oi (b6 m left l).2]) []:=by
 have h1:=F8 m hm;have h2:=ahq m left hm hb;generalize an:b6 m left l=res;unfold b6 jH at an;refine Holds.aN 342 0 [.tmp 6,.tmp 7] Tryz.func18 ?_;by_cases hv:iB m=0;rotate_left
 ·rw[if_pos (c:=iB m≠0) hv,if_pos hv]at an;generalize iB m=e at *;subst an;((repeat'(first|refine Vd X0 (X2 h1 h2) ?_|(refine Xi ?_ ?_<;>try intro ht)|exact Xx|fail)))
  all_goals exact aU rfl rfl
 rw[if_neg (c:=iB m≠0) (by rw[hv];simp)]at an;rw[hv]at h1;by_cases hf:cp m left;rotate_left
 ·rw[if_neg hf,if_pos IM]at an;rw[decide_eq_false hf]at h2;subst an;((repeat'(first|refine Vd (X2 @bne_self_eq_false.{0} @mH) (X2 h1 h2) ?_|(refine Xi ?_ ?_<;>try intro ht)|exact Xx|fail)))
  all_goals exact aU rfl rfl
 rw[if_pos hf,if_neg IM]at an;rw[decide_eq_true hf]at h2;have bG:=jD.1 hv;have mY:=bG.cls;have oO:=bG.ae;have FG:=bG.aC;unfold fZ at an;by_cases hlen:2000<l.length
 ·rw[if_pos hlen]at an;subst an;((repeat'(first|refine Vd (X2 @bne_self_eq_false.{0} @kU) (X2 h1 h2) ?_|(refine Xi ?_ ?_<;>try intro ht)|exact Xx|fail)))
  all_goals exact aU rfl rfl
 rw[if_neg hlen]at an;((repeat'(first|refine Vd (X2 @bne_self_eq_false.{0} @kU) (X2 h1 h2) ?_|(refine Xi ?_ ?_<;>try intro ht)|exact Xx|fail)))
 refine bb (λi:Nat=>(⟨ao [(1,.tree 1 (rowsOf ay left)),(2,.tree 4 (rowsOf aP l)),(3,.ptr 0 0 0),(9,Oi i)],[.var (aq m)]⟩:St)) (λi=>i<=l.length/\∀ x∈l.take i,il m x=true) (λi=>l.length-i) 0 ⟨aW _,IM⟩ (Xv X0) ?_;rintro i⟨hi,eT⟩Ql ak au;by_cases ar:i<l.length
 ·have oC:=ahw m (l.getD i default) bG;have eM:=ei ar;have cq:=aE (d:=default) ar;generalize cS:l.getD i default=x at *;by_cases hx:il m x=true
  ·rw[hx]at oC;((repeat'(first|refine Vc (X3 @cS @aP.eq_1 @kU) oC ?_|(refine Xi ?_ ?_<;>try intro ht)|exact Xx|fail)))
   exact ak _ (i+1) ⟨AT,λy hy=>by
    rw[eM]at hy;rcases cT.1 hy with hy|hy
    ·exact eT y hy
    ·simp only[c8]at hy;subst hy;exact hx⟩ AT (Xv X0)
  ·have bW:il m x=false:=by simpa using hx
   rw[bW]at oC;rw[if_pos (by rw[List.all_eq_false];exact⟨x,cq,hx⟩)]at an;subst an;((repeat'(first|refine Vc (X3 @cS @aP.eq_1 @mH) oC ?_|(refine Xi ?_ ?_<;>try intro ht)|exact Xx|fail)))
   repeat(refine Xu ?_)
   refine Vb X0 ?_;exact aU rfl rfl
 rw[cZ AT]at eT;rw[if_neg (by rw[Bool.not_eq_false];exact List.all_eq_true.2 eT)]at an;((repeat'(first|refine Va X0 ?_|(refine Xi ?_ ?_<;>try intro ht)|exact Xx|fail)))
 refine au _ _ rfl ?_;clear ak au Ql;repeat(refine Xu ?_)
 refine Va X0 ?_;have ho0:([.var (aq m)]:List Ob)[0]?=some (.var (aq m)):=rfl;refine bb (λz:Nat×List Ob×Nat×List (Nat×Nat)=>(⟨ao [(1,.tree 1 (rowsOf ay left)),(2,.tree 4 (rowsOf aP l)),(3,.ptr 0 0 0),(10,.ref z.2.2.1 1 0 z.2.2.2.length),(11,.lit (.slice none 0 0)),(12,Oi z.1)],z.2.1⟩:St))
  (λz=>z.1<=m.cls.length/\z.2.2.2.length=z.1/\z.2.1[0]?=some (.var (aq m))/\z.2.1[z.2.2.1]?=some (.arr 1 (rowsOf cA z.2.2.2))/\RI iX z.2.1 z.2.2.2 ((S0 m).take z.1)/\(z.2.2.2.map (·.1)).Nodup)
  (λz=>m.cls.length-z.1) (0,[.var (aq m),.arr 1 []],1,[]) ⟨aW _,rfl,rfl,rfl,by rw[lZ];exact RI.nil,IM⟩ ?_ ?_
 ·refine aF.trans (aF.nil 10 1 (by simp only[Kc,simprocAttr]) IP) ?_;exact Xv X0
 clear hi ar ho0;rintro⟨i,os,ai,D⟩⟨hi,hD,f0,fa,hR,bx⟩Ql ak au;dsimp only at hi hD f0 fa hR bx ⊢;have e0:=aK f0;have ea:=aK fa;have sa:=iG fa;by_cases ar:i<m.cls.length
 ·have jk:=aE (d:=default) ar;have qD:=bG.opt _ jk;have Aj:=aht (m.cls.getD i default) m.rules qD (bG.qK _ jk) (λo ho=>Vv bG jk ho);have Mf:=VQ (b7 (m.cls.getD i default)) (by unfold b7;rw[fF];omega);generalize bc:m.cls.getD i default=c at *;((repeat'(first|refine Vc (X5 @f0 @fa @e0 @ea (X3 @bc @aV.eq_1 @bH)) Aj ?_|(refine Xi ?_ ?_<;>try intro ht)|exact Xx|fail))<;>try with_reducible intro K hK)
  refine jc [] Mf IM trivial ⟨.pure rfl,trivial⟩ ?_;have Mg:(0:Nat)≠ai:=λe=>by rw[<- e,f0]at fa;cases fa
  obtain⟨g1,g2,g3,g4⟩:=RI.step fa IM hR bx (dq (b7 c)) (.arr 1 [[.ref os.length 2 0 (dq (b7 c)).length]]) (.arr 1 (rowsOf cA (D++[(os.length,(dq (b7 c)).length)])));have eM:(S0 m).take (i+1)=(S0 m).take i++[dq (b7 c)]:=by
   rw[ei (by unfold S0;rw[fF];exact ar)];unfold S0;rw[gR _ _ _ ar,bc]
  ((try revert hK K);((refine Va (X5 @f0 @fa @e0 @ea (X5 @sa @bc @aV.eq_1 @bH (X5 @bz.{0} @kW @iw @G5 (X2 @bL.{0} @bw.{0})))) ?_)))
  refine ak _ (i+1,_,os.length+2,D++[(os.length,(dq (b7 c)).length)]) ⟨NZ,N0,g4 _ _ f0 Mg,g1,by rw[eM];exact g2,g3⟩ NZ ?_;exact Xv X0
 rw[cZ (by unfold S0;rw[fF];omega)]at hR;have Hp:D.length=m.cls.length:=AT;((repeat'(first|refine Va (X4 @f0 @fa @e0 @ea) ?_|(refine Xi ?_ ?_<;>try intro ht)|exact Xx|fail)))
 refine au _ _ rfl ?_;clear ak au Ql;repeat(refine Xu ?_)
 refine Va (X2 @f0 @fa) ?_;clear hi ar hD e0 ea sa;have VT:(os++[Ob.arr 1 []])[os.length]?=some (.arr 1 (rowsOf cA [])):=by rw[ka];rfl
 refine bb (λz:Nat×List Ob×Nat×List (Nat×Nat)=>(⟨ao [(1,.tree 1 (rowsOf ay left)),(2,.tree 4 (rowsOf aP l)),(3,.ptr 0 0 0),(10,.ref ai 1 0 D.length),(11,.ref z.2.2.1 1 0 z.2.2.2.length),(13,Oi z.1)],z.2.1⟩:St))
  (λz=>z.1<=m.ae.length/\z.2.2.2.length=z.1/\z.2.1[0]?=some (.var (aq m))/\z.2.1[ai]?=some (.arr 1 (rowsOf cA D))/\z.2.1[z.2.2.1]?=some (.arr 1 (rowsOf cA z.2.2.2))/\z.2.2.1≠ai/\RI iX z.2.1 D (S0 m)/\RI iX z.2.1 z.2.2.2 ((T0 m).take z.1)/\((D++z.2.2.2).map (·.1)).Nodup)
  (λz=>m.ae.length-z.1) (0,os++[.arr 1 []],os.length,[]) ⟨aW _,rfl,aK f0 _,aK fa _,VT,λe=>by have h2:=(aR.1 fa).1;dsimp only at e;omega,hR.app _,by rw[lZ];exact RI.nil,by simpa using bx⟩ ?_ ?_
 ·refine aF.trans (aF.nil 11 1 (by simp only[Kc,simprocAttr]) IP) ?_;exact Xv X0
 clear f0 fa hR bx VT os;rintro⟨i,os,bi,E⟩⟨hi,hE,f0,fa,fb,eX,Eh,Ei,bx⟩Ql ak au;dsimp only at hi hE f0 fa fb eX Eh Ei bx ⊢;have e0:=aK f0;have eb:=aK fb;have sb:=iG fb;by_cases ar:i<m.ae.length
 ·have Lu:=jG bG.pr _ (aE (d:=default) ar);have nk:=(Ce Lu bG);have Mf:=VQ (m.ae.getD i default).aB AT;have Mg:(0:Nat)≠bi:=λe=>by rw[<- e,f0]at fb;cases fb
  rw[dH,ny]at bx;obtain⟨g1,g2,g3,g4⟩:=RI.step fb IM Ei bx.2.1 (dq (m.ae.getD i default).aB) (.arr 1 [[.ref os.length 2 0 (dq (m.ae.getD i default).aB).length]]) (.arr 1 (rowsOf cA (E++[(os.length,(dq (m.ae.getD i default).aB).length)])));have eM:(T0 m).take (i+1)=(T0 m).take i++[dq (m.ae.getD i default).aB]:=by
   rw[ei (by unfold T0;rw[fF];exact ar)];unfold T0;rw[gR _ _ _ ar]
  have ahy:=(Eh.kill (y:=.gone) fb IM).app [.arr 2 (rowsOf iX (dq (m.ae.getD i default).aB)),.arr 1 [[.ref os.length 2 0 (dq (m.ae.getD i default).aB).length]],.arr 1 (rowsOf cA (E++[(os.length,(dq (m.ae.getD i default).aB).length)]))];have HJ:((D++(E++[(os.length,(dq (m.ae.getD i default).aB).length)])).map (·.1)).Nodup:=by
   rw[dH,ny];refine⟨bx.1,g3,λa ha b hb=>?_⟩;rw[dH,cT]at hb;rcases hb with hb|hb
   ·exact bx.2.2 a ha b hb
   ·simp only[List.map_cons,ns,c8]at hb;subst hb;exact λe=>Eh.fresh (Nat.le_refl _) (e▸ha)
  have fal:=(aR.1 fa).1;generalize cB:m.ae.getD i default=p at *;((repeat'(first|refine Va (X5 @f0 @fb @e0 @eb (X3 @cB @aG.eq_1 @bH)) ?_|(refine Xi ?_ ?_<;>try intro ht)|exact Xx|fail))<;>try with_reducible intro K hK)
  refine jc [] Mf IM trivial ⟨.pure rfl,trivial⟩ ?_;((try revert hK K);((refine Va (X5 @f0 @fb @e0 @eb (X5 @sb @cB @aG.eq_1 @bH (X5 @bz.{0} @kW @iw @G5 (X2 @bL.{0} @bw.{0})))) ?_)))
  refine ak _ (i+1,_,os.length+2,E++[(os.length,(dq p.aB).length)]) ⟨NZ,N0,g4 _ _ f0 Mg,g4 _ _ fa eX.symm,g1,NZ,ahy,by rw[eM];exact g2,HJ⟩ NZ ?_;exact Xv X0
 rw[cZ (by unfold T0;rw[fF];omega)]at Ei;have yI:E.length=m.ae.length:=AT;((repeat'(first|refine Va (X4 @f0 @fa @e0 @eb) ?_|(refine Xi ?_ ?_<;>try intro ht)|exact Xx|fail)))
 refine au _ _ rfl ?_;clear ak au Ql;repeat(refine Xu ?_)
 refine Va (X2 @f0 @fa) ?_;clear hi ar hE e0 eb sb;have iI:LO iX [(0,.var (aq m)),(ai,.arr 1 (rowsOf cA D)),(bi,.arr 1 (rowsOf cA E))] D E (S0 m) (T0 m) os:=⟨λb hb=>by
  simp only[bm,iT,or_false]at hb;rcases hb with rfl|rfl|rfl
  ·exact⟨f0,IM⟩
  ·exact⟨fa,IM⟩
  ·exact⟨fb,IM⟩,Eh,Ei,bx⟩
 refine bb (λz:Nat×List Ob=>(⟨ao [(1,.tree 1 (rowsOf ay left)),(2,.tree 4 (rowsOf aP l)),(3,.ptr 0 0 0),(10,.ref ai 1 0 D.length),(11,.ref bi 1 0 E.length),(14,Oi z.1)],z.2⟩:St))
  (λz=>z.1<=l.length/\LO iX [(0,.var (aq m)),(ai,.arr 1 (rowsOf cA D)),(bi,.arr 1 (rowsOf cA E))] D E (iF m (l.take z.1) (S0 m,T0 m)).1 (iF m (l.take z.1) (S0 m,T0 m)).2 z.2)
  (λz=>l.length-z.1) (0,os) ⟨aW _,iI⟩ (Xv X0) ?_
 clear f0 fa fb Eh Ei bx iI os;rintro⟨i,os⟩⟨hi,iI⟩Ql ak au;dsimp only at hi iI ⊢;have f0:=(iI.base (0,.var (aq m)) IM).1;have fa:=(iI.base (ai,.arr 1 (rowsOf cA D)) IM).1;have fb:=(iI.base (bi,.arr 1 (rowsOf cA E)) IM).1;have e0:=aK f0;have ea:=aK fa;have eb:=aK fb;dsimp only at f0 fa fb e0 ea eb;by_cases ar:i<l.length
 ·have hxm:=aE (d:=default) ar;have nJ:=eT _ hxm;have eM:iF m (l.take (i+1)) (S0 m,T0 m)=jF m (l.getD i default) (iF m (l.take i) (S0 m,T0 m)):=by rw[ei ar,SN]
  have kl:=GK bG (l.take i) (λx hx=>eT x (q8 hx));rw[fe,wm AT]at kl;generalize iF m (l.take i) (S0 m,T0 m)=g at *;generalize cS:l.getD i default=x at *;have Mh:=nJ;unfold il at Mh;rw[bg,decide_eq_true_eq]at Mh;obtain⟨⟨x1,x2,x3,x4,x5,x6⟩,lR⟩:=Mh;obtain⟨o1,o2,o3,o4⟩:=iN.1 lR;have dp:=jG bG.pr _ (aE (l:=m.ae) (i:=x.pair.toNat) (d:=default) AT);obtain⟨LY,LZ,L0,Ed⟩:=Eb dp;have hlF:=bG.opt _ (aE (l:=m.cls) (i:=(m.ae.getD x.pair.toNat default).fst.toNat) (d:=default) AT);have hlS:=bG.opt _ (aE (l:=m.cls) (i:=(m.ae.getD x.pair.toNat default).snd.toNat) (d:=default) AT);obtain⟨rU,Ee⟩:=iI.rE.row x.pair.toNat AT;obtain⟨ly,yG⟩:=iI.rD.row (eI m x).toNat AT;have qe:=aK rU;have qd:=aK ly;have HB:=kl.sl (eI m x).toNat AT;have Ca:=kl.tl x.pair.toNat AT;have amT:(List.getD E x.pair.toNat default).1=(List.getD E x.pair.toNat default).1:=rfl;by_cases hs:x.side=0
  ·have hc:eI m x=(m.ae.getD x.pair.toNat default).fst:=by unfold eI;rw[if_pos hs]
   rw[hc]at ly yG qd HB o1 o2 o4;have sd:=iG ly;have oh:=(te kl.sb (m.ae.getD x.pair.toNat default).fst.toNat).get AT x.opt.toNat;have hF:nN m x=(λk:Nat=>(x.opt*(m.cls.getD (m.ae.getD x.pair.toNat default).snd.toNat default).length+k).toNat,(m.cls.getD (m.ae.getD x.pair.toNat default).snd.toNat default).length):=by unfold nN;rw[if_pos hs]
   have xi:jF m x g=(g.1.set (m.ae.getD x.pair.toNat default).fst.toNat (jn (g.1.getD (m.ae.getD x.pair.toNat default).fst.toNat default) x.opt.toNat x.amt),g.2.set x.pair.toNat (gq (nN m x).1 x.amt (nN m x).2 (g.2.getD x.pair.toNat default))):=by unfold jF;rw[hc]
   have Cg:=(iI.z6 (j:=(m.ae.getD x.pair.toNat default).fst.toNat) AT (r:=jn (g.1.getD (m.ae.getD x.pair.toNat default).fst.toNat default) x.opt.toNat x.amt) (w6 _ _ _)).vars (bw ..) (.var (aP x)) (.var (aG (m.ae.getD x.pair.toNat default))) IM IM;generalize cB:m.ae.getD x.pair.toNat default=p at *;generalize Ef:(m.cls.getD p.snd.toNat default).length=c7 at *;((repeat'(first|refine Va (X5 @f0 @fa @fb @e0 (X5 @ea @eb @cS @cB (X5 @Ef @aP.eq_1 @aG.eq_1 @aV.eq_1 (X5 @cA.eq_1 @iX.eq_1 @rU @ly (X5 @qe @qd @sd @bH (X5 @G7 @bz.{0} @kW @iw @bL.{0})))))) ?_|(refine Xi ?_ ?_<;>try intro ht)|exact Xx|fail)))
   rw[hF]at xi;dsimp only at xi;refine bb (λz:Nat×List Ob=>(⟨ao [(1,.tree 1 (rowsOf ay left)),(2,.tree 4 (rowsOf aP l)),(3,.ptr 0 0 0),(10,.ref ai 1 0 D.length),(11,.ref bi 1 0 E.length),(14,Oi i),(15,.ptr os.length 0 0),(18,Oi c7),(19,.ref (E.getD x.pair.toNat default).1 2 0 (E.getD x.pair.toNat default).2),(20,Oi z.1)],z.2⟩:St))
    (λz=>z.1<=c7/\LO iX ((os.length,.var (aP x))::(os.length+1,.var (aG p))::[(0,.var (aq m)),(ai,.arr 1 (rowsOf cA D)),(bi,.arr 1 (rowsOf cA E))]) D E (g.1.set p.fst.toNat (jn (g.1.getD p.fst.toNat default) x.opt.toNat x.amt)) (g.2.set x.pair.toNat (gq (λk:Nat=>(x.opt*c7+k).toNat) x.amt z.1 (g.2.getD x.pair.toNat default))) z.2)
    (λz=>c7-z.1) (0,_) ⟨aW _,by rw[gq,yi];exact Cg⟩ (Xv X0) ?_
   rintro⟨k,ok⟩⟨hk,jW⟩dL bO bQ;dsimp only at hk jW ⊢;have fx:=(jW.base (os.length,.var (aP x)) IM).1;dsimp only at fx;obtain⟨rV,Ag⟩:=jW.rE.row x.pair.toNat AT;have vN:x.pair.toNat<g.2.length:=by rw[kl.t];omega
   rw[rJ _ _ _ vN]at rV Ag;have iU:=zU (λk:Nat=>(x.opt*c7+k).toNat) x.amt k (g.2.getD x.pair.toNat default);have L5:=((te kl.tb x.pair.toNat).sub AT (λk:Nat=>(x.opt*c7+k).toNat) (a:=x.amt) AT k).get AT (x.opt*c7+k:Int).toNat;by_cases bf:k<c7
   ·have lW:=jW.yA (j:=x.pair.toNat) AT (r:=jn (gq (λk:Nat=>(x.opt*c7+k).toNat) x.amt k (g.2.getD x.pair.toNat default)) (x.opt*c7+k:Int).toNat (-x.amt)) (by rw[rJ _ _ _ vN];exact w6 _ _ _);rw[rf]at lW;obtain⟨L6,L7,L8,L9⟩:=HF (a:=x.opt) (k:=(k:Int)) (c:=(c7:Int)) (n:=((m.cls.getD p.fst.toNat default).length:Int)) ⟨o3,o4⟩ AT AT AT;generalize uN:(x.opt*c7+k:Int)=ix at *;generalize gV:gq (λk:Nat=>(x.opt*c7+k).toNat) x.amt k (g.2.getD x.pair.toNat default)=tk at *;((repeat'(first|refine Va (X5 @fx @cS @rV @aP.eq_1 (X4 @iX.eq_1 @G7 @uN @Int.sub_eq_add_neg)) ?_|(refine Xi ?_ ?_<;>try intro ht)|exact Xx|fail)))
    refine bO _ (k+1,_) ⟨NZ,by rw[gq,gV,uN];exact lW⟩ NZ ?_;exact Xv X0
   ·have xl:k=c7:=AT;rw[xl]at jW;((repeat'(first|refine Va X0 ?_|(refine Xi ?_ ?_<;>try intro ht)|exact Xx|fail)))
    refine bQ _ _ rfl ?_;clear bO bQ dL;repeat(refine Xu ?_)
    refine Va X0 ?_;refine ak _ (i+1,_) ⟨NZ,by rw[eM,xi];exact jW.sub IM⟩ NZ ?_;exact Xv X0
  ·have hc:eI m x=(m.ae.getD x.pair.toNat default).snd:=by unfold eI;rw[if_neg hs]
   rw[hc]at ly yG qd HB o1 o2 o4;have sd:=iG ly;have oh:=(te kl.sb (m.ae.getD x.pair.toNat default).snd.toNat).get AT x.opt.toNat;have hF:nN m x=(λk:Nat=>((k:Int)*(m.cls.getD (m.ae.getD x.pair.toNat default).snd.toNat default).length+x.opt).toNat,(m.cls.getD (m.ae.getD x.pair.toNat default).fst.toNat default).length):=by unfold nN;rw[if_neg hs]
   have xi:jF m x g=(g.1.set (m.ae.getD x.pair.toNat default).snd.toNat (jn (g.1.getD (m.ae.getD x.pair.toNat default).snd.toNat default) x.opt.toNat x.amt),g.2.set x.pair.toNat (gq (nN m x).1 x.amt (nN m x).2 (g.2.getD x.pair.toNat default))):=by unfold jF;rw[hc]
   have Cg:=(iI.z6 (j:=(m.ae.getD x.pair.toNat default).snd.toNat) AT (r:=jn (g.1.getD (m.ae.getD x.pair.toNat default).snd.toNat default) x.opt.toNat x.amt) (w6 _ _ _)).vars (bw ..) (.var (aP x)) (.var (aG (m.ae.getD x.pair.toNat default))) IM IM;generalize cB:m.ae.getD x.pair.toNat default=p at *;generalize Ef:(m.cls.getD p.snd.toNat default).length=c7 at *;generalize L3:(m.cls.getD p.fst.toNat default).length=rows at *;((repeat'(first|refine Va (X5 @f0 @fa @fb @e0 (X5 @ea @eb @cS @cB (X5 @Ef @L3 @aP.eq_1 @aG.eq_1 (X5 @aV.eq_1 @cA.eq_1 @iX.eq_1 @rU (X5 @ly @qe @qd @sd (X5 @bH @G7 @bz.{0} @kW (X2 @iw @bL.{0}))))))) ?_|(refine Xi ?_ ?_<;>try intro ht)|exact Xx|fail)))
   rw[hF]at xi;dsimp only at xi;refine bb (λz:Nat×List Ob=>(⟨ao [(1,.tree 1 (rowsOf ay left)),(2,.tree 4 (rowsOf aP l)),(3,.ptr 0 0 0),(10,.ref ai 1 0 D.length),(11,.ref bi 1 0 E.length),(14,Oi i),(15,.ptr os.length 0 0),(17,Oi rows),(18,Oi c7),(19,.ref (E.getD x.pair.toNat default).1 2 0 (E.getD x.pair.toNat default).2),(21,Oi z.1)],z.2⟩:St))
    (λz=>z.1<=rows/\LO iX ((os.length,.var (aP x))::(os.length+1,.var (aG p))::[(0,.var (aq m)),(ai,.arr 1 (rowsOf cA D)),(bi,.arr 1 (rowsOf cA E))]) D E (g.1.set p.snd.toNat (jn (g.1.getD p.snd.toNat default) x.opt.toNat x.amt)) (g.2.set x.pair.toNat (gq (λk:Nat=>((k:Int)*c7+x.opt).toNat) x.amt z.1 (g.2.getD x.pair.toNat default))) z.2)
    (λz=>rows-z.1) (0,_) ⟨aW _,by rw[gq,yi];exact Cg⟩ (Xv X0) ?_
   rintro⟨k,ok⟩⟨hk,jW⟩dL bO bQ;dsimp only at hk jW ⊢;have fx:=(jW.base (os.length,.var (aP x)) IM).1;dsimp only at fx;obtain⟨rV,Ag⟩:=jW.rE.row x.pair.toNat AT;have vN:x.pair.toNat<g.2.length:=by rw[kl.t];omega
   rw[rJ _ _ _ vN]at rV Ag;have iU:=zU (λk:Nat=>((k:Int)*c7+x.opt).toNat) x.amt k (g.2.getD x.pair.toNat default);have L5:=((te kl.tb x.pair.toNat).sub AT (λk:Nat=>((k:Int)*c7+x.opt).toNat) (a:=x.amt) AT k).get AT ((k:Int)*c7+x.opt).toNat;by_cases bf:k<rows
   ·have lW:=jW.yA (j:=x.pair.toNat) AT (r:=jn (gq (λk:Nat=>((k:Int)*c7+x.opt).toNat) x.amt k (g.2.getD x.pair.toNat default)) ((k:Int)*c7+x.opt).toNat (-x.amt)) (by rw[rJ _ _ _ vN];exact w6 _ _ _);rw[rf]at lW;obtain⟨L6,L7,L8,L9⟩:=HF (a:=(k:Int)) (k:=x.opt) (c:=(c7:Int)) (n:=(rows:Int)) AT ⟨o3,o4⟩ AT AT;generalize uN:((k:Int)*c7+x.opt)=ix at *;generalize gV:gq (λk:Nat=>((k:Int)*c7+x.opt).toNat) x.amt k (g.2.getD x.pair.toNat default)=tk at *;((repeat'(first|refine Va (X5 @fx @cS @rV @aP.eq_1 (X4 @iX.eq_1 @G7 @uN @Int.sub_eq_add_neg)) ?_|(refine Xi ?_ ?_<;>try intro ht)|exact Xx|fail)))
    refine bO _ (k+1,_) ⟨NZ,by rw[gq,gV,uN];exact lW⟩ NZ ?_;exact Xv X0
   ·have xl:k=rows:=AT;rw[xl]at jW;((repeat'(first|refine Va X0 ?_|(refine Xi ?_ ?_<;>try intro ht)|exact Xx|fail)))
    refine bQ _ _ rfl ?_;clear bO bQ dL;repeat(refine Xu ?_)
    refine Va X0 ?_;refine ak _ (i+1,_) ⟨NZ,by rw[eM,xi];exact jW.sub IM⟩ NZ ?_;exact Xv X0
 rw[cZ AT]at iI;have kl:=GK bG l eT;have amU:l.length<=2000:=AT;generalize iF m l (S0 m,T0 m)=g at *;have Ch:(∀ r∈g.1,NB lk r)/\∀ r∈g.2,NB lk r:=⟨λr hr=>(kl.sb r hr).mono (by unfold lk;omega),λr hr=>(kl.tb r hr).mono (by unfold lk;omega)⟩;((repeat'(first|refine Va @f0 ?_|(refine Xi ?_ ?_<;>try intro ht)|exact Xx|fail)))
 refine au _ _ rfl ?_;clear ak au Ql;repeat(refine Xu ?_)
 refine Va @f0 ?_;have gK:=hf.1;refine bb (λi:Nat=>(⟨ao [(1,.tree 1 (rowsOf ay left)),(3,.ptr 0 0 0),(10,.ref ai 1 0 D.length),(11,.ref bi 1 0 E.length),(22,Oi (bK (PC left g.1 i) (0,false)).1),(23,.lit (.bool (bK (PC left g.1 i) (0,false)).2)),(24,Oi i)],os⟩:St))
  (λi=>i<=m.cls.length) (λi=>m.cls.length-i) 0 (aW _) (Xv (X5 @PC.eq_1 @bK.eq_1 @Oh @ns.{0,0} @zd.{0,0})) ?_
 rintro i hi Ql ak au;by_cases ar:i<m.cls.length
 ·have jE:=yw _ (0,false) (KR (left:=left) (by unfold lk;decide) Ch.1 i);rw[BO]at jE;have hlen:=hf.2 i AT;have cF:=kl.sl i ar;have pw:=VR (g.1.getD i default) (left.getD i default) AT (by have:=bG.opt _ (aE (d:=default) ar);omega);have ot:=DK (g.1.getD i default) (left.getD i default) (0,false) (te Ch.1 i) (by unfold lk;decide);have dm:bK (PC left g.1 (i+1)) (0,false)=((bK (PC left g.1 i) (0,false)).1+(cI (g.1.getD i default) (left.getD i default) (0,false)).1,(bK (PC left g.1 i) (0,false)).2||!(cI (g.1.getD i default) (left.getD i default) (0,false)).2):=by
   rw[show PC left g.1 (i+1)=PC left g.1 i++[cI (g.1.getD i default) (left.getD i default) (0,false)] from yn _ i,BH]
  obtain⟨ly,yG⟩:=iI.rD.row i AT;generalize bK (PC left g.1 i) (0,false)=z at *;obtain⟨z1,z2⟩:=z;generalize cI (g.1.getD i default) (left.getD i default) (0,false)=q at *;obtain⟨q1,q2⟩:=q;unfold lk at jE ot;dsimp only at *;generalize fY:left.getD i default=ll at *;((repeat'(first|refine Va (X5 @f0 @fa @ly @cA.eq_1 (X2 @fY @ay.eq_1)) ?_|(refine Xi ?_ ?_<;>try intro ht)|exact Xx|fail))<;>try with_reducible intro K hK)
  cases z2<;>cases q2;all_goals
   refine rj [] pw IM trivial ⟨bT.fz ly (by rw[cr];exact yG.symm) IM,.pure rfl,trivial⟩ rfl IM ?_;((try revert hK K);(repeat'(first|refine Va (X4 @f0 @fa @kU @mH) ?_|fail)))
   refine ak _ (i+1) AT AT ?_;simp only[dm];exact Xv X0
 have Hq:i=m.cls.length:=AT;rw[Hq];have HK:=yw _ (0,false) (KR (left:=left) (by unfold lk;decide) Ch.1 m.cls.length);rw[BO]at HK;unfold kk at an;generalize bK (PC left g.1 m.cls.length) (0,false)=zc at *;((repeat'(first|refine Va @f0 ?_|(refine Xi ?_ ?_<;>try intro ht)|exact Xx|fail)))
 refine au _ _ rfl ?_;clear ak au Ql;repeat(refine Xu ?_)
 refine Va @f0 ?_;clear hi ar;have VU:LO iX [(0,.var (aq m)),(bi,.arr 1 (rowsOf cA E))] D E g.1 g.2 os:=iI.sub IM;refine bb (λz:Nat×List Ob=>(⟨ao [(1,.tree 1 (rowsOf ay left)),(3,.ptr 0 0 0),(11,.ref bi 1 0 E.length),(22,Oi (bK (PP m left g.2 z.1) zc).1),(23,.lit (.bool (bK (PP m left g.2 z.1) zc).2)),(27,Oi z.1)],z.2⟩:St))
  (λz=>z.1<=m.ae.length/\LO iX [(0,.var (aq m)),(bi,.arr 1 (rowsOf cA E))] D E g.1 g.2 z.2) (λz=>m.ae.length-z.1) (0,os) ⟨aW _,VU⟩ (Xv (X5 @PP.eq_1 @bK.eq_1 @Oh @ns.{0,0} @zd.{0,0})) ?_
 clear iI VU f0 fa fb e0 ea eb os;rintro⟨i,os⟩⟨hi,iI⟩Ql ak au;dsimp only at hi iI ⊢;have f0:=(iI.base (0,.var (aq m)) IM).1;have fb:=(iI.base (bi,.arr 1 (rowsOf cA E)) IM).1;dsimp only at f0 fb;have e0:=aK f0;have eb:=aK fb;by_cases ar:i<m.ae.length
 ·have dp:=jG bG.pr _ (aE (d:=default) ar);obtain⟨LY,LZ,L0,Ed⟩:=Eb dp;have jE:=yw _ zc (KS (m:=m) (left:=left) (by unfold lk;decide) Ch.2 i);rw[DM]at jE;have dm:bK (PP m left g.2 (i+1)) zc=((bK (PP m left g.2 i) zc).1+(cI (g.2.getD i default) (gr m left i) (0,false)).1,(bK (PP m left g.2 i) zc).2||!(cI (g.2.getD i default) (gr m left i) (0,false)).2):=by
   rw[show PP m left g.2 (i+1)=PP m left g.2 i++[cI (g.2.getD i default) (gr m left i) (0,false)] from yn _ i,BH]
  have ot:=DK (g.2.getD i default) (gr m left i) (0,false) (te Ch.2 i) (by unfold lk;decide);have HH:=hf.2 (m.ae.getD i default).fst.toNat AT;have Ah:=hf.2 (m.ae.getD i default).snd.toNat AT;have hoa:=bG.opt _ (aE (l:=m.cls) (i:=(m.ae.getD i default).fst.toNat) (d:=default) AT);have bI:=bG.opt _ (aE (l:=m.cls) (i:=(m.ae.getD i default).snd.toNat) (d:=default) AT);have cF:=kl.tl i ar;have xm:(g.2.getD i default).length=(gr m left i).length:=by
   unfold gr;rw[BM,HH,Ah,cF];have:=Ed;rw[<- Int.natCast_mul]at this;exact Int.ofNat_inj.1 this
  have nk:=Ce dp bG;have pw:=VR (g.2.getD i default) (gr m left i) xm AT;have Mb:gr m left i=qM (left.getD (m.ae.getD i default).fst.toNat default) (left.getD (m.ae.getD i default).snd.toNat default):=rfl;generalize cI (g.2.getD i default) (gr m left i) (0,false)=q at *;generalize bK (PP m left g.2 i) zc=z at *;generalize gr m left i=pb at *;generalize cB:m.ae.getD i default=p at *;generalize Eg:left.getD p.fst.toNat default=la at *;generalize vO:left.getD p.snd.toNat default=lb at *;obtain⟨z1,z2⟩:=z;obtain⟨q1,q2⟩:=q;unfold lk at jE ot HK;dsimp only at dm jE ot pw ⊢;((repeat'(first|refine Va (X4 @f0 @fb @cB @bH) ?_|(refine Xi ?_ ?_<;>try intro ht)|exact Xx|fail)))
  have VV:LO iX ((os.length,.var (aG p))::[(0,.var (aq m)),(bi,.arr 1 (rowsOf cA E))]) D E g.1 g.2 ((os++[.var (aG p)])++[.arr 1 []]):=((iI.app _).app _).add (aK (ka _ _ _) _) IM;refine bb (λy:Nat×List Ob×Nat×List Bool=>(⟨ao [(1,.tree 1 (rowsOf ay left)),(3,.ptr 0 0 0),(11,.ref bi 1 0 E.length),(22,Oi z1),(23,.lit (.bool z2)),(27,Oi i),(28,.ptr os.length 0 0),(29,.ref y.2.2.1 1 0 y.2.2.2.length),(30,Oi y.1)],y.2.1⟩:St))
   (λy=>y.1<=la.length/\LO iX ((os.length,.var (aG p))::[(0,.var (aq m)),(bi,.arr 1 (rowsOf cA E))]) D E g.1 g.2 y.2.1/\y.2.1[y.2.2.1]?=some (.arr 1 (a8 y.2.2.2))/\os.length<y.2.2.1/\y.2.2.2=qM (la.take y.1) lb)
   (λy=>la.length-y.1) (0,(os++[.var (aG p)])++[.arr 1 []],(os++[Ob.var (aG p)]).length,[]) ⟨aW _,VV,ka _ _ _,IM,rfl⟩ ?_ ?_
  ·refine aF.trans (aF.nil 29 1 (by simp only[Kc,simprocAttr]) IP) ?_;exact Xv X0
  clear VV;rintro⟨a,oy,ti,bs⟩⟨ha,Ci,eJ,ke,mn⟩dL bO bQ;dsimp only at ha Ci eJ ke mn ⊢;have fp:=(Ci.base (os.length,.var (aG p)) IM).1;have VW:=(Ci.base (bi,.arr 1 (rowsOf cA E)) IM).1;have bil:=(aR.1 fb).1;have osl:=(aR.1 f0).1;dsimp only at fp VW;by_cases pI:a<la.length
  ·((repeat'(first|refine Va (X5 @fp @cB @Eg @ay.eq_1 @aG.eq_1) ?_|(refine Xi ?_ ?_<;>try intro ht)|exact Xx|fail)))
   have hta:=ei pI;refine bb (λy:Nat×List Ob×Nat×List Bool=>(⟨ao [(1,.tree 1 (rowsOf ay left)),(3,.ptr 0 0 0),(11,.ref bi 1 0 E.length),(22,Oi z1),(23,.lit (.bool z2)),(27,Oi i),(28,.ptr os.length 0 0),(29,.ref y.2.2.1 1 0 y.2.2.2.length),(30,Oi a),(31,Oi y.1)],y.2.1⟩:St))
    (λy=>y.1<=lb.length/\LO iX ((os.length,.var (aG p))::[(0,.var (aq m)),(bi,.arr 1 (rowsOf cA E))]) D E g.1 g.2 y.2.1/\y.2.1[y.2.2.1]?=some (.arr 1 (a8 y.2.2.2))/\os.length<y.2.2.1/\y.2.2.2=bs++(lb.take y.1).map (la.getD a default && ·))
    (λy=>lb.length-y.1) (0,oy,ti,bs) ⟨aW _,Ci,eJ,ke,IM⟩ (Xv X0) ?_
   rintro⟨b,ob,tb,cs⟩⟨aY,HL,Ak,Ej,gG⟩nR iR gD;dsimp only at aY HL Ak Ej gG ⊢;have Ek:=(HL.base (os.length,.var (aG p)) IM).1;dsimp only at Ek;have rS:=aK Ak;have epb:=aK Ek;have stb:=iG Ak;have bn:cs.length<=24*24+24:=by
    rw[gG,mn,bL,BM,fF,fe,fe];have:=xM (show min a la.length<=24 by omega) (show lb.length<=24 by omega);omega
   by_cases oA:b<lb.length
   ·have ahD:=ei oA;have VX:=((HL.kill (y:=.gone) Ak IM (by simp only[bm,iT,or_false,forall_eq_or_imp,forall_eq];omega)).app [.arr 1 [[.lit (.bool (la.getD a false&&lb.getD b false))]],.arr 1 (a8 (cs++[la.getD a false&&lb.getD b false]))]);have gn:cs++[la.getD a false&&lb.getD b false]=bs++(lb.take (b+1)).map (la.getD a default && ·):=by rw[ahD,dH,<- bz,<- gG];rfl
    have amY:=(aR.1 Ak).1;generalize hxa:la.getD a false=xa at *;generalize ahF:lb.getD b false=xb at *;cases xa;all_goals
     simp only[p8,iy]at VX gn;((repeat'(first|refine Va (X5 @Ek @Ak @rS @epb (X5 @stb @cB @Eg @vO (X5 @hxa @ahF @ay.eq_1 @aG.eq_1 (X5 @bH @bz.{0} @kW @iw (X3 @bL.{0} @bw.{0} @CQ))))) ?_|(refine Xi ?_ ?_<;>try intro ht)|exact Xx|fail)))
     refine iR _ (b+1,_,ob.length+1,_) ⟨NZ,VX,oI _ _ _ _ _,NZ,gn⟩ NZ ?_;exact Xv X0
   ·rw[cZ AT]at gG;((repeat'(first|refine Va (X5 @Ek @cB @vO @ay.eq_1 @aG.eq_1) ?_|(refine V2 (X5 @Ek @cB @vO @ay.eq_1 @aG.eq_1) ?_ ?_<;>try with_reducible intro hb)|(refine Xi ?_ ?_<;>try intro ht)|exact Xx|fail)))
    refine gD _ _ rfl ?_;clear iR gD nR;repeat(refine Xu ?_)
    refine Va X0 ?_;refine bO _ (a+1,ob,tb,cs) ⟨NZ,HL,Ak,Ej,by rw[hta,aff,<- mn];exact gG⟩ NZ ?_;exact Xv X0
  ·rw[cZ AT,<- Mb]at mn;subst mn;obtain⟨rU,Ee⟩:=Ci.rE.row i AT;((repeat'(first|refine Va (X5 @fp @cB @Eg @ay.eq_1 @aG.eq_1) ?_|(refine Xi ?_ ?_<;>try intro ht)|exact Xx|fail)))
   refine bQ _ _ rfl ?_;clear bO bQ dL;repeat(refine Xu ?_)
   ((refine Va (X3 @VW @rU @cA.eq_1) ?_)<;>try with_reducible intro K hK)
   cases z2<;>cases q2;all_goals
    refine rj [] pw IM trivial ⟨bT.fz rU (by rw[cr];exact Ee.symm) IM,bT.fz eJ (by rw[zj]) IM,trivial⟩ rfl IM ?_;((try revert hK K);(repeat'(first|refine Va (X2 @kU @mH) ?_|fail)))
    refine ak _ (i+1,oy) ⟨NZ,Ci.sub IM⟩ NZ ?_;simp only[dm];exact Xv X0
 have Hs:i=m.ae.length:=AT;rw[Hs];have Mi:=yw _ zc (KS (m:=m) (left:=left) (by unfold lk;decide) Ch.2 m.ae.length);rw[DM]at Mi;generalize bK (PP m left g.2 m.ae.length) zc=zp at *;((repeat'(first|refine Va @f0 ?_|(refine Xi ?_ ?_<;>try intro ht)|exact Xx|fail)))
 refine au _ _ rfl ?_;clear ak au Ql;repeat(refine Xu ?_)
 refine Va @f0 ?_;clear hi ar;refine bb (λi:Nat=>(⟨ao [(1,.tree 1 (rowsOf ay left)),(3,.ptr 0 0 0),(22,Oi (bK (PK m left i) zp).1),(23,.lit (.bool (bK (PK m left i) zp).2)),(34,Oi i)],os⟩:St))
  (λi=>i<=m.aC.length) (λi=>m.aC.length-i) 0 (aW _) (Xv (X5 @PK.eq_1 @bK.eq_1 @Oh @ns.{0,0} @zd.{0,0})) ?_
 rintro i hi Ql ak au;unfold lk at HK Mi;dsimp only at HK Mi;by_cases ar:i<m.aC.length
 ·have jk:=aE (d:=default) ar;obtain⟨q1,q2,q3,q4⟩:=LV bG hf jk;have h3:=ahr m left _ bG hf jk;have VY:=DJ (λx hx=>(q1 x hx).2) left;have h4:=ahG (jS (m.aC.getD i default).aZ 0 left 0-(m.aC.getD i default).most) (m.aC.getD i default).cf AT q3;rw[ahH q3]at h4;have jE:=yw _ zp (KT bG (left:=left) i);rw[GW]at jE;have hvr:=SQ (m.aC.getD i default).most (m.aC.getD i default).cf (jS (m.aC.getD i default).aZ 0 left 0) q2 q3.1;have dm:bK (PK m left (i+1)) zp=((bK (PK m left i) zp).1+im left (m.aC.getD i default),(bK (PK m left i) zp).2||!!(decide ((m.aC.getD i default).cf=1099511627776)&&decide (0<im left (m.aC.getD i default)))):=by
   rw[show PK m left (i+1)=PK m left i++[(im left (m.aC.getD i default),!(decide ((m.aC.getD i default).cf=1099511627776)&&decide (0<im left (m.aC.getD i default))))] from yn _ i,BH]
  unfold im at dm;generalize bK (PK m left i) zp=z at *;obtain⟨z1,z2⟩:=z;generalize bc:m.aC.getD i default=c at *;generalize kL c.most c.cf (jS c.aZ 0 left 0)=v at *;dsimp only at dm jE ⊢;by_cases Mj:c.cf=1099511627776;all_goals
   by_cases qX:0<v
  all_goals
   simp only[Mj,qX,decide_true,decide_false,Bool.and_true,Bool.and_false,kU,mH,Bool.or_true,Bool.or_false]at dm;cases z2
  all_goals
   ((repeat'(first|refine Vc (X3 @f0 @bc @df.eq_1) (X2 h3 h4) ?_|(refine V2 (X3 @f0 @bc @df.eq_1) ?_ ?_<;>try with_reducible intro hb)|(refine Xi ?_ ?_<;>try intro ht)|exact Xx|fail)))
   refine ak _ (i+1) AT AT ?_;simp only[dm];exact Xv (X4 @gt_iff_lt.{0} @qX @decide_true @decide_false)
 ·have LW:i=m.aC.length:=AT;rw[LW];have VZ:=yw _ zp (KT bG (left:=left) m.aC.length);rw[GW]at VZ;generalize bK (PK m left m.aC.length) zp=zk at *;obtain⟨k1,k2⟩:=zk;dsimp only at an VZ ⊢;((repeat'(first|refine Va @f0 ?_|(refine Xi ?_ ?_<;>try intro ht)|exact Xx|fail)))
  refine au _ _ rfl ?_;clear ak au Ql;repeat(refine Xu ?_)
  cases k2
  ·simp only[Bool.false_eq_true,if_false]at an;subst an;((repeat'(first|refine Vb @f0 ?_|(refine Xi ?_ ?_<;>try intro ht)|exact Xx|fail)))
   exact aU rfl rfl
  ·simp only[if_true]at an;subst an;((repeat'(first|refine Vb @f0 ?_|(refine Xi ?_ ?_<;>try intro ht)|exact Xx|fail)))
   exact aU rfl rfl
end T

