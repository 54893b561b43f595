import Derived.Test.YtjadfapldkfbpaaGreatX35
set_option linter.all false
set_option maxHeartbeats 0
set_option maxRecDepth 20000
open List renaming set_append_right→Ab,contains_nil→G1,length_append→bQ,length_nil→k8
open Nat renaming reduceBEq→nq,zero_le→aF,add_mul→gj,one_mul→tu
open Bool renaming true_or→qg,false_or→lF,or_false→yL
open And renaming intro→cI
open Go Go.Am Go.Proofs
namespace T
def alF{m:ah}{x:List (List Bool)}(hm:VM m)(h:fD m x):BB x:=by
 have hc:=hm.cls;refine⟨by have:=h.1;omega,λr hr=>?_⟩;obtain⟨i,hi,rfl⟩:=List.getElem_of_mem hr;have h2:=h.2 i hi;have h3:=hm.opt _ (aB (l:=m.cls) (i:=i) (d:=default) (by have:=h.1;omega));rw[List.getD_eq_getElem?_getD,List.getElem?_eq_getElem hi,Option.getD_some]at h2;omega
def pA:List Nd:=[⟨-1,[],[],[0,1],[[(0,0),(1,0)]]⟩]
def AbR(ab:List Int)(av:AV)(xo:Ob):Prop:=(ab=[]/\av=.tree 1 []/\∃ m:ah,xo=.var (ao m))\/(av=.ref 3 1 0 ab.length/\xo=.arr 1 (ints ab))
def acs:CJ [aaa (-1),.lit (.slice none 0 0),.lit (.slice none 0 0),.lit (.slice none 0 0),.lit (.slice none 0 0)] (az (eW [])) :=
 ⟨.inl rfl,.inr ⟨rfl,_,rfl⟩,.inr ⟨rfl,_,rfl⟩,.inr ⟨rfl,_,rfl⟩,.inr ⟨rfl,_,rfl⟩,trivial⟩
def alH(m:ah)(hm:GM m)(L:List Int)(hL:L.length<1000000):∀ (s:Nat),s<=100->kv 25 s<=100000->∀ (nodes:List Nd) (k:Nat) (ab:List Int) (av:AV) (xo:Ob),k<=L.length->nodes.length+kv 25 s<=1000000->ab.length+s<=1000->(∀ x∈ab,0<=x)->AbR ab av xo ->
  an Tryz.prog 25 [.ptr 0 0 0,.agg (ao m),.ptr 1 0 0,av,aaa s] [ef L k,.var [.ref 2 5 0 nodes.length],.arr 5 (rowsOf az nodes),xo] (aaa nodes.length)
   [ef L (ku m L s nodes k ab).2,.var [.ref 4 5 0 (ku m L s nodes k ab).1.length],.gone,xo,.arr 5 (rowsOf az (ku m L s nodes k ab).1)]:=by
 intro s
 induction s using Nat.strongRecOn with
 |_ s ih =>
  intro hs bg nodes k ab av xo hk ak gJ Jk GK;have nL:=hm.cls;have oI:∀ ρ,bU ρ xo=xo:=λρ=>by
   rcases GK with⟨_,_,m',rfl⟩|⟨_,rfl⟩
   ·exact aiz ρ m'
   ·exact uR _ _ _
  have ak0:=ZM 25 s;have l4:=iw L k ((m.cls.length:Int)+1) (by unfold dS;omega) hk hL;have q6:=ZL m L k;generalize aj:ku m L s nodes k ab=res;rw[aim]at aj;unfold FO zC at aj;unfold mL at *;generalize da L k ((m.cls.length:Int)+1)=c at *;have gv:=dN hk;generalize bR L k=k1 at *;unfold ef;refine an.aC 123 4 [.tmp 10] Tryz.func25 ?_;repeat'(first|((fail_if_success (first|refine dE 3 ?_|refine dF 3 ?_));refine Xr X0 ?_;intro K hK)|refine Xo X0 ?_|(refine hK _ ?_;clear hK K)|(refine Xg X0 ?_ ?_<;>try intro hb)|(refine Xi ?_ ?_<;>try intro ht)|refine XY ?_|refine Xd ?_ ?_|exact Xx|fail)
  have o7:∀ (σ:St) kp snap n l,aI σ kp (bA n (0::1::2::3::l)) snap av av:=λσ kp snap n l=>by
   rcases GK with⟨_,rfl,_⟩|⟨rfl,_⟩
   ·exact .pure rfl
   ·exact .eq rfl
  have sS:(rowsOf az nodes++[[AV.lit (.int .i64 (-1)),.lit (.slice none 0 0),.lit (.slice none 0 0),.lit (.slice none 0 0),.lit (.slice none 0 0)]])[nodes.length]?=some [AV.lit (.int .i64 (-1)),.lit (.slice none 0 0),.lit (.slice none 0 0),.lit (.slice none 0 0),.lit (.slice none 0 0)]:=by
   rw[List.getElem?_append_right (by simp[rowsOf])];simp[rowsOf]
  have xN:(rowsOf az nodes++[[AV.lit (.int .i64 (-1)),.lit (.slice none 0 0),.lit (.slice none 0 0),.lit (.slice none 0 0),.lit (.slice none 0 0)]]).set nodes.length (az (eW []))=rowsOf az (nodes++[eW []]):=by
   rw[Ab _ _ (by simp[rowsOf])];simp[rowsOf]
  refine bD (ay.ME 6 nodes.length 5 rfl sS acs) ?_;rw[xN];refine bD (ay.jf 6 4 (cells:=ao m) P5 (by simp only[Kc,simprocAttr]) (by simp[ao])) ?_;have O3:(nodes++[eW []]).length=nodes.length+1:=G9;generalize O4:nodes++[eW []]=N1 at *;refine bD (σ':=⟨au [(0,.ptr 0 0 0),(2,.ptr 1 0 0),(3,av),(4,aaa (s:Nat)),(6,.bm (ao m)),(11,aaa nodes.length)],[.var [.tree 1 (ints L),aaa k],.var [.ref 4 5 0 N1.length],.gone,xo,.arr 5 (rowsOf az N1)]⟩) (by rw[O3];((refine ay.se [0,1,2,3,6] false (by simp only[Oc,simprocAttr,oI]) ?_;simp only[Hr,↓reduceIte,Nat.reduceEqDiff,nq,Nat.reduceAdd,oI];try(and_intros<;>first|exact .pure rfl|exact .eq rfl|exact .fz rfl (by simp only[Bc,Rc]))));(and_intros<;>first|exact o7 ..|exact .pure rfl|exact .eq rfl)) ?_;((try revert hK K);(repeat'(first|refine Vb X0 ?_|(refine V2 X0 ?_ ?_<;>try with_reducible intro hb)|(refine Xi ?_ ?_<;>try intro ht)|refine VD ?_ ?_|exact Xx|fail))<;>try with_reducible intro K hK)
  refine ez [0] l4 Kq ⟨rfl,trivial⟩ ⟨.eq rfl,.pure rfl,trivial⟩ ?_;repeat'(first|((fail_if_success (first|refine dE 4 ?_|refine dF 4 ?_));refine Xr X0 ?_;intro K hK)|refine Xo X0 ?_|(refine hK _ ?_;clear hK K)|(refine Xg X0 ?_ ?_<;>try intro hb)|(refine Xi ?_ ?_<;>try intro ht)|refine XY ?_|refine Xd ?_ ?_|exact Xx|fail)
  generalize MW:(decide (c=(m.cls.length:Int))||decide (s=0)||decide ((N1.length:Int) > 300))=d0 at *;refine E1 ?_;intro Q hn he;refine wa ⟨au [(0,.ptr 0 0 0),(2,.ptr 1 0 0),(3,av),(4,aaa (s:Nat)),(6,.bm (ao m)),(11,aaa nodes.length),(12,aaa c),(13,.lit (.bool d0))],[.var [.tree 1 (ints L),aaa k1],.var [.ref 4 5 0 N1.length],.gone,xo,.arr 5 (rowsOf az N1)]⟩ hn ?_ (λkey=>?_);rotate_left
  ·(try clear hn;try clear he)
   ((try revert hK K);(repeat'(first|refine Va X0 ?_|(refine V2 X0 ?_ ?_<;>try with_reducible intro hb)|(refine Xi ?_ ?_<;>try intro ht)|refine VD ?_ ?_|exact Xx|fail))<;>try with_reducible intro K hK)
   all_goals try(exfalso;omega)
   all_goals
    refine key _ ?_;rw[<- MW];first|rw[decide_eq_true (show c=(m.cls.length:Int) by assumption),qg,qg]|rw[decide_eq_false (show ¬c=(m.cls.length:Int) by assumption),decide_eq_true (show s=0 by omega),lF,qg]|rw[decide_eq_false (show ¬c=(m.cls.length:Int) by assumption),decide_eq_false (show ¬s=0 by omega),lF,lF]
    (exact Xv X0)
  ((try revert hK K);(repeat'(first|refine Vb X0 ?_|(refine V2 X0 ?_ ?_<;>try with_reducible intro hb)|(refine Xi ?_ ?_<;>try intro ht)|refine VD ?_ ?_|exact Xx|fail))<;>try with_reducible intro K hK)
  refine aO (λi:Nat=>(⟨au [(0,.ptr 0 0 0),(2,.ptr 1 0 0),(3,av),(4,aaa (s:Nat)),(6,.bm (ao m)),(11,aaa nodes.length),(12,aaa c),(13,.lit (.bool (d0||(ab.take i).contains c))),(14,aaa i)],[.var [.tree 1 (ints L),aaa k1],.var [.ref 4 5 0 N1.length],.gone,xo,.arr 5 (rowsOf az N1)]⟩:St))
   (λi=>i<=ab.length) (λi=>ab.length-i) 0 (aF _) (by rw[List.take_zero,G1,yL];exact Xv X0) ?_
  intro i hi Ql a7 ar;by_cases hi':i<ab.length
  ·have cq:=eJ hi';have gZ:(ab.take (i+1)).contains c=((ab.take i).contains c||decide (ab.getD i 0=c)):=by
    rw[cq,List.contains_append,List.contains_cons,G1,yL];congr 1;show(c==ab.getD i 0)=_;rw[Bool.eq_iff_iff,beq_iff_eq,decide_eq_true_eq];exact eq_comm
   rcases GK with⟨rfl,_,_⟩|⟨rfl,rfl⟩
   ·exact absurd hi' (Nat.not_lt_zero _)
   generalize aS:ab.getD i 0=x at *;generalize (ab.take i).contains c=b0 at *;generalize pN:(d0||b0)=e at *;cases e
   ·((try revert hK K);(repeat'(first|refine Va @aS ?_|(refine V2 @aS ?_ ?_<;>try with_reducible intro hb)|(refine Xi ?_ ?_<;>try intro ht)|refine VD ?_ ?_|exact Xx|fail))<;>try with_reducible intro K hK)
    refine a7 _ (i+1) G3 G3 (by rw[gZ,<- Bool.or_assoc,pN,lF];exact Xv X0)
   ·((try revert hK K);(repeat'(first|refine Va @aS ?_|(refine V2 @aS ?_ ?_<;>try with_reducible intro hb)|(refine Xi ?_ ?_<;>try intro ht)|refine VD ?_ ?_|exact Xx|fail))<;>try with_reducible intro K hK)
    refine a7 _ (i+1) G3 G3 (by rw[gZ,<- Bool.or_assoc,pN,qg];exact Xv X0)
  obtain rfl:i=ab.length:=G3;rw[List.take_length];have O5:(decide (c=(m.cls.length:Int))||decide (s=0)||decide (300<nodes.length+1)||ab.contains c)=(d0||ab.contains c):=by
   rw[<- MW,O3];congr 2;exact decide_eq_decide.2 G3
  rw[O5]at aj;generalize (d0||ab.contains c)=dn at *;have acu:∀ st,ay 4 st ⟨au [(0,.ptr 0 0 0),(2,.ptr 1 0 0),(3,av),(4,aaa (s:Nat)),(6,.bm (ao m)),(11,aaa nodes.length),(12,aaa c),(13,.lit (.bool dn))],[.var [.tree 1 (ints L),aaa k1],.var [.ref 4 5 0 N1.length],.gone,xo,.arr 5 (rowsOf az N1)]⟩->Ql (.exit 0) st:=λst cq=>by
   refine ar _ _ rfl ?_;clear a7 ar;repeat(first|refine Xu ?_)
   refine bD cq ?_;clear cq st;cases dn;rotate_left
   ·rw[if_pos rfl]at aj;have qQ:=alo m hm L k1 3 Kq gv hL;generalize wU L m 3 k1=mf at *;obtain⟨cR,k2⟩:=mf;dsimp only at qQ aj;have alI:N1[nodes.length]?=some (eW []):=by rw[<- O4];simp
    have jN:(rowsOf az N1)[nodes.length]?=some (az (eW [])):=by unfold rowsOf;rw[List.getElem?_map,alI];rfl
    have alJ:(rowsOf az N1).set nodes.length (az (eW cR))=rowsOf az (nodes++[eW cR]):=by
     rw[<- O4];unfold rowsOf;rw[List.map_append,Ab _ _ G9];simp
    repeat'(first|((fail_if_success (first|refine dE 10 ?_|refine dF 10 ?_));refine Xr X0 ?_;intro K hK)|refine Xo X0 ?_|(refine hK _ ?_;clear hK K)|(refine Xg X0 ?_ ?_<;>try intro hb)|(refine Xi ?_ ?_<;>try intro ht)|refine Xy ?_|refine Xd ?_ ?_|exact Xx|fail)
    refine jb [6] (.take 0 (.take 4 (.take 5 (.take 6 (.both 1 (.both 2 (.both 3 (.take 7 (.take 8 (.take 9 (.take 10 .nil)))) 7 (.take 3 (.take 8 (.take 9 (.take 10 .nil))))) 7 (.take 2 (.take 3 (.take 8 (.take 9 (.take 10 .nil)))))) 7 (.take 1 (.take 2 (.take 3 (.take 8 (.take 9 (.take 10 .nil))))))))))) rfl Kq (by decide +kernel) ?_;unfold ef at qQ;simp(disch:=omega)only[Ac,↓Pc,simprocAttr,Pw,↓Lq,jN];repeat'(first|with_reducible refine cI ?_ ?_|omega|with_reducible rfl)
    all_goals
     refine ez [0] qQ Kq ⟨rfl,trivial⟩ ⟨.eq rfl,.pure rfl,.pure rfl,trivial⟩ ?_;simp(disch:=omega)only[Ac,↓Pc,simprocAttr,Pw,↓Lq,jN,az,eW];repeat'(first|with_reducible refine cI ?_ ?_|omega|with_reducible rfl)
    all_goals
     repeat(first|refine Xu ?_)
     ((try revert hK K);(repeat'(first|refine Vb X0 ?_|(refine V2 X0 ?_ ?_<;>try with_reducible intro hb)|(refine Xi ?_ ?_<;>try intro ht)|refine VD ?_ ?_|exact Xx|fail))<;>try with_reducible intro K hK)
     rw[<- aj];refine ey ?_ G9 rfl;dsimp only;rw[<- alJ,O3,bQ];rfl
   ·rw[if_neg G9]at aj;simp only[Bool.or_eq_false_iff,decide_eq_false_iff_not]at O5;obtain⟨⟨⟨d1,d2⟩,d3⟩,d4⟩:=O5;obtain⟨s,rfl⟩:∃s',s=s'+1:=⟨s-1,G3⟩;rw[Nat.add_sub_cancel]at aj;have bY:c.toNat<m.cls.length:=G3;have hcw:=hm.opt _ (aB (l:=m.cls) (i:=c.toNat) (d:=default) bY);have aoF:kv 25 (s+1)=1+25*kv 25 s:=rfl;have jk:((s+1:Nat):Int)-1=(s:Nat):=G3;have mW:=q6.1;have alK:∀ x∈ab++[c],0<=x:=λx hx=>by
     rw[List.mem_append,List.mem_singleton]at hx;rcases hx with hx|rfl
     ·exact Jk x hx
     ·exact mW
    have bE:=λn q (hq:q<=L.length)=>OW hm (L:=L) s n q (ab++[c]) hq;generalize aM:m.cls.getD c.toNat default=cls at *;generalize hR:nh (λn q=>ku m L s n q (ab++[c])) cls.length N1 k1 []=R at *;have hmul:∀ i,i<cls.length->i*kv 25 s+kv 25 s<=25*kv 25 s:=λi hi=>by
     have:(i+1)*kv 25 s<=25*kv 25 s:=Nat.mul_le_mul_right _ G3;rw[gj,tu]at this;exact this
    ((try revert hK K);(repeat'(first|refine Vb X0 ?_|(refine V2 X0 ?_ ?_<;>try with_reducible intro hb)|(refine Xi ?_ ?_<;>try intro ht)|refine VD ?_ ?_|exact Xx|fail))<;>try with_reducible intro K hK)
    refine aO (λz:Nat×List Nd×Nat×List Int=>(⟨au [(0,.ptr 0 0 0),(2,.ptr 1 0 0),(3,av),(4,aaa (s+1:Nat)),(6,.bm (ao m)),(11,aaa nodes.length),(12,aaa c),(15,.ref 5 1 0 z.2.2.2.length),(16,aaa z.1)],[.var [.tree 1 (ints L),aaa z.2.2.1],.var [.ref 4 5 0 z.2.1.length],.gone,xo,.arr 5 (rowsOf az z.2.1),.arr 1 (ints z.2.2.2)]⟩:St))
     (λz=>z.1<=cls.length/\z.2.2.1<=L.length/\z.2.2.2.length=z.1/\nodes.length<z.2.1.length/\nd z.2.1 nodes.length=eW []/\z.2.1.length<=N1.length+z.1*kv 25 s/\nh (λn q=>ku m L s n q (ab++[c])) (cls.length-z.1) z.2.1 z.2.2.1 z.2.2.2=R) (λz=>cls.length-z.1) (0,N1,k1,[]) ⟨aF _,gv,rfl,Kw,by dsimp only;rw[<- O4,ZK],Kw,hR⟩ ?_ ?_
    ·refine ay.trans (ay.nil 15 1 (by simp only[Kc,simprocAttr]) Kq) ?_;exact Xv X0
    rintro⟨i,ns,q,ks⟩⟨hi,hq,qO,yE,zU,wg,hr⟩kX fJ eR;dsimp only at hi hq qO yE zU wg hr ⊢;by_cases hi':i<cls.length
    ·have hmi:=hmul i hi';have qq:=bE ns q hq;have Dv:=ih s (Nat.lt_succ_self s) G3 (by have:=Nat.le_mul_of_pos_left (kv 25 s) (show 0<25 by omega);omega) ns q (ab++[c]) (.ref 3 1 0 (ab++[c]).length) (.arr 1 (ints (ab++[c]))) hq G3 (by rw[bQ,List.length_singleton];omega) alK (.inr ⟨rfl,rfl⟩);rw[show cls.length-i=(cls.length-(i+1))+1 by omega,nh]at hr;generalize ku m L s ns q (ab++[c])=gr at *;obtain⟨O6,q2⟩:=gr;dsimp only at Dv hr;have g1:=qq.k;have g2:=qq.lt;have g3:=qq.le;dsimp only at g1 g2 g3;have Nn:(ab++[c]).length=ab.length+1:=G9;rw[Nn]at Dv;unfold ef at Dv;have kh:∀ st,ay 4 st ⟨au [(0,.ptr 0 0 0),(2,.ptr 1 0 0),(3,av),(4,aaa (s+1:Nat)),(6,.bm (ao m)),(11,aaa nodes.length),(12,aaa c),(15,.ref 5 1 0 (ks++[(ns.length:Int)]).length),(16,aaa (i+1:Nat))],[.var [.tree 1 (ints L),aaa q2],.var [.ref 4 5 0 O6.length],.gone,xo,.arr 5 (rowsOf az O6),.arr 1 (ints (ks++[(ns.length:Int)]))]⟩->kX .normal st:=λst cq =>
      fJ st (i+1,O6,q2,ks++[(ns.length:Int)]) ⟨Kw,g1,PX,Kw,(qq.pre _ yE).trans zU,by dsimp only;rw[gj,tu];omega,hr⟩ Kw cq
     rcases GK with⟨p8,m8,m',hex⟩|⟨m8,hex⟩
     ·rw[p8]at Dv Nn;repeat'(first|((fail_if_success (first|refine dE 16 ?_|refine dF 16 ?_));refine Xr (X2 @aM @a9.eq_1) ?_;intro K hK)|refine Xo (X2 @aM @a9.eq_1) ?_|(refine hK _ ?_;clear hK K)|(refine Xg (X2 @aM @a9.eq_1) ?_ ?_<;>try intro hb)|(refine Xi ?_ ?_<;>try intro ht)|refine Xy ?_|refine Xd ?_ ?_|exact Xx|fail)
      refine jb [2] (.take 0 (.take 1 (.take 2 (.take 3 (.take 4 (.take 6 (.take 9 (.take 10 (.both 5 (.take 7 (.take 8 (.take 11 (.take 12 (.take 13 (.take 14 .nil)))))) 7 (.take 5 (.take 8 (.take 11 (.take 12 (.take 13 (.take 14 .nil))))))))))))))) rfl Kq (by decide +kernel) ?_;simp(disch:=omega)only[Ac,↓Pc,simprocAttr,Pw,↓Lq,m8,jk,yV];repeat'(first|with_reducible refine cI ?_ ?_|omega|with_reducible rfl)
      all_goals
       refine ez [0,1,4,8] Dv Kq ⟨rfl,rfl,by rw[rM];rfl,by rw[uR];rfl,trivial⟩ ⟨.eq rfl,.pure rfl,.eq rfl,.eq rfl,.pure rfl,trivial⟩ ?_;simp(disch:=omega)only[Ac,↓Pc,simprocAttr,Pw,↓Lq,jk];repeat'(first|with_reducible refine cI ?_ ?_|omega|with_reducible rfl)
      all_goals
       repeat(first|refine Xu ?_)
       ((try revert hK K);(repeat'(first|refine Va X0 ?_|(refine V2 X0 ?_ ?_<;>try with_reducible intro hb)|(refine Xi ?_ ?_<;>try intro ht)|refine VD ?_ ?_|exact Xx|fail))<;>try with_reducible intro K hK)
       refine kh _ ?_;((refine ay.se [0,1,2,3,9,11] false (by simp only[Oc,simprocAttr,oI]) ?_;simp only[Hr,↓reduceIte,Nat.reduceEqDiff,nq,Nat.reduceAdd,oI];try(and_intros<;>first|exact .pure rfl|exact .eq rfl|exact .fz rfl (by simp only[Bc,Rc]))))
       and_intros<;>first|exact .pure rfl|exact .eq rfl|(rw[m8];exact .pure rfl)|(rw[m8];exact .eq rfl)
     ·have qU:xo=Ob.arr 1 (ints ab):=hex;repeat'(first|((fail_if_success (first|refine dE 16 ?_|refine dF 16 ?_));refine Xr (X2 @aM @a9.eq_1) ?_;intro K hK)|refine Xo (X2 @aM @a9.eq_1) ?_|(refine hK _ ?_;clear hK K)|(refine Xg (X2 @aM @a9.eq_1) ?_ ?_<;>try intro hb)|(refine Xi ?_ ?_<;>try intro ht)|refine Xy ?_|refine Xd ?_ ?_|exact Xx|fail)
      refine jb [2] (.take 0 (.take 1 (.take 2 (.take 3 (.take 4 (.take 6 (.take 9 (.take 10 (.both 5 (.take 7 (.take 8 (.take 11 (.take 12 (.take 13 (.take 14 .nil)))))) 7 (.take 5 (.take 8 (.take 11 (.take 12 (.take 13 (.take 14 .nil))))))))))))))) rfl Kq (by decide +kernel) ?_;simp(disch:=omega)only[Ac,↓Pc,simprocAttr,Pw,↓Lq,m8,hex,jk,yV];repeat'(first|with_reducible refine cI ?_ ?_|omega|with_reducible rfl)
      all_goals
       refine ez [0,1,4,8] Dv Kq ⟨rfl,rfl,by rw[rM];rfl,by rw[uR];rfl,trivial⟩ ⟨.eq rfl,.pure rfl,.eq rfl,.eq rfl,.pure rfl,trivial⟩ ?_;simp(disch:=omega)only[Ac,↓Pc,simprocAttr,Pw,↓Lq,jk];repeat'(first|with_reducible refine cI ?_ ?_|omega|with_reducible rfl)
      all_goals
       repeat(first|refine Xu ?_)
       ((try revert hK K);(repeat'(first|refine Va X0 ?_|(refine V2 X0 ?_ ?_<;>try with_reducible intro hb)|(refine Xi ?_ ?_<;>try intro ht)|refine VD ?_ ?_|exact Xx|fail))<;>try with_reducible intro K hK)
       refine kh _ ?_;((refine ay.se [0,1,2,3,9,11] false (by simp only[Oc,simprocAttr,oI,hex]) ?_;simp only[Hr,↓reduceIte,Nat.reduceEqDiff,nq,Nat.reduceAdd,oI,hex];try(and_intros<;>first|exact .pure rfl|exact .eq rfl|exact .fz rfl (by simp only[Bc,Rc]))))
       and_intros<;>first|exact .pure rfl|exact .eq rfl|(rw[m8];exact .pure rfl)|(rw[m8];exact .eq rfl)
    ·obtain rfl:i=cls.length:=G3;rw[Nat.sub_self,nh]at hr;have alL:(rowsOf az ns)[nodes.length]?=some (az (eW [])):=by
      rw[<- zU];exact xS ns nodes.length yE
     have alM:(rowsOf az ns).set nodes.length (az ⟨c,ks,[],[],[]⟩)=rowsOf az (ns.set nodes.length ⟨c,ks,[],[],[]⟩):=by unfold rowsOf;rw[List.map_set]
     have dX:∀ x:List AV,((rowsOf az ns).set nodes.length x)[nodes.length]?=some x:=λx=>by rw[List.getElem?_set,if_pos rfl,if_pos (by simpa [rowsOf] using yE)]
     rw[<- hr]at aj;((try revert hK K);(repeat'(first|refine Va (X2 @aM @a9.eq_1) ?_|(refine V2 (X2 @aM @a9.eq_1) ?_ ?_<;>try with_reducible intro hb)|(refine Xi ?_ ?_<;>try intro ht)|refine VD ?_ ?_|exact Xx|fail))<;>try with_reducible intro K hK)
     refine eR _ _ rfl ?_;clear fJ eR;repeat(first|refine Xu ?_)
     refine bD (σ':=⟨au [(2,.ptr 1 0 0),(11,aaa nodes.length),(12,aaa c),(15,.tree 1 (ints ks))],[.var [.tree 1 (ints L),aaa q],.var [.ref 4 5 0 ns.length],.gone,xo,.arr 5 (rowsOf az ns)]⟩) (Xs true [0,1,2,3,4] @oI) ?_;refine Xk ?_;refine jb [] (.take 0 (.take 1 (.take 2 (.take 3 (.take 4 (.take 5 (.take 6 (.take 7 (.take 8 (.take 9 (.take 10 (.take 11 (.take 12 (.take 13 (.take 14 (.take 15 (.take 16 (.take 17 .nil)))))))))))))))))) rfl Kq (by decide +kernel) ?_;simp(disch:=omega)only[Ac,↓Pc,simprocAttr,Pw,alL,az,eW,dX,List.set_set];repeat'(first|with_reducible refine cI ?_ ?_|omega|with_reducible rfl)
     (first|refine hn _ ?_|refine Sq.n _ ?_)
     ((try revert hK K);(repeat'(first|refine Vb X0 ?_|(refine V2 X0 ?_ ?_<;>try with_reducible intro hb)|(refine Xi ?_ ?_<;>try intro ht)|refine VD ?_ ?_|exact Xx|fail))<;>try with_reducible intro K hK)
     rw[<- aj];refine ey ?_ G9 rfl;dsimp only;rw[List.length_set,<- alM];rfl
  rcases GK with⟨p8,m8,m',hex⟩|⟨m8,hex⟩
  ·((try revert hK K);(repeat'(first|refine Va (X3 @m8 @p8 @k8.{0}) ?_|(refine V2 (X3 @m8 @p8 @k8.{0}) ?_ ?_<;>try with_reducible intro hb)|(refine Xi ?_ ?_<;>try intro ht)|refine VD ?_ ?_|exact Xx|fail))<;>try with_reducible intro K hK)
   all_goals try(exfalso;omega)
   exact acu _ (Xv @m8)
  ·((try revert hK K);(repeat'(first|refine Va (X2 @m8 @hex) ?_|(refine V2 (X2 @m8 @hex) ?_ ?_<;>try with_reducible intro hb)|(refine Xi ?_ ?_<;>try intro ht)|refine VD ?_ ?_|exact Xx|fail))<;>try with_reducible intro K hK)
   all_goals try(exfalso;omega)
   exact acu _ (by rw[hex];exact Xv @m8)
def alN(m:ah)(hm:GM m)(L:List Int)(hL:L.length<1000000)(s:Nat)(hs:s<=100)(bg:kv 25 s<=100000)(k:Nat)(hk:k<=L.length):
  an Tryz.prog 11 [.ptr 0 0 0,.agg (ao m),aaa s] [ef L k] (.agg (aU (ku m L s [] k []).1)) [ef L (ku m L s [] k []).2]:=by
 have hg:=an.WB (pre:=[.ptr 0 0 0,.agg (ao m),.ptr 1 0 0]) (post:=[aaa s]) (alH m hm L hL s hs G3 [] k [] (.tree 1 []) (.var (ao m)) hk PX PX G9 (.inl ⟨rfl,rfl,m,rfl⟩));generalize ku m L s [] k []=r at *;obtain⟨P,k2⟩:=r;dsimp only at hg ⊢;unfold ef at hg ⊢;refine an.aC 13 1 [.cell 6 25] Tryz.func11 ?_;repeat'(first|((fail_if_success (first|refine dE 2 ?_|refine dF 2 ?_));refine Xr X0 ?_;intro K hK)|refine Xo X0 ?_|(refine hK _ ?_;clear hK K)|(refine Xg X0 ?_ ?_<;>try intro hb)|(refine Xi ?_ ?_<;>try intro ht)|refine XY ?_|refine Xd ?_ ?_|exact Xx|fail)
 refine bD (ay.my 3 0 5 P5 P5 Kq) ?_;((try revert hK K);(repeat'(first|refine Vb X0 ?_|(refine V2 X0 ?_ ?_<;>try with_reducible intro hb)|(refine Xi ?_ ?_<;>try intro ht)|refine VD ?_ ?_|exact Xx|fail))<;>try with_reducible intro K hK)
 refine ez [0,3,4,1] hg Kq ⟨rfl,rfl,rfl,rfl,trivial⟩ ⟨.eq rfl,.pure rfl,.eq rfl,.pure rfl,.pure rfl,trivial⟩ ?_;((try revert hK K);(repeat'(first|refine Vb X0 ?_|(refine V2 X0 ?_ ?_<;>try with_reducible intro hb)|(refine Xi ?_ ?_<;>try intro ht)|refine VD ?_ ?_|exact Xx|fail))<;>try with_reducible intro K hK)
 simp(disch:=omega)only[Ac,↓Pc,simprocAttr];refine dr [0] true Kq ⟨⟨G9,.inr rfl⟩,trivial⟩ Kq Kq ?_;exact aI.agg _ _ rfl (eY.spec (R:=aI _ _ _ _) (cs:=aU P) (ds:=[.ref 5 5 0 P.length]) ⟨.fz rfl (by simp[rowsOf]),trivial⟩).2
end T

