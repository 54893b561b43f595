import Derived.Test.YtodilglobhifaaaDoorX37
import Derived.Test.YtodilglobhifaaaDoorX45
import Derived.Test.YtodilglobhifaaaDoorX46
set_option linter.all false
set_option maxHeartbeats 0
set_option maxRecDepth 20000
open Nat renaming zero_le→bk,sub_self→kn,le_refl→aH
open List renaming replicate→aw,replicate_zero→qX,length_replicate→uB
open Go Go.Am Go.Proofs
namespace T
def QT(m:ae)(hm:MB m):ao Tryd.prog 9 [.agg (aP m)] [] (.tree 1 (rowsOf dN (jd m))) []:=by
 have h1:=QN m hm;have nY:=hm.cls;generalize az:jd m=res;unfold jd at az;refine ao.aX 38 0 [.tmp 2] Tryd.func9 ?_;by_cases hv:mR m=0;rotate_left
 ·rw[if_neg hv]at az;rw[<- az];generalize mR m=e at *;((try revert hK K);(repeat'(first|refine Vd X0 h1 ?_|(refine V2 X0 ?_ ?_<;>try with_reducible intro hb)|(refine Xi ?_ ?_<;>try intro ht)|refine VD ?_ ?_|exact Xx|fail))<;>try with_reducible intro K hK)
  all_goals try(exfalso;omega)
  exact pM [] true US trivial US US bd.nil
 rw[if_pos hv]at az;rw[hv]at h1;have si:=yG.1 hv;have Kz:=si.cls;((try revert hK K);(repeat'(first|refine Vd @bne_self_eq_false.{0} h1 ?_|(refine V2 @bne_self_eq_false.{0} ?_ ?_<;>try with_reducible intro hb)|(refine Xi ?_ ?_<;>try intro ht)|refine VD ?_ ?_|exact Xx|fail))<;>try with_reducible intro K hK)
 refine bu (λz:Nat×List (List Bool)=>(⟨ax [(1,.ptr 0 0 0),(3,.ref 1 1 0 z.2.length),(4,UX z.1)],[.var (aP m),.arr 1 (rowsOf dN z.2)]⟩:St))
  (λz=>z.1<=m.cls.length/\z.2=(mf m).take z.1) (λz=>m.cls.length-z.1) (0,[]) ⟨bk _,rfl⟩ ?_ ?_
 ·refine aR.trans (aR.nil 3 1 (by simp only[Kc,simprocAttr]) US) ?_;exact Xv X0
 rintro⟨i,xs⟩⟨hi,qv⟩Ql aq aC;dsimp only at hi qv ⊢;have gz:(mf m).length=m.cls.length:=by simp[mf]
 by_cases hi':i<m.cls.length
 ·have nZ:xs.length=i:=by rw[qv,List.length_take];omega
  have mc:(mf m).take (i+1)=xs++[aw (m.cls.getD i default).length true]:=by
   rw[ql z8,<- qv];unfold mf;rw[qo _ _ _ hi']
  have QO:=si.opt _ (aO (d:=default) hi');generalize bN:m.cls.getD i default=c at *;((try revert hK K);(repeat'(first|refine Va (X2 @bN @cu.eq_1) ?_|(refine V2 (X2 @bN @cu.eq_1) ?_ ?_<;>try with_reducible intro hb)|(refine Xi ?_ ?_<;>try intro ht)|refine VD ?_ ?_|exact Xx|fail))<;>try with_reducible intro K hK)
  refine bu (λk:Nat=>(⟨ax [(1,.ptr 0 0 0),(3,.ref 1 1 0 xs.length),(4,UX i),(5,.ref 2 1 0 c.length),(6,UX k)],[.var (aP m),.arr 1 (rowsOf dN xs),.arr 1 (bP (aw k true++aw (c.length-k) false))]⟩:St))
   (λk=>k<=c.length) (λk=>c.length-k) 0 (bk _) (by simp only[Nat.sub_zero,qX,List.nil_append];exact Xv X0) ?_
  rintro k hk gu cr cy;have cF:(aw k true++aw (c.length-k) false).length=c.length:=UU;by_cases aQ:k<c.length
  ·have iL:(aw k true++aw (c.length-k) false).set k true=aw (k+1) true++aw (c.length-(k+1)) false:=by
    rw[List.set_append_right _ _ Eb,uB,kn,show c.length-k=(c.length-(k+1))+1 by omega,List.replicate_succ,List.set_cons_zero,List.replicate_succ',List.append_assoc];rfl
   ((try revert hK K);(repeat'(first|refine Va (X2 @cF @xV) ?_|(refine V2 (X2 @cF @xV) ?_ ?_<;>try with_reducible intro hb)|(refine Xi ?_ ?_<;>try intro ht)|refine VD ?_ ?_|exact Xx|fail))<;>try with_reducible intro K hK)
   rw[iL];exact cr _ (k+1) z8 z8 (Xv X0)
  ·obtain rfl:k=c.length:=z8;((try revert hK K);(repeat'(first|refine Va X0 ?_|(refine V2 X0 ?_ ?_<;>try with_reducible intro hb)|(refine Xi ?_ ?_<;>try intro ht)|refine VD ?_ ?_|exact Xx|fail))<;>try with_reducible intro K hK)
   refine cy _ _ rfl ?_;clear cr cy gu;repeat(first|refine Xu ?_)
   rw[kn,qX,List.append_nil]at *;refine kB (σ':=⟨ax [(1,.ptr 0 0 0),(3,.ref 1 1 0 xs.length),(4,UX i),(5,.tree 1 (bP (aw c.length true)))],[.var (aP m),.arr 1 (rowsOf dN xs)]⟩) (Xs true [0,1] @uB.{0}) ?_;((try revert hK K);(repeat'(first|refine Va @KA ?_|(refine V2 @KA ?_ ?_<;>try with_reducible intro hb)|(refine Xi ?_ ?_<;>try intro ht)|refine VD ?_ ?_|exact Xx|fail))<;>try with_reducible intro K hK)
   refine aq _ (i+1,xs++[aw c.length true]) ⟨UT,mc.symm⟩ UT ?_;exact Xs false [0,3] X0
 ·rw[List.take_of_length_le z8]at qv;((try revert hK K);(repeat'(first|refine Va X0 ?_|(refine V2 X0 ?_ ?_<;>try with_reducible intro hb)|(refine Xi ?_ ?_<;>try intro ht)|refine VD ?_ ?_|exact Xx|fail))<;>try with_reducible intro K hK)
  refine aC _ _ rfl ?_;clear aq aC Ql;repeat(first|refine Xu ?_)
  ((try revert hK K);(repeat'(first|refine Vb X0 ?_|(refine V2 X0 ?_ ?_<;>try with_reducible intro hb)|(refine Xi ?_ ?_<;>try intro ht)|refine VD ?_ ?_|exact Xx|fail))<;>try with_reducible intro K hK)
  rw[qv,az];exact Xw true [] X0
def QU{l:List (List Int)}{m:ae}(h:UM l m):∃res:List Int×List (List (Int×Int))×Bool,
  ao Tryd.prog 8 [.agg (aP m),.tree 1 (rowsOf dN (jd m))] [] (.bA [.tree 1 (ints res.1),.tree 1 (rowsOf dO res.2.1),.lit (.bool res.2.2)]) []/\res.2.2=decide (size l 5 (-1)<(l.length:Nat)):=by
 have hm:=h.vm;have dj:m.cls.length=l.length:=by rw[h.cls,List.length_map]
 have CS:=h.len;have gz:jd m=mf m:=by unfold jd;rw[if_pos (yG.2 hm)]
 have nI:mX m (jd m):=QV hm;have QW:=KB m (jd m);have QX:=zb hm.opt (left:=jd m) m.cls.length 0 (aH _) z8;have CT:=CU (m:=m) (left:=jd m) (c:=m.cls.length) (i:=0) (.inr ⟨rfl,aH _⟩) (bk _);rw[ua]at QX CT;have mg:=JT m QW;have iK:=tP m (eJ m (jd m));obtain⟨fE,ay⟩:=KC (N:=m.cls.length) (A:=jc m (eJ m (jd m))) (λC hC y hy=>by
  obtain⟨x,hx,e⟩:=(mg.mem C).1 hC;rw[e]at hy;have:=(CT y (iK.sub x hx y hy).1).1;omega)
 have a1:=mg.qq;refine⟨_,QY hm (QZ h) nI z8 _ rfl,?_⟩;have zc:=fE.jH z8 z8 (λc=>by have:=ay c;omega);have pq:=fE.left z8 z8 (λc=>by have:=ay c;omega);have hs:=Q2 h (by rw[gz]) CT mg fE pq;have hd:=Q3 pq;rw[fE.len,<- hs]at hd;unfold zd;rw[zc];dsimp only;by_cases hG:(dL (kL (jc m (eJ m (jd m))) 0 (aw m.cls.length [])) (jc m (eJ m (jd m))).length).1=[]
 ·rw[if_pos hG,eq_comm,decide_eq_false_iff_not];exact λhh=>hd.1 hG z8
 ·rw[if_neg hG,eq_comm,decide_eq_true_eq];exact Decidable.of_not_not λhn=>hG (hd.2 z8)
def Uj(tape:List Int):ao Tryd.prog 3 [.tree 1 (ints tape)] [] (.lit (.bool true)) []:=by
 refine ao.aX 36 0 [.tmp 2] Tryd.func3 ?_;repeat'(first|((fail_if_success (first|refine nj 3 ?_|refine nk 3 ?_));refine Xq X0 ?_;intro K hK)|refine Xo X0 ?_|refine Xc (O' _) ?_|refine Xc (KD) ?_|(refine hK _ ?_;clear hK K)|(refine Xg X0 ?_ ?_<;>try intro hb)|(refine Xi ?_ ?_<;>try intro ht)|refine XY ?_|refine Xd ?_ ?_|exact Xx|fail)
 ·exact aY rfl rfl
 have hL:tape.length<1000000:=z8;have vq:=Q5 tape 0 (bk _) hL;unfold n5 at vq;refine Aw 2 US _ rfl ?_;intro K hK;simp(disch:=omega)only[Ac,↓Pc,simprocAttr,List.take,List.drop];(refine Xn [] (Pa tape) ?_;simp(disch:=omega)only[Ac,↓Pc,simprocAttr])
 refine⟨rfl,(show my Tryd.prog 6 [.ptr 0 0 0] (some 15) _ _ from ?_)⟩;refine Nh [0] vq US ⟨rfl,trivial⟩ ⟨.eq rfl,trivial⟩ ?_;rintro r os⟨l,m,k,sj,hk,rfl,rfl⟩;simp(disch:=omega)only[Ac,↓Pc,simprocAttr,List.drop];refine hK _ ?_;clear hK K vq;repeat(first|refine Xu ?_)
 refine kB (σ':=⟨ax [(3,.ptr 0 0 0),(4,.tree 1 (aU l))],[.var (aP m)]⟩) (Xs false [1] @aP.eq_1) ?_;refine kB (aR.Pv 3 0 (cells:=aP m) UW (by simp only[Kc,simprocAttr]) (by simp[aP])) ?_;have hA:=QT m sj.vm.mb;obtain⟨res,f1,f2⟩:=QU sj;obtain⟨G,C,ok⟩:=res;dsimp only at f1 f2;have h3:=Q6 l 5 (-1) ⟨by have:=sj.len;omega,λr hr=>⟨by have:=(sj.row r hr).1;omega,λx hx=>by have:=(sj.row r hr).2 x hx;omega⟩⟩ US;generalize jd m=al at *;generalize size l 5 (-1)=sz at *;subst f2;have cQ:(aU l).length=l.length:=by simp[aU]
 have jC:(decide (sz<l.length)==decide ((sz:Int)<(l.length:Int)))=true:=by
  rw[beq_iff_eq,decide_eq_decide];omega
 ((try revert hK K);(repeat'(first|refine Vd (X3 @aP.eq_1 @cQ @jC) (X4 hA f1 h3 KD) ?_|(refine V2 (X3 @aP.eq_1 @cQ @jC) ?_ ?_<;>try with_reducible intro hb)|(refine Xi ?_ ?_<;>try intro ht)|refine VD ?_ ?_|exact Xx|fail))<;>try with_reducible intro K hK)
 exact aY rfl rfl
end T

