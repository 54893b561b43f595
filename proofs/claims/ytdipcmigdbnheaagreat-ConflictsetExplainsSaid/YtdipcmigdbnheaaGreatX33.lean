import Derived.Test.YtdipcmigdbnheaaGreatX26
import Derived.Test.YtdipcmigdbnheaaGreatX31
set_option linter.all false
set_option maxHeartbeats 0
set_option maxRecDepth 20000
open List renaming getElem?_eq_some_iff→a8,getElem?_set_ne→bR,append_assoc→cM,length_append→bQ,length_set→bF,getElem?_map→cj,getD_eq_getElem?_getD→aA,getElem?_eq_getElem→bK,set_set→xn,set_cons_zero→sB,length_singleton→yF,Perm→tB,getElem?_set→cA,replicate→bH
open And renaming intro→eR
open Go Go.Am Go.Proofs
namespace T
def JN:ty Tryz.prog 113 = { kind:=9,size:=1,bytes:=8,elem:=0,len:=0,zero:=some [.nilFunc],aY:=[] }:=by kernel_rfl
def amu(m:aj)(hm:VM m)(pv:AV)(t0:Int):∀ (f c:Nat) (left:List (List Bool)) (os:List Ob) (g:QS) (C:List (Nat×Ob)),left.length+1<=f+c->c<=left.length->dD m left->os.length=g.n->(0<=g.s.spl/\g.s.spl<=1000000)->(0<=g.s.room/\(g.R.length:Int)+g.s.room<=1000000)->g.s.bA<=t0->Fc (qB 103 m left pv t0 g C) os->∀ res,mF m f c left g=res ->
  ao Tryz.prog 103 [aaC (c:Nat),.ptr 8 0 0,.ptr 5 0 0,.ptr 0 0 0,.ptr 1 0 0,.ptr 2 0 0,.ptr 7 0 0,.ptr 6 0 0,.ptr 9 0 0] os (aaC g.R.length) (canon (qB 103 m left pv t0 res C) res.n):=by
 intro f
 induction f with
 |zero=>intro c left os g C hf hc;omega
 |succ f ih =>
  intro c left os g C hf hc ey xF z' pd Fb hF res ak;have fC:=ey.1;have nu:=hm.cls;have ky:=ag2 m left hm ey;obtain⟨k1,k2,k3,k4⟩:=Br (left:=left) _ c rfl;have f8:os[8]?=some (.var [.ref g.p 5 0 g.R.length]):=nH hF (b:=(8,.var [.ref g.p 5 0 g.R.length])) (by simp[bB]);have fp:=OT hF;have hn9:9<g.n:=by rw[<- xF];exact(a8.1 (nH hF (b:=(9,.var [.fn 103 By])) (by simp[bB]))).1
  have hp8:g.p≠8:=acw hF (b:=(8,.var [.ref g.p 5 0 g.R.length])) (by simp[bB]);have g8:(os.set g.p .gone)[8]?=some (.var [.ref g.p 5 0 g.R.length]):=by rw[bR hp8];exact f8
  have pB:=al4 hF (g.n+2) (g.s.nodes++[nE []]);have Gf:=JJ (dn:=103) (m:=m) (left:=left) (pv:=pv) (t0:=t0) (N:=left.length) (f+1) c left g C rfl hf hc (by rw[<- xF];exact hF.fk);rw[ak]at Gf;rw[mF]at ak;refine ao.aD 132 os.length [.tmp 10] Tryz.func103 ?_;(((refine Va (X5 @f8 @fp @g8 (bg g8) (X5 (fP g8) (bg f8) (bg fp) (fP f8) (X5 (fP fp) @cy @cM.{0} @bQ.{0} @bF.{0}))) ?_)))
  refine bY (σ':=⟨aw [(0,aaC (c:Nat)),(1,.ptr 8 0 0),(2,.ptr 5 0 0),(3,.ptr 0 0 0),(4,.ptr 1 0 0),(5,.ptr 2 0 0),(6,.ptr 7 0 0),(7,.ptr 6 0 0),(8,.ptr 9 0 0),(11,aaC g.R.length)],(os.set g.p .gone).set 8 (.var [.ref (os.length+1) 5 0 (g.R.length+1)])++[.arr 5 [cS dx],.arr 5 (rowsOf cS (g.R++[dx]))]⟩) (by rw[<- ahw];exact Xv X0) ?_;have Gj:((os.set g.p .gone).set 8 (.var [.ref (os.length+1) 5 0 (g.R.length+1)])++[Ob.arr 5 [cS dx],Ob.arr 5 (rowsOf cS (g.R++[dx]))]).length=g.n+2:=by simp[xF]
  rw[show os.length+1=g.n+1 by omega]at pB Gj ⊢;generalize (os.set g.p .gone).set 8 (.var [.ref (g.n+1) 5 0 (g.R.length+1)])++[Ob.arr 5 [cS dx],Ob.arr 5 (rowsOf cS (g.R++[dx]))]=o1 at *;clear f8 fp hp8 g8 hF;have gM:(g.R++[dx]).length=g.R.length+1:=GF;have hRg:(g.R++[dx]).getD g.R.length default=dx:=acs g.R;have c0:o1[0]?=some (.var (aq m)):=nH pB (b:=(0,.var (aq m))) (by simp[bB]);have c4:o1[4]?=some (.arr 1 (rowsOf aQ left)):=nH pB (b:=(4,.arr 1 (rowsOf aQ left))) (by simp[bB]);have c5:o1[5]?=some (.var [.ref 4 1 0 left.length]):=nH pB (b:=(5,.var [.ref 4 1 0 left.length])) (by simp[bB]);have xP:∀ k,k<left.length->(rowsOf aQ left)[k]?=some [.tree 1 (aX (left.getD k default))]:=λk hk=>by
   unfold rowsOf;rw[cj,aA,bK hk];rfl
  have Cr:∀ k,k<left.length->(left.getD k default).length<=24:=λk hk=>by rw[ey.2 k hk];exact hm.opt _ (ay GC)
  refine aM (λk:Nat=>(⟨aw [(0,aaC (k:Nat)),(1,.ptr 8 0 0),(2,.ptr 5 0 0),(3,.ptr 0 0 0),(4,.ptr 1 0 0),(5,.ptr 2 0 0),(6,.ptr 7 0 0),(7,.ptr 6 0 0),(8,.ptr 9 0 0),(11,aaC g.R.length)],o1⟩:St)) (λk=>c<=k/\k<=left.length/\dr left k=dr left c) (λk=>left.length-k) c ⟨Nat.le_refl _,hc,rfl⟩ (Xv X0) ?_;rintro k⟨jb,b9,tq⟩Ql an ar;by_cases bP:k<left.length/\(left.getD k default).length=1
  ·have xe:=xP k bP.1;have F5:=Og bP;generalize left.getD k default=row at *;((repeat'(first|refine Va (X3 @c4 @c5 @xe) ?_|(refine V2 (X3 @c4 @c5 @xe) ?_ ?_<;>try with_reducible intro hb)|(refine Xi ?_ ?_<;>try intro ht)|exact Xx|fail)))
   all_goals exact an _ (k+1) ⟨GC,GC,by rw[<- F5,tq]⟩ GC (Xv X0)
  have iO:k=dr left c:=by rw[<- tq,Jr bP]
  have ac2:∀ st,aF os.length st ⟨aw [(0,aaC (k:Nat)),(1,.ptr 8 0 0),(2,.ptr 5 0 0),(3,.ptr 0 0 0),(4,.ptr 1 0 0),(5,.ptr 2 0 0),(6,.ptr 7 0 0),(7,.ptr 6 0 0),(8,.ptr 9 0 0),(11,aaC g.R.length)],o1⟩->Ql (.exit 0) st:=λst cN=>by
   refine ar _ _ rfl ?_;clear an ar;repeat(refine Xu ?_)
   refine bY cN ?_;clear cN st;rw[<- iO]at ak k1 k2 k3 k4;clear iO tq;have vn:eS o1 [] ([]:List Ob)=o1:=by simp[eS]
   ((refine Va (X2 @c0 @c5) ?_)<;>try with_reducible intro K hK)
   refine nM [] ky Px trivial ⟨.pure rfl,aJ.fz c4 (by rw[b8]),trivial⟩ rfl GF ?_;rw[List.map_nil,vn];simp(disch:=omega)only[Ac,↓Pc,simprocAttr];refine hK _ ?_;clear hK K;generalize hv:fc m left=v at *;have c1:o1[1]?=some (.var [eP pv t0 g.s,aaC g.s.bA,aaC g.s.cK,.lit (.slice none 0 0)]):=nH pB (b:=(1,vL pv t0 g.s)) (by simp[bB,vL,eP]);have c2:o1[2]?=some (.var [aaC g.s.spl]):=nH pB (b:=(2,.var [aaC g.s.spl])) (by simp[bB]);have c6:o1[6]?=some (.var [.lit (.bool g.s.whole)]):=nH pB (b:=(6,.var [.lit (.bool g.s.whole)])) (by simp[bB]);have c7:o1[7]?=some (.var [aaC g.s.room]):=nH pB (b:=(7,.var [aaC g.s.room])) (by simp[bB]);by_cases rK:g.s.bA<=v
   ·rw[if_pos rK]at ak;dsimp only at ak pB;have uy:Fc (qB 103 m left pv t0 res C) (o1.set 1 (.var [eP pv t0 g.s,aaC g.s.bA,aaC (min g.s.cK v),.lit (.slice none 0 0)])):=by
     subst ak;exact zV pB
    have qX:res.n=o1.length:=by rw[<- ak,Gj]
    clear ak;have JP:=λy:Ob=>kh (y:=y) c1;repeat'(first|((fail_if_success (first|refine eT 8 ?_|refine eU 8 ?_));refine Xr (X2 @c1 @JP) ?_;intro K hK)|(refine hK _ ?_;clear hK K)|(refine Xi ?_ ?_<;>try intro ht)|refine Xy ?_|exact Xx|fail)
    refine bY (σ':=⟨aw [(11,aaC g.R.length)],o1.set 1 (.var [eP pv t0 g.s,aaC g.s.bA,aaC (min g.s.cK v),.lit (.slice none 0 0)])⟩) (Xv X0) ?_;refine bY (aF.canon uy) ?_;dsimp only;rw[bF,<- qX];refine Vb X0 ?_;exact eu rfl (by rw[A0];omega) rfl
   rw[if_neg rK]at ak;by_cases cI:k=left.length
   ·rw[if_pos cI]at ak;have ek:=agR left GC (λl hl=>by
     obtain⟨i,hi,rfl⟩:=List.getElem_of_mem hl;have:=Cr i hi;rwa [aA,bK hi]at this)
    have yi:eS o1 [] (List.map (cg (bL o1.length [])) [Ob.arr 1 (ints (kd left))])=o1++[Ob.arr 1 (ints (kd left))]:=by simp[eS,rG]
    have xU:∀ x,(o1++[x])[1]?=some (.var [eP pv t0 g.s,aaC g.s.bA,aaC g.s.cK,.lit (.slice none 0 0)]):=λx=>bg c1 _;have ac3:∀ x y,((o1++[x]).set 1 y)[1]?=some y:=λx y=>kh (xU x);have jS:∀ x y z,((o1++[x]).set 1 y).set 1 z=(o1++[x]).set 1 z:=λx y z=>xn ..;have h1l:1≠o1.length:=GC;have gD:(ints (kd left)).length=left.length:=by simp[ints,kd]
    dsimp only at ak pB;have uy:Fc (qB 103 m left pv t0 res C) ((o1++[Ob.gone]).set 1 (.var [.tree 1 (ints (kd left)),aaC v,aaC (min g.s.cK v),.lit (.slice none 0 0)])):=by
     subst ak;exact zV (pB.app [Ob.gone]) (hy:=by simp[bB,vL,eP,show v<t0 by omega])
    have qX:res.n=o1.length+1:=by rw[<- ak,Gj]
    clear ak;have mK:∀ X:Ob,((o1++[Ob.arr 1 (ints (kd left))]).set 1 X)[o1.length]?=some (.arr 1 (ints (kd left))):=λX=>by rw[bR h1l];exact kf _ _ _
    have dP:∀ X Y:Ob,(((o1++[Ob.arr 1 (ints (kd left))]).set 1 X).set o1.length .gone).set 1 Y=(o1++[Ob.gone]).set 1 Y:=λX Y=>by rw[List.set_comm _ _ h1l,xn,zz]
    repeat'(first|((fail_if_success (first|refine eT 10 ?_|refine eU 10 ?_));refine Xr (X3 @c1 @c4 @c5) ?_;intro K hK)|(refine hK _ ?_;clear hK K)|(refine Xi ?_ ?_<;>try intro ht)|refine Xy ?_|exact Xx|fail)
    refine kv [] (.take 0 (.take 2 (.take 5 (.both 1 (.take 3 (.take 4 (.take 6 (.take 7 (.take 8 (.take 9 (.take 10 (.take 11 (.take 12 .nil))))))))) 3 (.both 1 (.take 4 (.take 6 (.take 7 (.take 8 (.take 9 (.take 10 (.take 11 (.take 12 .nil)))))))) 4 (.take 1 (.take 6 (.take 7 (.take 8 (.take 9 (.take 10 (.take 11 (.take 12 .nil))))))))))))) rfl Px (by decide +kernel) ?_;simp(disch:=omega)only[Ac,↓Pc,simprocAttr,Pw,c1,c4,c5];repeat'(with_reducible refine eR ?_ ?_)
    all_goals
     refine nM [] ek Px trivial ⟨aJ.fz c4 (by rw[b8]),trivial⟩ rfl (by simp[xB,ints,flat]) ?_;rw[yi];simp(disch:=omega)only[Ac,↓Pc,simprocAttr,Pw,c1,xU,ac3,jS]
    all_goals
     repeat(refine Xu ?_)
     refine bY (σ':=⟨aw [(11,aaC g.R.length)],(o1++[Ob.arr 1 (ints (kd left))]).set 1 (.var [.ref o1.length 1 0 (ints (kd left)).length,aaC v,aaC (min g.s.cK v),.lit (.slice none 0 0)])⟩) (by rw[gD];exact Xv X0) ?_;refine bY (aF.wg o1.length 1 0 1 (ac3 _ _) (mK _) rfl (rH _) (sL _)) ?_;simp only[sB];rw[dP];refine bY (aF.canon uy) ?_;dsimp only;rw[bF,bQ,yF,<- qX];((repeat'(first|refine Vb X0 ?_|fail)))
     exact eu rfl (by rw[A0];omega) rfl
   rw[if_neg cI]at ak;have cI:k<left.length:=GC;have xe:=xP k cI;have dO:=k4 cI;have bq:=Cr k cI;generalize cE:left.getD k default=row at *;by_cases O7:g.s.spl=0\/g.s.room<row.length
   ·rw[if_pos O7]at ak;dsimp only at ak pB;have uy:Fc (qB 103 m left pv t0 res C) ((o1.set 1 (.var [eP pv t0 g.s,aaC g.s.bA,aaC (min g.s.cK v),.lit (.slice none 0 0)])).set 6 (.var [.lit (.bool false)])):=by
     subst ak;have h1:=zV (i:=1) (y:=(.var [eP pv t0 g.s,aaC g.s.bA,aaC (min g.s.cK v),.lit (.slice none 0 0)])) (left':=left) (g':=⟨g.n+2,g.n+1,g.R++[dx],{ g.s with nodes:=g.s.nodes++[nE []],cK:=min g.s.cK v }⟩) pB;exact zV h1
    have qX:res.n=o1.length:=by rw[<- ak,Gj]
    clear ak;have c66:∀ x,(o1.set 1 x)[6]?=some (.var [.lit (.bool g.s.whole)]):=λx=>by rw[bR Px];exact c6
    have JP:=λy:Ob=>kh (y:=y) c1;repeat'(first|((fail_if_success (first|refine eT 14 ?_|refine eU 14 ?_));refine Xr (X5 @c1 @c2 @c4 @c5 (X4 @c7 @xe @JP @c66)) ?_;intro K hK)|(refine hK _ ?_;clear hK K)|(refine Xg (X5 @c1 @c2 @c4 @c5 (X4 @c7 @xe @JP @c66)) ?_ ?_<;>try intro hb)|(refine Xi ?_ ?_<;>try intro ht)|refine Xy ?_|refine Xd ?_ ?_|exact Xx|fail)
    all_goals
     refine bY (σ':=⟨aw [(11,aaC g.R.length)],(o1.set 1 (.var [eP pv t0 g.s,aaC g.s.bA,aaC (min g.s.cK v),.lit (.slice none 0 0)])).set 6 (.var [.lit (.bool false)])⟩) (Xv X0) ?_;refine bY (aF.canon uy) ?_;dsimp only;rw[bF,bF,<- qX];((repeat'(first|refine Vb X0 ?_|fail)))
     exact eu rfl (by rw[A0];omega) rfl
   rw[if_neg O7]at ak;rw[not_or]at O7;unfold lY at ak;rw[cE]at ak;have c8:o1[8]?=some (.var [.ref (g.n+1) 5 0 (g.R.length+1)]):=nH pB (b:=(8,.var [.ref (g.n+1) 5 0 (g.R.length+1)])) (by simp[bB]);have uy:Fc (qB 103 m left pv t0 ⟨g.n+2,g.n+1,g.R++[dx],⟨g.s.nodes++[nE []],g.s.room-row.length,g.s.spl-1,g.s.whole,g.s.plan,g.s.bA,g.s.cK⟩⟩ C) ((o1.set 2 (.var [aaC (g.s.spl-1)])).set 7 (.var [aaC (g.s.room-row.length)])):=by
    have h1:=zV (i:=2) (y:=(.var [aaC (g.s.spl-1)])) (left':=left) (g':=⟨g.n+2,g.n+1,g.R++[dx],{ g.s with nodes:=g.s.nodes++[nE []],spl:=g.s.spl-1 }⟩) pB;exact zV h1
   have O8:∀ x,(o1.set 2 x)[7]?=some (.var [aaC g.s.room]):=λx=>by rw[bR Px];exact c7
   have O9:∀ x,(o1.set 2 x)[4]?=some (.arr 1 (rowsOf aQ left)):=λx=>by rw[bR Px];exact c4
   have O':∀ x,(o1.set 2 x)[5]?=some (.var [.ref 4 1 0 left.length]):=λx=>by rw[bR Px];exact c5
   repeat'(first|((fail_if_success (first|refine eT 18 ?_|refine eU 18 ?_));refine Xr (X5 @c1 @c2 @c4 @c5 (X5 @c7 @xe @O8 @O9 @O')) ?_;intro K hK)|(refine hK _ ?_;clear hK K)|(refine Xg (X5 @c1 @c2 @c4 @c5 (X5 @c7 @xe @O8 @O9 @O')) ?_ ?_<;>try intro hb)|(refine Xi ?_ ?_<;>try intro ht)|refine Xy ?_|refine Xd ?_ ?_|exact Xx|fail)
   refine bY (σ':=⟨aw [(0,aaC (k:Nat)),(1,.ptr 8 0 0),(2,.ptr 5 0 0),(3,.ptr 0 0 0),(4,.ptr 1 0 0),(5,.ptr 2 0 0),(6,.ptr 7 0 0),(7,.ptr 6 0 0),(8,.ptr 9 0 0),(11,aaC g.R.length),(13,.tree 1 (aX row))],(o1.set 2 (.var [aaC (g.s.spl-1)])).set 7 (.var [aaC (g.s.room-row.length)])⟩) (Xv X0) ?_;have JQ:((o1.set 2 (.var [aaC (g.s.spl-1)])).set 7 (.var [aaC (g.s.room-row.length)])).length=g.n+2:=by simp[Gj]
   generalize (o1.set 2 (.var [aaC (g.s.spl-1)])).set 7 (.var [aaC (g.s.room-row.length)])=o2 at *;clear c0 c1 c2 c4 c5 c6 c7 c8 O8 O9 O' pB;refine Va @cy ?_;refine bY (aF.ni o2.length 1 1 (kf _ _ _) rfl Px) ?_;simp only[List.set_cons_succ,sB,cM,List.cons_append,List.nil_append,bQ,yF,zz];rw[JQ];refine bY (σ':=⟨aw [(0,aaC (k:Nat)),(1,.ptr 8 0 0),(2,.ptr 5 0 0),(3,.ptr 0 0 0),(4,.ptr 1 0 0),(5,.ptr 2 0 0),(6,.ptr 7 0 0),(7,.ptr 6 0 0),(8,.ptr 9 0 0),(11,aaC g.R.length),(13,.tree 1 (aX row)),(14,.ptr (g.n+2) 0 0),(96,.tree 1 (aX row)),(97,aaC row.length),(98,aaC (0:Nat))],o2++[.var (cS ⟨k,some (g.n+3,[]),none⟩),.arr 1 (ints [])]⟩) (Xv X0) ?_;have hF3:Fc (qB 103 m (left.set k row) pv t0 ⟨g.n+4,g.n+1,g.R++[dx],⟨g.s.nodes++[nE []],g.s.room-row.length,g.s.spl-1,g.s.whole,g.s.plan,g.s.bA,g.s.cK⟩⟩ ((g.n+3,.arr 1 (ints []))::(g.n+2,.var (cS ⟨k,some (g.n+3,[]),none⟩))::C)) (o2++[.var (cS ⟨k,some (g.n+3,[]),none⟩),.arr 1 (ints [])]):=by
    have e:left.set k row=left:=by rw[<- cE];exact setRow_self cI
    rw[e];have uy:Fc (qB 103 m left pv t0 ⟨g.n+4,g.n+1,g.R++[dx],⟨g.s.nodes++[nE []],g.s.room-row.length,g.s.spl-1,g.s.whole,g.s.plan,g.s.bA,g.s.cK⟩⟩ C) o2:=uy;have h1:=(uy.app [Ob.var (cS ⟨k,some (g.n+3,[]),none⟩),Ob.arr 1 (ints [])]).add (k:=g.n+2) (x:=.var (cS ⟨k,some (g.n+3,[]),none⟩)) (by rw[<- JQ];exact kf _ _ _) (uy.fresh GC);have h2:=h1.add (k:=g.n+3) (x:=.arr 1 (ints [])) (by rw[show g.n+3=o2.length+1 by omega,nX];rfl) (by
     rw[List.map_cons,List.mem_cons,not_or];exact⟨PA,uy.fresh GC⟩)
    exact h2.perm ((tB.cons _ tu).trans tu)
   have ac7:(o2++[Ob.var (cS ⟨k,some (g.n+3,[]),none⟩),Ob.arr 1 (ints [])]).length=g.n+4:=by simp[JQ]
   generalize o2++[Ob.var (cS ⟨k,some (g.n+3,[]),none⟩),Ob.arr 1 (ints [])]=o3 at *;clear uy JQ o2;generalize qQ:lG (mF m f (k+1)) left k row.length 0 ⟨g.n+4,g.n+1,g.R++[dx],⟨g.s.nodes++[nE []],g.s.room-row.length,g.s.spl-1,g.s.whole,g.s.plan,g.s.bA,g.s.cK⟩⟩ (g.n+3) []=RR at *;refine aM (λz:Nat×QS×Nat×List Int×List Ob×List Bool=>(⟨aw [(0,aaC (k:Nat)),(1,.ptr 8 0 0),(2,.ptr 5 0 0),(3,.ptr 0 0 0),(4,.ptr 1 0 0),(5,.ptr 2 0 0),(6,.ptr 7 0 0),(7,.ptr 6 0 0),(8,.ptr 9 0 0),(11,aaC g.R.length),(13,.tree 1 (aX row)),(14,.ptr (g.n+2) 0 0),(97,aaC row.length),(98,aaC z.1)],z.2.2.2.2.1⟩:St))
    (λz=>z.1<=row.length/\z.2.2.2.1.length=z.1/\g.R.length<z.2.1.R.length/\z.2.1.R.getD g.R.length default=dx/\z.2.2.2.2.1.length=z.2.1.n/\g.n<=z.2.1.n/\Fc (qB 103 m (left.set k z.2.2.2.2.2) pv t0 z.2.1 ((z.2.2.1,.arr 1 (ints z.2.2.2.1))::(g.n+2,.var (cS ⟨k,some (z.2.2.1,z.2.2.2.1),none⟩))::C)) z.2.2.2.2.1 /\
     lG (mF m f (k+1)) left k (row.length-z.1) z.1 z.2.1 z.2.2.1 z.2.2.2.1=RR/\(z.2.1.R.length:Int)+z.2.1.s.room=g.R.length+1+g.s.room-row.length+z.1/\0<=z.2.1.s.room/\(0<=z.2.1.s.spl/\z.2.1.s.spl<=1000000)/\z.2.1.s.bA<=t0) (λz=>row.length-z.1)
    (0,⟨g.n+4,g.n+1,g.R++[dx],⟨g.s.nodes++[nE []],g.s.room-row.length,g.s.spl-1,g.s.whole,g.s.plan,g.s.bA,g.s.cK⟩⟩,g.n+3,[],o3,row) ⟨Nat.zero_le _,rfl,PA,hRg,ac7,PA,hF3,qQ,by dsimp only;rw[gM];omega,PA,PA,Fb⟩ (Xv X0) ?_
   clear hF3 ac7 o3 qQ;rintro⟨i,gg,q,ks,o,x⟩⟨hi,tq,JR,JS,fZ,hgn,vM,hr,hbr,n7,lL,jO⟩lB fQ eV;dsimp only at hi tq JR JS fZ hgn vM hr hbr n7 lL jO ⊢;have d4:o[4]?=some (.arr 1 (rowsOf aQ (left.set k x))):=nH vM (b:=(4,.arr 1 (rowsOf aQ (left.set k x)))) (by simp[bB]);have d5:o[5]?=some (.var [.ref 4 1 0 left.length]):=nH vM (b:=(5,.var [.ref 4 1 0 left.length])) (by simp[bB]);have d9:o[9]?=some (.var [.fn 103 [.ptr 8 0 0,.ptr 5 0 0,.ptr 0 0 0,.ptr 1 0 0,.ptr 2 0 0,.ptr 7 0 0,.ptr 6 0 0,.ptr 9 0 0]]):=nH vM (b:=(9,.var [.fn 103 By])) (by simp[bB]);have dv:o[g.n+2]?=some (.var (cS ⟨k,some (q,ks),none⟩)):=Ge vM (b:=(g.n+2,.var (cS ⟨k,some (q,ks),none⟩))) GF;have h4l:=(a8.1 d4).1;have amT:k<(left.set k x).length:=by rw[bF];exact cI
   have cD:(rowsOf aQ (left.set k x)).length=left.length:=by rw[b8,bF]
   by_cases hi':i<row.length
   ·have JT:(rowsOf aQ (left.set k x))[k]?=some [.tree 1 (aX x)]:=by
     unfold rowsOf;rw[cj,cA,if_pos rfl,if_pos cI];rfl
    have dP:∀ y,((rowsOf aQ (left.set k x)).set k y)[k]?=some y:=λy=>by rw[cA,if_pos rfl,if_pos (by rw[cD];exact cI)]
    have e4:∀ A B,((o++[A]).set 4 B)[4]?=some B:=λA B=>kh (bg d4 _);have e5:∀ A B,((o++[A]).set 4 B)[5]?=some (.var [.ref 4 1 0 left.length]):=λA B=>by rw[bR Px];exact bg d5 _
    have eL:∀ A B,((o++[A]).set 4 B)[o.length]?=some A:=λA B=>by rw[bR GC];exact kf _ _ _
    have hb5:=λA=>bg d5 [A];have Dl:=λA=>bg d4 [A];have hbf:(aX (bH row.length false))[i]?=some [.lit (.bool false)]:=by
     unfold aX;rw[cj,List.getElem?_replicate,if_pos hi'];rfl
    have wU:(aX (mV row.length i)).length=row.length:=by rw[yS,Ij]
    have JU:bV left k i=left.set k (mV row.length i):=by unfold bV;rw[cE]
    repeat'(first|((fail_if_success (first|refine eT 24 ?_|refine eU 24 ?_));refine Xr (X5 @d4 @d5 @Dl @hb5 (X5 @JT @dP @e4 @e5 (X5 @eL @cD @hbf @bF.{0} (X2 @bQ.{0} @List.length_replicate.{0})))) ?_;intro K hK)|(refine hK _ ?_;clear hK K)|(refine Xi ?_ ?_<;>try intro ht)|refine Xy ?_|refine Xd ?_ ?_|exact Xx|fail)
    refine bY (σ':=⟨aw [(0,aaC (k:Nat)),(1,.ptr 8 0 0),(2,.ptr 5 0 0),(3,.ptr 0 0 0),(4,.ptr 1 0 0),(5,.ptr 2 0 0),(6,.ptr 7 0 0),(7,.ptr 6 0 0),(8,.ptr 9 0 0),(11,aaC g.R.length),(13,.tree 1 (aX row)),(14,.ptr (g.n+2) 0 0),(97,aaC row.length),(98,aaC i)],((o++[Ob.arr 1 (aX (bH row.length false))]).set 4 (.arr 1 ((rowsOf aQ (left.set k x)).set k [.ref o.length 1 0 row.length]))).set o.length (.arr 1 (aX (mV row.length i)))⟩) (by unfold mV;exact Xv X0) ?_;refine bY (aF.LS o.length 4 k 0 1 1 (R:=(rowsOf aQ (left.set k x)).set k [.ref o.length 1 0 row.length]) (cells:=[.ref o.length 1 0 row.length]) (rows:=aX (mV row.length i)) (by rw[bR GC];exact e4 _ _) (dP _) (kh (eL _ _)) (by rw[wU];rfl) GC (DQ _) (Hb _)) ?_;have hsx:∀ A B A' B':Ob,(((((o++[A]).set 4 B).set o.length A').set o.length Ob.gone).set 4 B')=(o++[Ob.gone]).set 4 B':=λA B A' B'=>by
     rw[xn,List.set_comm _ _ (show 4≠o.length by omega),xn,zz]
    rw[hsx,xn];simp only[sB];rw[acC,<- JU];have Dm:Fc (qB 103 m (bV left k i) pv t0 ⟨gg.n+1,gg.p,gg.R,gg.s⟩ ((q,.arr 1 (ints ks))::(g.n+2,.var (cS ⟨k,some (q,ks),none⟩))::C)) ((o++[Ob.gone]).set 4 (.arr 1 (rowsOf aQ (bV left k i)))):=by
     rw[JU];exact zV (vM.app [Ob.gone])
    have Pa:((o++[Ob.gone]).set 4 (.arr 1 (rowsOf aQ (bV left k i)))).length=gg.n+1:=by simp[fZ]
    generalize (o++[Ob.gone]).set 4 (.arr 1 (rowsOf aQ (bV left k i)))=o4 at *;clear vM d4 d5 d9 dv h4l amT cD JT dP e4 e5 eL hb5 Dl hbf hsx fZ;have sv:(bV left k i).length=left.length:=by rw[JU,bF]
    have hG:=ih (k+1) (bV left k i) o4 ⟨gg.n+1,gg.p,gg.R,gg.s⟩ _ GC GC (FT ey (Ik _ _ _)) Pa lL ⟨n7,PA⟩ jO Dm _ rfl;have Z5:=JJ (dn:=103) (m:=m) (left:=bV left k i) (pv:=pv) (t0:=t0) (N:=left.length) f (k+1) (bV left k i) ⟨gg.n+1,gg.p,gg.R,gg.s⟩ _ sv GC GC (by have:=Dm.fk;rw[Pa]at this;exact this);have ada:=acy m (N:=left.length) f (k+1) (bV left k i) ⟨gg.n+1,gg.p,gg.R,gg.s⟩ sv GC GC;have amU:=acA m f (k+1) (bV left k i) ⟨gg.n+1,gg.p,gg.R,gg.s⟩;rw[show row.length-i=(row.length-(i+1))+1 by omega,lG]at hr;have d9:o4[9]?=some (.var [.fn 103 [.ptr 8 0 0,.ptr 5 0 0,.ptr 0 0 0,.ptr 1 0 0,.ptr 2 0 0,.ptr 7 0 0,.ptr 6 0 0,.ptr 9 0 0]]):=nH Dm (b:=(9,.var [.fn 103 By])) (by simp[bB]);have dv:o4[g.n+2]?=some (.var (cS ⟨k,some (q,ks),none⟩)):=Ge Dm (b:=(g.n+2,.var (cS ⟨k,some (q,ks),none⟩))) GF;generalize mF m f (k+1) (bV left k i) ⟨gg.n+1,gg.p,gg.R,gg.s⟩=r at *;obtain⟨x1,x2,x3,x4⟩:=Z5;obtain⟨y1,y2,y3,y4,y5⟩:=amU;dsimp only at x1 x2 x3 ada y1 y2 y3 y4 y5 hG;have ux:=x4.canon;have Bz:=A0 (qB 103 m (bV left k i) pv t0 r ((q,.arr 1 (ints ks))::(g.n+2,.var (cS ⟨k,some (q,ks),none⟩))::C)) r.n;generalize canon (qB 103 m (bV left k i) pv t0 r ((q,.arr 1 (ints ks))::(g.n+2,.var (cS ⟨k,some (q,ks),none⟩))::C)) r.n=o5 at *;have dq:o5[q]?=some (.arr 1 (ints ks)):=Ge ux (b:=(q,.arr 1 (ints ks))) GF;have Gk:o5[g.n+2]?=some (.var (cS ⟨k,some (q,ks),none⟩)):=Ge ux (b:=(g.n+2,.var (cS ⟨k,some (q,ks),none⟩))) GF;have Gl:(o5.set q Ob.gone)[g.n+2]?=some (.var (cS ⟨k,some (q,ks),none⟩)):=Bb Gk dq GF;have yB:=al6 (X':=.var (cS ⟨k,some (r.n+1,ks++[(gg.R.length:Int)]),none⟩)) (.arr 1 [[aaC gg.R.length]]) ux (r.n+2) (.arr 1 (ints (ks++[(gg.R.length:Int)])));rw[Bz]at yB;have jb:((k+1:Nat):Int)=(k:Int)+1:=GC;have amV:os.length<=o5.length:=by rw[Bz,xF];omega
    have amW:o4.length<=o5.length:=by rw[Bz,Pa];exact x3
    rw[jb]at hG;have amX:cS ⟨(k:Int),some (o5.length+1,ks++[(gg.R.length:Int)]),none⟩=[aaC k,.ref (o5.length+1) 1 0 (ks.length+1),.lit (.slice none 0 0),.lit (.slice none 0 0),.lit (.slice none 0 0)]:=by unfold cS kE mE;simp
    unfold cS kE mE at dv Gk Gl;dsimp only at dv Gk Gl;refine kv [] (.take 2 (.take 3 (.take 4 (.both 0 (.both 1 (.take 5 (.take 6 (.take 7 (.take 8 (.take 9 .nil))))) 5 (.take 1 (.take 6 (.take 7 (.take 8 (.take 9 .nil)))))) 5 (.take 0 (.take 1 (.take 6 (.take 7 (.take 8 (.take 9 .nil)))))))))) rfl Px (by decide +kernel) ?_;simp(disch:=omega)only[Ac,↓Pc,simprocAttr,Pw,dv,d9,JN];repeat'(first|with_reducible refine eR ?_ ?_|omega)
    all_goals
     refine ig hG (by first|exact amW|exact amV) ?_;simp(disch:=omega)only[Ac,↓Pc,simprocAttr,Pw,JN,dq,Gk,Gl,bg dq,fP dq,bg Gk,bg Gl,fP Gl,cy,cM,bQ,bF,G'];repeat'(first|with_reducible refine eR ?_ ?_|omega)
    all_goals
     repeat(refine Xu ?_)
     ((repeat'(first|refine Va X0 ?_|fail)))
     refine fQ _ (i+1,⟨r.n+2,r.p,r.R,r.s⟩,r.n+1,ks++[(gg.R.length:Int)],(o5.set q Ob.gone).set (g.n+2) (.var (cS ⟨k,some (r.n+1,ks++[(gg.R.length:Int)]),none⟩))++[.arr 1 [[aaC gg.R.length]],.arr 1 (ints (ks++[(gg.R.length:Int)]))],mV row.length i) ⟨PA,by dsimp only;rw[bQ,tq];rfl,PA,(x2 _ JR).trans JS,by dsimp only;simp[Bz],PA,?_,hr,by dsimp only;rw[ada];omega,PA,PA,PA⟩ PA (by dsimp only;rw[<- Bz,amX];exact Xv X0);rw[<- JU];exact yB
   ·obtain rfl:i=row.length:=GC;rw[Nat.sub_self,lG]at hr;have Mi:gg.p≠4:=acw vM (b:=(4,.arr 1 (rowsOf aQ (left.set k x)))) (by simp[bB]);have d8:o[8]?=some (.var [.ref gg.p 5 0 gg.R.length]):=nH vM (b:=(8,.var [.ref gg.p 5 0 gg.R.length])) (by simp[bB]);have dp:=OT vM;have JT:(rowsOf aQ (left.set k x))[k]?=some [.tree 1 (aX x)]:=by
     unfold rowsOf;rw[cj,cA,if_pos rfl,if_pos cI];rfl
    have Fo:left.set k row=left:=by rw[<- cE];exact setRow_self cI
    have iy:(rowsOf aQ (left.set k x)).set k [.tree 1 (aX row)]=rowsOf aQ left:=by rw[acC,Fo]
    have Dm:Fc (qB 103 m left pv t0 gg ((q,.arr 1 (ints ks))::(g.n+2,.var (cS ⟨k,some (q,ks),none⟩))::C)) (o.set 4 (.arr 1 (rowsOf aQ left))):=zV vM;have ux:=((Dm.perm tu.symm).perm ((tB.cons _ tu.symm).trans (tB.swap _ _ _))).drop.1.perm tu;have yB:=al5 (c:=(k:Int)) JR JS ux gg.n (w5 k g.R.length (gg.s,ks)).nodes;have lU:Fc (qB 103 m left pv t0 res C) ((o.set 4 (.arr 1 (rowsOf aQ left))).set gg.p (.arr 5 (rowsOf cS (gg.R.set g.R.length ⟨(k:Int),some (q,ks),none⟩)))):=by
     rw[<- ak,<- hr];exact yB
    have qX:res.n=o.length:=by rw[<- ak,<- hr];exact fZ.symm
    have f5:=λy=>(show(o.set 4 y)[5]?=some (.var [.ref 4 1 0 left.length]) by rw[bR Px];exact d5);have f8:=λy=>(show(o.set 4 y)[8]?=some (.var [.ref gg.p 5 0 gg.R.length]) by rw[bR Px];exact d8);have fp:=λy=>(show(o.set 4 y)[gg.p]?=some (.arr 5 (rowsOf cS gg.R)) by rw[bR (Ne.symm Mi)];exact dp);have fv:=λy=>(show(o.set 4 y)[g.n+2]?=some (.var (cS ⟨k,some (q,ks),none⟩)) by rw[bR GC];exact dv);have jH:=al7 JR JS;have rL:=al8 gg.R g.R.length ⟨(k:Int),some (q,ks),none⟩;unfold cS kE mE at dv;unfold cS kE mE dx at jH;dsimp only at dv jH;((repeat'(first|refine Va X0 ?_|(refine Xi ?_ ?_<;>try intro ht)|exact Xx|fail)))
    refine eV _ _ rfl ?_;clear fQ eV;repeat(refine Xu ?_)
    repeat'(first|((fail_if_success (first|refine eT 28 ?_|refine eU 28 ?_));refine Xr (X5 @d4 @d5 @cD @JT (X5 @iy @f5 @f8 @fp (X5 @fv @jH @cS.eq_1 (X2 @kE.eq_1 @kE.eq_2) (X2 (X2 @mE.eq_1 @mE.eq_2) @Vp)))) ?_;intro K hK)|(refine hK _ ?_;clear hK K)|refine Xy ?_|refine Xd ?_ ?_|exact Xx|fail)
    refine bY (σ':=⟨aw [(11,aaC g.R.length)],(o.set 4 (.arr 1 (rowsOf aQ left))).set gg.p (.arr 5 (rowsOf cS (gg.R.set g.R.length ⟨(k:Int),some (q,ks),none⟩)))⟩) (by rw[<- rL];exact Xv X0) ?_;refine bY (aF.canon lU) ?_;dsimp only;rw[bF,bF,<- qX];refine Vb X0 ?_;exact eu rfl (by rw[A0];omega) rfl
  by_cases cI:k<left.length
  ·have xe:=xP k cI;have dO:(left.getD k default).length≠1:=λe=>bP ⟨cI,e⟩;generalize left.getD k default=row at *;((repeat'(first|refine Va (X3 @c4 @c5 @xe) ?_|(refine V2 (X3 @c4 @c5 @xe) ?_ ?_<;>try with_reducible intro hb)|(refine Xi ?_ ?_<;>try intro ht)|exact Xx|fail)))
   all_goals exact ac2 _ (Xv X0)
  ·((repeat'(first|refine Va (X2 @c4 @c5) ?_|(refine V2 (X2 @c4 @c5) ?_ ?_<;>try with_reducible intro hb)|(refine Xi ?_ ?_<;>try intro ht)|exact Xx|fail)))
   all_goals exact ac2 _ (Xv X0)
end T

