import Derived.Test.YtdipcmigdbnheaaGreatX37
import Derived.Test.YtdipcmigdbnheaaGreatX35
set_option linter.all false
set_option maxHeartbeats 0
set_option maxRecDepth 20000
open List renaming getElem?_eq_some_iff→aM,getElem?_set_ne→bj,append_assoc→dC,length_append→bR,length_set→bE,getElem?_map→cg,getD_eq_getElem?_getD→aA,getElem?_eq_getElem→bT,set_set→BI,set_cons_zero→qw,length_singleton→vI,Perm→pD,getElem?_set→bV,replicate→b6
open And renaming intro→gB
open Go Go.Am Go.Proofs
namespace T
def Eg:ty Tryz.prog 113 = { kind:=9,size:=1,bytes:=8,elem:=0,len:=0,zero:=some [.nilFunc],aI:=[] }:=by kernel_rfl
def adu(m:aj)(hm:VM m)(pv:AV)(t0:Int):∀ (f c:Nat) (left:List (List Bool)) (os:List Ob) (g:QS) (C:List (Nat×Ob)),left.length+1<=f+c->c<=left.length->ej m left->os.length=g.n->(0<=g.s.spl/\g.s.spl<=1000000)->(0<=g.s.room/\(g.R.length:Int)+g.s.room<=1000000)->g.s.aU<=t0->Fc (qB 103 m left pv t0 g C) os->∀ res,ka m f c left g=res ->
  an Tryz.prog 103 [aa3 (c:Nat),.ptr 8 0 0,.ptr 5 0 0,.ptr 0 0 0,.ptr 1 0 0,.ptr 2 0 0,.ptr 7 0 0,.ptr 6 0 0,.ptr 9 0 0] os (aa3 g.R.length) (canon (qB 103 m left pv t0 res C) res.n):=by
 intro f
 induction f with
 |zero=>intro c left os g C hf hc;omega
 |succ f ih =>
  intro c left os g C hf hc dT tj vP nC G8 hF res ao;have eA:=dT.1;have tE:=hm.cls;have mL:=Zr m left hm dT;obtain⟨k1,k2,k3,k4⟩:=wY (left:=left) _ c rfl;have f8:os[8]?=some (.var [.ref g.p 5 0 g.R.length]):=kZ hF (b:=(8,.var [.ref g.p 5 0 g.R.length])) (by simp[bB]);have fp:=Im hF;have hn9:9<g.n:=by rw[<- tj];exact(aM.1 (kZ hF (b:=(9,.var [.fn 103 w8])) (by simp[bB]))).1
  have U5:g.p≠8:=Uo hF (b:=(8,.var [.ref g.p 5 0 g.R.length])) (by simp[bB]);have g8:(os.set g.p .gone)[8]?=some (.var [.ref g.p 5 0 g.R.length]):=by rw[bj U5];exact f8
  have mn:=acS hF (g.n+2) (g.s.nodes++[kU []]);have Bg:=Ee (dn:=103) (m:=m) (left:=left) (pv:=pv) (t0:=t0) (N:=left.length) (f+1) c left g C rfl hf hc (by rw[<- tj];exact hF.fk);rw[ao]at Bg;rw[ka]at ao;refine an.aF 132 os.length [.tmp 10] Tryz.func103 ?_;(((refine Va (X5 @f8 @fp @g8 (bC g8) (X5 (gP g8) (bC f8) (bC fp) (gP f8) (X5 (gP fp) @dr @dC.{0} @bR.{0} @bE.{0}))) ?_)))
  refine bP (σ':=⟨ax [(0,aa3 (c:Nat)),(1,.ptr 8 0 0),(2,.ptr 5 0 0),(3,.ptr 0 0 0),(4,.ptr 1 0 0),(5,.ptr 2 0 0),(6,.ptr 7 0 0),(7,.ptr 6 0 0),(8,.ptr 9 0 0),(11,aa3 g.R.length)],(os.set g.p .gone).set 8 (.var [.ref (os.length+1) 5 0 (g.R.length+1)])++[.arr 5 [ca cF],.arr 5 (rowsOf ca (g.R++[cF]))]⟩) (by rw[<- ZQ];exact Xv X0) ?_;have Bj:((os.set g.p .gone).set 8 (.var [.ref (os.length+1) 5 0 (g.R.length+1)])++[Ob.arr 5 [ca cF],Ob.arr 5 (rowsOf ca (g.R++[cF]))]).length=g.n+2:=by simp[tj]
  rw[show os.length+1=g.n+1 by omega]at mn Bj ⊢;generalize (os.set g.p .gone).set 8 (.var [.ref (g.n+1) 5 0 (g.R.length+1)])++[Ob.arr 5 [ca cF],Ob.arr 5 (rowsOf ca (g.R++[cF]))]=o1 at *;clear f8 fp U5 g8 hF;have eV:(g.R++[cF]).length=g.R.length+1:=Jd;have hRg:(g.R++[cF]).getD g.R.length default=cF:=Ul g.R;have c0:o1[0]?=some (.var (av m)):=kZ mn (b:=(0,.var (av m))) (by simp[bB]);have c4:o1[4]?=some (.arr 1 (rowsOf bd left)):=kZ mn (b:=(4,.arr 1 (rowsOf bd left))) (by simp[bB]);have c5:o1[5]?=some (.var [.ref 4 1 0 left.length]):=kZ mn (b:=(5,.var [.ref 4 1 0 left.length])) (by simp[bB]);have wD:∀ k,k<left.length->(rowsOf bd left)[k]?=some [.tree 1 (aY (left.getD k default))]:=λk hk=>by
   unfold rowsOf;rw[cg,aA,bT hk];rfl
  have C3:∀ k,k<left.length->(left.getD k default).length<=24:=λk hk=>by rw[dT.2 k hk];exact hm.opt _ (aC I6)
  refine aW (λk:Nat=>(⟨ax [(0,aa3 (k:Nat)),(1,.ptr 8 0 0),(2,.ptr 5 0 0),(3,.ptr 0 0 0),(4,.ptr 1 0 0),(5,.ptr 2 0 0),(6,.ptr 7 0 0),(7,.ptr 6 0 0),(8,.ptr 9 0 0),(11,aa3 g.R.length)],o1⟩:St)) (λk=>c<=k/\k<=left.length/\cC left k=cC left c) (λk=>left.length-k) c ⟨Nat.le_refl _,hc,rfl⟩ (Xv X0) ?_;rintro k⟨fZ,bK,po⟩Ql aq au;by_cases cK:k<left.length/\(left.getD k default).length=1
  ·have sT:=wD k cK.1;have A6:=HW cK;generalize left.getD k default=row at *;((repeat'(first|refine Va (X3 @c4 @c5 @sT) ?_|(refine V2 (X3 @c4 @c5 @sT) ?_ ?_<;>try with_reducible intro hb)|(refine Xi ?_ ?_<;>try intro ht)|exact Xx|fail)))
   all_goals exact aq _ (k+1) ⟨I6,I6,by rw[<- A6,po]⟩ I6 (Xv X0)
  have iK:k=cC left c:=by rw[<- po,D1 cK]
  have U6:∀ st,aB os.length st ⟨ax [(0,aa3 (k:Nat)),(1,.ptr 8 0 0),(2,.ptr 5 0 0),(3,.ptr 0 0 0),(4,.ptr 1 0 0),(5,.ptr 2 0 0),(6,.ptr 7 0 0),(7,.ptr 6 0 0),(8,.ptr 9 0 0),(11,aa3 g.R.length)],o1⟩->Ql (.exit 0) st:=λst ey=>by
   refine au _ _ rfl ?_;clear aq au;repeat(refine Xu ?_)
   refine bP ey ?_;clear ey st;rw[<- iK]at ao k1 k2 k3 k4;clear iK po;have tZ:dY o1 [] ([]:List Ob)=o1:=by simp[dY]
   ((refine Va (X2 @c0 @c5) ?_)<;>try with_reducible intro K hK)
   refine n6 [] mL aab trivial ⟨.pure rfl,aE.fz c4 (by rw[bW]),trivial⟩ rfl Jd ?_;rw[List.map_nil,tZ];simp(disch:=omega)only[Ac,↓Pc,simprocAttr];refine hK _ ?_;clear hK K;generalize hv:dI m left=v at *;have c1:o1[1]?=some (.var [dw pv t0 g.s,aa3 g.s.aU,aa3 g.s.bY,.lit (.slice none 0 0)]):=kZ mn (b:=(1,rB pv t0 g.s)) (by simp[bB,rB,dw]);have c2:o1[2]?=some (.var [aa3 g.s.spl]):=kZ mn (b:=(2,.var [aa3 g.s.spl])) (by simp[bB]);have c6:o1[6]?=some (.var [.lit (.bool g.s.whole)]):=kZ mn (b:=(6,.var [.lit (.bool g.s.whole)])) (by simp[bB]);have c7:o1[7]?=some (.var [aa3 g.s.room]):=kZ mn (b:=(7,.var [aa3 g.s.room])) (by simp[bB]);by_cases sd:g.s.aU<=v
   ·rw[if_pos sd]at ao;dsimp only at ao mn;have qu:Fc (qB 103 m left pv t0 res C) (o1.set 1 (.var [dw pv t0 g.s,aa3 g.s.aU,aa3 (min g.s.bY v),.lit (.slice none 0 0)])):=by
     subst ao;exact vw mn
    have nS:res.n=o1.length:=by rw[<- ao,Bj]
    clear ao;have Ej:=λy:Ob=>iH (y:=y) c1;repeat'(first|((fail_if_success (first|refine eG 8 ?_|refine eH 8 ?_));refine Xr (X2 @c1 @Ej) ?_;intro K hK)|(refine hK _ ?_;clear hK K)|(refine Xi ?_ ?_<;>try intro ht)|refine Xy ?_|exact Xx|fail)
    refine bP (σ':=⟨ax [(11,aa3 g.R.length)],o1.set 1 (.var [dw pv t0 g.s,aa3 g.s.aU,aa3 (min g.s.bY v),.lit (.slice none 0 0)])⟩) (Xv X0) ?_;refine bP (aB.canon qu) ?_;dsimp only;rw[bE,<- nS];refine Vb X0 ?_;exact fB rfl (by rw[wN];omega) rfl
   rw[if_neg sd]at ao;by_cases cr:k=left.length
   ·rw[if_pos cr]at ao;have eC:=Zj left I6 (λl hl=>by
     obtain⟨i,hi,rfl⟩:=List.getElem_of_mem hl;have:=C3 i hi;rwa [aA,bT hi]at this)
    have Ij:dY o1 [] (List.map (bH (bm o1.length [])) [Ob.arr 1 (ints (iD left))])=o1++[Ob.arr 1 (ints (iD left))]:=by simp[dY,uA]
    have yD:∀ x,(o1++[x])[1]?=some (.var [dw pv t0 g.s,aa3 g.s.aU,aa3 g.s.bY,.lit (.slice none 0 0)]):=λx=>bC c1 _;have U7:∀ x y,((o1++[x]).set 1 y)[1]?=some y:=λx y=>iH (yD x);have kf:∀ x y z,((o1++[x]).set 1 y).set 1 z=(o1++[x]).set 1 z:=λx y z=>BI ..;have U8:1≠o1.length:=I6;have l6:(ints (iD left)).length=left.length:=by simp[ints,iD]
    dsimp only at ao mn;have qu:Fc (qB 103 m left pv t0 res C) ((o1++[Ob.gone]).set 1 (.var [.tree 1 (ints (iD left)),aa3 v,aa3 (min g.s.bY v),.lit (.slice none 0 0)])):=by
     subst ao;exact vw (mn.app [Ob.gone]) (hy:=by simp[bB,rB,dw,show v<t0 by omega])
    have nS:res.n=o1.length+1:=by rw[<- ao,Bj]
    clear ao;have kh:∀ X:Ob,((o1++[Ob.arr 1 (ints (iD left))]).set 1 X)[o1.length]?=some (.arr 1 (ints (iD left))):=λX=>by rw[bj U8];exact lR _ _ _
    have fW:∀ X Y:Ob,(((o1++[Ob.arr 1 (ints (iD left))]).set 1 X).set o1.length .gone).set 1 Y=(o1++[Ob.gone]).set 1 Y:=λX Y=>by rw[List.set_comm _ _ U8,BI,yI]
    repeat'(first|((fail_if_success (first|refine eG 10 ?_|refine eH 10 ?_));refine Xr (X3 @c1 @c4 @c5) ?_;intro K hK)|(refine hK _ ?_;clear hK K)|(refine Xi ?_ ?_<;>try intro ht)|refine Xy ?_|exact Xx|fail)
    refine lg [] (.take 0 (.take 2 (.take 5 (.both 1 (.take 3 (.take 4 (.take 6 (.take 7 (.take 8 (.take 9 (.take 10 (.take 11 (.take 12 .nil))))))))) 3 (.both 1 (.take 4 (.take 6 (.take 7 (.take 8 (.take 9 (.take 10 (.take 11 (.take 12 .nil)))))))) 4 (.take 1 (.take 6 (.take 7 (.take 8 (.take 9 (.take 10 (.take 11 (.take 12 .nil))))))))))))) rfl aab (by decide +kernel) ?_;simp(disch:=omega)only[Ac,↓Pc,simprocAttr,Pw,c1,c4,c5];repeat'(with_reducible refine gB ?_ ?_)
    all_goals
     refine n6 [] eC aab trivial ⟨aE.fz c4 (by rw[bW]),trivial⟩ rfl (by simp[td,ints,flat]) ?_;rw[Ij];simp(disch:=omega)only[Ac,↓Pc,simprocAttr,Pw,c1,yD,U7,kf]
    all_goals
     repeat(refine Xu ?_)
     refine bP (σ':=⟨ax [(11,aa3 g.R.length)],(o1++[Ob.arr 1 (ints (iD left))]).set 1 (.var [.ref o1.length 1 0 (ints (iD left)).length,aa3 v,aa3 (min g.s.bY v),.lit (.slice none 0 0)])⟩) (by rw[l6];exact Xv X0) ?_;refine bP (aB.sk o1.length 1 0 1 (U7 _ _) (kh _) rfl (pO _) (qD _)) ?_;simp only[qw];rw[fW];refine bP (aB.canon qu) ?_;dsimp only;rw[bE,bR,vI,<- nS];((repeat'(first|refine Vb X0 ?_|fail)))
     exact fB rfl (by rw[wN];omega) rfl
   rw[if_neg cr]at ao;have cr:k<left.length:=I6;have sT:=wD k cr;have df:=k4 cr;have aZ:=C3 k cr;generalize cm:left.getD k default=row at *;by_cases II:g.s.spl=0\/g.s.room<row.length
   ·rw[if_pos II]at ao;dsimp only at ao mn;have qu:Fc (qB 103 m left pv t0 res C) ((o1.set 1 (.var [dw pv t0 g.s,aa3 g.s.aU,aa3 (min g.s.bY v),.lit (.slice none 0 0)])).set 6 (.var [.lit (.bool false)])):=by
     subst ao;have h1:=vw (i:=1) (y:=(.var [dw pv t0 g.s,aa3 g.s.aU,aa3 (min g.s.bY v),.lit (.slice none 0 0)])) (left':=left) (g':=⟨g.n+2,g.n+1,g.R++[cF],{ g.s with nodes:=g.s.nodes++[kU []],bY:=min g.s.bY v }⟩) mn;exact vw h1
    have nS:res.n=o1.length:=by rw[<- ao,Bj]
    clear ao;have U9:∀ x,(o1.set 1 x)[6]?=some (.var [.lit (.bool g.s.whole)]):=λx=>by rw[bj aab];exact c6
    have Ej:=λy:Ob=>iH (y:=y) c1;repeat'(first|((fail_if_success (first|refine eG 14 ?_|refine eH 14 ?_));refine Xr (X5 @c1 @c2 @c4 @c5 (X4 @c7 @sT @Ej @U9)) ?_;intro K hK)|(refine hK _ ?_;clear hK K)|(refine Xg (X5 @c1 @c2 @c4 @c5 (X4 @c7 @sT @Ej @U9)) ?_ ?_<;>try intro hb)|(refine Xi ?_ ?_<;>try intro ht)|refine Xy ?_|refine Xd ?_ ?_|exact Xx|fail)
    all_goals
     refine bP (σ':=⟨ax [(11,aa3 g.R.length)],(o1.set 1 (.var [dw pv t0 g.s,aa3 g.s.aU,aa3 (min g.s.bY v),.lit (.slice none 0 0)])).set 6 (.var [.lit (.bool false)])⟩) (Xv X0) ?_;refine bP (aB.canon qu) ?_;dsimp only;rw[bE,bE,<- nS];((repeat'(first|refine Vb X0 ?_|fail)))
     exact fB rfl (by rw[wN];omega) rfl
   rw[if_neg II]at ao;rw[not_or]at II;unfold jR at ao;rw[cm]at ao;have c8:o1[8]?=some (.var [.ref (g.n+1) 5 0 (g.R.length+1)]):=kZ mn (b:=(8,.var [.ref (g.n+1) 5 0 (g.R.length+1)])) (by simp[bB]);have qu:Fc (qB 103 m left pv t0 ⟨g.n+2,g.n+1,g.R++[cF],⟨g.s.nodes++[kU []],g.s.room-row.length,g.s.spl-1,g.s.whole,g.s.plan,g.s.aU,g.s.bY⟩⟩ C) ((o1.set 2 (.var [aa3 (g.s.spl-1)])).set 7 (.var [aa3 (g.s.room-row.length)])):=by
    have h1:=vw (i:=2) (y:=(.var [aa3 (g.s.spl-1)])) (left':=left) (g':=⟨g.n+2,g.n+1,g.R++[cF],{ g.s with nodes:=g.s.nodes++[kU []],spl:=g.s.spl-1 }⟩) mn;exact vw h1
   have IJ:∀ x,(o1.set 2 x)[7]?=some (.var [aa3 g.s.room]):=λx=>by rw[bj aab];exact c7
   have IK:∀ x,(o1.set 2 x)[4]?=some (.arr 1 (rowsOf bd left)):=λx=>by rw[bj aab];exact c4
   have IL:∀ x,(o1.set 2 x)[5]?=some (.var [.ref 4 1 0 left.length]):=λx=>by rw[bj aab];exact c5
   repeat'(first|((fail_if_success (first|refine eG 18 ?_|refine eH 18 ?_));refine Xr (X5 @c1 @c2 @c4 @c5 (X5 @c7 @sT @IJ @IK @IL)) ?_;intro K hK)|(refine hK _ ?_;clear hK K)|(refine Xg (X5 @c1 @c2 @c4 @c5 (X5 @c7 @sT @IJ @IK @IL)) ?_ ?_<;>try intro hb)|(refine Xi ?_ ?_<;>try intro ht)|refine Xy ?_|refine Xd ?_ ?_|exact Xx|fail)
   refine bP (σ':=⟨ax [(0,aa3 (k:Nat)),(1,.ptr 8 0 0),(2,.ptr 5 0 0),(3,.ptr 0 0 0),(4,.ptr 1 0 0),(5,.ptr 2 0 0),(6,.ptr 7 0 0),(7,.ptr 6 0 0),(8,.ptr 9 0 0),(11,aa3 g.R.length),(13,.tree 1 (aY row))],(o1.set 2 (.var [aa3 (g.s.spl-1)])).set 7 (.var [aa3 (g.s.room-row.length)])⟩) (Xv X0) ?_;have Ek:((o1.set 2 (.var [aa3 (g.s.spl-1)])).set 7 (.var [aa3 (g.s.room-row.length)])).length=g.n+2:=by simp[Bj]
   generalize (o1.set 2 (.var [aa3 (g.s.spl-1)])).set 7 (.var [aa3 (g.s.room-row.length)])=o2 at *;clear c0 c1 c2 c4 c5 c6 c7 c8 IJ IK IL mn;refine Va @dr ?_;refine bP (aB.kN o2.length 1 1 (lR _ _ _) rfl aab) ?_;simp only[List.set_cons_succ,qw,dC,List.cons_append,List.nil_append,bR,vI,yI];rw[Ek];refine bP (σ':=⟨ax [(0,aa3 (k:Nat)),(1,.ptr 8 0 0),(2,.ptr 5 0 0),(3,.ptr 0 0 0),(4,.ptr 1 0 0),(5,.ptr 2 0 0),(6,.ptr 7 0 0),(7,.ptr 6 0 0),(8,.ptr 9 0 0),(11,aa3 g.R.length),(13,.tree 1 (aY row)),(14,.ptr (g.n+2) 0 0),(96,.tree 1 (aY row)),(97,aa3 row.length),(98,aa3 (0:Nat))],o2++[.var (ca ⟨k,some (g.n+3,[]),none⟩),.arr 1 (ints [])]⟩) (Xv X0) ?_;have U':Fc (qB 103 m (left.set k row) pv t0 ⟨g.n+4,g.n+1,g.R++[cF],⟨g.s.nodes++[kU []],g.s.room-row.length,g.s.spl-1,g.s.whole,g.s.plan,g.s.aU,g.s.bY⟩⟩ ((g.n+3,.arr 1 (ints []))::(g.n+2,.var (ca ⟨k,some (g.n+3,[]),none⟩))::C)) (o2++[.var (ca ⟨k,some (g.n+3,[]),none⟩),.arr 1 (ints [])]):=by
    have e:left.set k row=left:=by rw[<- cm];exact setRow_self cr
    rw[e];have qu:Fc (qB 103 m left pv t0 ⟨g.n+4,g.n+1,g.R++[cF],⟨g.s.nodes++[kU []],g.s.room-row.length,g.s.spl-1,g.s.whole,g.s.plan,g.s.aU,g.s.bY⟩⟩ C) o2:=qu;have h1:=(qu.app [Ob.var (ca ⟨k,some (g.n+3,[]),none⟩),Ob.arr 1 (ints [])]).add (k:=g.n+2) (x:=.var (ca ⟨k,some (g.n+3,[]),none⟩)) (by rw[<- Ek];exact lR _ _ _) (qu.fresh I6);have h2:=h1.add (k:=g.n+3) (x:=.arr 1 (ints [])) (by rw[show g.n+3=o2.length+1 by omega,mU];rfl) (by
     rw[List.map_cons,List.mem_cons,not_or];exact⟨aaK,qu.fresh I6⟩)
    exact h2.perm ((pD.cons _ pt).trans pt)
   have Ve:(o2++[Ob.var (ca ⟨k,some (g.n+3,[]),none⟩),Ob.arr 1 (ints [])]).length=g.n+4:=by simp[Ek]
   generalize o2++[Ob.var (ca ⟨k,some (g.n+3,[]),none⟩),Ob.arr 1 (ints [])]=o3 at *;clear qu Ek o2;generalize nW:jJ (ka m f (k+1)) left k row.length 0 ⟨g.n+4,g.n+1,g.R++[cF],⟨g.s.nodes++[kU []],g.s.room-row.length,g.s.spl-1,g.s.whole,g.s.plan,g.s.aU,g.s.bY⟩⟩ (g.n+3) []=RR at *;refine aW (λz:Nat×QS×Nat×List Int×List Ob×List Bool=>(⟨ax [(0,aa3 (k:Nat)),(1,.ptr 8 0 0),(2,.ptr 5 0 0),(3,.ptr 0 0 0),(4,.ptr 1 0 0),(5,.ptr 2 0 0),(6,.ptr 7 0 0),(7,.ptr 6 0 0),(8,.ptr 9 0 0),(11,aa3 g.R.length),(13,.tree 1 (aY row)),(14,.ptr (g.n+2) 0 0),(97,aa3 row.length),(98,aa3 z.1)],z.2.2.2.2.1⟩:St))
    (λz=>z.1<=row.length/\z.2.2.2.1.length=z.1/\g.R.length<z.2.1.R.length/\z.2.1.R.getD g.R.length default=cF/\z.2.2.2.2.1.length=z.2.1.n/\g.n<=z.2.1.n/\Fc (qB 103 m (left.set k z.2.2.2.2.2) pv t0 z.2.1 ((z.2.2.1,.arr 1 (ints z.2.2.2.1))::(g.n+2,.var (ca ⟨k,some (z.2.2.1,z.2.2.2.1),none⟩))::C)) z.2.2.2.2.1 /\
     jJ (ka m f (k+1)) left k (row.length-z.1) z.1 z.2.1 z.2.2.1 z.2.2.2.1=RR/\(z.2.1.R.length:Int)+z.2.1.s.room=g.R.length+1+g.s.room-row.length+z.1/\0<=z.2.1.s.room/\(0<=z.2.1.s.spl/\z.2.1.s.spl<=1000000)/\z.2.1.s.aU<=t0) (λz=>row.length-z.1)
    (0,⟨g.n+4,g.n+1,g.R++[cF],⟨g.s.nodes++[kU []],g.s.room-row.length,g.s.spl-1,g.s.whole,g.s.plan,g.s.aU,g.s.bY⟩⟩,g.n+3,[],o3,row) ⟨Nat.zero_le _,rfl,aaK,hRg,Ve,aaK,U',nW,by dsimp only;rw[eV];omega,aaK,aaK,G8⟩ (Xv X0) ?_
   clear U' Ve o3 nW;rintro⟨i,gg,q,ks,o,x⟩⟨hi,po,El,Em,iz,hgn,rF,hr,hbr,yA,l8,gY⟩lM gw eK;dsimp only at hi po El Em iz hgn rF hr hbr yA l8 gY ⊢;have d4:o[4]?=some (.arr 1 (rowsOf bd (left.set k x))):=kZ rF (b:=(4,.arr 1 (rowsOf bd (left.set k x)))) (by simp[bB]);have d5:o[5]?=some (.var [.ref 4 1 0 left.length]):=kZ rF (b:=(5,.var [.ref 4 1 0 left.length])) (by simp[bB]);have d9:o[9]?=some (.var [.fn 103 [.ptr 8 0 0,.ptr 5 0 0,.ptr 0 0 0,.ptr 1 0 0,.ptr 2 0 0,.ptr 7 0 0,.ptr 6 0 0,.ptr 9 0 0]]):=kZ rF (b:=(9,.var [.fn 103 w8])) (by simp[bB]);have dv:o[g.n+2]?=some (.var (ca ⟨k,some (q,ks),none⟩)):=Ba rF (b:=(g.n+2,.var (ca ⟨k,some (q,ks),none⟩))) Jd;have h4l:=(aM.1 d4).1;have adS:k<(left.set k x).length:=by rw[bE];exact cr
   have cD:(rowsOf bd (left.set k x)).length=left.length:=by rw[bW,bE]
   by_cases hi':i<row.length
   ·have En:(rowsOf bd (left.set k x))[k]?=some [.tree 1 (aY x)]:=by
     unfold rowsOf;rw[cg,bV,if_pos rfl,if_pos cr];rfl
    have fW:∀ y,((rowsOf bd (left.set k x)).set k y)[k]?=some y:=λy=>by rw[bV,if_pos rfl,if_pos (by rw[cD];exact cr)]
    have e4:∀ A B,((o++[A]).set 4 B)[4]?=some B:=λA B=>iH (bC d4 _);have e5:∀ A B,((o++[A]).set 4 B)[5]?=some (.var [.ref 4 1 0 left.length]):=λA B=>by rw[bj aab];exact bC d5 _
    have eL:∀ A B,((o++[A]).set 4 B)[o.length]?=some A:=λA B=>by rw[bj I6];exact lR _ _ _
    have Vf:=λA=>bC d5 [A];have y7:=λA=>bC d4 [A];have Vg:(aY (b6 row.length false))[i]?=some [.lit (.bool false)]:=by
     unfold aY;rw[cg,List.getElem?_replicate,if_pos hi'];rfl
    have vr:(aY (lq row.length i)).length=row.length:=by rw[vZ,C7]
    have Eo:bN left k i=left.set k (lq row.length i):=by unfold bN;rw[cm]
    repeat'(first|((fail_if_success (first|refine eG 24 ?_|refine eH 24 ?_));refine Xr (X5 @d4 @d5 @y7 @Vf (X5 @En @fW @e4 @e5 (X5 @eL @cD @Vg @bE.{0} (X2 @bR.{0} @List.length_replicate.{0})))) ?_;intro K hK)|(refine hK _ ?_;clear hK K)|(refine Xi ?_ ?_<;>try intro ht)|refine Xy ?_|refine Xd ?_ ?_|exact Xx|fail)
    refine bP (σ':=⟨ax [(0,aa3 (k:Nat)),(1,.ptr 8 0 0),(2,.ptr 5 0 0),(3,.ptr 0 0 0),(4,.ptr 1 0 0),(5,.ptr 2 0 0),(6,.ptr 7 0 0),(7,.ptr 6 0 0),(8,.ptr 9 0 0),(11,aa3 g.R.length),(13,.tree 1 (aY row)),(14,.ptr (g.n+2) 0 0),(97,aa3 row.length),(98,aa3 i)],((o++[Ob.arr 1 (aY (b6 row.length false))]).set 4 (.arr 1 ((rowsOf bd (left.set k x)).set k [.ref o.length 1 0 row.length]))).set o.length (.arr 1 (aY (lq row.length i)))⟩) (by unfold lq;exact Xv X0) ?_;refine bP (aB.Gl o.length 4 k 0 1 1 (R:=(rowsOf bd (left.set k x)).set k [.ref o.length 1 0 row.length]) (cells:=[.ref o.length 1 0 row.length]) (rows:=aY (lq row.length i)) (by rw[bj I6];exact e4 _ _) (fW _) (iH (eL _ _)) (by rw[vr];rfl) I6 (zt _) (B1 _)) ?_;have Vh:∀ A B A' B':Ob,(((((o++[A]).set 4 B).set o.length A').set o.length Ob.gone).set 4 B')=(o++[Ob.gone]).set 4 B':=λA B A' B'=>by
     rw[BI,List.set_comm _ _ (show 4≠o.length by omega),BI,yI]
    rw[Vh,BI];simp only[qw];rw[Uv,<- Eo];have y8:Fc (qB 103 m (bN left k i) pv t0 ⟨gg.n+1,gg.p,gg.R,gg.s⟩ ((q,.arr 1 (ints ks))::(g.n+2,.var (ca ⟨k,some (q,ks),none⟩))::C)) ((o++[Ob.gone]).set 4 (.arr 1 (rowsOf bd (bN left k i)))):=by
     rw[Eo];exact vw (rF.app [Ob.gone])
    have IM:((o++[Ob.gone]).set 4 (.arr 1 (rowsOf bd (bN left k i)))).length=gg.n+1:=by simp[iz]
    generalize (o++[Ob.gone]).set 4 (.arr 1 (rowsOf bd (bN left k i)))=o4 at *;clear rF d4 d5 d9 dv h4l adS cD En fW e4 e5 eL Vf y7 Vg Vh iz;have DY:(bN left k i).length=left.length:=by rw[Eo,bE]
    have hG:=ih (k+1) (bN left k i) o4 ⟨gg.n+1,gg.p,gg.R,gg.s⟩ _ I6 I6 (HG dT (GA _ _ _)) IM l8 ⟨yA,aaK⟩ gY y8 _ rfl;have Su:=Ee (dn:=103) (m:=m) (left:=bN left k i) (pv:=pv) (t0:=t0) (N:=left.length) f (k+1) (bN left k i) ⟨gg.n+1,gg.p,gg.R,gg.s⟩ _ DY I6 I6 (by have:=y8.fk;rw[IM]at this;exact this);have Vi:=Ur m (N:=left.length) f (k+1) (bN left k i) ⟨gg.n+1,gg.p,gg.R,gg.s⟩ DY I6 I6;have adT:=Ut m f (k+1) (bN left k i) ⟨gg.n+1,gg.p,gg.R,gg.s⟩;rw[show row.length-i=(row.length-(i+1))+1 by omega,jJ]at hr;have d9:o4[9]?=some (.var [.fn 103 [.ptr 8 0 0,.ptr 5 0 0,.ptr 0 0 0,.ptr 1 0 0,.ptr 2 0 0,.ptr 7 0 0,.ptr 6 0 0,.ptr 9 0 0]]):=kZ y8 (b:=(9,.var [.fn 103 w8])) (by simp[bB]);have dv:o4[g.n+2]?=some (.var (ca ⟨k,some (q,ks),none⟩)):=Ba y8 (b:=(g.n+2,.var (ca ⟨k,some (q,ks),none⟩))) Jd;generalize ka m f (k+1) (bN left k i) ⟨gg.n+1,gg.p,gg.R,gg.s⟩=r at *;obtain⟨x1,x2,x3,x4⟩:=Su;obtain⟨y1,y2,y3,y4,y5⟩:=adT;dsimp only at x1 x2 x3 Vi y1 y2 y3 y4 y5 hG;have qt:=x4.canon;have xe:=wN (qB 103 m (bN left k i) pv t0 r ((q,.arr 1 (ints ks))::(g.n+2,.var (ca ⟨k,some (q,ks),none⟩))::C)) r.n;generalize canon (qB 103 m (bN left k i) pv t0 r ((q,.arr 1 (ints ks))::(g.n+2,.var (ca ⟨k,some (q,ks),none⟩))::C)) r.n=o5 at *;have dq:o5[q]?=some (.arr 1 (ints ks)):=Ba qt (b:=(q,.arr 1 (ints ks))) Jd;have Bk:o5[g.n+2]?=some (.var (ca ⟨k,some (q,ks),none⟩)):=Ba qt (b:=(g.n+2,.var (ca ⟨k,some (q,ks),none⟩))) Jd;have Bl:(o5.set q Ob.gone)[g.n+2]?=some (.var (ca ⟨k,some (q,ks),none⟩)):=AN Bk dq Jd;have ub:=acU (X':=.var (ca ⟨k,some (r.n+1,ks++[(gg.R.length:Int)]),none⟩)) (.arr 1 [[aa3 gg.R.length]]) qt (r.n+2) (.arr 1 (ints (ks++[(gg.R.length:Int)])));rw[xe]at ub;have fZ:((k+1:Nat):Int)=(k:Int)+1:=I6;have adU:os.length<=o5.length:=by rw[xe,tj];omega
    have adV:o4.length<=o5.length:=by rw[xe,IM];exact x3
    rw[fZ]at hG;have adW:ca ⟨(k:Int),some (o5.length+1,ks++[(gg.R.length:Int)]),none⟩=[aa3 k,.ref (o5.length+1) 1 0 (ks.length+1),.lit (.slice none 0 0),.lit (.slice none 0 0),.lit (.slice none 0 0)]:=by unfold ca kE mE;simp
    unfold ca kE mE at dv Bk Bl;dsimp only at dv Bk Bl;refine lg [] (.take 2 (.take 3 (.take 4 (.both 0 (.both 1 (.take 5 (.take 6 (.take 7 (.take 8 (.take 9 .nil))))) 5 (.take 1 (.take 6 (.take 7 (.take 8 (.take 9 .nil)))))) 5 (.take 0 (.take 1 (.take 6 (.take 7 (.take 8 (.take 9 .nil)))))))))) rfl aab (by decide +kernel) ?_;simp(disch:=omega)only[Ac,↓Pc,simprocAttr,Pw,dv,d9,Eg];repeat'(first|with_reducible refine gB ?_ ?_|omega)
    all_goals
     refine lh hG (by first|exact adV|exact adU) ?_;simp(disch:=omega)only[Ac,↓Pc,simprocAttr,Pw,Eg,dq,Bk,Bl,bC dq,gP dq,bC Bk,bC Bl,gP Bl,dr,dC,bR,bE,BY];repeat'(first|with_reducible refine gB ?_ ?_|omega)
    all_goals
     repeat(refine Xu ?_)
     ((repeat'(first|refine Va X0 ?_|fail)))
     refine gw _ (i+1,⟨r.n+2,r.p,r.R,r.s⟩,r.n+1,ks++[(gg.R.length:Int)],(o5.set q Ob.gone).set (g.n+2) (.var (ca ⟨k,some (r.n+1,ks++[(gg.R.length:Int)]),none⟩))++[.arr 1 [[aa3 gg.R.length]],.arr 1 (ints (ks++[(gg.R.length:Int)]))],lq row.length i) ⟨aaK,by dsimp only;rw[bR,po];rfl,aaK,(x2 _ El).trans Em,by dsimp only;simp[xe],aaK,?_,hr,by dsimp only;rw[Vi];omega,aaK,aaK,aaK⟩ aaK (by dsimp only;rw[<- xe,adW];exact Xv X0);rw[<- Eo];exact ub
   ·obtain rfl:i=row.length:=I6;rw[Nat.sub_self,jJ]at hr;have hRp:gg.p≠4:=Uo rF (b:=(4,.arr 1 (rowsOf bd (left.set k x)))) (by simp[bB]);have d8:o[8]?=some (.var [.ref gg.p 5 0 gg.R.length]):=kZ rF (b:=(8,.var [.ref gg.p 5 0 gg.R.length])) (by simp[bB]);have dp:=Im rF;have En:(rowsOf bd (left.set k x))[k]?=some [.tree 1 (aY x)]:=by
     unfold rowsOf;rw[cg,bV,if_pos rfl,if_pos cr];rfl
    have AM:left.set k row=left:=by rw[<- cm];exact setRow_self cr
    have gr:(rowsOf bd (left.set k x)).set k [.tree 1 (aY row)]=rowsOf bd left:=by rw[Uv,AM]
    have y8:Fc (qB 103 m left pv t0 gg ((q,.arr 1 (ints ks))::(g.n+2,.var (ca ⟨k,some (q,ks),none⟩))::C)) (o.set 4 (.arr 1 (rowsOf bd left))):=vw rF;have qt:=((y8.perm pt.symm).perm ((pD.cons _ pt.symm).trans (pD.swap _ _ _))).drop.1.perm pt;have ub:=acT (c:=(k:Int)) El Em qt gg.n (sP k g.R.length (gg.s,ks)).nodes;have mg:Fc (qB 103 m left pv t0 res C) ((o.set 4 (.arr 1 (rowsOf bd left))).set gg.p (.arr 5 (rowsOf ca (gg.R.set g.R.length ⟨(k:Int),some (q,ks),none⟩)))):=by
     rw[<- ao,<- hr];exact ub
    have nS:res.n=o.length:=by rw[<- ao,<- hr];exact iz.symm
    have f5:=λy=>(show(o.set 4 y)[5]?=some (.var [.ref 4 1 0 left.length]) by rw[bj aab];exact d5);have f8:=λy=>(show(o.set 4 y)[8]?=some (.var [.ref gg.p 5 0 gg.R.length]) by rw[bj aab];exact d8);have fp:=λy=>(show(o.set 4 y)[gg.p]?=some (.arr 5 (rowsOf ca gg.R)) by rw[bj (Ne.symm hRp)];exact dp);have fv:=λy=>(show(o.set 4 y)[g.n+2]?=some (.var (ca ⟨k,some (q,ks),none⟩)) by rw[bj I6];exact dv);have q7:=acV El Em;have zE:=acW gg.R g.R.length ⟨(k:Int),some (q,ks),none⟩;unfold ca kE mE at dv;unfold ca kE mE cF at q7;dsimp only at dv q7;((repeat'(first|refine Va X0 ?_|(refine Xi ?_ ?_<;>try intro ht)|exact Xx|fail)))
    refine eK _ _ rfl ?_;clear gw eK;repeat(refine Xu ?_)
    repeat'(first|((fail_if_success (first|refine eG 28 ?_|refine eH 28 ?_));refine Xr (X5 @d4 @d5 @cD @En (X5 @gr @f5 @f8 @fp (X5 @fv @q7 @ca.eq_1 (X2 @kE.eq_1 @kE.eq_2) (X2 (X2 @mE.eq_1 @mE.eq_2) @NT)))) ?_;intro K hK)|(refine hK _ ?_;clear hK K)|refine Xy ?_|refine Xd ?_ ?_|exact Xx|fail)
    refine bP (σ':=⟨ax [(11,aa3 g.R.length)],(o.set 4 (.arr 1 (rowsOf bd left))).set gg.p (.arr 5 (rowsOf ca (gg.R.set g.R.length ⟨(k:Int),some (q,ks),none⟩)))⟩) (by rw[<- zE];exact Xv X0) ?_;refine bP (aB.canon mg) ?_;dsimp only;rw[bE,bE,<- nS];refine Vb X0 ?_;exact fB rfl (by rw[wN];omega) rfl
  by_cases cr:k<left.length
  ·have sT:=wD k cr;have df:(left.getD k default).length≠1:=λe=>cK ⟨cr,e⟩;generalize left.getD k default=row at *;((repeat'(first|refine Va (X3 @c4 @c5 @sT) ?_|(refine V2 (X3 @c4 @c5 @sT) ?_ ?_<;>try with_reducible intro hb)|(refine Xi ?_ ?_<;>try intro ht)|exact Xx|fail)))
   all_goals exact U6 _ (Xv X0)
  ·((repeat'(first|refine Va (X2 @c4 @c5) ?_|(refine V2 (X2 @c4 @c5) ?_ ?_<;>try with_reducible intro hb)|(refine Xi ?_ ?_<;>try intro ht)|exact Xx|fail)))
   all_goals exact U6 _ (Xv X0)
end T

