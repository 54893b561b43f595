import Derived.Test.YtjadfapldkfbpaaGreatX36
import Derived.Test.YtjadfapldkfbpaaGreatX39
set_option linter.all false
set_option maxHeartbeats 0
set_option maxRecDepth 20000
open Nat renaming zero_le→aF,sub_self→jv
open List renaming replicate→bG,length_take→fy,set_cons_zero→mh,map_cons→dK,map_nil→k7,append_assoc→cY,cons_append→dP,nil_append→dZ,getElem?_map→b6,getElem?_replicate→DM,take_of_length_le→ej,getElem?_eq_some_iff→aY,getElem?_set_ne→bM,length_append→bQ,length_set→bw,getD_eq_getElem?_getD→aG,getElem?_eq_getElem→bT,set_set→vY,length_singleton→rj,Perm→tw,getElem?_set→cm
open And renaming intro→cI
open Go Go.Am Go.Proofs
namespace T
def alO(l:List Bool)(hl:l.length<1000000):an Tryz.prog 157 [.tree 1 (aX l),.lit (.bool true)] [] (aaa (uo l 0)) []:=by
 generalize aj:uo l 0=res;refine an.aC 19 0 [.tmp 4] Tryz.func157 ?_;refine Vb X0 ?_;refine aO (λk:Nat=>(⟨au [(0,.tree 1 (aX l)),(1,.lit (.bool true)),(7,aaa l.length),(8,aaa k)],[]⟩:St)) (λk=>k<=l.length/\uo (l.drop k) k=res) (λk=>l.length-k) 0 ⟨aF _,aj⟩ (Xv X0) ?_;rintro k⟨hk,hr⟩Ql ak ar;by_cases aL:k<l.length
 ·have hd:=cN l k false aL;generalize fW:l.getD k false=b at *;rw[hd,uo]at hr;cases b
  ·rw[if_neg G9]at hr;((repeat'(first|refine Va @fW ?_|(refine Xi ?_ ?_<;>try intro ht)|exact Xx|fail)))
   all_goals try(exfalso;simp_all;done)
   all_goals exact ak _ (k+1) ⟨G3,hr⟩ G3 (Xv X0)
  ·rw[if_pos rfl]at hr;((repeat'(first|refine Va @fW ?_|(refine Xi ?_ ?_<;>try intro ht)|exact Xx|fail)))
   all_goals try(exfalso;simp_all;done)
   all_goals
    repeat(refine Xu ?_)
    refine Vb X0 ?_;exact aE rfl (by rw[hr])
 ·((repeat'(first|refine Va X0 ?_|(refine Xi ?_ ?_<;>try intro ht)|exact Xx|fail)))
  rw[List.drop_eq_nil_of_le G3,uo]at hr;refine ar _ _ rfl ?_;clear ak ar Ql;repeat(refine Xu ?_)
  refine Vb X0 ?_;exact aE rfl (by rw[hr])
def alP{left:List (List Bool)}{i:Nat}(h:i<left.length):(ints (kr (left.take i)++bG (left.length-i) 0)).set i [aaa (uo (left.getD i default) 0)]=ints (kr (left.take (i+1))++bG (left.length-(i+1)) 0):=by
 rw[eJ h,show left.length-i=(left.length-(i+1))+1 by omega,List.replicate_succ];unfold kr ints;rw[<- List.map_set];congr 1;rw[List.map_append,List.set_append_right _ _ PX];simp only[List.length_map,fy,Nat.min_eq_left (Nat.le_of_lt h),jv,mh,dK,k7,cY,dP,dZ]
def alQ(left:List (List Bool))(hl:left.length<=24)(hw:∀ l∈left,l.length<=24):an Tryz.prog 137 [.tree 1 (rowsOf aT left)] [] (.ref 0 1 0 left.length) [.arr 1 (ints (kr left))]:=by
 refine an.aC 23 0 [.tmp 2] Tryz.func137 ?_;refine Vb X0 ?_;refine aO (λk:Nat=>(⟨au [(3,.ref 0 1 0 left.length),(9,.tree 1 (rowsOf aT left)),(10,aaa left.length),(11,aaa k)],[.arr 1 (ints (kr (left.take k)++bG (left.length-k) 0))]⟩:St)) (λk=>k<=left.length) (λk=>left.length-k) 0 (aF _) (by rw[List.take_zero];unfold kr;simp only[k7,dZ,Nat.sub_zero];exact Xs false [0] @Hq) ?_;rintro k hk Ql ak ar;by_cases aL:k<left.length
 ·have hm:=hw _ (aB (d:=default) aL);have eM:=alO (left.getD k default) G3;have iq:=alP aL;have hlen:(ints (kr (left.take k)++bG (left.length-k) 0)).length=left.length:=by unfold kr ints;simp;omega
  have hAk:(ints (kr (left.take k)++bG (left.length-k) 0))[k]?=some [aaa 0]:=by
   unfold kr ints;rw[b6,List.getElem?_append_right PX,DM,if_pos PX];rfl
  generalize hA:ints (kr (left.take k)++bG (left.length-k) 0)=A at *;generalize aS:left.getD k default=row at *;generalize uo row 0=x at *;((repeat'(first|refine Vc (X4 @aS @aT.eq_1 @hlen @hAk) eM ?_|(refine Xi ?_ ?_<;>try intro ht)|exact Xx|fail)))
  all_goals exact ak _ (k+1) G3 G3 (by rw[<- iq];exact Xv X0)
 ·((repeat'(first|refine Va X0 ?_|(refine Xi ?_ ?_<;>try intro ht)|exact Xx|fail)))
  refine ar _ _ rfl ?_;clear ak ar Ql;repeat(refine Xu ?_)
  rw[ej G3,show left.length-k=0 by omega,List.replicate_zero,List.append_nil];refine Vb X0 ?_;exact Xw false [0] X0
def J0:ty Tryz.prog 81 = { kind:=9,size:=1,bytes:=8,elem:=0,len:=0,zero:=some [.nilFunc],a5:=[] }:=by kernel_rfl
def alS(m:ah)(hm:VM m)(pv:AV)(t0:Int):∀ (f c:Nat) (left:List (List Bool)) (os:List Ob) (g:QS) (C:List (Nat×Ob)),left.length+1<=f+c->c<=left.length->fD m left->os.length=g.n->(0<=g.s.eN/\g.s.eN<=1000000)->(0<=g.s.room/\(g.R.length:Int)+g.s.room<=1000000)->g.s.cO<=t0->Fc (qB 135 m left pv t0 g C) os->∀ res,me m f c left g=res ->
  an Tryz.prog 135 [aaa (c:Nat),.ptr 8 0 0,.ptr 5 0 0,.ptr 0 0 0,.ptr 1 0 0,.ptr 2 0 0,.ptr 7 0 0,.ptr 6 0 0,.ptr 9 0 0] os (aaa g.R.length) (canon (qB 135 m left pv t0 res C) res.n):=by
 intro f
 induction f with
 |zero=>intro c left os g C hf hc;omega
 |succ f ih =>
  intro c left os g C hf hc hJ xM Ae tN Fu hF res aj;have fK:=hJ.1;have nL:=hm.cls;have ke:=akO m left hm hJ;obtain⟨k1,k2,k3,k4⟩:=FH (left:=left) _ c rfl;have f8:os[8]?=some (.var [.ref g.p 5 0 g.R.length]):=nk hF (b:=(8,.var [.ref g.p 5 0 g.R.length])) (by simp[bB]);have fp:=O7 hF;have hn9:9<g.n:=by rw[<- xM];exact(aY.1 (nk hF (b:=(9,.var [.fn 135 BJ])) (by simp[bB]))).1
  have hp8:g.p≠8:=acw hF (b:=(8,.var [.ref g.p 5 0 g.R.length])) (by simp[bB]);have g8:(os.set g.p .gone)[8]?=some (.var [.ref g.p 5 0 g.R.length]):=by rw[bM hp8];exact f8
  have pw:=alT hF (g.n+2) (g.s.nodes++[eW []]);have GL:=J1 (dn:=135) (m:=m) (left:=left) (pv:=pv) (t0:=t0) (N:=left.length) (f+1) c left g C rfl hf hc (by rw[<- xM];exact hF.fk);rw[aj]at GL;rw[me]at aj;refine an.aC 132 os.length [.tmp 10] Tryz.func135 ?_;(((refine Va (X5 @f8 @fp @g8 (bf g8) (X5 (gz g8) (bf f8) (bf fp) (gz f8) (X5 (gz fp) @cD @cY.{0} @bQ.{0} @bw.{0}))) ?_)))
  refine bD (σ':=⟨au [(0,aaa (c:Nat)),(1,.ptr 8 0 0),(2,.ptr 5 0 0),(3,.ptr 0 0 0),(4,.ptr 1 0 0),(5,.ptr 2 0 0),(6,.ptr 7 0 0),(7,.ptr 6 0 0),(8,.ptr 9 0 0),(11,aaa g.R.length)],(os.set g.p .gone).set 8 (.var [.ref (os.length+1) 5 0 (g.R.length+1)])++[.arr 5 [cP dC],.arr 5 (rowsOf cP (g.R++[dC]))]⟩) (by rw[<- aj6];exact Xv X0) ?_;have GN:((os.set g.p .gone).set 8 (.var [.ref (os.length+1) 5 0 (g.R.length+1)])++[Ob.arr 5 [cP dC],Ob.arr 5 (rowsOf cP (g.R++[dC]))]).length=g.n+2:=by simp[xM]
  rw[show os.length+1=g.n+1 by omega]at pw GN ⊢;generalize (os.set g.p .gone).set 8 (.var [.ref (g.n+1) 5 0 (g.R.length+1)])++[Ob.arr 5 [cP dC],Ob.arr 5 (rowsOf cP (g.R++[dC]))]=o1 at *;clear f8 fp hp8 g8 hF;have gD:(g.R++[dC]).length=g.R.length+1:=G9;have hRg:(g.R++[dC]).getD g.R.length default=dC:=acx g.R;have c0:o1[0]?=some (.var (ao m)):=nk pw (b:=(0,.var (ao m))) (by simp[bB]);have c4:o1[4]?=some (.arr 1 (rowsOf aT left)):=nk pw (b:=(4,.arr 1 (rowsOf aT left))) (by simp[bB]);have c5:o1[5]?=some (.var [.ref 4 1 0 left.length]):=nk pw (b:=(5,.var [.ref 4 1 0 left.length])) (by simp[bB]);have sS:∀ k,k<left.length->(rowsOf aT left)[k]?=some [.tree 1 (aX (left.getD k default))]:=λk hk=>by
   unfold rowsOf;rw[b6,aG,bT hk];rfl
  have Dk:∀ k,k<left.length->(left.getD k default).length<=24:=λk hk=>by rw[hJ.2 k hk];exact hm.opt _ (aB G3)
  refine aO (λk:Nat=>(⟨au [(0,aaa (k:Nat)),(1,.ptr 8 0 0),(2,.ptr 5 0 0),(3,.ptr 0 0 0),(4,.ptr 1 0 0),(5,.ptr 2 0 0),(6,.ptr 7 0 0),(7,.ptr 6 0 0),(8,.ptr 9 0 0),(11,aaa g.R.length)],o1⟩:St)) (λk=>c<=k/\k<=left.length/\cH left k=cH left c) (λk=>left.length-k) c ⟨Nat.le_refl _,hc,rfl⟩ (Xv X0) ?_;rintro k⟨gv,bW,qO⟩Ql ak ar;by_cases bE:k<left.length/\(left.getD k default).length=1
  ·have xi:=sS k bE.1;have FY:=Ny bE;generalize left.getD k default=row at *;((repeat'(first|refine Va (X3 @c4 @c5 @xi) ?_|(refine V2 (X3 @c4 @c5 @xi) ?_ ?_<;>try with_reducible intro hb)|(refine Xi ?_ ?_<;>try intro ht)|exact Xx|fail)))
   all_goals exact ak _ (k+1) ⟨G3,G3,by rw[<- FY,qO]⟩ G3 (Xv X0)
  have iK:k=cH left c:=by rw[<- qO,Nz bE]
  have acy:∀ st,ay os.length st ⟨au [(0,aaa (k:Nat)),(1,.ptr 8 0 0),(2,.ptr 5 0 0),(3,.ptr 0 0 0),(4,.ptr 1 0 0),(5,.ptr 2 0 0),(6,.ptr 7 0 0),(7,.ptr 6 0 0),(8,.ptr 9 0 0),(11,aaa g.R.length)],o1⟩->Ql (.exit 0) st:=λst cq=>by
   refine ar _ _ rfl ?_;clear ak ar;repeat(refine Xu ?_)
   refine bD cq ?_;clear cq st;rw[<- iK]at aj k1 k2 k3 k4;clear iK qO;have Df:fi o1 [] ([]:List Ob)=o1:=by simp[fi]
   ((refine Va (X2 @c0 @c5) ?_)<;>try with_reducible intro K hK)
   refine pI [] ke Kq trivial ⟨.pure rfl,aI.fz c4 (by rw[bX]),trivial⟩ rfl G9 ?_;rw[k7,Df];simp(disch:=omega)only[Ac,↓Pc,simprocAttr];refine hK _ ?_;clear hK K;generalize hv:iA m left=v at *;have c1:o1[1]?=some (.var [eS pv t0 g.s,aaa g.s.cO,aaa g.s.fe,.lit (.slice none 0 0)]):=nk pw (b:=(1,vJ pv t0 g.s)) (by simp[bB,vJ,eS]);have c2:o1[2]?=some (.var [aaa g.s.eN]):=nk pw (b:=(2,.var [aaa g.s.eN])) (by simp[bB]);have c6:o1[6]?=some (.var [.lit (.bool g.s.whole)]):=nk pw (b:=(6,.var [.lit (.bool g.s.whole)])) (by simp[bB]);have c7:o1[7]?=some (.var [aaa g.s.room]):=nk pw (b:=(7,.var [aaa g.s.room])) (by simp[bB]);by_cases oW:g.s.cO<=v
   ·rw[if_pos oW]at aj;dsimp only at aj pw;have uB:Fc (qB 135 m left pv t0 res C) (o1.set 1 (.var [eS pv t0 g.s,aaa g.s.cO,aaa (min g.s.fe v),.lit (.slice none 0 0)])):=by
     subst aj;exact zV pw
    have qX:res.n=o1.length:=by rw[<- aj,GN]
    clear aj;have J2:=λy:Ob=>j3 (y:=y) c1;repeat'(first|((fail_if_success (first|refine dE 8 ?_|refine dF 8 ?_));refine Xr (X2 @c1 @J2) ?_;intro K hK)|(refine hK _ ?_;clear hK K)|(refine Xi ?_ ?_<;>try intro ht)|refine Xy ?_|exact Xx|fail)
    refine bD (σ':=⟨au [(11,aaa g.R.length)],o1.set 1 (.var [eS pv t0 g.s,aaa g.s.cO,aaa (min g.s.fe v),.lit (.slice none 0 0)])⟩) (Xv X0) ?_;refine bD (ay.canon uB) ?_;dsimp only;rw[bw,<- qX];refine Vb X0 ?_;exact ey rfl (by rw[Bw];omega) rfl
   rw[if_neg oW]at aj;by_cases cF:k=left.length
   ·rw[if_pos cF]at aj;have fC:=alQ left G3 (λl hl=>by
     obtain⟨i,hi,rfl⟩:=List.getElem_of_mem hl;have:=Dk i hi;rwa [aG,bT hi]at this)
    have x8:fi o1 [] (List.map (bU (bA o1.length [])) [Ob.arr 1 (ints (kr left))])=o1++[Ob.arr 1 (ints (kr left))]:=by simp[fi,uR]
    have Bv:∀ x,(o1++[x])[1]?=some (.var [eS pv t0 g.s,aaa g.s.cO,aaa g.s.fe,.lit (.slice none 0 0)]):=λx=>bf c1 _;have acz:∀ x y,((o1++[x]).set 1 y)[1]?=some y:=λx y=>j3 (Bv x);have jk:∀ x y z,((o1++[x]).set 1 y).set 1 z=(o1++[x]).set 1 z:=λx y z=>vY ..;have h1l:1≠o1.length:=G3;have iU:(ints (kr left)).length=left.length:=by simp[ints,kr]
    dsimp only at aj pw;have uB:Fc (qB 135 m left pv t0 res C) ((o1++[Ob.gone]).set 1 (.var [.tree 1 (ints (kr left)),aaa v,aaa (min g.s.fe v),.lit (.slice none 0 0)])):=by
     subst aj;exact zV (pw.app [Ob.gone]) (hy:=by simp[bB,vJ,eS,show v<t0 by omega])
    have qX:res.n=o1.length+1:=by rw[<- aj,GN]
    clear aj;have mj:∀ X:Ob,((o1++[Ob.arr 1 (ints (kr left))]).set 1 X)[o1.length]?=some (.arr 1 (ints (kr left))):=λX=>by rw[bM h1l];exact kj _ _ _
    have dX:∀ X Y:Ob,(((o1++[Ob.arr 1 (ints (kr left))]).set 1 X).set o1.length .gone).set 1 Y=(o1++[Ob.gone]).set 1 Y:=λX Y=>by rw[List.set_comm _ _ h1l,vY,zx]
    repeat'(first|((fail_if_success (first|refine dE 10 ?_|refine dF 10 ?_));refine Xr (X3 @c1 @c4 @c5) ?_;intro K hK)|(refine hK _ ?_;clear hK K)|(refine Xi ?_ ?_<;>try intro ht)|refine Xy ?_|exact Xx|fail)
    refine jb [] (.take 0 (.take 2 (.take 5 (.both 1 (.take 3 (.take 4 (.take 6 (.take 7 (.take 8 (.take 9 (.take 10 (.take 11 (.take 12 .nil))))))))) 3 (.both 1 (.take 4 (.take 6 (.take 7 (.take 8 (.take 9 (.take 10 (.take 11 (.take 12 .nil)))))))) 4 (.take 1 (.take 6 (.take 7 (.take 8 (.take 9 (.take 10 (.take 11 (.take 12 .nil))))))))))))) rfl Kq (by decide +kernel) ?_;simp(disch:=omega)only[Ac,↓Pc,simprocAttr,Pw,c1,c4,c5];repeat'(with_reducible refine cI ?_ ?_)
    all_goals
     refine pI [] fC Kq trivial ⟨aI.fz c4 (by rw[bX]),trivial⟩ rfl (by simp[xC,ints,flat]) ?_;rw[x8];simp(disch:=omega)only[Ac,↓Pc,simprocAttr,Pw,c1,Bv,acz,jk]
    all_goals
     repeat(refine Xu ?_)
     refine bD (σ':=⟨au [(11,aaa g.R.length)],(o1++[Ob.arr 1 (ints (kr left))]).set 1 (.var [.ref o1.length 1 0 (ints (kr left)).length,aaa v,aaa (min g.s.fe v),.lit (.slice none 0 0)])⟩) (by rw[iU];exact Xv X0) ?_;refine bD (ay.kQ o1.length 1 0 1 (acz _ _) (mj _) rfl (ny _) (oa _)) ?_;simp only[mh];rw[dX];refine bD (ay.canon uB) ?_;dsimp only;rw[bw,bQ,rj,<- qX];((repeat'(first|refine Vb X0 ?_|fail)))
     exact ey rfl (by rw[Bw];omega) rfl
   rw[if_neg cF]at aj;have cF:k<left.length:=G3;have xi:=sS k cF;have ew:=k4 cF;have bj:=Dk k cF;generalize cB:left.getD k default=row at *;by_cases O8:g.s.eN=0\/g.s.room<row.length
   ·rw[if_pos O8]at aj;dsimp only at aj pw;have uB:Fc (qB 135 m left pv t0 res C) ((o1.set 1 (.var [eS pv t0 g.s,aaa g.s.cO,aaa (min g.s.fe v),.lit (.slice none 0 0)])).set 6 (.var [.lit (.bool false)])):=by
     subst aj;have h1:=zV (i:=1) (y:=(.var [eS pv t0 g.s,aaa g.s.cO,aaa (min g.s.fe v),.lit (.slice none 0 0)])) (left':=left) (g':=⟨g.n+2,g.n+1,g.R++[dC],{ g.s with nodes:=g.s.nodes++[eW []],fe:=min g.s.fe v }⟩) pw;exact zV h1
    have qX:res.n=o1.length:=by rw[<- aj,GN]
    clear aj;have c66:∀ x,(o1.set 1 x)[6]?=some (.var [.lit (.bool g.s.whole)]):=λx=>by rw[bM Kq];exact c6
    have J2:=λy:Ob=>j3 (y:=y) c1;repeat'(first|((fail_if_success (first|refine dE 14 ?_|refine dF 14 ?_));refine Xr (X5 @c1 @c2 @c4 @c5 (X4 @c7 @xi @J2 @c66)) ?_;intro K hK)|(refine hK _ ?_;clear hK K)|(refine Xg (X5 @c1 @c2 @c4 @c5 (X4 @c7 @xi @J2 @c66)) ?_ ?_<;>try intro hb)|(refine Xi ?_ ?_<;>try intro ht)|refine Xy ?_|refine Xd ?_ ?_|exact Xx|fail)
    all_goals
     refine bD (σ':=⟨au [(11,aaa g.R.length)],(o1.set 1 (.var [eS pv t0 g.s,aaa g.s.cO,aaa (min g.s.fe v),.lit (.slice none 0 0)])).set 6 (.var [.lit (.bool false)])⟩) (Xv X0) ?_;refine bD (ay.canon uB) ?_;dsimp only;rw[bw,bw,<- qX];((repeat'(first|refine Vb X0 ?_|fail)))
     exact ey rfl (by rw[Bw];omega) rfl
   rw[if_neg O8]at aj;rw[not_or]at O8;unfold po at aj;rw[cB]at aj;have c8:o1[8]?=some (.var [.ref (g.n+1) 5 0 (g.R.length+1)]):=nk pw (b:=(8,.var [.ref (g.n+1) 5 0 (g.R.length+1)])) (by simp[bB]);have uB:Fc (qB 135 m left pv t0 ⟨g.n+2,g.n+1,g.R++[dC],⟨g.s.nodes++[eW []],g.s.room-row.length,g.s.eN-1,g.s.whole,g.s.plan,g.s.cO,g.s.fe⟩⟩ C) ((o1.set 2 (.var [aaa (g.s.eN-1)])).set 7 (.var [aaa (g.s.room-row.length)])):=by
    have h1:=zV (i:=2) (y:=(.var [aaa (g.s.eN-1)])) (left':=left) (g':=⟨g.n+2,g.n+1,g.R++[dC],{ g.s with nodes:=g.s.nodes++[eW []],eN:=g.s.eN-1 }⟩) pw;exact zV h1
   have O9:∀ x,(o1.set 2 x)[7]?=some (.var [aaa g.s.room]):=λx=>by rw[bM Kq];exact c7
   have O':∀ x,(o1.set 2 x)[4]?=some (.arr 1 (rowsOf aT left)):=λx=>by rw[bM Kq];exact c4
   have Pa:∀ x,(o1.set 2 x)[5]?=some (.var [.ref 4 1 0 left.length]):=λx=>by rw[bM Kq];exact c5
   repeat'(first|((fail_if_success (first|refine dE 18 ?_|refine dF 18 ?_));refine Xr (X5 @c1 @c2 @c4 @c5 (X5 @c7 @xi @O9 @O' @Pa)) ?_;intro K hK)|(refine hK _ ?_;clear hK K)|(refine Xg (X5 @c1 @c2 @c4 @c5 (X5 @c7 @xi @O9 @O' @Pa)) ?_ ?_<;>try intro hb)|(refine Xi ?_ ?_<;>try intro ht)|refine Xy ?_|refine Xd ?_ ?_|exact Xx|fail)
   refine bD (σ':=⟨au [(0,aaa (k:Nat)),(1,.ptr 8 0 0),(2,.ptr 5 0 0),(3,.ptr 0 0 0),(4,.ptr 1 0 0),(5,.ptr 2 0 0),(6,.ptr 7 0 0),(7,.ptr 6 0 0),(8,.ptr 9 0 0),(11,aaa g.R.length),(13,.tree 1 (aX row))],(o1.set 2 (.var [aaa (g.s.eN-1)])).set 7 (.var [aaa (g.s.room-row.length)])⟩) (Xv X0) ?_;have J3:((o1.set 2 (.var [aaa (g.s.eN-1)])).set 7 (.var [aaa (g.s.room-row.length)])).length=g.n+2:=by simp[GN]
   generalize (o1.set 2 (.var [aaa (g.s.eN-1)])).set 7 (.var [aaa (g.s.room-row.length)])=o2 at *;clear c0 c1 c2 c4 c5 c6 c7 c8 O9 O' Pa pw;refine Va @cD ?_;refine bD (ay.my o2.length 1 1 (kj _ _ _) rfl Kq) ?_;simp only[List.set_cons_succ,mh,cY,dP,dZ,bQ,rj,zx];rw[J3];refine bD (σ':=⟨au [(0,aaa (k:Nat)),(1,.ptr 8 0 0),(2,.ptr 5 0 0),(3,.ptr 0 0 0),(4,.ptr 1 0 0),(5,.ptr 2 0 0),(6,.ptr 7 0 0),(7,.ptr 6 0 0),(8,.ptr 9 0 0),(11,aaa g.R.length),(13,.tree 1 (aX row)),(14,.ptr (g.n+2) 0 0),(96,.tree 1 (aX row)),(97,aaa row.length),(98,aaa (0:Nat))],o2++[.var (cP ⟨k,some (g.n+3,[]),none⟩),.arr 1 (ints [])]⟩) (Xv X0) ?_;have hF3:Fc (qB 135 m (left.set k row) pv t0 ⟨g.n+4,g.n+1,g.R++[dC],⟨g.s.nodes++[eW []],g.s.room-row.length,g.s.eN-1,g.s.whole,g.s.plan,g.s.cO,g.s.fe⟩⟩ ((g.n+3,.arr 1 (ints []))::(g.n+2,.var (cP ⟨k,some (g.n+3,[]),none⟩))::C)) (o2++[.var (cP ⟨k,some (g.n+3,[]),none⟩),.arr 1 (ints [])]):=by
    have e:left.set k row=left:=by rw[<- cB];exact setRow_self cF
    rw[e];have uB:Fc (qB 135 m left pv t0 ⟨g.n+4,g.n+1,g.R++[dC],⟨g.s.nodes++[eW []],g.s.room-row.length,g.s.eN-1,g.s.whole,g.s.plan,g.s.cO,g.s.fe⟩⟩ C) o2:=uB;have h1:=(uB.app [Ob.var (cP ⟨k,some (g.n+3,[]),none⟩),Ob.arr 1 (ints [])]).add (k:=g.n+2) (x:=.var (cP ⟨k,some (g.n+3,[]),none⟩)) (by rw[<- J3];exact kj _ _ _) (uB.fresh G3);have h2:=h1.add (k:=g.n+3) (x:=.arr 1 (ints [])) (by rw[show g.n+3=o2.length+1 by omega,nN];rfl) (by
     rw[dK,List.mem_cons,not_or];exact⟨Kw,uB.fresh G3⟩)
    exact h2.perm ((tw.cons _ tp).trans tp)
   have acD:(o2++[Ob.var (cP ⟨k,some (g.n+3,[]),none⟩),Ob.arr 1 (ints [])]).length=g.n+4:=by simp[J3]
   generalize o2++[Ob.var (cP ⟨k,some (g.n+3,[]),none⟩),Ob.arr 1 (ints [])]=o3 at *;clear uB J3 o2;generalize qN:lD (me m f (k+1)) left k row.length 0 ⟨g.n+4,g.n+1,g.R++[dC],⟨g.s.nodes++[eW []],g.s.room-row.length,g.s.eN-1,g.s.whole,g.s.plan,g.s.cO,g.s.fe⟩⟩ (g.n+3) []=RR at *;refine aO (λz:Nat×QS×Nat×List Int×List Ob×List Bool=>(⟨au [(0,aaa (k:Nat)),(1,.ptr 8 0 0),(2,.ptr 5 0 0),(3,.ptr 0 0 0),(4,.ptr 1 0 0),(5,.ptr 2 0 0),(6,.ptr 7 0 0),(7,.ptr 6 0 0),(8,.ptr 9 0 0),(11,aaa g.R.length),(13,.tree 1 (aX row)),(14,.ptr (g.n+2) 0 0),(97,aaa row.length),(98,aaa z.1)],z.2.2.2.2.1⟩:St))
    (λz=>z.1<=row.length/\z.2.2.2.1.length=z.1/\g.R.length<z.2.1.R.length/\z.2.1.R.getD g.R.length default=dC/\z.2.2.2.2.1.length=z.2.1.n/\g.n<=z.2.1.n/\Fc (qB 135 m (left.set k z.2.2.2.2.2) pv t0 z.2.1 ((z.2.2.1,.arr 1 (ints z.2.2.2.1))::(g.n+2,.var (cP ⟨k,some (z.2.2.1,z.2.2.2.1),none⟩))::C)) z.2.2.2.2.1 /\
     lD (me m f (k+1)) left k (row.length-z.1) z.1 z.2.1 z.2.2.1 z.2.2.2.1=RR/\(z.2.1.R.length:Int)+z.2.1.s.room=g.R.length+1+g.s.room-row.length+z.1/\0<=z.2.1.s.room/\(0<=z.2.1.s.eN/\z.2.1.s.eN<=1000000)/\z.2.1.s.cO<=t0) (λz=>row.length-z.1)
    (0,⟨g.n+4,g.n+1,g.R++[dC],⟨g.s.nodes++[eW []],g.s.room-row.length,g.s.eN-1,g.s.whole,g.s.plan,g.s.cO,g.s.fe⟩⟩,g.n+3,[],o3,row) ⟨aF _,rfl,Kw,hRg,acD,Kw,hF3,qN,by dsimp only;rw[gD];omega,Kw,Kw,Fu⟩ (Xv X0) ?_
   clear hF3 acD o3 qN;rintro⟨i,gg,q,ks,o,x⟩⟨hi,qO,yE,zU,fX,hgn,vK,hr,hbr,nJ,lH,jC⟩kX fJ eR;dsimp only at hi qO yE zU fX hgn vK hr hbr nJ lH jC ⊢;have d4:o[4]?=some (.arr 1 (rowsOf aT (left.set k x))):=nk vK (b:=(4,.arr 1 (rowsOf aT (left.set k x)))) (by simp[bB]);have d5:o[5]?=some (.var [.ref 4 1 0 left.length]):=nk vK (b:=(5,.var [.ref 4 1 0 left.length])) (by simp[bB]);have d9:o[9]?=some (.var [.fn 135 [.ptr 8 0 0,.ptr 5 0 0,.ptr 0 0 0,.ptr 1 0 0,.ptr 2 0 0,.ptr 7 0 0,.ptr 6 0 0,.ptr 9 0 0]]):=nk vK (b:=(9,.var [.fn 135 BJ])) (by simp[bB]);have dv:o[g.n+2]?=some (.var (cP ⟨k,some (q,ks),none⟩)):=GO vK (b:=(g.n+2,.var (cP ⟨k,some (q,ks),none⟩))) G9;have h4l:=(aY.1 d4).1;have alY:k<(left.set k x).length:=by rw[bw];exact cF
   have cZ:(rowsOf aT (left.set k x)).length=left.length:=by rw[bX,bw]
   by_cases hi':i<row.length
   ·have J4:(rowsOf aT (left.set k x))[k]?=some [.tree 1 (aX x)]:=by
     unfold rowsOf;rw[b6,cm,if_pos rfl,if_pos cF];rfl
    have dX:∀ y,((rowsOf aT (left.set k x)).set k y)[k]?=some y:=λy=>by rw[cm,if_pos rfl,if_pos (by rw[cZ];exact cF)]
    have e4:∀ A B,((o++[A]).set 4 B)[4]?=some B:=λA B=>j3 (bf d4 _);have e5:∀ A B,((o++[A]).set 4 B)[5]?=some (.var [.ref 4 1 0 left.length]):=λA B=>by rw[bM Kq];exact bf d5 _
    have eL:∀ A B,((o++[A]).set 4 B)[o.length]?=some A:=λA B=>by rw[bM G3];exact kj _ _ _
    have hb5:=λA=>bf d5 [A];have C4:=λA=>bf d4 [A];have hbf:(aX (bG row.length false))[i]?=some [.lit (.bool false)]:=by
     unfold aX;rw[b6,DM,if_pos hi'];rfl
    have w7:(aX (nS row.length i)).length=row.length:=by rw[yU,Je]
    have J5:cf left k i=left.set k (nS row.length i):=by unfold cf;rw[cB]
    repeat'(first|((fail_if_success (first|refine dE 24 ?_|refine dF 24 ?_));refine Xr (X5 @d4 @d5 @C4 @hb5 (X5 @J4 @dX @e4 @e5 (X5 @eL @cZ @hbf @bw.{0} (X2 @bQ.{0} @List.length_replicate.{0})))) ?_;intro K hK)|(refine hK _ ?_;clear hK K)|(refine Xi ?_ ?_<;>try intro ht)|refine Xy ?_|refine Xd ?_ ?_|exact Xx|fail)
    refine bD (σ':=⟨au [(0,aaa (k:Nat)),(1,.ptr 8 0 0),(2,.ptr 5 0 0),(3,.ptr 0 0 0),(4,.ptr 1 0 0),(5,.ptr 2 0 0),(6,.ptr 7 0 0),(7,.ptr 6 0 0),(8,.ptr 9 0 0),(11,aaa g.R.length),(13,.tree 1 (aX row)),(14,.ptr (g.n+2) 0 0),(97,aaa row.length),(98,aaa i)],((o++[Ob.arr 1 (aX (bG row.length false))]).set 4 (.arr 1 ((rowsOf aT (left.set k x)).set k [.ref o.length 1 0 row.length]))).set o.length (.arr 1 (aX (nS row.length i)))⟩) (by unfold nS;exact Xv X0) ?_;refine bD (ay.MD o.length 4 k 0 1 1 (R:=(rowsOf aT (left.set k x)).set k [.ref o.length 1 0 row.length]) (cells:=[.ref o.length 1 0 row.length]) (rows:=aX (nS row.length i)) (by rw[bM G3];exact e4 _ _) (dX _) (j3 (eL _ _)) (by rw[w7];rfl) G3 (D9 _) (HB _)) ?_;have BF:∀ A B A' B':Ob,(((((o++[A]).set 4 B).set o.length A').set o.length Ob.gone).set 4 B')=(o++[Ob.gone]).set 4 B':=λA B A' B'=>by
     rw[vY,List.set_comm _ _ (show 4≠o.length by omega),vY,zx]
    rw[BF,vY];simp only[mh];rw[acG,<- J5];have Dw:Fc (qB 135 m (cf left k i) pv t0 ⟨gg.n+1,gg.p,gg.R,gg.s⟩ ((q,.arr 1 (ints ks))::(g.n+2,.var (cP ⟨k,some (q,ks),none⟩))::C)) ((o++[Ob.gone]).set 4 (.arr 1 (rowsOf aT (cf left k i)))):=by
     rw[J5];exact zV (vK.app [Ob.gone])
    have Pb:((o++[Ob.gone]).set 4 (.arr 1 (rowsOf aT (cf left k i)))).length=gg.n+1:=by simp[fX]
    generalize (o++[Ob.gone]).set 4 (.arr 1 (rowsOf aT (cf left k i)))=o4 at *;clear vK d4 d5 d9 dv h4l alY cZ J4 dX e4 e5 eL hb5 C4 hbf BF fX;have sm:(cf left k i).length=left.length:=by rw[J5,bw]
    have hG:=ih (k+1) (cf left k i) o4 ⟨gg.n+1,gg.p,gg.R,gg.s⟩ _ G3 G3 (FN hJ (Jf _ _ _)) Pb lH ⟨nJ,Kw⟩ jC Dw _ rfl;have Yu:=J1 (dn:=135) (m:=m) (left:=cf left k i) (pv:=pv) (t0:=t0) (N:=left.length) f (k+1) (cf left k i) ⟨gg.n+1,gg.p,gg.R,gg.s⟩ _ sm G3 G3 (by have:=Dw.fk;rw[Pb]at this;exact this);have acH:=acI m (N:=left.length) f (k+1) (cf left k i) ⟨gg.n+1,gg.p,gg.R,gg.s⟩ sm G3 G3;have alZ:=acJ m f (k+1) (cf left k i) ⟨gg.n+1,gg.p,gg.R,gg.s⟩;rw[show row.length-i=(row.length-(i+1))+1 by omega,lD]at hr;have d9:o4[9]?=some (.var [.fn 135 [.ptr 8 0 0,.ptr 5 0 0,.ptr 0 0 0,.ptr 1 0 0,.ptr 2 0 0,.ptr 7 0 0,.ptr 6 0 0,.ptr 9 0 0]]):=nk Dw (b:=(9,.var [.fn 135 BJ])) (by simp[bB]);have dv:o4[g.n+2]?=some (.var (cP ⟨k,some (q,ks),none⟩)):=GO Dw (b:=(g.n+2,.var (cP ⟨k,some (q,ks),none⟩))) G9;generalize me m f (k+1) (cf left k i) ⟨gg.n+1,gg.p,gg.R,gg.s⟩=r at *;obtain⟨x1,x2,x3,x4⟩:=Yu;obtain⟨y1,y2,y3,y4,y5⟩:=alZ;dsimp only at x1 x2 x3 acH y1 y2 y3 y4 y5 hG;have uC:=x4.canon;have BK:=Bw (qB 135 m (cf left k i) pv t0 r ((q,.arr 1 (ints ks))::(g.n+2,.var (cP ⟨k,some (q,ks),none⟩))::C)) r.n;generalize canon (qB 135 m (cf left k i) pv t0 r ((q,.arr 1 (ints ks))::(g.n+2,.var (cP ⟨k,some (q,ks),none⟩))::C)) r.n=o5 at *;have dq:o5[q]?=some (.arr 1 (ints ks)):=GO uC (b:=(q,.arr 1 (ints ks))) G9;have GP:o5[g.n+2]?=some (.var (cP ⟨k,some (q,ks),none⟩)):=GO uC (b:=(g.n+2,.var (cP ⟨k,some (q,ks),none⟩))) G9;have GQ:(o5.set q Ob.gone)[g.n+2]?=some (.var (cP ⟨k,some (q,ks),none⟩)):=A5 GP dq G9;have yF:=al0 (X':=.var (cP ⟨k,some (r.n+1,ks++[(gg.R.length:Int)]),none⟩)) (.arr 1 [[aaa gg.R.length]]) uC (r.n+2) (.arr 1 (ints (ks++[(gg.R.length:Int)])));rw[BK]at yF;have gv:((k+1:Nat):Int)=(k:Int)+1:=G3;have al1:os.length<=o5.length:=by rw[BK,xM];omega
    have al2:o4.length<=o5.length:=by rw[BK,Pb];exact x3
    rw[gv]at hG;have al3:cP ⟨(k:Int),some (o5.length+1,ks++[(gg.R.length:Int)]),none⟩=[aaa k,.ref (o5.length+1) 1 0 (ks.length+1),.lit (.slice none 0 0),.lit (.slice none 0 0),.lit (.slice none 0 0)]:=by unfold cP kE mE;simp
    unfold cP kE mE at dv GP GQ;dsimp only at dv GP GQ;refine jb [] (.take 2 (.take 3 (.take 4 (.both 0 (.both 1 (.take 5 (.take 6 (.take 7 (.take 8 (.take 9 .nil))))) 5 (.take 1 (.take 6 (.take 7 (.take 8 (.take 9 .nil)))))) 5 (.take 0 (.take 1 (.take 6 (.take 7 (.take 8 (.take 9 .nil)))))))))) rfl Kq (by decide +kernel) ?_;simp(disch:=omega)only[Ac,↓Pc,simprocAttr,Pw,dv,d9,J0];repeat'(first|with_reducible refine cI ?_ ?_|omega)
    all_goals
     refine il hG (by first|exact al2|exact al1) ?_;simp(disch:=omega)only[Ac,↓Pc,simprocAttr,Pw,J0,dq,GP,GQ,bf dq,gz dq,bf GP,bf GQ,gz GQ,cD,cY,bQ,bw,yV];repeat'(first|with_reducible refine cI ?_ ?_|omega)
    all_goals
     repeat(refine Xu ?_)
     ((repeat'(first|refine Va X0 ?_|fail)))
     refine fJ _ (i+1,⟨r.n+2,r.p,r.R,r.s⟩,r.n+1,ks++[(gg.R.length:Int)],(o5.set q Ob.gone).set (g.n+2) (.var (cP ⟨k,some (r.n+1,ks++[(gg.R.length:Int)]),none⟩))++[.arr 1 [[aaa gg.R.length]],.arr 1 (ints (ks++[(gg.R.length:Int)]))],nS row.length i) ⟨Kw,by dsimp only;rw[bQ,qO];rfl,Kw,(x2 _ yE).trans zU,by dsimp only;simp[BK],Kw,?_,hr,by dsimp only;rw[acH];omega,Kw,Kw,Kw⟩ Kw (by dsimp only;rw[<- BK,al3];exact Xv X0);rw[<- J5];exact yF
   ·obtain rfl:i=row.length:=G3;rw[jv,lD]at hr;have hRp:gg.p≠4:=acw vK (b:=(4,.arr 1 (rowsOf aT (left.set k x)))) (by simp[bB]);have d8:o[8]?=some (.var [.ref gg.p 5 0 gg.R.length]):=nk vK (b:=(8,.var [.ref gg.p 5 0 gg.R.length])) (by simp[bB]);have dp:=O7 vK;have J4:(rowsOf aT (left.set k x))[k]?=some [.tree 1 (aX x)]:=by
     unfold rowsOf;rw[b6,cm,if_pos rfl,if_pos cF];rfl
    have Fj:left.set k row=left:=by rw[<- cB];exact setRow_self cF
    have iq:(rowsOf aT (left.set k x)).set k [.tree 1 (aX row)]=rowsOf aT left:=by rw[acG,Fj]
    have Dw:Fc (qB 135 m left pv t0 gg ((q,.arr 1 (ints ks))::(g.n+2,.var (cP ⟨k,some (q,ks),none⟩))::C)) (o.set 4 (.arr 1 (rowsOf aT left))):=zV vK;have uC:=((Dw.perm tp.symm).perm ((tw.cons _ tp.symm).trans (tw.swap _ _ _))).drop.1.perm tp;have yF:=al5 (c:=(k:Int)) yE zU uC gg.n (FM k g.R.length (gg.s,ks)).nodes;have kh:Fc (qB 135 m left pv t0 res C) ((o.set 4 (.arr 1 (rowsOf aT left))).set gg.p (.arr 5 (rowsOf cP (gg.R.set g.R.length ⟨(k:Int),some (q,ks),none⟩)))):=by
     rw[<- aj,<- hr];exact yF
    have qX:res.n=o.length:=by rw[<- aj,<- hr];exact fX.symm
    have f5:=λy=>(show(o.set 4 y)[5]?=some (.var [.ref 4 1 0 left.length]) by rw[bM Kq];exact d5);have f8:=λy=>(show(o.set 4 y)[8]?=some (.var [.ref gg.p 5 0 gg.R.length]) by rw[bM Kq];exact d8);have fp:=λy=>(show(o.set 4 y)[gg.p]?=some (.arr 5 (rowsOf cP gg.R)) by rw[bM (Ne.symm hRp)];exact dp);have fv:=λy=>(show(o.set 4 y)[g.n+2]?=some (.var (cP ⟨k,some (q,ks),none⟩)) by rw[bM G3];exact dv);have jN:=al6 yE zU;have xN:=al7 gg.R g.R.length ⟨(k:Int),some (q,ks),none⟩;unfold cP kE mE at dv;unfold cP kE mE dC at jN;dsimp only at dv jN;((repeat'(first|refine Va X0 ?_|(refine Xi ?_ ?_<;>try intro ht)|exact Xx|fail)))
    refine eR _ _ rfl ?_;clear fJ eR;repeat(refine Xu ?_)
    repeat'(first|((fail_if_success (first|refine dE 28 ?_|refine dF 28 ?_));refine Xr (X5 @d4 @d5 @cZ @J4 (X5 @iq @f5 @f8 @fp (X5 @fv @jN @cP.eq_1 (X2 @kE.eq_1 @kE.eq_2) (X2 (X2 @mE.eq_1 @mE.eq_2) @aaQ)))) ?_;intro K hK)|(refine hK _ ?_;clear hK K)|refine Xy ?_|refine Xd ?_ ?_|exact Xx|fail)
    refine bD (σ':=⟨au [(11,aaa g.R.length)],(o.set 4 (.arr 1 (rowsOf aT left))).set gg.p (.arr 5 (rowsOf cP (gg.R.set g.R.length ⟨(k:Int),some (q,ks),none⟩)))⟩) (by rw[<- xN];exact Xv X0) ?_;refine bD (ay.canon kh) ?_;dsimp only;rw[bw,bw,<- qX];refine Vb X0 ?_;exact ey rfl (by rw[Bw];omega) rfl
  by_cases cF:k<left.length
  ·have xi:=sS k cF;have ew:(left.getD k default).length≠1:=λe=>bE ⟨cF,e⟩;generalize left.getD k default=row at *;((repeat'(first|refine Va (X3 @c4 @c5 @xi) ?_|(refine V2 (X3 @c4 @c5 @xi) ?_ ?_<;>try with_reducible intro hb)|(refine Xi ?_ ?_<;>try intro ht)|exact Xx|fail)))
   all_goals exact acy _ (Xv X0)
  ·((repeat'(first|refine Va (X2 @c4 @c5) ?_|(refine V2 (X2 @c4 @c5) ?_ ?_<;>try with_reducible intro hb)|(refine Xi ?_ ?_<;>try intro ht)|exact Xx|fail)))
   all_goals exact acy _ (Xv X0)
def al8(m:ah)(bP:VM m):an Tryz.prog 102 [.agg (ao m)] [] (.ref 0 1 0 (fM m).length) [.arr 1 (rowsOf aT (fM m))]:=by
 have hm:=bP.mb;have h1:=ud m hm;have rX:=hm.cls;generalize aj:fM m=res;unfold fM at aj;refine an.aC 25 0 [.tmp 2] Tryz.func102 ?_;have hv:ek m=0:=iu.2 bP;rw[if_pos hv]at aj;rw[hv]at h1;have nL:=bP.cls;((repeat'(first|refine Vd @bne_self_eq_false.{0} h1 ?_|(refine Xi ?_ ?_<;>try intro ht)|exact Xx|fail)))
 refine aO (λz:Nat×List (List Bool)=>(⟨au [(1,.ptr 0 0 0),(3,.ref 1 1 0 z.2.length),(10,.tree 1 (rowsOf a9 m.cls)),(11,aaa m.cls.length),(12,aaa z.1)],[.var (ao m),.arr 1 (rowsOf aT z.2)]⟩:St))
  (λz=>z.1<=m.cls.length/\z.2=(mK m).take z.1) (λz=>m.cls.length-z.1) (0,[]) ⟨aF _,rfl⟩ ?_ ?_
 ·refine ay.trans (ay.nil 3 1 (by simp only[Kc,simprocAttr]) Kq) ?_;exact Xv X0
 rintro⟨i,xs⟩⟨hi,dj⟩Ql ak ar;dsimp only at hi dj ⊢;have gJ:(mK m).length=m.cls.length:=by simp[mK]
 by_cases hi':i<m.cls.length
 ·have qU:xs.length=i:=by rw[dj,fy];omega
  have cq:(mK m).take (i+1)=xs++[bG (m.cls.getD i default).length true]:=by
   rw[eJ G3,<- dj];unfold mK;rw[kU _ _ _ hi']
  have sh:=bP.opt _ (aB (d:=default) hi');generalize aM:m.cls.getD i default=c at *;have F3:=aac true c.length G3;repeat'(first|((fail_if_success (first|refine dE 7 ?_|refine dF 7 ?_));refine Xr (X2 @aM @a9.eq_1) ?_;intro K hK)|(refine hK _ ?_;clear hK K)|(refine Xi ?_ ?_<;>try intro ht)|refine Xy ?_|refine Xd ?_ ?_|exact Xx|fail)
  refine MC 5 Kq ?_;intro K K1 hK zE;simp(disch:=omega)only[Ac,↓Pc,simprocAttr,List.take];refine pI [] F3 Kq trivial ⟨aI.fz (rows:=rowsOf mM [true]) rfl rfl G9,.pure rfl,trivial⟩ rfl (by simp[xC,mM,rowsOf,flat]) ?_;simp(disch:=omega)only[Ac,↓Pc,simprocAttr];refine zE _ ⟨au [(1,.ptr 0 0 0),(3,.ref 1 1 0 xs.length),(10,.tree 1 (rowsOf a9 m.cls)),(11,aaa m.cls.length),(12,aaa i),(16,.ref 1 1 0 xs.length),(20,.tree 1 (aX (bG c.length true)))],[.var (ao m),.arr 1 (rowsOf aT xs)]⟩ ?_ ?_
  ·rw[<- aab];exact Xs true [0,1] X0
  clear zE K1;simp(disch:=omega)only[Ac,↓Pc,simprocAttr,List.drop,aae];repeat'(first|with_reducible refine cI ?_ ?_|omega)
  refine hK _ ?_;clear hK K;repeat(refine Xu ?_)
  refine Va X0 ?_;refine ak _ (i+1,xs++[bG c.length true]) ⟨Kw,cq.symm⟩ Kw ?_;exact Xs false [0,3] X0
 ·rw[ej G3]at dj;((repeat'(first|refine Va X0 ?_|(refine Xi ?_ ?_<;>try intro ht)|exact Xx|fail)))
  refine ar _ _ rfl ?_;clear ak ar Ql;repeat(refine Xu ?_)
  refine Vb X0 ?_;rw[dj,aj];exact Xw false [1] X0
def g0(eN:Int)(p0:List Int)(t0:Int):QS:=⟨11,10,[],⟨[],19999,eN,true,p0,t0,1099511627776⟩⟩
def zW(m:ah)(eN:Int)(p0:List Int)(t0:Int):DS:=si m (m.cls.length+1) 0 (fM m) ⟨[],19999,eN,true,p0,t0,1099511627776⟩
def zA{pv:AV}{t0:Int}{s:DS}(h:gQ pv=true):gQ (eS pv t0 s)=true:=by
 unfold eS;split
 ·rfl
 ·exact h
def acK(m:ah)(hm:VM m)(eN:Int)(Ae:0<=eN/\eN<=1000000)(p0:List Int)(t0:Int)(pv:AV)(OK:gQ pv=true)(gF:cJ pv=true)(b0:Int):
  an Tryz.prog 99 [.agg (ao m),.agg [pv,aaa t0,aaa b0,.lit (.slice none 0 0)],aaa eN] []
   (.bH [.agg [eS pv t0 (zW m eN p0 t0),aaa (zW m eN p0 t0).cO,aaa (zW m eN p0 t0).fe,.tree 5 (rowsOf az (zW m eN p0 t0).nodes)],.lit (.bool (zW m eN p0 t0).whole)]) []:=by
 have eB:=al8 m hm;have hJ:=C7 hm;have nL:=hm.cls;have Cs:=acL m (m.cls.length+1) 0 (fM m) (g0 eN p0 t0) rfl;have Pe:Fc (qB 135 m (fM m) pv t0 (g0 eN p0 t0) [(3,.var [.lit (.slice none 0 0),aaa 0,aaa 0,.lit (.slice none 0 0)])])
   [.var (ao m),.var [pv,aaa t0,aaa 1099511627776,.lit (.slice none 0 0)],.var [aaa eN],.var [.lit (.slice none 0 0),aaa 0,aaa 0,.lit (.slice none 0 0)],.arr 1 (rowsOf aT (fM m)),.var [.ref 4 1 0 (fM m).length],.var [.lit (.bool true)],.var [aaa 19999],.var [.ref 10 5 0 0],.var [.fn 135 BJ],.arr 5 []]:=by
  refine⟨?_,(show([0,1,2,4,5,6,7,9,8,10,3]:List Nat).Nodup by decide)⟩;unfold qB bB vJ eS g0 gU;simp[rowsOf]
 have wX:=alS m hm pv t0 (m.cls.length+1) 0 (fM m) _ (g0 eN p0 t0) _ (by rw[hJ.1];simp) (aF _) hJ rfl Ae ⟨by show(0:Int)<=19999;omega,by show(0:Int)+19999<=1000000;omega⟩ (Int.le_refl _) Pe _ rfl;have GL:=J1 (dn:=135) (m:=m) (left:=fM m) (pv:=pv) (t0:=t0) (N:=m.cls.length) (m.cls.length+1) 0 (fM m) (g0 eN p0 t0) _ hJ.1 G3 (aF _) Pe.fk;have b7:zW m eN p0 t0=(me m (m.cls.length+1) 0 (fM m) (g0 eN p0 t0)).s:=Cs.2.symm;have lI:=Cs.1;unfold uD at lI;rw[b7];generalize me m (m.cls.length+1) 0 (fM m) (g0 eN p0 t0)=r at *;have uC:=GL.fk.canon;have fX:=GL.ol;have BK:=Bw (qB 135 m (fM m) pv t0 r [(3,.var [.lit (.slice none 0 0),aaa 0,aaa 0,.lit (.slice none 0 0)])]) r.n;unfold g0 at wX fX;dsimp only at wX fX;generalize canon (qB 135 m (fM m) pv t0 r [(3,.var [.lit (.slice none 0 0),aaa 0,aaa 0,.lit (.slice none 0 0)])]) r.n=o5 at *;refine an.aC 24 0 [.cell 6 77,.tmp 7] Tryz.func99 ?_;((refine Vb @gF ?_)<;>try with_reducible intro K hK)
 (refine Xn [] (eB) ?_;simp(disch:=omega)only[Ac,↓Pc,simprocAttr,rM])
 repeat'(first|((fail_if_success (first|refine dE 7 ?_|refine dF 7 ?_));refine Xr (X2 @gF @J0) ?_;intro K hK)|(refine hK _ ?_;clear hK K)|refine XY ?_|fail)
 refine bD (ay.my 8 0 5 rfl rfl Kq) ?_;refine bD (σ':=⟨au [(3,.ptr 0 0 0),(4,.ptr 1 0 0),(6,.ptr 3 0 0),(7,.lit (.bool false)),(9,.ptr 6 0 0),(11,.ptr 8 0 0),(12,.ptr 9 0 0)],[.var (ao m),.var [pv,aaa t0,aaa 1099511627776,.lit (.slice none 0 0)],.var [aaa eN],.var [.lit (.slice none 0 0),aaa 0,aaa 0,.lit (.slice none 0 0)],.arr 1 (rowsOf aT (fM m)),.var [.ref 4 1 0 (fM m).length],.var [.lit (.bool true)],.var [aaa 19999],.var [.ref 10 5 0 0],.var [.fn 135 BJ],.arr 5 []]⟩) (Xv X0) ?_;unfold BJ at wX ⊢;((refine Vb @J0 ?_)<;>try with_reducible intro K hK)
 refine il wX (by rw[BK];exact fX) ?_;have e8:o5[8]?=some (.var [.ref r.p 5 0 r.R.length]):=nk uC (b:=(8,.var [.ref r.p 5 0 r.R.length])) (by simp[bB]);have e1:o5[1]?=some (.var [eS pv t0 r.s,aaa r.s.cO,aaa r.s.fe,.lit (.slice none 0 0)]):=nk uC (b:=(1,vJ pv t0 r.s)) (by simp[bB]);have e6:o5[6]?=some (.var [.lit (.bool r.s.whole)]):=nk uC (b:=(6,.var [.lit (.bool r.s.whole)])) (by simp[bB]);have e3:o5[3]?=some (.var [.lit (.slice none 0 0),aaa 0,aaa 0,.lit (.slice none 0 0)]):=GO uC (b:=(3,.var [.lit (.slice none 0 0),aaa 0,aaa 0,.lit (.slice none 0 0)])) G9;have mu:cJ (eS pv t0 r.s)=true:=by unfold eS;split<;>first|rfl|exact gF
 have r9:=zA (t0:=t0) (s:=r.s) OK;have yF:=uC.perm tp.symm;unfold qB bB at yF;simp only[dP,dZ]at yF;have Pf:=(((yF.front [_,_]).put (.var [eS pv t0 r.s,aaa r.s.cO,aaa r.s.fe,.ref r.p 5 0 r.R.length])).perm (tw.swap _ _ _)).put (.var [eS pv t0 r.s,aaa r.s.cO,aaa r.s.fe,.ref r.p 5 0 r.R.length]);have Fy:=Pf.at_ (r.p,.arr 5 (rowsOf cP r.R)) G9;have hfb:∀ b∈gU r.R,_:=λb hb=>Pf.at_ b (by simp[hb]);clear yF uC Pf GL Pe eB wX;generalize hP:eS pv t0 r.s=pa at *;have d6:=λx=>(show(o5.set 1 x)[6]?=some (.var [.lit (.bool r.s.whole)]) by rw[bM Kq];exact e6);have d1:=λx=>(show(o5.set 1 x)[1]?=some x from j3 e1);have d3:=λx=>(show(o5.set 1 x)[3]?=some (.var [.lit (.slice none 0 0),aaa 0,aaa 0,.lit (.slice none 0 0)]) by rw[bM Kq];exact e3);have d33:=λx y=>(show((o5.set 1 x).set 3 y)[3]?=some y from j3 (d3 x));have d36:=λx y=>(show((o5.set 1 x).set 3 y)[6]?=some (.var [.lit (.bool r.s.whole)]) by rw[bM Kq];exact d6 x);simp(disch:=omega)only[Ac,↓Pc,simprocAttr];refine hK _ ?_;clear hK K;repeat(refine Xu ?_)
 refine Vb (X5 @e8 @e1 @d1 @d6 (X4 @d3 @d33 @mu @gF)) ?_;refine jb [] (.take 0 (.both 1 (.take 2 (.take 3 .nil)) 2 (.take 1 (.take 3 .nil)))) rfl Kq (by decide +kernel) ?_;simp(disch:=omega)only[Ac,↓Pc,simprocAttr,Pw,d1,d6,d3,d33,d36,mu,gF];all_goals
  repeat(refine Xu ?_)
  refine Vb (X3 @d33 @mu @gF) ?_;simp(disch:=omega)only[Ac,↓Pc,simprocAttr,rowOf,d33]
 all_goals
  refine dr [] true Kq trivial Kq Kq (aI.mn (aI.agg _ _ rfl (eY.spec (R:=aI _ _ _ _) (cs:=[pa,aaa r.s.cO,aaa r.s.fe,.tree 5 (rowsOf az r.s.nodes)]) (ds:=[pa,aaa r.s.cO,aaa r.s.fe,.ref r.p 5 0 r.R.length]) ⟨.pure r9,.pure rfl,.pure rfl,.snap _ _ rfl ?_,trivial⟩).2) (.pure rfl));rw[lI];exact jf Fy hfb (λi h=>by obtain⟨j,hj,_⟩:=h;cases hj)
def yf(s:DS):AV:=.agg [eS (.lit (.slice none 0 0)) 1099511627776 s,aaa s.cO,aaa s.fe,.tree 5 (rowsOf az s.nodes)]
def wK:AV:=.agg [.lit (.slice none 0 0),aaa 0,aaa 0,.lit (.slice none 0 0)]
def Y7(m:ah)(hm:VM m)(hw:(dY m).whole=true):an Tryz.prog 51 [.agg (ao m)] [] (.bH [yf (dY m),aaa 0]) []:=by
 have h1:=ud m hm.mb;rw[iu.2 hm]at h1;have hg:=acK m hm 20000 Kq [] 1099511627776 (.lit (.slice none 0 0)) rfl rfl 0;rw[show zW m 20000 [] 1099511627776=dY m from rfl,hw]at hg;unfold yf;generalize dY m=s at *;have mu:cJ (eS (.lit (.slice none 0 0)) 1099511627776 s)=true:=by unfold eS;split<;>rfl
 have r9:=zA (pv:=.lit (.slice none 0 0)) (t0:=1099511627776) (s:=s) rfl;have km:∀ ρ,br ρ (eS (.lit (.slice none 0 0)) 1099511627776 s)=eS (.lit (.slice none 0 0)) 1099511627776 s:=λρ=>by unfold eS;split<;>rfl
 generalize eS (.lit (.slice none 0 0)) 1099511627776 s=pa at *;refine an.aC 23 0 [.cell 2 77,.tmp 3] Tryz.func51 ?_;((repeat'(first|refine Vd (X2 @mu @bne_self_eq_false.{0}) h1 ?_|(refine Xi ?_ ?_<;>try intro ht)|exact Xx|fail))<;>try with_reducible intro K hK)
 (refine Xn [] (hg) ?_;simp(disch:=omega)only[Ac,↓Pc,simprocAttr,km])
 ((try revert hK K);(repeat'(first|refine Vb (X3 @mu @km @Bool.not_true) ?_|(refine Xi ?_ ?_<;>try intro ht)|exact Xx|fail)))
 all_goals try(exfalso;simp_all;done)
 all_goals
  simp(disch:=omega)only[Ac,↓Pc,simprocAttr,rowOf];exact aE (by simp[gQ,jl,r9]) rfl
def Y8(m:ah)(hm:VM m)(hw:(dY m).whole=false):an Tryz.prog 51 [.agg (ao m)] [] (.bH [wK,aaa 61]) []:=by
 have h1:=ud m hm.mb;rw[iu.2 hm]at h1;have hg:=acK m hm 20000 Kq [] 1099511627776 (.lit (.slice none 0 0)) rfl rfl 0;rw[show zW m 20000 [] 1099511627776=dY m from rfl,hw]at hg;unfold wK;generalize dY m=s at *;have mu:cJ (eS (.lit (.slice none 0 0)) 1099511627776 s)=true:=by unfold eS;split<;>rfl
 have r9:=zA (pv:=.lit (.slice none 0 0)) (t0:=1099511627776) (s:=s) rfl;have km:∀ ρ,br ρ (eS (.lit (.slice none 0 0)) 1099511627776 s)=eS (.lit (.slice none 0 0)) 1099511627776 s:=λρ=>by unfold eS;split<;>rfl
 generalize eS (.lit (.slice none 0 0)) 1099511627776 s=pa at *;refine an.aC 23 0 [.cell 2 77,.tmp 3] Tryz.func51 ?_;((repeat'(first|refine Vd (X2 @mu @bne_self_eq_false.{0}) h1 ?_|(refine Xi ?_ ?_<;>try intro ht)|exact Xx|fail))<;>try with_reducible intro K hK)
 (refine Xn [] (hg) ?_;simp(disch:=omega)only[Ac,↓Pc,simprocAttr,km])
 ((try revert hK K);(repeat'(first|refine Vb (X3 @mu @km @Bool.not_false) ?_|(refine Xi ?_ ?_<;>try intro ht)|exact Xx|fail)))
 all_goals try(exfalso;simp_all;done)
 all_goals
  simp(disch:=omega)only[Ac,↓Pc,simprocAttr,rowOf];exact aE rfl rfl
end T

