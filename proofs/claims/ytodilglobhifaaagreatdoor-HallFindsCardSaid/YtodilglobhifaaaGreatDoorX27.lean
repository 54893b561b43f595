import Derived.Test.YtodilglobhifaaaGreatDoorX24
set_option linter.all false
set_option maxHeartbeats 0
set_option maxRecDepth 20000
open Go Go.Am
namespace T
def CT{f:Nat->Int}:∀ (n:Nat),(∀ i<n,0<=f i)->0<=cM f n/\∀ i<n,f i<=cM f n
 |0,_=>⟨Int.le_refl _,λi h=>Ay⟩
 |n+1,h=>by
  have h1:=CT n λi hi=>h i Ay;have h2:=h n Ay;rw[cM];refine⟨Ay,λi hi=>?_⟩;by_cases e:i=n
  ·subst e;omega
  ·have:=h1.2 i Ay;omega
def Yv{m:ah}{plan:List Int}(hm:VM m)(hp:FP m plan){i:Nat}(hi:i<m.cls.length):b9 (rV m plan i):=by
 have h:=tC hp hi;have hl:=aG (l:=m.cls) (i:=i) (d:=default) hi;exact O3 (hm.u6 _ hl _ (aG (l:=m.cls.getD i default) (i:=(plan.getD i 0).toNat) (d:=default) Ay))
def QW{m:ah}{plan:List Int}(hp:FP m plan){i:Nat}(hi:i<m.cls.length):kP plan (S0 m,T0 m) i=Fx (rV m plan i):=by
 have h:=tC hp hi;unfold kP S0;dsimp only;rw[vp _ _ _ hi];unfold vo Fq;rw[List.map_map,vp _ _ _ Ay];rfl
def QX{m:ah}{plan:List Int}(hm:VM m)(hp:FP m plan){p:Pr}(ny:gm m p=true):wW m plan p<p.bg.length:=by
 obtain⟨q1,q2,q3,q4,q5⟩:=u7 ny;have ha:=tC hp (j:=p.fst.toNat) Ay;have hb:=tC hp (j:=p.snd.toNat) Ay;have hl1:=hm.opt _ (aG (l:=m.cls) (i:=p.fst.toNat) (d:=default) Ay);have iK:=hm.opt _ (aG (l:=m.cls) (i:=p.snd.toNat) (d:=default) Ay);have tD:=u9 ha hb Ay Ay;unfold wW;omega
def QY{m:ah}{plan:List Int}(hm:VM m)(hp:FP m plan){i:Nat}(hi:i<m.ae.length):kQ m plan (S0 m,T0 m) i=Fx (pF m plan (m.ae.getD i default)):=by
 have ny:=nr hm.pr _ (aG (l:=m.ae) (i:=i) (d:=default) hi);have tD:=QX hm hp ny;unfold kQ T0;dsimp only;rw[vp _ _ _ hi];unfold vo;rw[vp _ _ _ tD];unfold pF nq wW;rfl
def Yw{m:ah}{plan:List Int}{c:Ct}(hc:fE m c=true):b9 (vq plan c):=EZ (qz (yW hc).2.2.1)
def Yx{m:ah}{plan:List Int}{p:Pr}(h:gm m p=true):b9 (pF m plan p):=BR h _ _
structure Yy(m:ah)(plan:List Int)(left:List (List Bool))(g:Lg):Prop where
 OC:rH (rI m plan) 0=min (cM (rV m plan) m.cls.length+cM (λi=>pF m plan (m.ae.getD i default)) m.ae.length+cM (λi=>vq plan (m.aL.getD i default)) m.aL.length) 1099511627776
 ps:vr m plan g=cM (rV m plan) m.cls.length+cM (λi=>pF m plan (m.ae.getD i default)) m.ae.length
 sf:∀ i,i<m.cls.length->(kP plan g i).2=decide (1099511627776<=rV m plan i)
 tf:∀ i,i<m.ae.length->(kQ m plan g i).2=decide (1099511627776<=pF m plan (m.ae.getD i default))
 sl:∀ i,i<m.cls.length->(plan.getD i 0).toNat<(g.1.getD i default).length
 tl:∀ i,i<m.ae.length->wW m plan (m.ae.getD i default)<(g.2.getD i default).length
 a:0<=cM (rV m plan) m.cls.length/\∀ i<m.cls.length,rV m plan i<=cM (rV m plan) m.cls.length
 b:0<=cM (λi=>pF m plan (m.ae.getD i default)) m.ae.length/\∀ i<m.ae.length,pF m plan (m.ae.getD i default)<=cM (λi=>pF m plan (m.ae.getD i default)) m.ae.length
 c:0<=cM (λi=>vq plan (m.aL.getD i default)) m.aL.length/\∀ i<m.aL.length,vq plan (m.aL.getD i default)<=cM (λi=>vq plan (m.aL.getD i default)) m.aL.length
def parts{m:ah}{plan:List Int}(hm:VM m)(hp:FP m plan)(left:List (List Bool))(l:List Mv)(hl:∀ x∈l,tA m x=true):Yy m plan left (tx m l (S0 m,T0 m)):=by
 have zP:=Pb hm hp l _ _ Ha (O2 hm) hl;have Cs:=Vy hm l hl;refine⟨Vz hm hp,?_,λi hi=>?_,λi hi=>?_,λi hi=>?_,λi hi=>?_,CT _ λi hi=>(Yv hm hp hi).1,CT _ λi hi=>(Yx (nr hm.pr _ (aG hi))).1,CT _ λi hi=>(Yw (hm.ct _ (aG hi))).1⟩
 ·rw[zP.1];unfold vr;rw[oL m.cls.length λi hi=>by rw[QW hp hi],oL m.ae.length λi hi=>by rw[QY hm hp hi]];rfl
 ·rw[zP.2.1,QW hp hi];rfl
 ·rw[zP.2.2,QY hm hp hi];rfl
 ·have:=tC hp hi;rw[Cs.sl i hi];omega
 ·rw[Cs.tl i hi];exact QX hm hp (nr hm.pr _ (aG hi))
def lC:List (Int×Bool)->Int->Option Int
 |[],n=>some n
 |p::r,n=>if p.2=false then none else lC r (n+p.1)
end T

