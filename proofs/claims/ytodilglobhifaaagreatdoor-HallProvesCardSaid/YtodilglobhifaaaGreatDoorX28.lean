import Derived.Test.YtodilglobhifaaaGreatDoorX25
set_option linter.all false
set_option maxHeartbeats 0
set_option maxRecDepth 20000
open List renaming getElem?_eq_some_iff→aN,range→bp,range'→jN
open Option renaming some→cL
namespace Go.Am
variable {P:Program} {N n0:Nat} {σ:St}
def di.mono{P:Program}{f:FuncId}{args:List AV}{aa:List Ob}{fA TM:AV->List Ob->Prop}(h:di P f args aa fA)(hp:∀ r os,fA r os->TM r os):di P f args aa TM:=by
 refine⟨h.1,λγ lB oy=>Calls.mono (h.2 γ lB oy) ?_⟩;rintro e w'⟨res,aZ,cv,ay,h0,h1⟩;exact⟨res,aZ,cv,ay,hp _ _ h0,h1⟩
end Go.Am
namespace Go.Am
variable {P:Program} {N n0:Nat} {σ:St}
def aC.ab'(d id:Nat){sz:Nat}{rows:List (List AV)}{v:AV}(ho:σ.aa[id]?=some (.arr sz rows))(dC:df σ (λx=>x≠id) v (σ.env d)):aC n0 σ ⟨iL σ.env d v,σ.aa.set id .gone⟩:=by
 intro os γ0 γ _ hs hf;have vG:id<σ.aa.length:=(aN.1 ho).1
 let ay:Cx:={ γ with Z:=λb=>γ.Z b\/∃ o cap,γ.blk id=some (b,o,cap) }
 let cj:=σ.aa.set id .gone
 have h9:∀ i,cj[i]?=if i=id then some .gone else σ.aa[i]?:=by
  intro i;show(σ.aa.set id _)[i]?=_;rw[List.getElem?_set];by_cases h1:i=id
  ·subst h1;simp[vG]
  ·simp[Ne.symm h1,h1]
 have hR:∀ v cv,au σ.aa γ.w γ.Z γ.blk v cv->au cj ay.w ay.Z ay.blk v cv:=λv cv hv =>
  hv.mono (λb hb=>⟨.inl hb,rfl⟩) (λi o hi=>by
   rw[h9];by_cases h1:i=id
   ·left;rw[if_pos h1]
   ·rw[if_neg h1];by_cases hg:o=.gone
    ·subst hg;exact .inl hi
    ·exact .inr ⟨rfl,o,hi,Ob.iC hg⟩)
 have bI:∀ i,Live cj i->Live σ.aa i/\i≠id:=by
  rintro i⟨o,hi,hg⟩;rw[h9]at hi;split at hi
  ·simp at hi;exact absurd hi.symm hg
  ·rename_i h2;exact⟨⟨o,hi,hg⟩,h2⟩
 have mX:Live σ.aa id:=⟨_,ho,Jy⟩;have rM:=hs.ao d;have ic:au cj ay.w ay.Z ay.blk v (γ.tmps.getD d Go.undef):=by
  exact .bV _ _ (dC.xr hs (γc:=ay) (λb hb=>.inl hb) rfl (λx b o cap cO _ hb=>.inr ⟨o,cap,by rw[show id=x by simpa using(Decidable.not_not.1 cO).symm];exact hb⟩) _ rM)
 refine⟨ay,rfl,rfl,⟨λk=>?_,?_,λi j b o c o' c' hi hj=>hs.inj i j b o c o' c' (bI i hi).1 (bI j hj).1,?_,?_,λg=>vH (hs.gl g) λb hb=>⟨.inl hb,rfl⟩⟩,?_⟩
 ·show au cj ay.w ay.Z ay.blk (iL σ.env d v k) (γ.tmps.getD k Go.undef);simp only[iL];split
  ·rename_i e;subst e;exact ic
  ·exact hR _ _ (hs.ao k)
 ·intro i o hi;have hi':cj[i]?=some o:=hi;rw[h9]at hi';split at hi'
  ·simp only[cL.injEq]at hi';subst hi';trivial
  ·by_cases hg:o=.gone
   ·subst hg;trivial
   ·exact(hs.dQ i o hi').mono hR rfl (λ_ _ _ _=>rfl)
 ·rintro b ⟨i,o,c',hi,hb⟩ (hz|⟨o',cap,bO⟩)
  ·exact hs.nz b ⟨i,o,c',(bI i hi).1,hb⟩ hz
  ·exact(bI i hi).2 (hs.inj i id b o c' o' cap (bI i hi).1 mX hb bO)
 ·rintro b (hz|⟨o,cap,hb⟩)
  ·exact hs.fY b hz
  ·exact hs.blt mX hb
 ·refine⟨hf.kl,hf.tape,hf.output,hf.size,hf.cW,λb hb=>.inl (hf.z0 b hb),?_,?_,by show os.length<=cj.length;simp[cj];exact hf.len,?_⟩
  ·rintro b (hz|⟨o,cap,hb⟩)
   ·exact hf.z1 b hz
   ·exact .inr (hf.own b ⟨id,o,cap,mX,hb⟩)
  ·rintro b ⟨i,o,c',hi,hb⟩;exact hf.own b ⟨i,o,c',(bI i hi).1,hb⟩
  ·intro i hi hl;obtain⟨h1,x,x',hx,bR,hk⟩:=hf.jn i hi (bI i hl).1;have iX:Live cj i:=hl;obtain⟨o,dw,dc⟩:=iX;refine⟨h1,x,o,hx,dw,?_⟩;rw[h9]at dw;split at dw
   ·simp at dw;exact absurd dw.symm dc
   ·rw[bR]at dw;simp only[cL.injEq]at dw;subst dw;exact hk
end Go.Am
namespace Go.Am
variable {P:Program} {N n0:Nat} {σ:St} {Q:Exit->St->Prop}
def aC.TN(d:Nat)(kp:Nat->Prop){v:AV}{cj:List Ob}(hl:cj.length=σ.aa.length)(hk:∀ i o,σ.aa[i]?=some o->(kp i/\cj[i]?=some o)\/(¬ kp i/\cj[i]?=some .gone))(dC:df σ kp v (σ.env d)):aC n0 σ ⟨iL σ.env d v,cj⟩:=by
 intro os γ0 γ _ hs hf
 let ay:Cx:={ γ with Z:=λb=>γ.Z b\/∃ id o cap,Live σ.aa id/\¬ kp id/\γ.blk id=some (b,o,cap) }
 have A2:∀ i o,cj[i]?=some o->o≠.gone->kp i/\σ.aa[i]?=some o:=by
  intro i o hi hg;have bq:i<σ.aa.length:=by rw[<- hl];exact(aN.1 hi).1
  obtain⟨x,hx⟩:∃x,σ.aa[i]?=some x:=⟨_,List.getElem?_eq_getElem bq⟩;rcases hk i x hx with⟨h1,h2⟩|⟨_,h2⟩
  ·rw[hi]at h2;exact⟨h1,by rw[hx,h2]⟩
  ·rw[hi]at h2;simp at h2;exact absurd h2 hg
 have hR:∀ v cv,au σ.aa γ.w γ.Z γ.blk v cv->au cj ay.w ay.Z ay.blk v cv:=λv cv hv =>
  hv.mono (λb hb=>⟨.inl hb,rfl⟩) (λi o hi=>by
   rcases hk i o hi with⟨h1,h2⟩|⟨h1,h2⟩
   ·by_cases hg:o=.gone
    ·subst hg;exact .inl h2
    ·exact .inr ⟨rfl,o,h2,Ob.iC hg⟩
   ·exact .inl h2)
 have bI:∀ i,Live cj i->Live σ.aa i/\kp i:=by
  rintro i⟨o,hi,hg⟩;obtain⟨h1,h2⟩:=A2 i o hi hg;exact⟨⟨o,h2,hg⟩,h1⟩
 have ic:au cj ay.w ay.Z ay.blk v (γ.tmps.getD d Go.undef) :=
  .bV _ _ (dC.xr hs (γc:=ay) (λb hb=>.inl hb) rfl (λx b o cap cO kq hb=>.inr ⟨x,o,cap,kq,cO,hb⟩) _ (hs.ao d))
 refine⟨ay,rfl,rfl,⟨λk=>?_,?_,λi j b o c o' c' hi hj=>hs.inj i j b o c o' c' (bI i hi).1 (bI j hj).1,?_,?_,λg=>vH (hs.gl g) λb hb=>⟨.inl hb,rfl⟩⟩,?_⟩
 ·show au cj ay.w ay.Z ay.blk (iL σ.env d v k) (γ.tmps.getD k Go.undef);simp only[iL];split
  ·rename_i e;subst e;exact ic
  ·exact hR _ _ (hs.ao k)
 ·intro i o hi;have hi':cj[i]?=some o:=hi;by_cases hg:o=.gone
  ·subst hg;trivial
  ·exact(hs.dQ i o (A2 i o hi' hg).2).mono hR rfl (λ_ _ _ _=>rfl)
 ·rintro b ⟨i,o,c',hi,hb⟩ (hz|⟨j,o',cap,hj,wJ,bO⟩)
  ·exact hs.nz b ⟨i,o,c',(bI i hi).1,hb⟩ hz
  ·have:=hs.inj i j b o c' o' cap (bI i hi).1 hj hb bO;subst this;exact wJ (bI i hi).2
 ·rintro b (hz|⟨j,o',cap,hj,wJ,hb⟩)
  ·exact hs.fY b hz
  ·exact hs.blt hj hb
 ·refine⟨hf.kl,hf.tape,hf.output,hf.size,hf.cW,λb hb=>.inl (hf.z0 b hb),?_,?_,by show os.length<=cj.length;rw[hl];exact hf.len,?_⟩
  ·rintro b (hz|⟨j,o',cap,hj,wJ,hb⟩)
   ·exact hf.z1 b hz
   ·exact .inr (hf.own b ⟨j,o',cap,hj,hb⟩)
  ·rintro b ⟨i,o,c',hi,hb⟩;exact hf.own b ⟨i,o,c',(bI i hi).1,hb⟩
  ·intro i hi kq;obtain⟨h1,x,x',hx,bR,ng⟩:=hf.jn i hi (bI i kq).1;obtain⟨o,dw,dc⟩:Live cj i:=kq;refine⟨h1,x,o,hx,dw,?_⟩;have h3:=(A2 i o dw dc).2;rw[bR]at h3;simp only[cL.injEq]at h3;subst h3;exact ng
def aca{K0 K1:St->Prop}(n:Nat){ops:Array Oper}(hd:dY N ops=true)(o:Oper)(ho:ops[n]?=some o){os:List Ob}{γ0:Cx}{a:Act}{w:World}{R:Exit->Act->World->Prop}(hlen:os.length=n0)(az:eH N os γ0 σ a w)(acb:∀ σ' a' w',K0 σ'->eH N os γ0 σ' a' w'->R .normal a' w')(hK:∀ s,K1 s->∃ s1,aC n0 s s1/\opsL P ops (ops.toList.drop (n+1)) K0 s1)(h:opsL P ops (ops.toList.take n) (xq P o K1) σ):
  wpOps P ops R (bp ops.size) a w:=by
 have fR:n<ops.size:=(Array.getElem?_eq_some_iff.1 ho).1;have e:bp ops.size=jN 0 (ops.toList.take n).length++(n::jN (n+1) (ops.toList.drop (n+1)).length):=by
  rw[List.range_eq_range',<- List.range'_succ];have:=List.range'_append (s:=0) (m:=n) (n:=(ops.toList.drop (n+1)).length+1) (step:=1);simp only[Nat.zero_add,Nat.one_mul]at this;rw[show(ops.toList.take n).length=n by simp;omega,this];congr 1;simp;omega
 rw[e];refine uu _ a w ?_;refine nC (kL hd) (K:=xq P o K1) (λσ' a' w' hk cr=>?_) (ops.toList.take n) 0 σ a w (λk hk=>?_) h az
 ·show wpOps P ops _ _ a' w';rw[wpOps_cons];unfold wpOp;simp only[ho];have hw:Region.wanted o (yielded ops a'.tmps)=true:=by simp[Region.wanted,hk.1]
  rw[if_pos hw];left;refine Nr hk cr (kL hd o (List.mem_of_getElem? (by simpa using ho))) (λσ2 a2 w2 bd vA=>?_);obtain⟨s1,ht,D5⟩:=hK σ2 bd;obtain⟨h1,h2,γ,rfl,h3,h4,h5⟩:=vA;obtain⟨ay,e1,e2,e3,e4⟩:=ht os γ0 γ hlen h4 h5;refine nC (kL hd) (K:=K0) (λsT a3 w3 iW sU=>acb sT a3 w3 iW sU) (ops.toList.drop (n+1)) (n+1) s1 a2 γ.w (λk hk=>?_) D5 ⟨h1,h2,ay,e1,e2.trans h3,e3,e4⟩;rw[List.getElem?_drop];simp
 ·simp only[List.length_take,Array.length_toList]at hk;rw[List.getElem?_take_of_lt Bv];simp
def acd(n:Nat){id:Nat}{ops:Array Oper}(hd:dY N ops=true)(o:Oper)(ho:ops[n]?=some o)(h:∀ K K1:St->Prop,(∀ s,Q .normal s->K s)->(∀ s s1,aC n0 s s1->opsL P ops (ops.toList.drop (n+1)) K s1->K1 s)->opsL P ops (ops.toList.take n) (xq P o K1) σ):W P N n0 (.region id ops false) Q σ:=by
 intro os γ0 a w hn az;refine wp_region ?_;exact aca n hd o ho hn az (K0:=Q .normal) (K1:=λs=>∃ s1,aC n0 s s1/\opsL P ops (ops.toList.drop (n+1)) (Q .normal) s1) (λsT a3 w3 iW sU=>⟨sT,iW,sU⟩) (λs h=>h) (h _ _ (λ_ h=>h) (λs s1 h1 h2=>⟨s1,h1,h2⟩))
end Go.Am

