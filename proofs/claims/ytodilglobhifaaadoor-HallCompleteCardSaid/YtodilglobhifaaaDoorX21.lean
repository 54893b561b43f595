import Derived.Test.YtodilglobhifaaaDoorX13
set_option linter.all false
set_option maxHeartbeats 0
set_option maxRecDepth 20000
open List renaming getElem?_eq_some_iff→aF,getElem?_set→bM,range→bj,range'→g8,range_eq_range'→pD,range'_succ→pE,range'_append→zZ,mem_of_getElem?→eh,getElem?_drop→iB,length_take→iC,getElem?_take_of_lt→wZ
open Option renaming some→cB
open Array renaming getD_eq_getD_getElem?→cT,length_toList→lE,getElem?_eq_some_iff→jJ
open Nat renaming zero_add→eX,one_mul→uv
namespace Go.Am
variable {P:Program} {N n0:Nat} {σ:St}
def aR.Rj(d id sz:Nat){rows:List (List AV)}(ho:σ.aa[id]?=some (.arr sz rows))(hd:σ.env d=.ref id sz 0 rows.length)(hw:∀ row∈rows,row.length=sz)(pQ:∀ row∈rows,∀ v∈row,(∃ x,v=.lit x)\/∃ s r,v=.tree s r):aR n0 σ ⟨fc σ.env d (.tree sz rows),σ.aa.set id .gone⟩:=by
 intro os γ0 γ _ hs hf;have re:id<σ.aa.length:=(aF.1 ho).1
 let ak:Cx:={ γ with Z:=λb=>γ.Z b\/∃ o cap,γ.blk id=some (b,o,cap) }
 let bH:=σ.aa.set id .gone
 have fb:∀ i,bH[i]?=if i=id then some .gone else σ.aa[i]?:=by
  intro i;show(σ.aa.set id _)[i]?=_;rw[bM];by_cases h1:i=id
  ·subst h1;simp[re]
  ·simp[Ne.symm h1,h1]
 have hR:∀ v cv,ah σ.aa γ.w γ.Z γ.blk v cv->ah bH ak.w ak.Z ak.blk v cv:=λv cv hv =>
  hv.mono (λb hb=>⟨.inl hb,rfl⟩) (λi o hi=>by
   rw[fb];by_cases h1:i=id
   ·left;rw[if_pos h1]
   ·rw[if_neg h1];by_cases hg:o=.gone
    ·subst hg;exact .inl hi
    ·exact .inr ⟨rfl,o,hi,Ob.fv hg⟩)
 have bc:∀ i,Live bH i->Live σ.aa i/\i≠id:=by
  rintro i⟨o,hi,hg⟩;rw[fb]at hi;split at hi
  ·simp at hi;exact absurd hi.symm hg
  ·rename_i h2;exact⟨⟨o,hi,hg⟩,h2⟩
 have jY:Live σ.aa id:=⟨_,ho,Eb⟩;have oS:=hs.ax d;rw[hd]at oS;have eH:ah bH ak.w ak.Z ak.blk (.tree sz rows) (γ.tmps.getD d Go.undef):=by
  have eu:cW σ (λx=>x≠id) (.tree sz rows) (.ref id sz 0 rows.length):=cW.flat ho hw rfl Eb pQ;exact .bp _ _ (eu.sX hs (γc:=ak) (λb hb=>.inl hb) rfl (λx b o cap bZ _ hb=>.inr ⟨o,cap,by rw[show id=x by simpa using(Decidable.not_not.1 bZ).symm];exact hb⟩) _ oS)
 refine⟨ak,rfl,rfl,⟨λk=>?_,?_,λi j b o c o' c' hi hj=>hs.inj i j b o c o' c' (bc i hi).1 (bc j hj).1,?_,?_,λg=>rf (hs.gl g) λb hb=>⟨.inl hb,rfl⟩⟩,?_⟩
 ·show ah bH ak.w ak.Z ak.blk (fc σ.env d (.tree sz rows) k) (γ.tmps.getD k Go.undef);simp only[fc];split
  ·rename_i e;subst e;exact eH
  ·exact hR _ _ (hs.ax k)
 ·intro i o hi;have hi':bH[i]?=some o:=hi;rw[fb]at hi';split at hi'
  ·simp only[cB.injEq]at hi';subst hi';trivial
  ·by_cases hg:o=.gone
   ·subst hg;trivial
   ·exact(hs.c9 i o hi').mono hR rfl (λ_ _ _ _=>rfl)
 ·rintro b ⟨i,o,c',hi,hb⟩ (hz|⟨o',cap,bq⟩)
  ·exact hs.nz b ⟨i,o,c',(bc i hi).1,hb⟩ hz
  ·exact(bc i hi).2 (hs.inj i id b o c' o' cap (bc i hi).1 jY hb bq)
 ·rintro b (hz|⟨o,cap,hb⟩)
  ·exact hs.eF b hz
  ·exact hs.blt jY hb
 ·refine⟨hf.ij,hf.tape,hf.output,hf.size,hf.cg,λb hb=>.inl (hf.z0 b hb),?_,?_,by show os.length<=bH.length;simp[bH];exact hf.len,?_⟩
  ·rintro b (hz|⟨o,cap,hb⟩)
   ·exact hf.z1 b hz
   ·exact .inr (hf.own b ⟨id,o,cap,jY,hb⟩)
  ·rintro b ⟨i,o,c',hi,hb⟩;exact hf.own b ⟨i,o,c',(bc i hi).1,hb⟩
  ·intro i hi hl;obtain⟨h1,x,x',hx,bF,hk⟩:=hf.gf i hi (bc i hl).1;have fY:Live bH i:=hl;obtain⟨o,cw,b9⟩:=fY;refine⟨h1,x,o,hx,cw,?_⟩;rw[fb]at cw;split at cw
   ·simp at cw;exact absurd cw.symm b9
   ·rw[bF]at cw;simp only[cB.injEq]at cw;subst cw;exact hk
def fX.mono{P:Program}{f:FuncId}{args:List AV}{aa:List Ob}{ej KZ:AV->List Ob->Prop}(h:fX P f args aa ej)(hp:∀ r os,ej r os->KZ r os):fX P f args aa KZ:=by
 refine⟨h.1,λγ pZ oI=>Calls.mono (h.2 γ pZ oI) ?_⟩;rintro e w'⟨res,aL,cv,ak,h0,h1⟩;exact⟨res,aL,cv,ak,hp _ _ h0,h1⟩
end Go.Am
namespace Go.Am
variable {P:Program} {N n0:Nat} {σ:St}
def aR.K3(d id:Nat){sz:Nat}{rows:List (List AV)}{v:AV}(ho:σ.aa[id]?=some (.arr sz rows))(eu:cW σ (λx=>x≠id) v (σ.env d)):aR n0 σ ⟨fc σ.env d v,σ.aa.set id .gone⟩:=by
 intro os γ0 γ _ hs hf;have re:id<σ.aa.length:=(aF.1 ho).1
 let ak:Cx:={ γ with Z:=λb=>γ.Z b\/∃ o cap,γ.blk id=some (b,o,cap) }
 let bH:=σ.aa.set id .gone
 have fb:∀ i,bH[i]?=if i=id then some .gone else σ.aa[i]?:=by
  intro i;show(σ.aa.set id _)[i]?=_;rw[bM];by_cases h1:i=id
  ·subst h1;simp[re]
  ·simp[Ne.symm h1,h1]
 have hR:∀ v cv,ah σ.aa γ.w γ.Z γ.blk v cv->ah bH ak.w ak.Z ak.blk v cv:=λv cv hv =>
  hv.mono (λb hb=>⟨.inl hb,rfl⟩) (λi o hi=>by
   rw[fb];by_cases h1:i=id
   ·left;rw[if_pos h1]
   ·rw[if_neg h1];by_cases hg:o=.gone
    ·subst hg;exact .inl hi
    ·exact .inr ⟨rfl,o,hi,Ob.fv hg⟩)
 have bc:∀ i,Live bH i->Live σ.aa i/\i≠id:=by
  rintro i⟨o,hi,hg⟩;rw[fb]at hi;split at hi
  ·simp at hi;exact absurd hi.symm hg
  ·rename_i h2;exact⟨⟨o,hi,hg⟩,h2⟩
 have jY:Live σ.aa id:=⟨_,ho,Eb⟩;have oS:=hs.ax d;have eH:ah bH ak.w ak.Z ak.blk v (γ.tmps.getD d Go.undef):=by
  exact .bp _ _ (eu.sX hs (γc:=ak) (λb hb=>.inl hb) rfl (λx b o cap bZ _ hb=>.inr ⟨o,cap,by rw[show id=x by simpa using(Decidable.not_not.1 bZ).symm];exact hb⟩) _ oS)
 refine⟨ak,rfl,rfl,⟨λk=>?_,?_,λi j b o c o' c' hi hj=>hs.inj i j b o c o' c' (bc i hi).1 (bc j hj).1,?_,?_,λg=>rf (hs.gl g) λb hb=>⟨.inl hb,rfl⟩⟩,?_⟩
 ·show ah bH ak.w ak.Z ak.blk (fc σ.env d v k) (γ.tmps.getD k Go.undef);simp only[fc];split
  ·rename_i e;subst e;exact eH
  ·exact hR _ _ (hs.ax k)
 ·intro i o hi;have hi':bH[i]?=some o:=hi;rw[fb]at hi';split at hi'
  ·simp only[cB.injEq]at hi';subst hi';trivial
  ·by_cases hg:o=.gone
   ·subst hg;trivial
   ·exact(hs.c9 i o hi').mono hR rfl (λ_ _ _ _=>rfl)
 ·rintro b ⟨i,o,c',hi,hb⟩ (hz|⟨o',cap,bq⟩)
  ·exact hs.nz b ⟨i,o,c',(bc i hi).1,hb⟩ hz
  ·exact(bc i hi).2 (hs.inj i id b o c' o' cap (bc i hi).1 jY hb bq)
 ·rintro b (hz|⟨o,cap,hb⟩)
  ·exact hs.eF b hz
  ·exact hs.blt jY hb
 ·refine⟨hf.ij,hf.tape,hf.output,hf.size,hf.cg,λb hb=>.inl (hf.z0 b hb),?_,?_,by show os.length<=bH.length;simp[bH];exact hf.len,?_⟩
  ·rintro b (hz|⟨o,cap,hb⟩)
   ·exact hf.z1 b hz
   ·exact .inr (hf.own b ⟨id,o,cap,jY,hb⟩)
  ·rintro b ⟨i,o,c',hi,hb⟩;exact hf.own b ⟨i,o,c',(bc i hi).1,hb⟩
  ·intro i hi hl;obtain⟨h1,x,x',hx,bF,hk⟩:=hf.gf i hi (bc i hl).1;have fY:Live bH i:=hl;obtain⟨o,cw,b9⟩:=fY;refine⟨h1,x,o,hx,cw,?_⟩;rw[fb]at cw;split at cw
   ·simp at cw;exact absurd cw.symm b9
   ·rw[bF]at cw;simp only[cB.injEq]at cw;subst cw;exact hk
end Go.Am
namespace Go.Am
variable {P:Program} {N n0:Nat} {σ:St} {Q:Exit->St->Prop}
def zf(P:Program)(o:Oper)(K:St->Prop)(σ:St):Prop :=
 match o.op with
 |.call { callee:=.value f,args,.. } =>
  match ev σ f with
  |.fn g bC=>my P g (args.toList.map (ev σ)++bC) o.dst K σ
  |_=>False
 |_=>False
def Rk{os:List Ob}{γ0:Cx}{o:Oper}{K:St->Prop}(h:zf P o K σ){a:Act}{w:World}(aT:dx N os γ0 σ a w)(hd:∀ d,o.dst=some d->d<N){Q:Exit->Act->World->Prop}{next:Act->World->Prop}(hn:∀ σ' a' w',K σ'->dx N os γ0 σ' a' w'->next a' w'):o.wp P a w next Q:=by
 obtain⟨dR,ay,γ,rfl,ha,hs,hf⟩:=aT;have kZ:∀ d,o.dst=some d->d<a.tmps.size:=λd h=>by rw[ay];exact hd d h
 unfold zf at h;split at h
 ·rename_i f args gM dI;split at h
  ·rename_i g bC he;have eu:=kv hs ha f;rw[he]at eu;obtain⟨aB,aD,iD,oC⟩:=eu.AF;have ig:∀ (j:Nat) d,(args.toList.map (ev σ)++bC)[j]?=some d->ah σ.aa γ.w γ.Z γ.blk d (((args.map a.eval)++aB).getD j Go.undef):=by
    intro j d hj;simp only[cT];rcases Nat.lt_or_ge j args.size with aZ|gN
    ·rw[List.getElem?_append_left (by simpa using aZ)]at hj;rw[Array.getElem?_append_left (by simpa using aZ)];simp only[List.getElem?_map,Array.getElem?_toList,Array.getElem?_map]at hj ⊢;cases hx:args[j]? with
     |none=>simp[hx]at hj
     |some y=>simp[hx]at hj ⊢;subst hj;exact kv hs ha y
    ·rw[List.getElem?_append_right (by simpa using gN)]at hj;rw[Array.getElem?_append_right (by simpa using gN)];simp only[List.length_map,lE,Array.size_map]at hj ⊢;have:=oC _ d hj;simpa [cT] using this
   unfold my at h;have dX:=AG hs (argv:=(args.map a.eval)++aB) (by simp[iD]) ig h;obtain⟨ab,snap,cE,aV,ej,⟨⟨fn,hfn,jW,mz⟩,_⟩,_⟩:=h;unfold Oper.wp;have hr:(execOp a.eval o).run P γ.w=.ok (.enter g ((args.map a.eval)++aB)) γ.w:=by
    have kx : ¬ fn.name = "runtime.NumGoroutine" := by simpa using jW
    have iU:¬ fn.body=none:=by intro e;rw[e]at mz;simp at mz
    simp[execOp,dI,resolve,aD,Deferred.ofValue,invoke,callFunc,hfn,kx,iU]
   rw[hr];show Calls P g _ _ _;refine dX.mono ?_;rintro e w'⟨cv,v,σ',ak,rfl,rfl,eL,fq,dq,hv,hK,oD⟩;refine hn _ _ _ hK ⟨by rw[put_defers];exact dR,by rw[k6];exact ay,{ ak with tmps:=(a.put o.dst cv).tmps },rfl,rfl,ky fq (by rw[eL,ha]) kZ hv,?_⟩;rw[kz];exact(hf.trans dq).put _
  ·exact h.elim
 ·exact h.elim
def C0(P:Program)(o:Oper)(d:Tmp)(want:Bool)(K:St->Prop)(σ:St):Prop :=
 ∃ b,σ.env d=.lit (.bool b)/\(b=want->zf P o K σ)/\(b≠want->K (σ.put o.dst (.lit (.tuple #[]))))
def Rl(n:Nat){id:Nat}{ops:Array Oper}(hd:dQ N ops=true)(o:Oper)(ho:ops[n]?=some o)(j:Nat)(want:Bool)(d:Tmp)(hg:o.guard=some (j,want))(dy:(ops[j]?).bind (·.dst)=some d)(h:∀ K:St->Prop,(∀ s,Q .normal s->K s)->opsL P ops (ops.toList.take n) (C0 P o d want (opsL P ops (ops.toList.drop (n+1)) K)) σ):W P N n0 (.region id ops false) Q σ:=by
 intro os γ0 a w hn aT;refine wp_region ?_;have fK:n<ops.size:=(jJ.1 ho).1;have e:bj ops.size=g8 0 (ops.toList.take n).length++(n::g8 (n+1) (ops.toList.drop (n+1)).length):=by
  rw[pD,<- pE];have:=zZ (s:=0) (m:=n) (n:=(ops.toList.drop (n+1)).length+1) (step:=1);simp only[eX,uv]at this;rw[show(ops.toList.take n).length=n by simp;omega,this];congr 1;simp;omega
 have cO:o∈ops.toList:=eh (by simpa using ho);rw[e];refine pK _ a w ?_;refine ku (jt hd) (K:=C0 P o d want (opsL P ops (ops.toList.drop (n+1)) (Q .normal))) (λσ' a' w' hk cK=>?_) (ops.toList.take n) 0 σ a w (λk hk=>?_) (h _ (λ_ h=>h)) aT
 ·show wpOps P ops _ _ a' w';rw[wpOps_cons];unfold wpOp;simp only[ho];have sh:∀ σ2 a2 w2,opsL P ops (ops.toList.drop (n+1)) (Q .normal) σ2->dx N os γ0 σ2 a2 w2->wpOps P ops (λe a w=>∃ σ,Q e σ/\dx N os γ0 σ a w) (g8 (n+1) (ops.toList.drop (n+1)).length) a2 w2:=λσ2 a2 w2 dH q6=>by
   refine ku (jt hd) (K:=Q .normal) (λoy a3 w3 fW oz=>⟨oy,fW,oz⟩) (ops.toList.drop (n+1)) (n+1) σ2 a2 w2 (λk hk=>?_) dH q6;rw[iB];simp
  obtain⟨b,he,h1,h2⟩:=hk;have Rm:=cK;obtain⟨dR,ay,γ,rfl,ha,hs,hf⟩:=cK;have eH:=hs.ax d;rw[he,ha]at eH;have hv:=eH.bw;have hy:yielded ops a'.tmps j=some b:=by
   unfold yielded;rw[dy];have:a'.tmps[d]?=some (.bool b):=by
    rw[cT]at hv;cases hx:a'.tmps[d]? with
    |none=>rw[hx]at hv;simp[Go.undef]at hv
    |some y=>rw[hx]at hv;simp at hv;rw[hv]
   simp[this]
  by_cases ew:b=want
  ·have hw:Region.wanted o (yielded ops a'.tmps)=true:=by simp[Region.wanted,hg,hy,ew]
   rw[if_pos hw];left;exact Rk (h1 ew) Rm (jt hd o cO) sh
  ·have hw:Region.wanted o (yielded ops a'.tmps)=false:=by simp[Region.wanted,hg,hy,ew]
   rw[if_neg (by rw[hw];simp)];refine sh _ _ _ (h2 ew) ⟨by rw[put_defers];exact dR,by rw[k6];exact ay,{ γ with tmps:=(a'.put o.dst Go.undef).tmps },rfl,rfl,ky hs ha (λd h=>by rw[ay];exact jt hd o cO d h) (.lit _),?_⟩;rw[kz];exact hf.put _
 ·simp only[iC,lE]at hk;rw[wZ z8];simp
end Go.Am
namespace Go.Am
variable {P:Program} {N n0:Nat} {σ:St} {Q:Exit->St->Prop}
def aR.Rn(d:Nat)(kp:Nat->Prop){v:AV}{bH:List Ob}(hl:bH.length=σ.aa.length)(hk:∀ i o,σ.aa[i]?=some o->(kp i/\bH[i]?=some o)\/(¬ kp i/\bH[i]?=some .gone))(eu:cW σ kp v (σ.env d)):aR n0 σ ⟨fc σ.env d v,bH⟩:=by
 intro os γ0 γ _ hs hf
 let ak:Cx:={ γ with Z:=λb=>γ.Z b\/∃ id o cap,Live σ.aa id/\¬ kp id/\γ.blk id=some (b,o,cap) }
 have wg:∀ i o,bH[i]?=some o->o≠.gone->kp i/\σ.aa[i]?=some o:=by
  intro i o hi hg;have aZ:i<σ.aa.length:=by rw[<- hl];exact(aF.1 hi).1
  obtain⟨x,hx⟩:∃x,σ.aa[i]?=some x:=⟨_,List.getElem?_eq_getElem aZ⟩;rcases hk i x hx with⟨h1,h2⟩|⟨_,h2⟩
  ·rw[hi]at h2;exact⟨h1,by rw[hx,h2]⟩
  ·rw[hi]at h2;simp at h2;exact absurd h2 hg
 have hR:∀ v cv,ah σ.aa γ.w γ.Z γ.blk v cv->ah bH ak.w ak.Z ak.blk v cv:=λv cv hv =>
  hv.mono (λb hb=>⟨.inl hb,rfl⟩) (λi o hi=>by
   rcases hk i o hi with⟨h1,h2⟩|⟨h1,h2⟩
   ·by_cases hg:o=.gone
    ·subst hg;exact .inl h2
    ·exact .inr ⟨rfl,o,h2,Ob.fv hg⟩
   ·exact .inl h2)
 have bc:∀ i,Live bH i->Live σ.aa i/\kp i:=by
  rintro i⟨o,hi,hg⟩;obtain⟨h1,h2⟩:=wg i o hi hg;exact⟨⟨o,h2,hg⟩,h1⟩
 have eH:ah bH ak.w ak.Z ak.blk v (γ.tmps.getD d Go.undef) :=
  .bp _ _ (eu.sX hs (γc:=ak) (λb hb=>.inl hb) rfl (λx b o cap bZ iv hb=>.inr ⟨x,o,cap,iv,bZ,hb⟩) _ (hs.ax d))
 refine⟨ak,rfl,rfl,⟨λk=>?_,?_,λi j b o c o' c' hi hj=>hs.inj i j b o c o' c' (bc i hi).1 (bc j hj).1,?_,?_,λg=>rf (hs.gl g) λb hb=>⟨.inl hb,rfl⟩⟩,?_⟩
 ·show ah bH ak.w ak.Z ak.blk (fc σ.env d v k) (γ.tmps.getD k Go.undef);simp only[fc];split
  ·rename_i e;subst e;exact eH
  ·exact hR _ _ (hs.ax k)
 ·intro i o hi;have hi':bH[i]?=some o:=hi;by_cases hg:o=.gone
  ·subst hg;trivial
  ·exact(hs.c9 i o (wg i o hi' hg).2).mono hR rfl (λ_ _ _ _=>rfl)
 ·rintro b ⟨i,o,c',hi,hb⟩ (hz|⟨j,o',cap,hj,sq,bq⟩)
  ·exact hs.nz b ⟨i,o,c',(bc i hi).1,hb⟩ hz
  ·have:=hs.inj i j b o c' o' cap (bc i hi).1 hj hb bq;subst this;exact sq (bc i hi).2
 ·rintro b (hz|⟨j,o',cap,hj,sq,hb⟩)
  ·exact hs.eF b hz
  ·exact hs.blt hj hb
 ·refine⟨hf.ij,hf.tape,hf.output,hf.size,hf.cg,λb hb=>.inl (hf.z0 b hb),?_,?_,by show os.length<=bH.length;rw[hl];exact hf.len,?_⟩
  ·rintro b (hz|⟨j,o',cap,hj,sq,hb⟩)
   ·exact hf.z1 b hz
   ·exact .inr (hf.own b ⟨j,o',cap,hj,hb⟩)
  ·rintro b ⟨i,o,c',hi,hb⟩;exact hf.own b ⟨i,o,c',(bc i hi).1,hb⟩
  ·intro i hi iv;obtain⟨h1,x,x',hx,bF,Cq⟩:=hf.gf i hi (bc i iv).1;obtain⟨o,cw,b9⟩:Live bH i:=iv;refine⟨h1,x,o,hx,cw,?_⟩;have h3:=(wg i o cw b9).2;rw[bF]at h3;simp only[cB.injEq]at h3;subst h3;exact Cq
def Ro{K0 K1:St->Prop}(n:Nat){ops:Array Oper}(hd:dQ N ops=true)(o:Oper)(ho:ops[n]?=some o){os:List Ob}{γ0:Cx}{a:Act}{w:World}{R:Exit->Act->World->Prop}(hlen:os.length=n0)(aT:dx N os γ0 σ a w)(zg:∀ σ' a' w',K0 σ'->dx N os γ0 σ' a' w'->R .normal a' w')(hK:∀ s,K1 s->∃ s1,aR n0 s s1/\opsL P ops (ops.toList.drop (n+1)) K0 s1)(h:opsL P ops (ops.toList.take n) (sV P o K1) σ):
  wpOps P ops R (bj ops.size) a w:=by
 have fK:n<ops.size:=(jJ.1 ho).1;have e:bj ops.size=g8 0 (ops.toList.take n).length++(n::g8 (n+1) (ops.toList.drop (n+1)).length):=by
  rw[pD,<- pE];have:=zZ (s:=0) (m:=n) (n:=(ops.toList.drop (n+1)).length+1) (step:=1);simp only[eX,uv]at this;rw[show(ops.toList.take n).length=n by simp;omega,this];congr 1;simp;omega
 rw[e];refine pK _ a w ?_;refine ku (jt hd) (K:=sV P o K1) (λσ' a' w' hk cK=>?_) (ops.toList.take n) 0 σ a w (λk hk=>?_) h aT
 ·show wpOps P ops _ _ a' w';rw[wpOps_cons];unfold wpOp;simp only[ho];have hw:Region.wanted o (yielded ops a'.tmps)=true:=by simp[Region.wanted,hk.1]
  rw[if_pos hw];left;refine E1 hk cK (jt hd o (eh (by simpa using ho))) (λσ2 a2 w2 dH q6=>?_);obtain⟨s1,ht,Rp⟩:=hK σ2 dH;obtain⟨h1,h2,γ,rfl,h3,h4,h5⟩:=q6;obtain⟨ak,e1,e2,e3,e4⟩:=ht os γ0 γ hlen h4 h5;refine ku (jt hd) (K:=K0) (λoy a3 w3 fW oz=>zg oy a3 w3 fW oz) (ops.toList.drop (n+1)) (n+1) s1 a2 γ.w (λk hk=>?_) Rp ⟨h1,h2,ak,e1,e2.trans h3,e3,e4⟩;rw[iB];simp
 ·simp only[iC,lE]at hk;rw[wZ z8];simp
def Rq(n:Nat){id:Nat}{ops:Array Oper}(hd:dQ N ops=true)(o:Oper)(ho:ops[n]?=some o)(h:∀ K K1:St->Prop,(∀ s,Q .normal s->K s)->(∀ s s1,aR n0 s s1->opsL P ops (ops.toList.drop (n+1)) K s1->K1 s)->opsL P ops (ops.toList.take n) (sV P o K1) σ):W P N n0 (.region id ops false) Q σ:=by
 intro os γ0 a w hn aT;refine wp_region ?_;exact Ro n hd o ho hn aT (K0:=Q .normal) (K1:=λs=>∃ s1,aR n0 s s1/\opsL P ops (ops.toList.drop (n+1)) (Q .normal) s1) (λoy a3 w3 fW oz=>⟨oy,fW,oz⟩) (λs h=>h) (h _ _ (λ_ h=>h) (λs s1 h1 h2=>⟨s1,h1,h2⟩))
end Go.Am
namespace Go.Am
variable {P:Program} {N n0:Nat} {σ:St} {Q:Exit->St->Prop}
def zh(P:Program)(o:Oper)(K:St->Prop)(σ:St):Prop :=
 o.guard=none /\
 match o.op with
 |.binOp .eql t x y _=>((ty P t).kind=1/\ev σ y=.lit (.slice none 0 0))/\∃ id sz off len bz rows,ev σ x=.ref id sz off len/\0<len/\σ.aa[id]?=some (.arr bz rows)/\K (σ.put o.dst (.lit (.bool false)))
 |_=>False
def Rr{os:List Ob}{γ0:Cx}{o:Oper}{K:St->Prop}(h:zh P o K σ){a:Act}{w:World}(aT:dx N os γ0 σ a w)(hd:∀ d,o.dst=some d->d<N){Q:Exit->Act->World->Prop}{next:Act->World->Prop}(hn:∀ σ' a' w',K σ'->dx N os γ0 σ' a' w'->next a' w'):o.wp P a w next Q:=by
 obtain⟨dR,ay,γ,rfl,ha,hs,hf⟩:=aT;have kZ:∀ d,o.dst=some d->d<a.tmps.size:=λd h=>by rw[ay];exact hd d h
 obtain⟨_,h⟩:=h;split at h
 ·rename_i t x y u dI;obtain⟨⟨ht,hy⟩,id,sz,off,len,bz,rows,hx,hlen,aS,hK⟩:=h;have h1:=kv hs ha x;have h2:=kv hs ha y;rw[hx]at h1;rw[hy]at h2;have yk:=h2.bw;obtain⟨ad,n,c,iK⟩:∃ad n c,a.eval x=.slice (some ad) n c:=by
   generalize a.eval x=cv at h1;cases h1 with
   |bp _ _ h=>cases h
   |ga _ _ _ _ _ h=>rw[aS]at h;cases h
   |ref=>exact⟨_,_,_,rfl⟩
   |gP=>omega
   |iq=>omega
  have hr:(execOp a.eval o).run P γ.w=.ok (.value (.bool false)) γ.w:=by
   have:=G4 γ.w t ad n c (lT ht);simp[execOp,dI,iK,yk,eqGuard,this]
  obtain⟨n,x,w',σ',ak,hr,fK,hK,fq,dq,oH,eL⟩:=bJ (o:=o) hs ha kZ (.lit (.bool false)) hK hr;unfold Oper.wp;rw[hr];have cK:dx N os γ0 σ' (a.put o.dst x) w':=⟨by rw[put_defers];exact dR,by rw[k6];exact ay,ak,oH,eL,fq,hf.trans dq⟩;rcases fK with rfl|⟨rfl,rfl⟩
  ·exact hn _ _ _ hK cK
  ·exact hn _ _ _ hK cK
 ·exact h.elim
def Rs(n:Nat){id:Nat}{ops:Array Oper}(hd:dQ N ops=true)(o:Oper)(ho:ops[n]?=some o)(h:∀ K:St->Prop,(∀ s,Q .normal s->K s)->opsL P ops (ops.toList.take n) (zh P o (opsL P ops (ops.toList.drop (n+1)) K)) σ):W P N n0 (.region id ops false) Q σ:=by
 intro os γ0 a w hn aT;refine wp_region ?_;have fK:n<ops.size:=(jJ.1 ho).1;have e:bj ops.size=g8 0 (ops.toList.take n).length++(n::g8 (n+1) (ops.toList.drop (n+1)).length):=by
  rw[pD,<- pE];have:=zZ (s:=0) (m:=n) (n:=(ops.toList.drop (n+1)).length+1) (step:=1);simp only[eX,uv]at this;rw[show(ops.toList.take n).length=n by simp;omega,this];congr 1;simp;omega
 rw[e];refine pK _ a w ?_;refine ku (jt hd) (K:=zh P o (opsL P ops (ops.toList.drop (n+1)) (Q .normal))) (λσ' a' w' hk cK=>?_) (ops.toList.take n) 0 σ a w (λk hk=>?_) (h _ (λ_ h=>h)) aT
 ·show wpOps P ops _ _ a' w';rw[wpOps_cons];unfold wpOp;simp only[ho];have hw:Region.wanted o (yielded ops a'.tmps)=true:=by simp[Region.wanted,hk.1]
  rw[if_pos hw];left;refine Rr hk cK (jt hd o (eh (by simpa using ho))) (λσ2 a2 w2 dH q6=>?_);refine ku (jt hd) (K:=Q .normal) (λoy a3 w3 fW oz=>⟨oy,fW,oz⟩) (ops.toList.drop (n+1)) (n+1) σ2 a2 w2 (λk hk=>?_) dH q6;rw[iB];simp
 ·simp only[iC,lE]at hk;rw[wZ z8];simp
end Go.Am

