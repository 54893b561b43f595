import Derived.Test.YtodilglobhifaaaGreatDoorX16
set_option linter.all false
set_option maxHeartbeats 0
set_option maxRecDepth 20000
open Array renaming getD_eq_getD_getElem?→dC,length_toList→nL,getElem?_eq_some_iff→kU
open List renaming range→bD,range'→jJ,range_eq_range'→sB,range'_succ→sC,range'_append→Di,mem_of_getElem?→fB,getElem?_drop→j8,length_take→j9,getElem?_take_of_lt→Ao,getElem?_eq_some_iff→ba,getElem?_set→cj
open Nat renaming zero_add→gM,one_mul→qU
open Option renaming some→dv
namespace Go.Am
variable {P:Program} {N n0:Nat} {σ:St} {Q:Exit->St->Prop}
def CS(P:Program)(o:Oper)(K:St->Prop)(σ:St):Prop :=
 match o.op with
 |.call { callee:=.value f,args,.. } =>
  match ev σ f with
  |.fn g bB=>lL P g (args.toList.map (ev σ)++bB) o.dst K σ
  |_=>False
 |_=>False
def YD{os:List Ob}{γ0:Cx}{o:Oper}{K:St->Prop}(h:CS P o K σ){a:Act}{w:World}(aV:dM N os γ0 σ a w)(hd:∀ d,o.dst=some d->d<N){Q:Exit->Act->World->Prop}{next:Act->World->Prop}(hn:∀ σ' a' w',K σ'->dM N os γ0 σ' a' w'->next a' w'):o.wp P a w next Q:=by
 obtain⟨e8,aE,γ,rfl,ha,hs,hf⟩:=aV;have lG:∀ d,o.dst=some d->d<a.tmps.size:=λd h=>by rw[aE];exact hd d h
 unfold CS at h;split at h
 ·rename_i f args dV cG;split at h
  ·rename_i g bB he;have fI:=mz hs ha f;rw[he]at fI;obtain⟨aI,aW,kg,iU⟩:=fI.DT;have jS:∀ (j:Nat) d,(args.toList.map (ev σ)++bB)[j]?=some d->aq σ.aa γ.w γ.Z γ.blk d (((args.map a.eval)++aI).getD j Go.undef):=by
    intro j d hj;simp only[dC];rcases Nat.lt_or_ge j args.size with bw|gU
    ·rw[List.getElem?_append_left (by simpa using bw)]at hj;rw[Array.getElem?_append_left (by simpa using bw)];simp only[List.getElem?_map,Array.getElem?_toList,Array.getElem?_map]at hj ⊢;cases hx:args[j]? with
     |none=>simp[hx]at hj
     |some y=>simp[hx]at hj ⊢;subst hj;exact mz hs ha y
    ·rw[List.getElem?_append_right (by simpa using gU)]at hj;rw[Array.getElem?_append_right (by simpa using gU)];simp only[List.length_map,nL,Array.size_map]at hj ⊢;have:=iU _ d hj;simpa [dC] using this
   unfold lL at h;have dX:=DU hs (argv:=(args.map a.eval)++aI) (by simp[kg]) jS h;obtain⟨ab,snap,cu,bn,eZ,⟨⟨fn,hfn,lJ,oX⟩,_⟩,_⟩:=h;unfold Oper.wp;have hr:(execOp a.eval o).run P γ.w=.ok (.enter g ((args.map a.eval)++aI)) γ.w:=by
    have lM : ¬ fn.name = "runtime.NumGoroutine" := by simpa using lJ
    have iV:¬ fn.body=none:=by intro e;rw[e]at oX;simp at oX
    simp[execOp,cG,resolve,aW,Deferred.ofValue,invoke,callFunc,hfn,lM,iV]
   rw[hr];show Calls P g _ _ _;refine dX.mono ?_;rintro e w'⟨cv,v,σ',av,rfl,rfl,fv,fS,eB,hv,hK,rh⟩;refine hn _ _ _ hK ⟨by rw[put_defers];exact e8,by rw[nf];exact aE,{ av with tmps:=(a.put o.dst cv).tmps },rfl,rfl,mA fS (by rw[fv,ha]) lG hv,?_⟩;rw[mB];exact(hf.trans eB).put _
  ·exact h.elim
 ·exact h.elim
def GB(P:Program)(o:Oper)(d:Tmp)(want:Bool)(K:St->Prop)(σ:St):Prop :=
 ∃ b,σ.env d=.lit (.bool b)/\(b=want->CS P o K σ)/\(b≠want->K (σ.put o.dst (.lit (.tuple #[]))))
def Yt(n:Nat){id:Nat}{ops:Array Oper}(hd:eJ N ops=true)(o:Oper)(ho:ops[n]?=some o)(j:Nat)(want:Bool)(d:Tmp)(hg:o.guard=some (j,want))(cV:(ops[j]?).bind (·.dst)=some d)(h:∀ K:St->Prop,(∀ s,Q .normal s->K s)->opsL P ops (ops.toList.take n) (GB P o d want (opsL P ops (ops.toList.drop (n+1)) K)) σ):W P N n0 (.region id ops false) Q σ:=by
 intro os γ0 a w hn aV;refine wp_region ?_;have fC:n<ops.size:=(kU.1 ho).1;have e:bD ops.size=jJ 0 (ops.toList.take n).length++(n::jJ (n+1) (ops.toList.drop (n+1)).length):=by
  rw[sB,<- sC];have:=Di (s:=0) (m:=n) (n:=(ops.toList.drop (n+1)).length+1) (step:=1);simp only[gM,qU]at this;rw[show(ops.toList.take n).length=n by simp;omega,this];congr 1;simp;omega
 have eh:o∈ops.toList:=fB (by simpa using ho);rw[e];refine sR _ a w ?_;refine mu (kE hd) (K:=GB P o d want (opsL P ops (ops.toList.drop (n+1)) (Q .normal))) (λσ' a' w' hk cW=>?_) (ops.toList.take n) 0 σ a w (λk hk=>?_) (h _ (λ_ h=>h)) aV
 ·show wpOps P ops _ _ a' w';rw[wpOps_cons];unfold wpOp;simp only[ho];have vv:∀ σ2 a2 w2,opsL P ops (ops.toList.drop (n+1)) (Q .normal) σ2->dM N os γ0 σ2 a2 w2->wpOps P ops (λe a w=>∃ σ,Q e σ/\dM N os γ0 σ a w) (jJ (n+1) (ops.toList.drop (n+1)).length) a2 w2:=λσ2 a2 w2 aK uB=>by
   refine mu (kE hd) (K:=Q .normal) (λq9 a3 w3 eL q'=>⟨q9,eL,q'⟩) (ops.toList.drop (n+1)) (n+1) σ2 a2 w2 (λk hk=>?_) aK uB;rw[j8];simp
  obtain⟨b,he,h1,h2⟩:=hk;have YE:=cW;obtain⟨e8,aE,γ,rfl,ha,hs,hf⟩:=cW;have fU:=hs.au d;rw[he,ha]at fU;have hv:=fU.bQ;have hy:yielded ops a'.tmps j=some b:=by
   unfold yielded;rw[cV];have:a'.tmps[d]?=some (.bool b):=by
    rw[dC]at hv;cases hx:a'.tmps[d]? with
    |none=>rw[hx]at hv;simp[Go.undef]at hv
    |some y=>rw[hx]at hv;simp at hv;rw[hv]
   simp[this]
  by_cases eK:b=want
  ·have hw:Region.wanted o (yielded ops a'.tmps)=true:=by simp[Region.wanted,hg,hy,eK]
   rw[if_pos hw];left;exact YD (h1 eK) YE (kE hd o eh) vv
  ·have hw:Region.wanted o (yielded ops a'.tmps)=false:=by simp[Region.wanted,hg,hy,eK]
   rw[if_neg (by rw[hw];simp)];refine vv _ _ _ (h2 eK) ⟨by rw[put_defers];exact e8,by rw[nf];exact aE,{ γ with tmps:=(a'.put o.dst Go.undef).tmps },rfl,rfl,mA hs ha (λd h=>by rw[aE];exact kE hd o eh d h) (.lit _),?_⟩;rw[mB];exact hf.put _
 ·simp only[j9,nL]at hk;rw[Ao Ay];simp
end Go.Am
namespace Go.Am
variable {P:Program} {N n0:Nat} {σ:St}
def aC.zR(d id sz:Nat){rows:List (List AV)}(ho:σ.aa[id]?=some (.arr sz rows))(hd:σ.env d=.ref id sz 0 rows.length)(hw:∀ row∈rows,row.length=sz)(sU:∀ row∈rows,∀ v∈row,(∃ x,v=.lit x)\/∃ s r,v=.tree s r):aC n0 σ ⟨eY σ.env d (.tree sz rows),σ.aa.set id .gone⟩:=by
 intro os γ0 γ _ hs hf;have uF:id<σ.aa.length:=(ba.1 ho).1
 let av:Cx:={ γ with Z:=λb=>γ.Z b\/∃ o cap,γ.blk id=some (b,o,cap) }
 let bR:=σ.aa.set id .gone
 have gD:∀ i,bR[i]?=if i=id then some .gone else σ.aa[i]?:=by
  intro i;show(σ.aa.set id _)[i]?=_;rw[cj];by_cases h1:i=id
  ·subst h1;simp[uF]
  ·simp[Ne.symm h1,h1]
 have hR:∀ v cv,aq σ.aa γ.w γ.Z γ.blk v cv->aq bR av.w av.Z av.blk v cv:=λv cv hv =>
  hv.mono (λb hb=>⟨.inl hb,rfl⟩) (λi o hi=>by
   rw[gD];by_cases h1:i=id
   ·left;rw[if_pos h1]
   ·rw[if_neg h1];by_cases hg:o=.gone
    ·subst hg;exact .inl hi
    ·exact .inr ⟨rfl,o,hi,Ob.gV hg⟩)
 have bx:∀ i,Live bR i->Live σ.aa i/\i≠id:=by
  rintro i⟨o,hi,hg⟩;rw[gD]at hi;split at hi
  ·simp at hi;exact absurd hi.symm hg
  ·rename_i h2;exact⟨⟨o,hi,hg⟩,h2⟩
 have lO:Live σ.aa id:=⟨_,ho,Dg⟩;have kL:=hs.au d;rw[hd]at kL;have fU:aq bR av.w av.Z av.blk (.tree sz rows) (γ.tmps.getD d Go.undef):=by
  have fI:cA σ (λx=>x≠id) (.tree sz rows) (.ref id sz 0 rows.length):=cA.flat ho hw rfl Dg sU;exact .bO _ _ (fI.wg hs (γc:=av) (λb hb=>.inl hb) rfl (λx b o cap cp _ hb=>.inr ⟨o,cap,by rw[show id=x by simpa using(Decidable.not_not.1 cp).symm];exact hb⟩) _ kL)
 refine⟨av,rfl,rfl,⟨λk=>?_,?_,λi j b o c o' c' hi hj=>hs.inj i j b o c o' c' (bx i hi).1 (bx j hj).1,?_,?_,λg=>uG (hs.gl g) λb hb=>⟨.inl hb,rfl⟩⟩,?_⟩
 ·show aq bR av.w av.Z av.blk (eY σ.env d (.tree sz rows) k) (γ.tmps.getD k Go.undef);simp only[eY];split
  ·rename_i e;subst e;exact fU
  ·exact hR _ _ (hs.au k)
 ·intro i o hi;have hi':bR[i]?=some o:=hi;rw[gD]at hi';split at hi'
  ·simp only[dv.injEq]at hi';subst hi';trivial
  ·by_cases hg:o=.gone
   ·subst hg;trivial
   ·exact(hs.dL i o hi').mono hR rfl (λ_ _ _ _=>rfl)
 ·rintro b ⟨i,o,c',hi,hb⟩ (hz|⟨o',cap,bS⟩)
  ·exact hs.nz b ⟨i,o,c',(bx i hi).1,hb⟩ hz
  ·exact(bx i hi).2 (hs.inj i id b o c' o' cap (bx i hi).1 lO hb bS)
 ·rintro b (hz|⟨o,cap,hb⟩)
  ·exact hs.fG b hz
  ·exact hs.blt lO hb
 ·refine⟨hf.jT,hf.tape,hf.output,hf.size,hf.cO,λb hb=>.inl (hf.z0 b hb),?_,?_,by show os.length<=bR.length;simp[bR];exact hf.len,?_⟩
  ·rintro b (hz|⟨o,cap,hb⟩)
   ·exact hf.z1 b hz
   ·exact .inr (hf.own b ⟨id,o,cap,lO,hb⟩)
  ·rintro b ⟨i,o,c',hi,hb⟩;exact hf.own b ⟨i,o,c',(bx i hi).1,hb⟩
  ·intro i hi hl;obtain⟨h1,x,x',hx,cd,hk⟩:=hf.iH i hi (bx i hl).1;have iw:Live bR i:=hl;obtain⟨o,cY,cI⟩:=iw;refine⟨h1,x,o,hx,cY,?_⟩;rw[gD]at cY;split at cY
   ·simp at cY;exact absurd cY.symm cI
   ·rw[cd]at cY;simp only[dv.injEq]at cY;subst cY;exact hk
def eM.mono{P:Program}{f:FuncId}{args:List AV}{aa:List Ob}{eZ Q5:AV->List Ob->Prop}(h:eM P f args aa eZ)(hp:∀ r os,eZ r os->Q5 r os):eM P f args aa Q5:=by
 refine⟨h.1,λγ mH mE=>Calls.mono (h.2 γ mH mE) ?_⟩;rintro e w'⟨res,aY,cv,av,h0,h1⟩;exact⟨res,aY,cv,av,hp _ _ h0,h1⟩
end Go.Am
namespace Go.Am
variable {P:Program} {N n0:Nat} {σ:St}
def aC.W5(d id:Nat){sz:Nat}{rows:List (List AV)}{v:AV}(ho:σ.aa[id]?=some (.arr sz rows))(fI:cA σ (λx=>x≠id) v (σ.env d)):aC n0 σ ⟨eY σ.env d v,σ.aa.set id .gone⟩:=by
 intro os γ0 γ _ hs hf;have uF:id<σ.aa.length:=(ba.1 ho).1
 let av:Cx:={ γ with Z:=λb=>γ.Z b\/∃ o cap,γ.blk id=some (b,o,cap) }
 let bR:=σ.aa.set id .gone
 have gD:∀ i,bR[i]?=if i=id then some .gone else σ.aa[i]?:=by
  intro i;show(σ.aa.set id _)[i]?=_;rw[cj];by_cases h1:i=id
  ·subst h1;simp[uF]
  ·simp[Ne.symm h1,h1]
 have hR:∀ v cv,aq σ.aa γ.w γ.Z γ.blk v cv->aq bR av.w av.Z av.blk v cv:=λv cv hv =>
  hv.mono (λb hb=>⟨.inl hb,rfl⟩) (λi o hi=>by
   rw[gD];by_cases h1:i=id
   ·left;rw[if_pos h1]
   ·rw[if_neg h1];by_cases hg:o=.gone
    ·subst hg;exact .inl hi
    ·exact .inr ⟨rfl,o,hi,Ob.gV hg⟩)
 have bx:∀ i,Live bR i->Live σ.aa i/\i≠id:=by
  rintro i⟨o,hi,hg⟩;rw[gD]at hi;split at hi
  ·simp at hi;exact absurd hi.symm hg
  ·rename_i h2;exact⟨⟨o,hi,hg⟩,h2⟩
 have lO:Live σ.aa id:=⟨_,ho,Dg⟩;have kL:=hs.au d;have fU:aq bR av.w av.Z av.blk v (γ.tmps.getD d Go.undef):=by
  exact .bO _ _ (fI.wg hs (γc:=av) (λb hb=>.inl hb) rfl (λx b o cap cp _ hb=>.inr ⟨o,cap,by rw[show id=x by simpa using(Decidable.not_not.1 cp).symm];exact hb⟩) _ kL)
 refine⟨av,rfl,rfl,⟨λk=>?_,?_,λi j b o c o' c' hi hj=>hs.inj i j b o c o' c' (bx i hi).1 (bx j hj).1,?_,?_,λg=>uG (hs.gl g) λb hb=>⟨.inl hb,rfl⟩⟩,?_⟩
 ·show aq bR av.w av.Z av.blk (eY σ.env d v k) (γ.tmps.getD k Go.undef);simp only[eY];split
  ·rename_i e;subst e;exact fU
  ·exact hR _ _ (hs.au k)
 ·intro i o hi;have hi':bR[i]?=some o:=hi;rw[gD]at hi';split at hi'
  ·simp only[dv.injEq]at hi';subst hi';trivial
  ·by_cases hg:o=.gone
   ·subst hg;trivial
   ·exact(hs.dL i o hi').mono hR rfl (λ_ _ _ _=>rfl)
 ·rintro b ⟨i,o,c',hi,hb⟩ (hz|⟨o',cap,bS⟩)
  ·exact hs.nz b ⟨i,o,c',(bx i hi).1,hb⟩ hz
  ·exact(bx i hi).2 (hs.inj i id b o c' o' cap (bx i hi).1 lO hb bS)
 ·rintro b (hz|⟨o,cap,hb⟩)
  ·exact hs.fG b hz
  ·exact hs.blt lO hb
 ·refine⟨hf.jT,hf.tape,hf.output,hf.size,hf.cO,λb hb=>.inl (hf.z0 b hb),?_,?_,by show os.length<=bR.length;simp[bR];exact hf.len,?_⟩
  ·rintro b (hz|⟨o,cap,hb⟩)
   ·exact hf.z1 b hz
   ·exact .inr (hf.own b ⟨id,o,cap,lO,hb⟩)
  ·rintro b ⟨i,o,c',hi,hb⟩;exact hf.own b ⟨i,o,c',(bx i hi).1,hb⟩
  ·intro i hi hl;obtain⟨h1,x,x',hx,cd,hk⟩:=hf.iH i hi (bx i hl).1;have iw:Live bR i:=hl;obtain⟨o,cY,cI⟩:=iw;refine⟨h1,x,o,hx,cY,?_⟩;rw[gD]at cY;split at cY
   ·simp at cY;exact absurd cY.symm cI
   ·rw[cd]at cY;simp only[dv.injEq]at cY;subst cY;exact hk
end Go.Am
namespace Go.Am
variable {P:Program} {N n0:Nat} {σ:St} {Q:Exit->St->Prop}
def aC.Q6(d:Nat)(kp:Nat->Prop){v:AV}{bR:List Ob}(hl:bR.length=σ.aa.length)(hk:∀ i o,σ.aa[i]?=some o->(kp i/\bR[i]?=some o)\/(¬ kp i/\bR[i]?=some .gone))(fI:cA σ kp v (σ.env d)):aC n0 σ ⟨eY σ.env d v,bR⟩:=by
 intro os γ0 γ _ hs hf
 let av:Cx:={ γ with Z:=λb=>γ.Z b\/∃ id o cap,Live σ.aa id/\¬ kp id/\γ.blk id=some (b,o,cap) }
 have zX:∀ i o,bR[i]?=some o->o≠.gone->kp i/\σ.aa[i]?=some o:=by
  intro i o hi hg;have bw:i<σ.aa.length:=by rw[<- hl];exact(ba.1 hi).1
  obtain⟨x,hx⟩:∃x,σ.aa[i]?=some x:=⟨_,List.getElem?_eq_getElem bw⟩;rcases hk i x hx with⟨h1,h2⟩|⟨_,h2⟩
  ·rw[hi]at h2;exact⟨h1,by rw[hx,h2]⟩
  ·rw[hi]at h2;simp at h2;exact absurd h2 hg
 have hR:∀ v cv,aq σ.aa γ.w γ.Z γ.blk v cv->aq bR av.w av.Z av.blk v cv:=λv cv hv =>
  hv.mono (λb hb=>⟨.inl hb,rfl⟩) (λi o hi=>by
   rcases hk i o hi with⟨h1,h2⟩|⟨h1,h2⟩
   ·by_cases hg:o=.gone
    ·subst hg;exact .inl h2
    ·exact .inr ⟨rfl,o,h2,Ob.gV hg⟩
   ·exact .inl h2)
 have bx:∀ i,Live bR i->Live σ.aa i/\kp i:=by
  rintro i⟨o,hi,hg⟩;obtain⟨h1,h2⟩:=zX i o hi hg;exact⟨⟨o,h2,hg⟩,h1⟩
 have fU:aq bR av.w av.Z av.blk v (γ.tmps.getD d Go.undef) :=
  .bO _ _ (fI.wg hs (γc:=av) (λb hb=>.inl hb) rfl (λx b o cap cp jY hb=>.inr ⟨x,o,cap,jY,cp,hb⟩) _ (hs.au d))
 refine⟨av,rfl,rfl,⟨λk=>?_,?_,λi j b o c o' c' hi hj=>hs.inj i j b o c o' c' (bx i hi).1 (bx j hj).1,?_,?_,λg=>uG (hs.gl g) λb hb=>⟨.inl hb,rfl⟩⟩,?_⟩
 ·show aq bR av.w av.Z av.blk (eY σ.env d v k) (γ.tmps.getD k Go.undef);simp only[eY];split
  ·rename_i e;subst e;exact fU
  ·exact hR _ _ (hs.au k)
 ·intro i o hi;have hi':bR[i]?=some o:=hi;by_cases hg:o=.gone
  ·subst hg;trivial
  ·exact(hs.dL i o (zX i o hi' hg).2).mono hR rfl (λ_ _ _ _=>rfl)
 ·rintro b ⟨i,o,c',hi,hb⟩ (hz|⟨j,o',cap,hj,vF,bS⟩)
  ·exact hs.nz b ⟨i,o,c',(bx i hi).1,hb⟩ hz
  ·have:=hs.inj i j b o c' o' cap (bx i hi).1 hj hb bS;subst this;exact vF (bx i hi).2
 ·rintro b (hz|⟨j,o',cap,hj,vF,hb⟩)
  ·exact hs.fG b hz
  ·exact hs.blt hj hb
 ·refine⟨hf.jT,hf.tape,hf.output,hf.size,hf.cO,λb hb=>.inl (hf.z0 b hb),?_,?_,by show os.length<=bR.length;rw[hl];exact hf.len,?_⟩
  ·rintro b (hz|⟨j,o',cap,hj,vF,hb⟩)
   ·exact hf.z1 b hz
   ·exact .inr (hf.own b ⟨j,o',cap,hj,hb⟩)
  ·rintro b ⟨i,o,c',hi,hb⟩;exact hf.own b ⟨i,o,c',(bx i hi).1,hb⟩
  ·intro i hi jY;obtain⟨h1,x,x',hx,cd,Fk⟩:=hf.iH i hi (bx i jY).1;obtain⟨o,cY,cI⟩:Live bR i:=jY;refine⟨h1,x,o,hx,cY,?_⟩;have h3:=(zX i o cY cI).2;rw[cd]at h3;simp only[dv.injEq]at h3;subst h3;exact Fk
def YF{K0 K1:St->Prop}(n:Nat){ops:Array Oper}(hd:eJ N ops=true)(o:Oper)(ho:ops[n]?=some o){os:List Ob}{γ0:Cx}{a:Act}{w:World}{R:Exit->Act->World->Prop}(hlen:os.length=n0)(aV:dM N os γ0 σ a w)(YG:∀ σ' a' w',K0 σ'->dM N os γ0 σ' a' w'->R .normal a' w')(hK:∀ s,K1 s->∃ s1,aC n0 s s1/\opsL P ops (ops.toList.drop (n+1)) K0 s1)(h:opsL P ops (ops.toList.take n) (wc P o K1) σ):
  wpOps P ops R (bD ops.size) a w:=by
 have fC:n<ops.size:=(kU.1 ho).1;have e:bD ops.size=jJ 0 (ops.toList.take n).length++(n::jJ (n+1) (ops.toList.drop (n+1)).length):=by
  rw[sB,<- sC];have:=Di (s:=0) (m:=n) (n:=(ops.toList.drop (n+1)).length+1) (step:=1);simp only[gM,qU]at this;rw[show(ops.toList.take n).length=n by simp;omega,this];congr 1;simp;omega
 rw[e];refine sR _ a w ?_;refine mu (kE hd) (K:=wc P o K1) (λσ' a' w' hk cW=>?_) (ops.toList.take n) 0 σ a w (λk hk=>?_) h aV
 ·show wpOps P ops _ _ a' w';rw[wpOps_cons];unfold wpOp;simp only[ho];have hw:Region.wanted o (yielded ops a'.tmps)=true:=by simp[Region.wanted,hk.1]
  rw[if_pos hw];left;refine Je hk cW (kE hd o (fB (by simpa using ho))) (λσ2 a2 w2 aK uB=>?_);obtain⟨s1,ht,CV⟩:=hK σ2 aK;obtain⟨h1,h2,γ,rfl,h3,h4,h5⟩:=uB;obtain⟨av,e1,e2,e3,e4⟩:=ht os γ0 γ hlen h4 h5;refine mu (kE hd) (K:=K0) (λq9 a3 w3 eL q'=>YG q9 a3 w3 eL q') (ops.toList.drop (n+1)) (n+1) s1 a2 γ.w (λk hk=>?_) CV ⟨h1,h2,av,e1,e2.trans h3,e3,e4⟩;rw[j8];simp
 ·simp only[j9,nL]at hk;rw[Ao Ay];simp
def W3(n:Nat){id:Nat}{ops:Array Oper}(hd:eJ N ops=true)(o:Oper)(ho:ops[n]?=some o)(h:∀ K K1:St->Prop,(∀ s,Q .normal s->K s)->(∀ s s1,aC n0 s s1->opsL P ops (ops.toList.drop (n+1)) K s1->K1 s)->opsL P ops (ops.toList.take n) (wc P o K1) σ):W P N n0 (.region id ops false) Q σ:=by
 intro os γ0 a w hn aV;refine wp_region ?_;exact YF n hd o ho hn aV (K0:=Q .normal) (K1:=λs=>∃ s1,aC n0 s s1/\opsL P ops (ops.toList.drop (n+1)) (Q .normal) s1) (λq9 a3 w3 eL q'=>⟨q9,eL,q'⟩) (λs h=>h) (h _ _ (λ_ h=>h) (λs s1 h1 h2=>⟨s1,h1,h2⟩))
end Go.Am
namespace Go.Am
variable {P:Program} {N n0:Nat} {σ:St} {Q:Exit->St->Prop}
def CP(P:Program)(o:Oper)(K:St->Prop)(σ:St):Prop :=
 o.guard=none /\
 match o.op with
 |.binOp .eql t x y _=>((ty P t).kind=1/\ev σ y=.lit (.slice none 0 0))/\∃ id sz off len bV rows,ev σ x=.ref id sz off len/\0<len/\σ.aa[id]?=some (.arr bV rows)/\K (σ.put o.dst (.lit (.bool false)))
 |_=>False
def YH{os:List Ob}{γ0:Cx}{o:Oper}{K:St->Prop}(h:CP P o K σ){a:Act}{w:World}(aV:dM N os γ0 σ a w)(hd:∀ d,o.dst=some d->d<N){Q:Exit->Act->World->Prop}{next:Act->World->Prop}(hn:∀ σ' a' w',K σ'->dM N os γ0 σ' a' w'->next a' w'):o.wp P a w next Q:=by
 obtain⟨e8,aE,γ,rfl,ha,hs,hf⟩:=aV;have lG:∀ d,o.dst=some d->d<a.tmps.size:=λd h=>by rw[aE];exact hd d h
 obtain⟨_,h⟩:=h;split at h
 ·rename_i t x y u cG;obtain⟨⟨ht,hy⟩,id,sz,off,len,bV,rows,hx,hlen,bb,hK⟩:=h;have h1:=mz hs ha x;have h2:=mz hs ha y;rw[hx]at h1;rw[hy]at h2;have Bx:=h2.bQ;obtain⟨ad,n,c,dQ⟩:∃ad n c,a.eval x=.slice (some ad) n c:=by
   generalize a.eval x=cv at h1;cases h1 with
   |bO _ _ h=>cases h
   |iz _ _ _ _ _ h=>rw[bb]at h;cases h
   |ref=>exact⟨_,_,_,rfl⟩
   |ju=>omega
   |jV=>omega
  have hr:(execOp a.eval o).run P γ.w=.ok (.value (.bool false)) γ.w:=by
   have:=KV γ.w t ad n c (oe ht);simp[execOp,cG,dQ,Bx,eqGuard,this]
  obtain⟨n,x,w',σ',av,hr,fC,hK,fS,eB,rn,fv⟩:=cf (o:=o) hs ha lG (.lit (.bool false)) hK hr;unfold Oper.wp;rw[hr];have cW:dM N os γ0 σ' (a.put o.dst x) w':=⟨by rw[put_defers];exact e8,by rw[nf];exact aE,av,rn,fv,fS,hf.trans eB⟩;rcases fC with rfl|⟨rfl,rfl⟩
  ·exact hn _ _ _ hK cW
  ·exact hn _ _ _ hK cW
 ·exact h.elim
def X'(n:Nat){id:Nat}{ops:Array Oper}(hd:eJ N ops=true)(o:Oper)(ho:ops[n]?=some o)(h:∀ K:St->Prop,(∀ s,Q .normal s->K s)->opsL P ops (ops.toList.take n) (CP P o (opsL P ops (ops.toList.drop (n+1)) K)) σ):W P N n0 (.region id ops false) Q σ:=by
 intro os γ0 a w hn aV;refine wp_region ?_;have fC:n<ops.size:=(kU.1 ho).1;have e:bD ops.size=jJ 0 (ops.toList.take n).length++(n::jJ (n+1) (ops.toList.drop (n+1)).length):=by
  rw[sB,<- sC];have:=Di (s:=0) (m:=n) (n:=(ops.toList.drop (n+1)).length+1) (step:=1);simp only[gM,qU]at this;rw[show(ops.toList.take n).length=n by simp;omega,this];congr 1;simp;omega
 rw[e];refine sR _ a w ?_;refine mu (kE hd) (K:=CP P o (opsL P ops (ops.toList.drop (n+1)) (Q .normal))) (λσ' a' w' hk cW=>?_) (ops.toList.take n) 0 σ a w (λk hk=>?_) (h _ (λ_ h=>h)) aV
 ·show wpOps P ops _ _ a' w';rw[wpOps_cons];unfold wpOp;simp only[ho];have hw:Region.wanted o (yielded ops a'.tmps)=true:=by simp[Region.wanted,hk.1]
  rw[if_pos hw];left;refine YH hk cW (kE hd o (fB (by simpa using ho))) (λσ2 a2 w2 aK uB=>?_);refine mu (kE hd) (K:=Q .normal) (λq9 a3 w3 eL q'=>⟨q9,eL,q'⟩) (ops.toList.drop (n+1)) (n+1) σ2 a2 w2 (λk hk=>?_) aK uB;rw[j8];simp
 ·simp only[j9,nL]at hk;rw[Ao Ay];simp
end Go.Am

