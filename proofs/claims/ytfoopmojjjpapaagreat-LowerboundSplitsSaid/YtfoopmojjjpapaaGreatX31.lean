import Derived.Test.YtfoopmojjjpapaaGreatX14
set_option linter.all false
set_option maxHeartbeats 0
set_option maxRecDepth 20000
open List renaming getElem?_eq_some_iff→aY,getElem?_set→bU,getElem?_eq_getElem→bx,mem_cons→bu,contains_iff_mem→ny,not_mem_nil→iI
open Option renaming some→cH
open Bool renaming or_eq_true→lQ,and_eq_true→bc
open Array renaming replicate→w0
namespace Go.Am
variable {P:Program} {N n0:Nat} {σ:St}
def aD.Ik(d id sz:Nat){rows:List (List AV)}(ho:σ.aa[id]?=some (.arr sz rows))(hd:σ.env d=.ref id sz 0 rows.length)(hw:∀ row∈rows,row.length=sz)(xe:∀ row∈rows,∀ v∈row,(∃ x,v=.lit x)\/∃ s r,v=.tree s r):aD n0 σ ⟨jP σ.env d (.tree sz rows),σ.aa.set id .gone⟩:=by
 intro os γ0 γ _ hs hf;have Bz:id<σ.aa.length:=(aY.1 ho).1
 let aC:Cx:={ γ with Z:=λb=>γ.Z b\/∃ o cap,γ.blk id=some (b,o,cap) }
 let os2:=σ.aa.set id .gone
 have jF:∀ i,os2[i]?=if i=id then some .gone else σ.aa[i]?:=by
  intro i;show(σ.aa.set id _)[i]?=_;rw[bU];by_cases h1:i=id
  ·subst h1;simp[Bz]
  ·simp[Ne.symm h1,h1]
 have hR:∀ v cv,aw σ.aa γ.w γ.Z γ.blk v cv->aw os2 aC.w aC.Z aC.blk v cv:=λv cv hv =>
  hv.mono (λb hb=>⟨.inl hb,rfl⟩) (λi o hi=>by
   rw[jF];by_cases h1:i=id
   ·left;rw[if_pos h1]
   ·rw[if_neg h1];by_cases hg:o=.gone
    ·subst hg;exact .inl hi
    ·exact .inr ⟨rfl,o,hi,Ob.jS hg⟩)
 have bW:∀ i,Live os2 i->Live σ.aa i/\i≠id:=by
  rintro i⟨o,hi,hg⟩;rw[jF]at hi;split at hi
  ·simp at hi;exact absurd hi.symm hg
  ·rename_i h2;exact⟨⟨o,hi,hg⟩,h2⟩
 have pU:Live σ.aa id:=⟨_,ho,G9⟩;have u5:=hs.ar d;rw[hd]at u5;have jO:aw os2 aC.w aC.Z aC.blk (.tree sz rows) (γ.tmps.getD d Go.undef):=by
  have eG:cX σ (λx=>x≠id) (.tree sz rows) (.ref id sz 0 rows.length):=cX.flat ho hw rfl G9 xe;exact .cN _ _ (eG.Ba hs (γc:=aC) (λb hb=>.inl hb) rfl (λx b o cap bZ _ hb=>.inr ⟨o,cap,by rw[show id=x by simpa using(Decidable.not_not.1 bZ).symm];exact hb⟩) _ u5)
 refine⟨aC,rfl,rfl,⟨λk=>?_,?_,λi j b o c o' c' hi hj=>hs.inj i j b o c o' c' (bW i hi).1 (bW j hj).1,?_,?_,λg=>zK (hs.gl g) λb hb=>⟨.inl hb,rfl⟩⟩,?_⟩
 ·show aw os2 aC.w aC.Z aC.blk (jP σ.env d (.tree sz rows) k) (γ.tmps.getD k Go.undef);simp only[jP];split
  ·rename_i e;subst e;exact jO
  ·exact hR _ _ (hs.ar k)
 ·intro i o hi;have au:os2[i]?=some o:=hi;rw[jF]at au;split at au
  ·simp only[cH.injEq]at au;subst au;trivial
  ·by_cases hg:o=.gone
   ·subst hg;trivial
   ·exact(hs.ec i o au).mono hR rfl (λ_ _ _ _=>rfl)
 ·rintro b ⟨i,o,c',hi,hb⟩ (hz|⟨o',cap,ba⟩)
  ·exact hs.nz b ⟨i,o,c',(bW i hi).1,hb⟩ hz
  ·exact(bW i hi).2 (hs.inj i id b o c' o' cap (bW i hi).1 pU hb ba)
 ·rintro b (hz|⟨o,cap,hb⟩)
  ·exact hs.gV b hz
  ·exact hs.blt pU hb
 ·refine⟨hf.lS,hf.tape,hf.output,hf.size,hf.eA,λb hb=>.inl (hf.z0 b hb),?_,?_,by show os.length<=os2.length;simp[os2];exact hf.len,?_,hf.drawn⟩
  ·rintro b (hz|⟨o,cap,hb⟩)
   ·exact hf.z1 b hz
   ·exact .inr (hf.own b ⟨id,o,cap,pU,hb⟩)
  ·rintro b ⟨i,o,c',hi,hb⟩;exact hf.own b ⟨i,o,c',(bW i hi).1,hb⟩
  ·intro i hi hl;obtain⟨h1,x,x',hx,cf,hk⟩:=hf.eK i hi (bW i hl).1;have kx:Live os2 i:=hl;obtain⟨o,dx,pI⟩:=kx;refine⟨h1,x,o,hx,dx,?_⟩;rw[jF]at dx;split at dx
   ·simp at dx;exact absurd dx.symm pI
   ·rw[cf]at dx;simp only[cH.injEq]at dx;subst dx;exact hk
def dv.mono{P:Program}{f:FuncId}{args:List AV}{aa:List Ob}{iV abA:AV->List Ob->Prop}(h:dv P f args aa iV)(hp:∀ r os,iV r os->abA r os):dv P f args aa abA:=by
 refine⟨h.1,λγ jD j5=>Calls.mono (h.2 γ jD j5) ?_⟩;rintro e w'⟨res,bh,cv,aC,h0,h1⟩;exact⟨res,bh,cv,aC,hp _ _ h0,h1⟩
end Go.Am
namespace Go.Am
variable {P:Program} {N n0:Nat} {σ:St}
end Go.Am
namespace Go.Am
variable {P:Program} {N n0:Nat} {σ:St} {Q:Exit->St->Prop}
end Go.Am
namespace Go.Am
variable {P:Program} {N n0:Nat} {σ:St} {Q:Exit->St->Prop}
def aD.aky(d:Nat)(kp:Nat->Prop){v:AV}{os2:List Ob}(hl:os2.length=σ.aa.length)(hk:∀ i o,σ.aa[i]?=some o->(kp i/\os2[i]?=some o)\/(¬ kp i/\os2[i]?=some .gone))(eG:cX σ kp v (σ.env d)):aD n0 σ ⟨jP σ.env d v,os2⟩:=by
 intro os γ0 γ _ hs hf
 let aC:Cx:={ γ with Z:=λb=>γ.Z b\/∃ id o cap,Live σ.aa id/\¬ kp id/\γ.blk id=some (b,o,cap) }
 have Cb:∀ i o,os2[i]?=some o->o≠.gone->kp i/\σ.aa[i]?=some o:=by
  intro i o hi hg;have aX:i<σ.aa.length:=by rw[<- hl];exact(aY.1 hi).1
  obtain⟨x,hx⟩:∃x,σ.aa[i]?=some x:=⟨_,bx aX⟩;rcases hk i x hx with⟨h1,h2⟩|⟨_,h2⟩
  ·rw[hi]at h2;exact⟨h1,by rw[hx,h2]⟩
  ·rw[hi]at h2;simp at h2;exact absurd h2 hg
 have hR:∀ v cv,aw σ.aa γ.w γ.Z γ.blk v cv->aw os2 aC.w aC.Z aC.blk v cv:=λv cv hv =>
  hv.mono (λb hb=>⟨.inl hb,rfl⟩) (λi o hi=>by
   rcases hk i o hi with⟨h1,h2⟩|⟨h1,h2⟩
   ·by_cases hg:o=.gone
    ·subst hg;exact .inl h2
    ·exact .inr ⟨rfl,o,h2,Ob.jS hg⟩
   ·exact .inl h2)
 have bW:∀ i,Live os2 i->Live σ.aa i/\kp i:=by
  rintro i⟨o,hi,hg⟩;obtain⟨h1,h2⟩:=Cb i o hi hg;exact⟨⟨o,h2,hg⟩,h1⟩
 have jO:aw os2 aC.w aC.Z aC.blk v (γ.tmps.getD d Go.undef) :=
  .cN _ _ (eG.Ba hs (γc:=aC) (λb hb=>.inl hb) rfl (λx b o cap bZ jT hb=>.inr ⟨x,o,cap,jT,bZ,hb⟩) _ (hs.ar d))
 refine⟨aC,rfl,rfl,⟨λk=>?_,?_,λi j b o c o' c' hi hj=>hs.inj i j b o c o' c' (bW i hi).1 (bW j hj).1,?_,?_,λg=>zK (hs.gl g) λb hb=>⟨.inl hb,rfl⟩⟩,?_⟩
 ·show aw os2 aC.w aC.Z aC.blk (jP σ.env d v k) (γ.tmps.getD k Go.undef);simp only[jP];split
  ·rename_i e;subst e;exact jO
  ·exact hR _ _ (hs.ar k)
 ·intro i o hi;have au:os2[i]?=some o:=hi;by_cases hg:o=.gone
  ·subst hg;trivial
  ·exact(hs.ec i o (Cb i o au hg).2).mono hR rfl (λ_ _ _ _=>rfl)
 ·rintro b ⟨i,o,c',hi,hb⟩ (hz|⟨j,o',cap,hj,Cc,ba⟩)
  ·exact hs.nz b ⟨i,o,c',(bW i hi).1,hb⟩ hz
  ·have:=hs.inj i j b o c' o' cap (bW i hi).1 hj hb ba;subst this;exact Cc (bW i hi).2
 ·rintro b (hz|⟨j,o',cap,hj,Cc,hb⟩)
  ·exact hs.gV b hz
  ·exact hs.blt hj hb
 ·refine⟨hf.lS,hf.tape,hf.output,hf.size,hf.eA,λb hb=>.inl (hf.z0 b hb),?_,?_,by show os.length<=os2.length;rw[hl];exact hf.len,?_,hf.drawn⟩
  ·rintro b (hz|⟨j,o',cap,hj,Cc,hb⟩)
   ·exact hf.z1 b hz
   ·exact .inr (hf.own b ⟨j,o',cap,hj,hb⟩)
  ·rintro b ⟨i,o,c',hi,hb⟩;exact hf.own b ⟨i,o,c',(bW i hi).1,hb⟩
  ·intro i hi jT;obtain⟨h1,x,x',hx,cf,iZ⟩:=hf.eK i hi (bW i jT).1;obtain⟨o,dx,pI⟩:Live os2 i:=jT;refine⟨h1,x,o,hx,dx,?_⟩;have h3:=(Cb i o dx pI).2;rw[cf]at h3;simp only[cH.injEq]at h3;subst h3;exact iZ
end Go.Am
namespace Go.Am
variable {P:Program} {N n0:Nat} {σ:St} {Q:Exit->St->Prop}
def aD.akz(id c:Nat)(kp:Nat->Prop){cells:List AV}{x v:AV}{os2:List Ob}(ho:σ.aa[id]?=some (.var cells))(hc:cells[c]?=some x)(abB:kp id)(hl:os2.length=σ.aa.length)(hk:∀ i o,σ.aa[i]?=some o->(kp i/\os2[i]?=some (if i=id then .var (cells.set c v) else o))\/(¬ kp i/\os2[i]?=some .gone))(eG:cX σ kp v x):aD n0 σ ⟨σ.env,os2⟩:=by
 intro os γ0 γ _ hs hf
 let aC:Cx:={ γ with Z:=λb=>γ.Z b\/∃ id o cap,Live σ.aa id/\¬ kp id/\γ.blk id=some (b,o,cap) }
 have OD:os2[id]?=some (.var (cells.set c v)):=by
  rcases hk id _ ho with⟨_,h2⟩|⟨h1,_⟩
  ·rw[if_pos rfl]at h2;exact h2
  ·exact absurd abB h1
 have Cb:∀ i o,i≠id->os2[i]?=some o->o≠.gone->kp i/\σ.aa[i]?=some o:=by
  intro i o cE hi hg;have aX:i<σ.aa.length:=by rw[<- hl];exact(aY.1 hi).1
  obtain⟨x,hx⟩:∃x,σ.aa[i]?=some x:=⟨_,bx aX⟩;rcases hk i x hx with⟨h1,h2⟩|⟨_,h2⟩
  ·rw[if_neg cE,hi]at h2;exact⟨h1,by rw[hx,h2]⟩
  ·rw[hi]at h2;simp at h2;exact absurd h2 hg
 have hR:∀ v cv,aw σ.aa γ.w γ.Z γ.blk v cv->aw os2 aC.w aC.Z aC.blk v cv:=λv cv hv =>
  hv.mono (λb hb=>⟨.inl hb,rfl⟩) (λi o hi=>by
   by_cases cE:i=id
   ·subst cE;rw[ho]at hi;simp only[cH.injEq]at hi;subst hi;exact .inr ⟨rfl,_,OD,by simp[Ob.ew]⟩
   rcases hk i o hi with⟨h1,h2⟩|⟨h1,h2⟩
   ·rw[if_neg cE]at h2;by_cases hg:o=.gone
    ·subst hg;exact .inl h2
    ·exact .inr ⟨rfl,o,h2,Ob.jS hg⟩
   ·exact .inl h2)
 have bW:∀ i,Live os2 i->Live σ.aa i/\kp i:=by
  rintro i⟨o,hi,hg⟩;by_cases cE:i=id
  ·subst cE;exact⟨⟨_,ho,G9⟩,abB⟩
  ·obtain⟨h1,h2⟩:=Cb i o cE hi hg;exact⟨⟨o,h2,hg⟩,h1⟩
 refine⟨aC,rfl,rfl,⟨λk=>hR _ _ (hs.ar k),?_,λi j b o c o' c' hi hj=>hs.inj i j b o c o' c' (bW i hi).1 (bW j hj).1,?_,?_,λg=>zK (hs.gl g) λb hb=>⟨.inl hb,rfl⟩⟩,?_⟩
 ·intro i o hi;have au:os2[i]?=some o:=hi;by_cases cE:i=id
  ·subst cE;rw[OD]at au;simp only[cH.injEq]at au;subst au;obtain⟨b,cap,cur,t,h1,h2,h3,h4⟩:=hs.ec _ _ ho;refine⟨b,cap,cur,t,h1,h2,by simpa using h3,λk v' hv=>?_⟩;rw[bU]at hv;split at hv
   ·rename_i e;subst e;split at hv
    ·simp only[cH.injEq]at hv;subst hv;exact .cN _ _ (eG.Ba hs (γc:=aC) (λb hb=>.inl hb) rfl (λx b o cap bZ jT hb=>.inr ⟨x,o,cap,jT,bZ,hb⟩) _ (h4 c _ hc))
    ·simp at hv
   ·exact hR _ _ (h4 k v' hv)
  ·by_cases hg:o=.gone
   ·subst hg;trivial
   ·exact(hs.ec i o (Cb i o cE au hg).2).mono hR rfl (λ_ _ _ _=>rfl)
 ·rintro b ⟨i,o,c',hi,hb⟩ (hz|⟨j,o',cap,hj,Cc,ba⟩)
  ·exact hs.nz b ⟨i,o,c',(bW i hi).1,hb⟩ hz
  ·have:=hs.inj i j b o c' o' cap (bW i hi).1 hj hb ba;subst this;exact Cc (bW i hi).2
 ·rintro b (hz|⟨j,o',cap,hj,Cc,hb⟩)
  ·exact hs.gV b hz
  ·exact hs.blt hj hb
 ·refine⟨hf.lS,hf.tape,hf.output,hf.size,hf.eA,λb hb=>.inl (hf.z0 b hb),?_,?_,by show os.length<=os2.length;rw[hl];exact hf.len,?_,hf.drawn⟩
  ·rintro b (hz|⟨j,o',cap,hj,Cc,hb⟩)
   ·exact hf.z1 b hz
   ·exact .inr (hf.own b ⟨j,o',cap,hj,hb⟩)
  ·rintro b ⟨i,o,c',hi,hb⟩;exact hf.own b ⟨i,o,c',(bW i hi).1,hb⟩
  ·intro i hi jT;obtain⟨h1,x,x',hx,cf,iZ⟩:=hf.eK i hi (bW i jT).1;obtain⟨o,dx,pI⟩:Live os2 i:=jT;refine⟨h1,x,o,hx,dx,?_⟩;by_cases cE:i=id
   ·subst cE;rw[ho]at cf;rw[OD]at dx;simp only[cH.injEq]at cf dx;subst cf;subst dx;exact Ob.H5 iZ (by simp[Ob.ew])
   ·have h3:=(Cb i o cE dx pI).2;rw[cf]at h3;simp only[cH.injEq]at h3;subst h3;exact iZ
end Go.Am
namespace Go.Am
variable {P:Program} {N n0:Nat} {σ:St}
def sM(ps:List Nat):AV->Prop
 |.ptr id _ _=>id∈ps
 |.ref id _ _ _=>id∈ps
 |.dD id=>id∈ps
 |_=>True
def xZ(ps:List Nat)(σ:St):List Operand->Prop
 |[]=>True
 |x::l=>sM ps (ev σ x)/\xZ ps σ l
def jo(ps:List Nat)(q:Bool)(o:Oper)(σ:St):Prop:=(q||cls o.op==0||decide (3<=cls o.op))=true\/xZ ps σ o.op.operands.toList
def abC{ps:List Nat}:∀ {l:List Operand},xZ ps σ l->∀ x∈l,∀ id,pQ (ev σ x)=some id->id∈ps
 |[],_,x,hx=>by simp at hx
 |y::l,h,x,hx=>by
  rcases bu.1 hx with rfl|hx
  ·intro id e;have h1:=h.1;cases hv:ev σ x<;>rw[hv]at e h1<;>simp[pQ,sM]at e h1;all_goals subst e;exact h1
  ·exact abC h.2 x hx
def OE{ps:List Nat}{σ2:St}:∀ {l:List Operand},(∀ x∈l,ev σ2 x=ev σ x)->xZ ps σ2 l=xZ ps σ l
 |[],_=>rfl
 |y::l,h=>by
  simp only[xZ];rw[h y G9,OE λx hx=>h x (by simp[hx])]
def x7(ps:List Nat)(P:Program)(o:Oper)(K:St->Prop)(σ:St):Prop :=
 match o.op with
 |.call { callee:=.builtin .append,args,.. } =>
  match args.toList with
  |[s,_]=>(∀ id,pQ (ev σ s)=some id->id ∉ ps)/\(∀ id∈ps,id<σ.aa.length)/\cm P o σ K
  |_=>False
 |_=>False
def akA{ps:List Nat}{o:Oper}{K:St->Prop}(h:x7 ps P o K σ):aL P o σ K:=by
 unfold x7 at h;unfold aL;split at h
 ·rename_i args cI cT;split at h
  ·simp only[cT];exact h.2.2
  ·exact h.elim
 ·exact h.elim
def akB{ps:List Nat}{o:Oper}{K:St->Prop}(h:x7 ps P o K σ):
  ∃ v os,(∀ id∈ps,os[id]?=σ.aa[id]?)/\K ((⟨σ.env,os⟩:St).put o.dst v)/\∀ (e2:Nat->AV) (K2:St->Prop),(∀ x∈o.op.operands.toList,ev ⟨e2,σ.aa⟩ x=ev σ x)->K2 ((⟨e2,os⟩:St).put o.dst v)->x7 ps P o K2 ⟨e2,σ.aa⟩:=by
 obtain⟨dst,op,type,pos,after,guard⟩:=o;unfold x7 at h;dsimp only at h;split at h
 ·rename_i args cI;split at h
  ·rename_i s x Jw;obtain⟨h1,h2,hW⟩:=h;unfold cm at hW;simp only at hW;(repeat' split at hW)<;>try exact hW.elim
   rename_i s' x' t t' cf ku _ _ _ _ z pre σ1 sz src hk hz oh rU;obtain⟨rfl,rfl⟩:s=s'/\x=x':=by rw[Jw]at cf;simpa using cf
   have uB:σ1=⟨σ.env,σ1.aa⟩/\∀ e,mB ⟨e,σ.aa⟩ (ty P (ty P t).elem).size (ev σ s)=some (pre,⟨e,σ1.aa⟩):=by
    unfold mB at oh ⊢;(repeat' split at oh)<;>simp_all
    all_goals obtain⟨rfl,rfl⟩:=oh;simp
   have eF:σ1.aa=σ.aa\/∃ pK,ev σ s=.ref pK (ty P (ty P t).elem).size 0 0/\False\/(pQ (ev σ s)=some pK/\σ1.aa=σ.aa.set pK .gone):=by
    clear cf Jw hW rU uB h2;unfold mB at oh;split at oh
    ·left;cases oh;rfl
    ·rename_i pK _ _ _ he;split at oh
     ·split at oh
      ·cases oh;exact .inr ⟨pK,.inr ⟨by rw[he];rfl,rfl⟩⟩
      ·cases oh
     ·cases oh
    ·cases oh
   have LK:∀ id∈ps,σ1.aa[id]?=σ.aa[id]?:=λid bZ=>by
    rcases eF with e|⟨pK,⟨_,h⟩|⟨e,e2⟩⟩
    ·rw[e]
    ·exact h.elim
    ·rw[e2,bU,if_neg];intro e3;subst e3;exact h1 _ e bZ
   have hlen:σ1.aa.length=σ.aa.length:=by
    rcases eF with e|⟨pK,⟨_,h⟩|⟨e,e2⟩⟩
    ·rw[e]
    ·exact h.elim
    ·rw[e2,List.length_set]
   refine⟨_,σ1.aa++[.arr sz (pre++src)],λid bZ=>?_,by have:=hW.2;rw[uB.1]at this;exact this,λe2 K2 hx ed=>?_⟩
   ·rw[List.getElem?_append_left (by rw[hlen];exact h2 id bZ)];exact LK id bZ
   ·have j5:oT ⟨e2,σ.aa⟩ (ev σ x)=some (sz,src):=rU;simp[Op.operands,Call.operands,Jw]at hx;unfold x7;simp only[Jw];refine⟨λid he=>h1 id (by rw[<- hx.1];exact he),h2,?_⟩;unfold cm;simp only[cf,ku,hx.1,hx.2,hk,hz,uB.2,j5];exact⟨hW.1,ed⟩
  ·exact h.elim
 ·exact h.elim
def lJ(P:Program)(ops:Array Oper)(ps:List Nat)(q dc:Bool)(o:Oper)(K:St->Prop)(σ:St):Prop :=
 match dc with
 |true=>o.guard=none/\x7 ps P o K σ
 |false=>jo ps q o σ/\eC P ops q o K σ
def Gg(ps:List Nat)(c:Nat)(a b:List Ob):Prop:=if c=6 then ∀ id∈ps,b[id]?=a[id]? else ly c a b
def akC{N:Nat}{os:List Ob}{γ0:Cx}{ops:Array Oper}{ps:List Nat}(hd:∀ o∈ops.toList,∀ d,o.dst=some d->d<N){q dc:Bool}{i:Nat}{o:Oper}(hi:ops[i]?=some o){σ:St}{K:St->Prop}(h:lJ P ops ps q dc o K σ){a:Act}{w:World}(az:gp N os γ0 σ a w){Q:Exit->Act->World->Prop}{next:Act->World->Prop}(hn:∀ σ' a' w',K σ'->gp N os γ0 σ' a' w'->next a' w'):wpOp P ops Q i next a w:=by
 cases dc with
 |false=>exact Lk hd hi h.2 az hn
 |true =>
  have bR:o∈ops.toList:=List.mem_of_getElem? (by simpa using hi);unfold wpOp;simp only[hi];have hw:Region.wanted o (yielded ops a.tmps)=true:=by simp[Region.wanted,h.1]
  rw[if_pos hw];left;exact yy (akA h.2) az (hd o bR) hn
def Jx{ops:Array Oper}{ps:List Nat}{q dc:Bool}{o:Oper}{σ:St}{K:St->Prop}(hW:lJ P ops ps q dc o K σ):
  ∃ v os,Gg ps (db q dc o) σ.aa os/\K ((⟨σ.env,os⟩:St).put o.dst v)/\∀ (e2:Nat->AV) (K2:St->Prop),(∀ t∈o.looksAt ops,e2 t=σ.env t)->K2 ((⟨e2,os⟩:St).put o.dst v)->lJ P ops ps q dc o K2 ⟨e2,σ.aa⟩:=by
 cases dc with
 |false =>
  obtain⟨hc,hW⟩:=hW;obtain⟨v,os,h1,h2,h3⟩:=C0 hW;refine⟨v,os,?_,h2,λe2 K2 hl hK=>⟨?_,h3 e2 K2 hl hK⟩⟩
  ·unfold Gg db;simp only[Bool.false_eq_true,if_false];rw[if_neg]
   ·exact h1
   ·unfold fH;split
    ·omega
    ·unfold cls;split<;>omega
  ·unfold jo at hc ⊢;rw[OE (σ:=σ) (uo hl)];exact hc
 |true =>
  obtain⟨hg,hW⟩:=hW;obtain⟨v,os,h1,h2,h3⟩:=akB hW;exact⟨v,os,by unfold Gg db;simp only[if_true];exact h1,h2,λe2 K2 hl hK=>⟨hg,h3 e2 K2 (uo (os:=σ.aa) hl) hK⟩⟩
def abD{ops:Array Oper}{ps:List Nat}{q dc:Bool}{o:Oper}{σ:St}{K:St->Prop}(hc:db q dc o<=2)(hW:lJ P ops ps q dc o K σ):
  ∃ v,K (σ.put o.dst v)/\∀ (σ2:St) (K2:St->Prop),(∀ t∈o.looksAt ops,σ2.env t=σ.env t)->(∀ (id:Nat),id∈ps->iM (db q dc o) σ.aa[id]? σ2.aa[id]?)->K2 (σ2.put o.dst v)->lJ P ops ps q dc o K2 σ2:=by
 cases dc with
 |true=>simp[db]at hc
 |false =>
  obtain⟨hk,hW⟩:=hW;have gq:fH q o<=2:=by simpa [db] using hc
  obtain⟨v,h1,h2⟩:=T9 gq hW;refine⟨v,h1,λσ2 K2 hl ho hK=>⟨?_,h2 σ2 K2 hl (λx hx id hp=>?_) hK⟩⟩
  ·unfold jo at hk ⊢;rw[OE (σ:=σ) (uo (e2:=σ2.env) (os:=σ2.aa) hl)];exact hk
  ·have cz:∀ id,id∈ps->iM (fH q o) σ.aa[id]? σ2.aa[id]?:=by simpa [db] using ho
   by_cases h0:fH q o=0
   ·rw[h0];simp[iM]
   ·refine cz id ?_;unfold fH at h0 gq;split at h0
    ·omega
    ·rename_i hq;simp only[hq]at gq;have xC:q=false:=by simpa using hq
     subst xC;unfold jo at hk;have zT:cls o.op<=2:=by simpa using gq
     have h3:decide (3<=cls o.op)=false:=decide_eq_false Ey;have h4:(cls o.op==0)=false:=by simpa using h0
     rw[h3,h4]at hk;rcases hk with hk|hk
     ·simp at hk
     ·exact abC hk x hx id hp
def akD{ps:List Nat}{ci ck:Nat}(h:(ci==0||(ci==1&&decide (ck<=4))||(ci==2&&decide (ck<=3))||(decide (ci<=2)&&ck==6))=true){a b:List Ob}(he:Gg ps ck a b)(id:Nat)(bZ:id∈ps):iM ci a[id]? b[id]?:=by
 unfold Gg at he;split at he
 ·rename_i h6;subst h6;rw[he id bZ];unfold iM;split
  ·trivial
  ·split
   ·intro o ho;exact⟨o,ho,zH o⟩
   ·intro o ho;exact ho
 ·rename_i h6;refine Lm ?_ he id;have:(ck==6)=false:=by simpa using h6
  rw[this]at h;simpa using h
def akE{ops:Array Oper}{ps:List Nat}{qi qk di dk:Bool}{oi ok:Oper}(ha:oi.apart ops ok=true)(hi:db qi di oi<=2)(hc:(db qi di oi==0||(db qi di oi==1&&decide (db qk dk ok<=4))||(db qi di oi==2&&decide (db qk dk ok<=3))||(decide (db qi di oi<=2)&&db qk dk ok==6))=true){σ:St}{K:St->Prop}(h:lJ P ops ps qi di oi (lJ P ops ps qk dk ok K) σ):lJ P ops ps qk dk ok (lJ P ops ps qi di oi K) σ:=by
 obtain⟨a1,a2,a3⟩:=Oper.apart_spec ha;obtain⟨v,h1,run⟩:=abD hi h;obtain⟨vk,os,vN,h2,zI⟩:=Jx h1;rw[C2]at vN zI;refine zI σ.env _ (λt ht=>(uq λd hd e=>a1 d hd (e▸ht)).symm) ?_;refine run _ _ (λt ht=>?_) (λid bZ=>?_) ?_
 ·rw[uq λd hd e=>a3 d hd (e▸ht)]
 ·rw[C2];exact akD hc vN id bZ
 ·rw[C3]at h2;rw[C1 (λd hd e=>a2 d e hd)];exact h2
def akF{ops:Array Oper}{ps:List Nat}{qi qk di dk:Bool}{oi ok:Oper}(ha:oi.apart ops ok=true)(hk:db qk dk ok=0){σ:St}{K:St->Prop}(h:lJ P ops ps qi di oi (lJ P ops ps qk dk ok K) σ):lJ P ops ps qk dk ok (lJ P ops ps qi di oi K) σ:=by
 obtain⟨a1,a2,a3⟩:=Oper.apart_spec ha;obtain⟨vi,os,vN,h1,run⟩:=Jx h;obtain⟨vk,h2,EK⟩:=abD Ey h1;refine EK σ _ (λt ht=>(uq (σ:=⟨σ.env,os⟩) λd hd e=>a1 d hd (e▸ht)).symm) (λid _=>by rw[hk];simp[iM]) ?_;rw[Ll];refine run _ _ (λt ht=>uq λd hd e=>a3 d hd (e▸ht)) ?_;rw[C3,C1 (λd hd e=>a2 d e hd)];exact h2
def akG{ops:Array Oper}{ps:List Nat}{qi qk di dk:Bool}{oi ok:Oper}(ha:oi.apart ops ok=true)(hc:BA (db qi di oi) (db qk dk ok)=true){σ:St}{K:St->Prop}(h:lJ P ops ps qi di oi (lJ P ops ps qk dk ok K) σ):lJ P ops ps qk dk ok (lJ P ops ps qi di oi K) σ:=by
 by_cases hk:db qk dk ok=0
 ·exact akF ha hk h
 ·have gq:(db qi di oi==0||(db qi di oi==1&&decide (db qk dk ok<=4))||(db qi di oi==2&&decide (db qk dk ok<=3))||(decide (db qi di oi<=2)&&db qk dk ok==6))=true:=by
   simp only[BA,A5,lQ,bc,beq_iff_eq,decide_eq_true_eq]at hc ⊢;rcases hc with(((h|h)|h)|h)|h
   ·exact .inl (.inl (.inl h))
   ·exact absurd h hk
   ·exact .inl (.inl (.inr h))
   ·exact .inl (.inr h)
   ·exact .inr h
  refine akE ha ?_ gq h;simp only[lQ,bc,beq_iff_eq,decide_eq_true_eq]at gq;omega
def jH(P:Program)(ops:Array Oper)(ps:List Nat)(qs ds:List Nat)(i:Nat)(K:St->Prop)(σ:St):Prop :=
 match ops[i]? with
 |none=>K σ
 |some o=>lJ P ops ps (qs.contains i) (ds.contains i) o K σ
def x8(P:Program)(ops:Array Oper)(ps:List Nat)(qs ds:List Nat)(K:St->Prop):Nat->Array Bool->St->Prop
 |0,aH,σ=>Region.ready .any ops aH=[]/\K σ
 |n+1,aH,σ=>(Region.ready .any ops aH=[]->K σ)/\∀ i∈Region.ready .any ops aH,jH P ops ps qs ds i (x8 P ops ps qs ds K n (aH.setIfInBounds i true)) σ
def akH{ops:Array Oper}{ps:List Nat}{q dc:Bool}{o:Oper}{σ:St}{K K2:St->Prop}(hk:∀ s,K s->K2 s)(h:lJ P ops ps q dc o K σ):lJ P ops ps q dc o K2 σ:=by
 obtain⟨v,os,_,h2,run⟩:=Jx h;exact run σ.env K2 (λ_ _=>rfl) (hk _ h2)
def akI{ops:Array Oper}{ps:List Nat}{q dc:Bool}{o:Oper}{σ:St}{K:St->Prop}(h:lJ P ops ps q dc o K σ):∃s,K s:=by
 obtain⟨v,os,_,h2,run⟩:=Jx h;exact⟨_,h2⟩
def Av{ops:Array Oper}{ps:List Nat}{qs ds:List Nat}{i:Nat}{σ:St}{K K2:St->Prop}(hk:∀ s,K s->K2 s)(h:jH P ops ps qs ds i K σ):jH P ops ps qs ds i K2 σ:=by
 unfold jH at h ⊢;split at h
 ·exact hk _ h
 ·exact akH hk h
def akJ{ops:Array Oper}{ps:List Nat}{qs ds:List Nat}{i:Nat}{σ:St}{K:St->Prop}(h:jH P ops ps qs ds i K σ):∃s,K s:=by
 unfold jH at h;split at h
 ·exact⟨_,h⟩
 ·exact akI h
def OF{os:List Ob}{γ0:Cx}{ops:Array Oper}{ps:List Nat}{qs ds:List Nat}(hd:∀ o∈ops.toList,∀ d,o.dst=some d->d<N){K:St->Prop}{Q:Exit->Act->World->Prop}(hQ:∀ σ' a' w',K σ'->gp N os γ0 σ' a' w'->Q .normal a' w'):∀ (n:Nat) (aH:Array Bool) (σ:St) (a:Act) (w:World),x8 P ops ps qs ds K n aH σ->gp N os γ0 σ a w->wpAny P .any ops Q n aH a w
 |0,aH,σ,a,w,h,az=>⟨h.1,hQ _ _ _ h.2 az⟩
 |n+1,aH,σ,a,w,h,az=>by
  refine⟨λhr=>hQ _ _ _ (h.1 hr) az,λi hi=>?_⟩;have:=h.2 i hi;unfold jH at this;split at this
  ·rename_i au;unfold wpOp;simp only[au];exact OF hd hQ n _ _ _ _ this az
  ·rename_i o au;exact akC hd au this az λσ' a' w' hK c8=>OF hd hQ n _ _ _ _ hK c8
def akK{id:Nat}{ops:Array Oper}{Q:Exit->St->Prop}(ps:List Nat)(qs ds:List Nat)(hm:P.follows .mixedOrders=true)(hd:fP N ops=true)(h:x8 P ops ps qs ds (Q .normal) ops.size (w0 ops.size false) σ):W P N n0 (.region id ops true) Q σ:=by
 intro os γ0 a w _ az;refine wp_region_any hm ?_;exact OF (oV hd) (K:=Q .normal) (λσ' a' w' hK c8=>⟨σ',hK,c8⟩) _ _ _ _ _ h az.drawn
def akL{ops:Array Oper}{ps:List Nat}{qs ds:List Nat}{K:St->Prop}{i:Nat}{o:Oper}(hi:ops[i]?=some o)(D:List Nat)(SG:i∈D)(hD:∀ j∈D,j=i\/∃ oj,ops[j]?=some oj/\∃ e∈oj.after,Region.binds .any e=true/\e.on∈D):∀ (fuel:Nat) (aH:Array Bool) (σ:St),(∀ j∈D,aH.getD j true=false) ->
   i∈Region.ready .any ops aH ->
   (∀ j oj,ops[j]?=some oj->aH.getD j true=false->j ∉ D->o.apart ops oj=true/\BA (db (qs.contains i) (ds.contains i) o) (db (qs.contains j) (ds.contains j) oj)=true) ->
   jH P ops ps qs ds i (x8 P ops ps qs ds K fuel (aH.setIfInBounds i true)) σ->x8 P ops ps qs ds K (fuel+1) aH σ:=by
 intro fuel
 induction fuel with
 |zero =>
  intro aH σ hu hr lz h;refine⟨λe=>by rw[e]at hr;simp at hr,λk hk=>?_⟩;by_cases fR:k=i
  ·subst fR;exact h
  ·obtain⟨s,hs⟩:=akJ h;have:=ready_mono hk fR;rw[hs.1]at this;simp at this
 |succ m ih =>
  intro aH σ hu hr lz h;refine⟨λe=>by rw[e]at hr;simp at hr,λk hk=>?_⟩;by_cases fR:k=i
  ·subst fR;exact h
  ·have A6:=mem_ready.1 hk;obtain⟨eF,ok,az,ei⟩:=A6;have rN:k ∉ D:=by
    intro rN;rcases hD k rN with e|⟨oj,iN,e,he,hb,ur⟩
    ·exact fR e
    ·rw[az]at iN;simp only[cH.injEq]at iN;subst iN;have h1:=ei e he hb;have h2:=hu e.on ur;rw[Array.getD_eq_getD_getElem?]at h1 h2;cases hx:aH[e.on]? with
     |none=>rw[hx]at h1;simp at h1
     |some b=>rw[hx]at h1 h2;simp at h1 h2;rw[h1]at h2;simp at h2
   obtain⟨ha,hc⟩:=lz k ok az eF rN;have h1:jH P ops ps qs ds i (jH P ops ps qs ds k (x8 P ops ps qs ds K m ((aH.setIfInBounds i true).setIfInBounds k true))) σ :=
    Av (λs hs=>hs.2 k (ready_mono hk fR)) h
   have h2:jH P ops ps qs ds k (jH P ops ps qs ds i (x8 P ops ps qs ds K m ((aH.setIfInBounds i true).setIfInBounds k true))) σ:=by
    unfold jH at h1 ⊢;simp only[hi,az]at h1 ⊢;exact akG ha hc h1
   refine Av (λs hs=>?_) h2;refine ih (aH.setIfInBounds k true) s (λj hj=>?_) (ready_mono hr (Ne.symm fR)) (λj oj iN hl pJ=>?_) ?_
   ·have cE:k≠j:=λe=>rN (by rw[e];exact hj);rw[getD_set_ne _ cE];exact hu j hj
   ·refine lz j oj iN ?_ pJ;by_cases zJ:k=j
    ·subst zJ;exact eF
    ·rwa [getD_set_ne _ zJ]at hl
   ·rw[Array.setIfInBounds_comm _ _ (Ne.symm fR)]at hs;exact hs
def akM{ops:Array Oper}{ps:List Nat}{qs ds:List Nat}{K:St->Prop}{i:Nat}{D:List Nat}{fuel:Nat}{aH:Array Bool}(h:Fc ops qs ds aH i D=true)(hs:jH P ops ps qs ds i (x8 P ops ps qs ds K fuel (aH.setIfInBounds i true)) σ):x8 P ops ps qs ds K (fuel+1) aH σ:=by
 unfold Fc at h;cases hi:ops[i]? with
 |none=>simp[hi]at h
 |some o =>
  simp only[hi,bc,List.all_eq_true,ny,lQ,beq_iff_eq,Bool.not_eq_true']at h;obtain⟨⟨⟨⟨h1,h2⟩,h3⟩,h4⟩,h5⟩:=h;refine akL hi D h1 (λj hj=>?_) fuel aH σ h3 ?_ ?_ hs
  ·rcases h2 j hj with h|h
   ·exact .inl h
   ·right;split at h
    ·rename_i oj iN;rw[Array.any_eq_true']at h;obtain⟨e,he,hb⟩:=h;simp only[bc,ny]at hb;exact⟨oj,iN,e,he,hb.1,hb.2⟩
    ·simp at h
  ·rw[mem_ready];refine⟨h3 i h1,o,hi,λe he hb=>?_⟩;rw[Array.all_eq_true']at h4;have:=h4 e he;simpa [hb] using this
  ·intro j oj iN hl pJ;have hj:j<ops.size:=(Array.getElem?_eq_some_iff.1 iN).1;rcases h5 j (List.mem_range.2 hj) with(h|h)|h
   ·exact absurd h pJ
   ·rw[hl]at h;simp at h
   ·simpa [iN] using h
def oK(P:Program)(ops:Array Oper)(ps:List Nat)(qs ds:List Nat):PT->(St->Prop)->St->Prop
 |.nil,K,σ=>K σ
 |.take i t,K,σ=>jH P ops ps qs ds i (oK P ops ps qs ds t K) σ
 |.both i t j u,K,σ=>jH P ops ps qs ds i (oK P ops ps qs ds t K) σ/\jH P ops ps qs ds j (oK P ops ps qs ds u K) σ
 |.three i t j u k v,K,σ=>jH P ops ps qs ds i (oK P ops ps qs ds t K) σ/\jH P ops ps qs ds j (oK P ops ps qs ds u K) σ/\jH P ops ps qs ds k (oK P ops ps qs ds v K) σ
def Cd{ops:Array Oper}{ps:List Nat}{qs ds:List Nat}{K:St->Prop}:∀ (t:PT) (n:Nat) (aH:Array Bool) (σ:St),t.kU ops qs ds n aH=true->oK P ops ps qs ds t K σ->x8 P ops ps qs ds K n aH σ
 |.nil,n,aH,σ,h,hp=>by
  simp only[PT.kU,bc,beq_iff_eq,List.isEmpty_iff]at h;obtain⟨rfl,h⟩:=h;exact⟨h,hp⟩
 |.take _ _,0,_,_,h,_=>by simp[PT.kU]at h
 |.take i t,n+1,aH,σ,h,hp=>by
  simp only[PT.kU,bc]at h;exact akM h.1 (Av (λs hs=>Cd t n _ s h.2 hs) hp)
 |.both _ _ _ _,0,_,_,h,_=>by simp[PT.kU]at h
 |.both i t j u,n+1,aH,σ,h,hp=>by
  simp only[PT.kU,bc,beq_iff_eq]at h;obtain⟨⟨h1,h2⟩,h3⟩:=h;refine⟨λe=>by rw[h1]at e;simp at e,λk hk=>?_⟩;rw[h1]at hk;simp only[bu,iI,or_false]at hk;rcases hk with rfl|rfl
  ·exact Av (λs hs=>Cd t n _ s h2 hs) hp.1
  ·exact Av (λs hs=>Cd u n _ s h3 hs) hp.2
 |.three _ _ _ _ _ _,0,_,_,h,_=>by simp[PT.kU]at h
 |.three i t j u k v,n+1,aH,σ,h,hp=>by
  simp only[PT.kU,bc,beq_iff_eq]at h;obtain⟨⟨⟨h1,h2⟩,h3⟩,h4⟩:=h;refine⟨λe=>by rw[h1]at e;simp at e,λx hk=>?_⟩;rw[h1]at hk;simp only[bu,iI,or_false]at hk;rcases hk with rfl|rfl|rfl
  ·exact Av (λs hs=>Cd t n _ s h2 hs) hp.1
  ·exact Av (λs hs=>Cd u n _ s h3 hs) hp.2.1
  ·exact Av (λs hs=>Cd v n _ s h4 hs) hp.2.2
def abE{id:Nat}{ops:Array Oper}{Q:Exit->St->Prop}(ps:List Nat)(qs ds:List Nat)(t:PT)(hm:P.follows .mixedOrders=true)(hd:fP N ops=true)(ht:t.kU ops qs ds ops.size (w0 ops.size false)=true)(h:oK P ops ps qs ds t (Q .normal) σ):W P N n0 (.region id ops true) Q σ :=
 akK ps qs ds hm hd (Cd t _ _ σ ht h)
def abF{ops:Array Oper}{ps:List Nat}{qs ds:List Nat}{K:St->Prop}:oK P ops ps qs ds .nil K σ=K σ:=rfl
def abG{ops:Array Oper}{ps:List Nat}{qs ds:List Nat}{i:Nat}{t:PT}{K:St->Prop}:oK P ops ps qs ds (.take i t) K σ=jH P ops ps qs ds i (oK P ops ps qs ds t K) σ:=rfl
def abH{ops:Array Oper}{ps:List Nat}{qs ds:List Nat}{i j k:Nat}{t u v:PT}{K:St->Prop}:oK P ops ps qs ds (.three i t j u k v) K σ=(jH P ops ps qs ds i (oK P ops ps qs ds t K) σ/\jH P ops ps qs ds j (oK P ops ps qs ds u K) σ/\jH P ops ps qs ds k (oK P ops ps qs ds v K) σ):=rfl
def abI{ops:Array Oper}{ps:List Nat}{qs ds:List Nat}{i j:Nat}{t u:PT}{K:St->Prop}:oK P ops ps qs ds (.both i t j u) K σ=(jH P ops ps qs ds i (oK P ops ps qs ds t K) σ/\jH P ops ps qs ds j (oK P ops ps qs ds u K) σ):=rfl
def abJ{ops:Array Oper}{ps:List Nat}{q:Bool}{o:Oper}{K:St->Prop}:lJ P ops ps q true o K σ=(o.guard=none/\x7 ps P o K σ):=rfl
def abK{ops:Array Oper}{ps:List Nat}{q:Bool}{o:Oper}{K:St->Prop}:lJ P ops ps q false o K σ=(jo ps q o σ/\eC P ops q o K σ):=rfl
section
variable {dst:Option Tmp} {tt:TypeId} {p:String} {af:Array Edge} {g:Option (Nat×Bool)} {K:St->Prop} {ps:List Nat}
def Ce(ps:List Nat)(v:AV):Prop:=∀ id,pQ v=some id->id ∉ ps
def OG(v:Value):Ce ps (.lit v)=True:=eq_true λid h=>by cases h
def OH(id a b c:Nat):Ce ps (.ref id a b c)=(id ∉ ps):=propext ⟨λh=>h id rfl,λh i e=>by cases e;exact h⟩
def abL(s x:Operand)(cI:Array TypeId):x7 ps P ⟨dst,.call ⟨.builtin .append,#[s,x],cI⟩,tt,p,af,g⟩ K σ=(Ce ps (ev σ s)/\(∀ id∈ps,id<σ.aa.length)/\aL P ⟨dst,.call ⟨.builtin .append,#[s,x],cI⟩,tt,p,af,g⟩ σ K):=by
 simp only[x7,aL,Ce]
def abM{o:Oper}:jo ps true o σ=True:=by simp[jo]
def y9{o:Oper}(h:(cls o.op==0||decide (3<=cls o.op))=true):jo ps false o σ=True:=eq_true (.inl (by simpa using h))
def abN(t:TypeId)(a:Operand):jo ps false ⟨dst,.load t a,tt,p,af,g⟩ σ=sM ps (ev σ a):=by simp[jo,cls,Op.operands,xZ]
def abO(t:TypeId)(a i:Operand):jo ps false ⟨dst,.indexAddr t a i,tt,p,af,g⟩ σ=(sM ps (ev σ a)/\sM ps (ev σ i)):=by simp[jo,cls,Op.operands,xZ]
def abP(a:Operand):jo ps false ⟨dst,.nilCheck a,tt,p,af,g⟩ σ=sM ps (ev σ a):=by simp[jo,cls,Op.operands,xZ]
def abQ(t:TypeId)(a:Operand)(f:Nat):jo ps false ⟨dst,.fieldAddr t a f,tt,p,af,g⟩ σ=sM ps (ev σ a):=by simp[jo,cls,Op.operands,xZ]
def abR(x:Operand):jo ps false ⟨dst,.move x,tt,p,af,g⟩ σ=True:=y9 QI
def abS(x:Operand):jo ps false ⟨dst,.assign x,tt,p,af,g⟩ σ=True:=y9 QI
def abT(c a b:Operand):jo ps false ⟨dst,.pick c a b,tt,p,af,g⟩ σ=True:=y9 QI
def abU(op:BinOp)(t:TypeId)(x y:Operand)(yt:TypeId):jo ps false ⟨dst,.binOp op t x y yt,tt,p,af,g⟩ σ=True:=y9 QI
def abV(t:TypeId)(parts:Array (Nat×Operand)):jo ps false ⟨dst,.build t parts,tt,p,af,g⟩ σ=True:=y9 QI
def abW(e:TypeId):jo ps false ⟨dst,.alloc e,tt,p,af,g⟩ σ=True:=y9 QI
def abX(t:TypeId)(len:Nat)(parts:Array (Nat×Operand)):jo ps false ⟨dst,.buildSlice t len parts,tt,p,af,g⟩ σ=True:=y9 QI
def abY(t:TypeId)(a x:Operand):jo ps false ⟨dst,.store t a x,tt,p,af,g⟩ σ=True:=y9 QI
def abZ(f:Operand)(args:Array Operand)(cI:Array TypeId):jo ps false ⟨dst,.call ⟨.value f,args,cI⟩,tt,p,af,g⟩ σ=True:=y9 QI
def ab0(id r c:Nat):sM ps (.ptr id r c)=(id∈ps):=rfl
def ab1(id a b c:Nat):sM ps (.ref id a b c)=(id∈ps):=rfl
def ab2(v:Value):sM ps (.lit v)=True:=rfl
def ab3(s:Nat)(r:List (List AV)):sM ps (.tree s r)=True:=rfl
def ab4(r:List AV):sM ps (.b6 r)=True:=rfl
def ab5(r:List AV):sM ps (.agg r)=True:=rfl
def ab6(r:List AV):sM ps (.bC r)=True:=rfl
end
def Ra:=aaP @abF @abG @abH @abI @abJ @abK @OG (aaP @OH @abL @abM @abN @abO @abP @abQ (aaP @abR @abS @abT @abU @abV @abW @abX (aaP @abY @abZ @ab0 @ab1 @ab2 @ab3 @ab4 (QP @ab5 @ab6))))
def Ir{x:Code}{Q:Exit->St->Prop}(R:St->Prop)(h1:∀ s,R s->Q .normal s)(h2:∀ Q':Exit->St->Prop,(∀ s,R s->Q' .normal s)->W P N n0 x Q' σ):W P N n0 x Q σ:=h2 Q h1
end Go.Am

