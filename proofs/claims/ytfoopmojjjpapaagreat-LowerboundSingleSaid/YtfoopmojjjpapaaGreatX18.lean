import Derived.Test.YtfoopmojjjpapaaGreatX15
set_option linter.all false
set_option maxHeartbeats 0
set_option maxRecDepth 20000
open List renaming getElem?_eq_some_iff→aV,getElem?_set→bU,getElem?_eq_getElem→bF,mem_cons→bw,contains_iff_mem→sq,not_mem_nil→iM
open Option renaming some→cA
open Bool renaming or_eq_true→lD,and_eq_true→bb
open Array renaming replicate→wz
namespace Go.Am
variable {P:Program} {N n0:Nat} {σ:St}
def aH.HS(d id sz:Nat){rows:List (List AV)}(ho:σ.aa[id]?=some (.arr sz rows))(hd:σ.env d=.ref id sz 0 rows.length)(hw:∀ row∈rows,row.length=sz)(wH:∀ row∈rows,∀ v∈row,(∃ x,v=.lit x)\/∃ s r,v=.tree s r):aH n0 σ ⟨jH σ.env d (.tree sz rows),σ.aa.set id .gone⟩:=by
 intro os γ0 γ _ hs hf;have Ba:id<σ.aa.length:=(aV.1 ho).1
 let aA:Cx:={ γ with Z:=λb=>γ.Z b\/∃ o cap,γ.blk id=some (b,o,cap) }
 let os2:=σ.aa.set id .gone
 have jt:∀ i,os2[i]?=if i=id then some .gone else σ.aa[i]?:=by
  intro i;show(σ.aa.set id _)[i]?=_;rw[bU];by_cases h1:i=id
  ·subst h1;simp[Ba]
  ·simp[Ne.symm h1,h1]
 have hR:∀ v cv,aw σ.aa γ.w γ.Z γ.blk v cv->aw os2 aA.w aA.Z aA.blk v cv:=λv cv hv =>
  hv.mono (λb hb=>⟨.inl hb,rfl⟩) (λi o hi=>by
   rw[jt];by_cases h1:i=id
   ·left;rw[if_pos h1]
   ·rw[if_neg h1];by_cases hg:o=.gone
    ·subst hg;exact .inl hi
    ·exact .inr ⟨rfl,o,hi,Ob.jK hg⟩)
 have bS:∀ i,Live os2 i->Live σ.aa i/\i≠id:=by
  rintro i⟨o,hi,hg⟩;rw[jt]at hi;split at hi
  ·simp at hi;exact absurd hi.symm hg
  ·rename_i h2;exact⟨⟨o,hi,hg⟩,h2⟩
 have pF:Live σ.aa id:=⟨_,ho,GM⟩;have uE:=hs.ao d;rw[hd]at uE;have jG:aw os2 aA.w aA.Z aA.blk (.tree sz rows) (γ.tmps.getD d Go.undef):=by
  have dU:cQ σ (λx=>x≠id) (.tree sz rows) (.ref id sz 0 rows.length):=cQ.flat ho hw rfl GM wH;exact .cO _ _ (dU.AM hs (γc:=aA) (λb hb=>.inl hb) rfl (λx b o cap bX _ hb=>.inr ⟨o,cap,by rw[show id=x by simpa using(Decidable.not_not.1 bX).symm];exact hb⟩) _ uE)
 refine⟨aA,rfl,rfl,⟨λk=>?_,?_,λi j b o c o' c' hi hj=>hs.inj i j b o c o' c' (bS i hi).1 (bS j hj).1,?_,?_,λg=>zm (hs.gl g) λb hb=>⟨.inl hb,rfl⟩⟩,?_⟩
 ·show aw os2 aA.w aA.Z aA.blk (jH σ.env d (.tree sz rows) k) (γ.tmps.getD k Go.undef);simp only[jH];split
  ·rename_i e;subst e;exact jG
  ·exact hR _ _ (hs.ao k)
 ·intro i o hi;have ar:os2[i]?=some o:=hi;rw[jt]at ar;split at ar
  ·simp only[cA.injEq]at ar;subst ar;trivial
  ·by_cases hg:o=.gone
   ·subst hg;trivial
   ·exact(hs.dT i o ar).mono hR rfl (λ_ _ _ _=>rfl)
 ·rintro b ⟨i,o,c',hi,hb⟩ (hz|⟨o',cap,a6⟩)
  ·exact hs.nz b ⟨i,o,c',(bS i hi).1,hb⟩ hz
  ·exact(bS i hi).2 (hs.inj i id b o c' o' cap (bS i hi).1 pF hb a6)
 ·rintro b (hz|⟨o,cap,hb⟩)
  ·exact hs.gG b hz
  ·exact hs.blt pF hb
 ·refine⟨hf.lF,hf.tape,hf.output,hf.size,hf.ek,λb hb=>.inl (hf.z0 b hb),?_,?_,by show os.length<=os2.length;simp[os2];exact hf.len,?_,hf.drawn⟩
  ·rintro b (hz|⟨o,cap,hb⟩)
   ·exact hf.z1 b hz
   ·exact .inr (hf.own b ⟨id,o,cap,pF,hb⟩)
  ·rintro b ⟨i,o,c',hi,hb⟩;exact hf.own b ⟨i,o,c',(bS i hi).1,hb⟩
  ·intro i hi hl;obtain⟨h1,x,x',hx,b6,hk⟩:=hf.eA i hi (bS i hl).1;have kf:Live os2 i:=hl;obtain⟨o,dt,nR⟩:=kf;refine⟨h1,x,o,hx,dt,?_⟩;rw[jt]at dt;split at dt
   ·simp at dt;exact absurd dt.symm nR
   ·rw[b6]at dt;simp only[cA.injEq]at dt;subst dt;exact hk
def cX.mono{P:Program}{f:FuncId}{args:List AV}{aa:List Ob}{iF acp:AV->List Ob->Prop}(h:cX P f args aa iF)(hp:∀ r os,iF r os->acp r os):cX P f args aa acp:=by
 refine⟨h.1,λγ jr kC=>Calls.mono (h.2 γ jr kC) ?_⟩;rintro e w'⟨res,bn,cv,aA,h0,h1⟩;exact⟨res,bn,cv,aA,hp _ _ h0,h1⟩
end Go.Am
namespace Go.Am
variable {P:Program} {N n0:Nat} {σ:St}
end Go.Am
namespace Go.Am
variable {P:Program} {N n0:Nat} {σ:St} {Q:Exit->St->Prop}
end Go.Am
namespace Go.Am
variable {P:Program} {N n0:Nat} {σ:St} {Q:Exit->St->Prop}
def aH.al9(d:Nat)(kp:Nat->Prop){v:AV}{os2:List Ob}(hl:os2.length=σ.aa.length)(hk:∀ i o,σ.aa[i]?=some o->(kp i/\os2[i]?=some o)\/(¬ kp i/\os2[i]?=some .gone))(dU:cQ σ kp v (σ.env d)):aH n0 σ ⟨jH σ.env d v,os2⟩:=by
 intro os γ0 γ _ hs hf
 let aA:Cx:={ γ with Z:=λb=>γ.Z b\/∃ id o cap,Live σ.aa id/\¬ kp id/\γ.blk id=some (b,o,cap) }
 have BU:∀ i o,os2[i]?=some o->o≠.gone->kp i/\σ.aa[i]?=some o:=by
  intro i o hi hg;have aX:i<σ.aa.length:=by rw[<- hl];exact(aV.1 hi).1
  obtain⟨x,hx⟩:∃x,σ.aa[i]?=some x:=⟨_,bF aX⟩;rcases hk i x hx with⟨h1,h2⟩|⟨_,h2⟩
  ·rw[hi]at h2;exact⟨h1,by rw[hx,h2]⟩
  ·rw[hi]at h2;simp at h2;exact absurd h2 hg
 have hR:∀ v cv,aw σ.aa γ.w γ.Z γ.blk v cv->aw os2 aA.w aA.Z aA.blk v cv:=λv cv hv =>
  hv.mono (λb hb=>⟨.inl hb,rfl⟩) (λi o hi=>by
   rcases hk i o hi with⟨h1,h2⟩|⟨h1,h2⟩
   ·by_cases hg:o=.gone
    ·subst hg;exact .inl h2
    ·exact .inr ⟨rfl,o,h2,Ob.jK hg⟩
   ·exact .inl h2)
 have bS:∀ i,Live os2 i->Live σ.aa i/\kp i:=by
  rintro i⟨o,hi,hg⟩;obtain⟨h1,h2⟩:=BU i o hi hg;exact⟨⟨o,h2,hg⟩,h1⟩
 have jG:aw os2 aA.w aA.Z aA.blk v (γ.tmps.getD d Go.undef) :=
  .cO _ _ (dU.AM hs (γc:=aA) (λb hb=>.inl hb) rfl (λx b o cap bX ki hb=>.inr ⟨x,o,cap,ki,bX,hb⟩) _ (hs.ao d))
 refine⟨aA,rfl,rfl,⟨λk=>?_,?_,λi j b o c o' c' hi hj=>hs.inj i j b o c o' c' (bS i hi).1 (bS j hj).1,?_,?_,λg=>zm (hs.gl g) λb hb=>⟨.inl hb,rfl⟩⟩,?_⟩
 ·show aw os2 aA.w aA.Z aA.blk (jH σ.env d v k) (γ.tmps.getD k Go.undef);simp only[jH];split
  ·rename_i e;subst e;exact jG
  ·exact hR _ _ (hs.ao k)
 ·intro i o hi;have ar:os2[i]?=some o:=hi;by_cases hg:o=.gone
  ·subst hg;trivial
  ·exact(hs.dT i o (BU i o ar hg).2).mono hR rfl (λ_ _ _ _=>rfl)
 ·rintro b ⟨i,o,c',hi,hb⟩ (hz|⟨j,o',cap,hj,BV,a6⟩)
  ·exact hs.nz b ⟨i,o,c',(bS i hi).1,hb⟩ hz
  ·have:=hs.inj i j b o c' o' cap (bS i hi).1 hj hb a6;subst this;exact BV (bS i hi).2
 ·rintro b (hz|⟨j,o',cap,hj,BV,hb⟩)
  ·exact hs.gG b hz
  ·exact hs.blt hj hb
 ·refine⟨hf.lF,hf.tape,hf.output,hf.size,hf.ek,λb hb=>.inl (hf.z0 b hb),?_,?_,by show os.length<=os2.length;rw[hl];exact hf.len,?_,hf.drawn⟩
  ·rintro b (hz|⟨j,o',cap,hj,BV,hb⟩)
   ·exact hf.z1 b hz
   ·exact .inr (hf.own b ⟨j,o',cap,hj,hb⟩)
  ·rintro b ⟨i,o,c',hi,hb⟩;exact hf.own b ⟨i,o,c',(bS i hi).1,hb⟩
  ·intro i hi ki;obtain⟨h1,x,x',hx,b6,iK⟩:=hf.eA i hi (bS i ki).1;obtain⟨o,dt,nR⟩:Live os2 i:=ki;refine⟨h1,x,o,hx,dt,?_⟩;have h3:=(BU i o dt nR).2;rw[b6]at h3;simp only[cA.injEq]at h3;subst h3;exact iK
end Go.Am
namespace Go.Am
variable {P:Program} {N n0:Nat} {σ:St} {Q:Exit->St->Prop}
def aH.akZ(id c:Nat)(kp:Nat->Prop){cells:List AV}{x v:AV}{os2:List Ob}(ho:σ.aa[id]?=some (.var cells))(hc:cells[c]?=some x)(acq:kp id)(hl:os2.length=σ.aa.length)(hk:∀ i o,σ.aa[i]?=some o->(kp i/\os2[i]?=some (if i=id then .var (cells.set c v) else o))\/(¬ kp i/\os2[i]?=some .gone))(dU:cQ σ kp v x):aH n0 σ ⟨σ.env,os2⟩:=by
 intro os γ0 γ _ hs hf
 let aA:Cx:={ γ with Z:=λb=>γ.Z b\/∃ id o cap,Live σ.aa id/\¬ kp id/\γ.blk id=some (b,o,cap) }
 have O0:os2[id]?=some (.var (cells.set c v)):=by
  rcases hk id _ ho with⟨_,h2⟩|⟨h1,_⟩
  ·rw[if_pos rfl]at h2;exact h2
  ·exact absurd acq h1
 have BU:∀ i o,i≠id->os2[i]?=some o->o≠.gone->kp i/\σ.aa[i]?=some o:=by
  intro i o cy hi hg;have aX:i<σ.aa.length:=by rw[<- hl];exact(aV.1 hi).1
  obtain⟨x,hx⟩:∃x,σ.aa[i]?=some x:=⟨_,bF aX⟩;rcases hk i x hx with⟨h1,h2⟩|⟨_,h2⟩
  ·rw[if_neg cy,hi]at h2;exact⟨h1,by rw[hx,h2]⟩
  ·rw[hi]at h2;simp at h2;exact absurd h2 hg
 have hR:∀ v cv,aw σ.aa γ.w γ.Z γ.blk v cv->aw os2 aA.w aA.Z aA.blk v cv:=λv cv hv =>
  hv.mono (λb hb=>⟨.inl hb,rfl⟩) (λi o hi=>by
   by_cases cy:i=id
   ·subst cy;rw[ho]at hi;simp only[cA.injEq]at hi;subst hi;exact .inr ⟨rfl,_,O0,by simp[Ob.ej]⟩
   rcases hk i o hi with⟨h1,h2⟩|⟨h1,h2⟩
   ·rw[if_neg cy]at h2;by_cases hg:o=.gone
    ·subst hg;exact .inl h2
    ·exact .inr ⟨rfl,o,h2,Ob.jK hg⟩
   ·exact .inl h2)
 have bS:∀ i,Live os2 i->Live σ.aa i/\kp i:=by
  rintro i⟨o,hi,hg⟩;by_cases cy:i=id
  ·subst cy;exact⟨⟨_,ho,GM⟩,acq⟩
  ·obtain⟨h1,h2⟩:=BU i o cy hi hg;exact⟨⟨o,h2,hg⟩,h1⟩
 refine⟨aA,rfl,rfl,⟨λk=>hR _ _ (hs.ao k),?_,λi j b o c o' c' hi hj=>hs.inj i j b o c o' c' (bS i hi).1 (bS j hj).1,?_,?_,λg=>zm (hs.gl g) λb hb=>⟨.inl hb,rfl⟩⟩,?_⟩
 ·intro i o hi;have ar:os2[i]?=some o:=hi;by_cases cy:i=id
  ·subst cy;rw[O0]at ar;simp only[cA.injEq]at ar;subst ar;obtain⟨b,cap,cur,t,h1,h2,h3,h4⟩:=hs.dT _ _ ho;refine⟨b,cap,cur,t,h1,h2,by simpa using h3,λk v' hv=>?_⟩;rw[bU]at hv;split at hv
   ·rename_i e;subst e;split at hv
    ·simp only[cA.injEq]at hv;subst hv;exact .cO _ _ (dU.AM hs (γc:=aA) (λb hb=>.inl hb) rfl (λx b o cap bX ki hb=>.inr ⟨x,o,cap,ki,bX,hb⟩) _ (h4 c _ hc))
    ·simp at hv
   ·exact hR _ _ (h4 k v' hv)
  ·by_cases hg:o=.gone
   ·subst hg;trivial
   ·exact(hs.dT i o (BU i o cy ar hg).2).mono hR rfl (λ_ _ _ _=>rfl)
 ·rintro b ⟨i,o,c',hi,hb⟩ (hz|⟨j,o',cap,hj,BV,a6⟩)
  ·exact hs.nz b ⟨i,o,c',(bS i hi).1,hb⟩ hz
  ·have:=hs.inj i j b o c' o' cap (bS i hi).1 hj hb a6;subst this;exact BV (bS i hi).2
 ·rintro b (hz|⟨j,o',cap,hj,BV,hb⟩)
  ·exact hs.gG b hz
  ·exact hs.blt hj hb
 ·refine⟨hf.lF,hf.tape,hf.output,hf.size,hf.ek,λb hb=>.inl (hf.z0 b hb),?_,?_,by show os.length<=os2.length;rw[hl];exact hf.len,?_,hf.drawn⟩
  ·rintro b (hz|⟨j,o',cap,hj,BV,hb⟩)
   ·exact hf.z1 b hz
   ·exact .inr (hf.own b ⟨j,o',cap,hj,hb⟩)
  ·rintro b ⟨i,o,c',hi,hb⟩;exact hf.own b ⟨i,o,c',(bS i hi).1,hb⟩
  ·intro i hi ki;obtain⟨h1,x,x',hx,b6,iK⟩:=hf.eA i hi (bS i ki).1;obtain⟨o,dt,nR⟩:Live os2 i:=ki;refine⟨h1,x,o,hx,dt,?_⟩;by_cases cy:i=id
   ·subst cy;rw[ho]at b6;rw[O0]at dt;simp only[cA.injEq]at b6 dt;subst b6;subst dt;exact Ob.HF iK (by simp[Ob.ej])
   ·have h3:=(BU i o cy dt nR).2;rw[b6]at h3;simp only[cA.injEq]at h3;subst h3;exact iK
end Go.Am
namespace Go.Am
variable {P:Program} {N n0:Nat} {σ:St}
def rW(ps:List Nat):AV->Prop
 |.ptr id _ _=>id∈ps
 |.ref id _ _ _=>id∈ps
 |.dD id=>id∈ps
 |_=>True
def xJ(ps:List Nat)(σ:St):List Operand->Prop
 |[]=>True
 |x::l=>rW ps (ev σ x)/\xJ ps σ l
def iZ(ps:List Nat)(q:Bool)(o:Oper)(σ:St):Prop:=(q||cls o.op==0||decide (3<=cls o.op))=true\/xJ ps σ o.op.operands.toList
def acr{ps:List Nat}:∀ {l:List Operand},xJ ps σ l->∀ x∈l,∀ id,pC (ev σ x)=some id->id∈ps
 |[],_,x,hx=>by simp at hx
 |y::l,h,x,hx=>by
  rcases bw.1 hx with rfl|hx
  ·intro id e;have h1:=h.1;cases hv:ev σ x<;>rw[hv]at e h1<;>simp[pC,rW]at e h1;all_goals subst e;exact h1
  ·exact acr h.2 x hx
def O1{ps:List Nat}{σ2:St}:∀ {l:List Operand},(∀ x∈l,ev σ2 x=ev σ x)->xJ ps σ2 l=xJ ps σ l
 |[],_=>rfl
 |y::l,h=>by
  simp only[xJ];rw[h y GM,O1 λx hx=>h x (by simp[hx])]
def xK(ps:List Nat)(P:Program)(o:Oper)(K:St->Prop)(σ:St):Prop :=
 match o.op with
 |.call { callee:=.builtin .append,args,.. } =>
  match args.toList with
  |[s,_]=>(∀ id,pC (ev σ s)=some id->id ∉ ps)/\(∀ id∈ps,id<σ.aa.length)/\cd P o σ K
  |_=>False
 |_=>False
def amb{ps:List Nat}{o:Oper}{K:St->Prop}(h:xK ps P o K σ):aL P o σ K:=by
 unfold xK at h;unfold aL;split at h
 ·rename_i args cC cM;split at h
  ·simp only[cM];exact h.2.2
  ·exact h.elim
 ·exact h.elim
def amc{ps:List Nat}{o:Oper}{K:St->Prop}(h:xK ps P o K σ):
  ∃ v os,(∀ id∈ps,os[id]?=σ.aa[id]?)/\K ((⟨σ.env,os⟩:St).put o.dst v)/\∀ (e2:Nat->AV) (K2:St->Prop),(∀ x∈o.op.operands.toList,ev ⟨e2,σ.aa⟩ x=ev σ x)->K2 ((⟨e2,os⟩:St).put o.dst v)->xK ps P o K2 ⟨e2,σ.aa⟩:=by
 obtain⟨dst,op,type,pos,after,guard⟩:=o;unfold xK at h;dsimp only at h;split at h
 ·rename_i args cC;split at h
  ·rename_i s x JQ;obtain⟨h1,h2,hW⟩:=h;unfold cd at hW;simp only at hW;(repeat' split at hW)<;>try exact hW.elim
   rename_i s' x' t t' b6 ka _ _ _ _ z pre σ1 sz src hk hz nW rm;obtain⟨rfl,rfl⟩:s=s'/\x=x':=by rw[JQ]at b6;simpa using b6
   have uc:σ1=⟨σ.env,σ1.aa⟩/\∀ e,lW ⟨e,σ.aa⟩ (ty P (ty P t).elem).size (ev σ s)=some (pre,⟨e,σ1.aa⟩):=by
    unfold lW at nW ⊢;(repeat' split at nW)<;>simp_all
    all_goals obtain⟨rfl,rfl⟩:=nW;simp
   have eG:σ1.aa=σ.aa\/∃ px,ev σ s=.ref px (ty P (ty P t).elem).size 0 0/\False\/(pC (ev σ s)=some px/\σ1.aa=σ.aa.set px .gone):=by
    clear b6 JQ hW rm uc h2;unfold lW at nW;split at nW
    ·left;cases nW;rfl
    ·rename_i px _ _ _ he;split at nW
     ·split at nW
      ·cases nW;exact .inr ⟨px,.inr ⟨by rw[he];rfl,rfl⟩⟩
      ·cases nW
     ·cases nW
    ·cases nW
   have K7:∀ id∈ps,σ1.aa[id]?=σ.aa[id]?:=λid bX=>by
    rcases eG with e|⟨px,⟨_,h⟩|⟨e,e2⟩⟩
    ·rw[e]
    ·exact h.elim
    ·rw[e2,bU,if_neg];intro e3;subst e3;exact h1 _ e bX
   have hlen:σ1.aa.length=σ.aa.length:=by
    rcases eG with e|⟨px,⟨_,h⟩|⟨e,e2⟩⟩
    ·rw[e]
    ·exact h.elim
    ·rw[e2,List.length_set]
   refine⟨_,σ1.aa++[.arr sz (pre++src)],λid bX=>?_,by have:=hW.2;rw[uc.1]at this;exact this,λe2 K2 hx ed=>?_⟩
   ·rw[List.getElem?_append_left (by rw[hlen];exact h2 id bX)];exact K7 id bX
   ·have kC:oJ ⟨e2,σ.aa⟩ (ev σ x)=some (sz,src):=rm;simp[Op.operands,Call.operands,JQ]at hx;unfold xK;simp only[JQ];refine⟨λid he=>h1 id (by rw[<- hx.1];exact he),h2,?_⟩;unfold cd;simp only[b6,ka,hx.1,hx.2,hk,hz,uc.2,kC];exact⟨hW.1,ed⟩
  ·exact h.elim
 ·exact h.elim
def lz(P:Program)(ops:Array Oper)(ps:List Nat)(q dc:Bool)(o:Oper)(K:St->Prop)(σ:St):Prop :=
 match dc with
 |true=>o.guard=none/\xK ps P o K σ
 |false=>iZ ps q o σ/\er P ops q o K σ
def Gg(ps:List Nat)(c:Nat)(a b:List Ob):Prop:=if c=6 then ∀ id∈ps,b[id]?=a[id]? else k0 c a b
def amd{N:Nat}{os:List Ob}{γ0:Cx}{ops:Array Oper}{ps:List Nat}(hd:∀ o∈ops.toList,∀ d,o.dst=some d->d<N){q dc:Bool}{i:Nat}{o:Oper}(hi:ops[i]?=some o){σ:St}{K:St->Prop}(h:lz P ops ps q dc o K σ){a:Act}{w:World}(ax:fX N os γ0 σ a w){Q:Exit->Act->World->Prop}{next:Act->World->Prop}(hn:∀ σ' a' w',K σ'->fX N os γ0 σ' a' w'->next a' w'):wpOp P ops Q i next a w:=by
 cases dc with
 |false=>exact KD hd hi h.2 ax hn
 |true =>
  have bR:o∈ops.toList:=List.mem_of_getElem? (by simpa using hi);unfold wpOp;simp only[hi];have hw:Region.wanted o (yielded ops a.tmps)=true:=by simp[Region.wanted,h.1]
  rw[if_pos hw];left;exact xX (amb h.2) ax (hd o bR) hn
def JR{ops:Array Oper}{ps:List Nat}{q dc:Bool}{o:Oper}{σ:St}{K:St->Prop}(hW:lz P ops ps q dc o K σ):
  ∃ v os,Gg ps (cZ q dc o) σ.aa os/\K ((⟨σ.env,os⟩:St).put o.dst v)/\∀ (e2:Nat->AV) (K2:St->Prop),(∀ t∈o.looksAt ops,e2 t=σ.env t)->K2 ((⟨e2,os⟩:St).put o.dst v)->lz P ops ps q dc o K2 ⟨e2,σ.aa⟩:=by
 cases dc with
 |false =>
  obtain⟨hc,hW⟩:=hW;obtain⟨v,os,h1,h2,h3⟩:=Cn hW;refine⟨v,os,?_,h2,λe2 K2 hl hK=>⟨?_,h3 e2 K2 hl hK⟩⟩
  ·unfold Gg cZ;simp only[Bool.false_eq_true,if_false];rw[if_neg]
   ·exact h1
   ·unfold e9;split
    ·omega
    ·unfold cls;split<;>omega
  ·unfold iZ at hc ⊢;rw[O1 (σ:=σ) (tR hl)];exact hc
 |true =>
  obtain⟨hg,hW⟩:=hW;obtain⟨v,os,h1,h2,h3⟩:=amc hW;exact⟨v,os,by unfold Gg cZ;simp only[if_true];exact h1,h2,λe2 K2 hl hK=>⟨hg,h3 e2 K2 (tR (os:=σ.aa) hl) hK⟩⟩
def acs{ops:Array Oper}{ps:List Nat}{q dc:Bool}{o:Oper}{σ:St}{K:St->Prop}(hc:cZ q dc o<=2)(hW:lz P ops ps q dc o K σ):
  ∃ v,K (σ.put o.dst v)/\∀ (σ2:St) (K2:St->Prop),(∀ t∈o.looksAt ops,σ2.env t=σ.env t)->(∀ (id:Nat),id∈ps->im (cZ q dc o) σ.aa[id]? σ2.aa[id]?)->K2 (σ2.put o.dst v)->lz P ops ps q dc o K2 σ2:=by
 cases dc with
 |true=>simp[cZ]at hc
 |false =>
  obtain⟨hk,hW⟩:=hW;have fY:e9 q o<=2:=by simpa [cZ] using hc
  obtain⟨v,h1,h2⟩:=WQ fY hW;refine⟨v,h1,λσ2 K2 hl ho hK=>⟨?_,h2 σ2 K2 hl (λx hx id hp=>?_) hK⟩⟩
  ·unfold iZ at hk ⊢;rw[O1 (σ:=σ) (tR (e2:=σ2.env) (os:=σ2.aa) hl)];exact hk
  ·have cm:∀ id,id∈ps->im (e9 q o) σ.aa[id]? σ2.aa[id]?:=by simpa [cZ] using ho
   by_cases h0:e9 q o=0
   ·rw[h0];simp[im]
   ·refine cm id ?_;unfold e9 at h0 fY;split at h0
    ·omega
    ·rename_i hq;simp only[hq]at fY;have xn:q=false:=by simpa using hq
     subst xn;unfold iZ at hk;have zy:cls o.op<=2:=by simpa using fY
     have h3:decide (3<=cls o.op)=false:=decide_eq_false GK;have h4:(cls o.op==0)=false:=by simpa using h0
     rw[h3,h4]at hk;rcases hk with hk|hk
     ·simp at hk
     ·exact acr hk x hx id hp
def ame{ps:List Nat}{ci ck:Nat}(h:(ci==0||(ci==1&&decide (ck<=4))||(ci==2&&decide (ck<=3))||(decide (ci<=2)&&ck==6))=true){a b:List Ob}(he:Gg ps ck a b)(id:Nat)(bX:id∈ps):im ci a[id]? b[id]?:=by
 unfold Gg at he;split at he
 ·rename_i h6;subst h6;rw[he id bX];unfold im;split
  ·trivial
  ·split
   ·intro o ho;exact⟨o,ho,zi o⟩
   ·intro o ho;exact ho
 ·rename_i h6;refine KF ?_ he id;have:(ck==6)=false:=by simpa using h6
  rw[this]at h;simpa using h
def amf{ops:Array Oper}{ps:List Nat}{qi qk di dk:Bool}{oi ok:Oper}(ha:oi.apart ops ok=true)(hi:cZ qi di oi<=2)(hc:(cZ qi di oi==0||(cZ qi di oi==1&&decide (cZ qk dk ok<=4))||(cZ qi di oi==2&&decide (cZ qk dk ok<=3))||(decide (cZ qi di oi<=2)&&cZ qk dk ok==6))=true){σ:St}{K:St->Prop}(h:lz P ops ps qi di oi (lz P ops ps qk dk ok K) σ):lz P ops ps qk dk ok (lz P ops ps qi di oi K) σ:=by
 obtain⟨a1,a2,a3⟩:=Oper.apart_spec ha;obtain⟨v,h1,run⟩:=acs hi h;obtain⟨vk,os,vf,h2,zj⟩:=JR h1;rw[Cp]at vf zj;refine zj σ.env _ (λt ht=>(tS λd hd e=>a1 d hd (e▸ht)).symm) ?_;refine run _ _ (λt ht=>?_) (λid bX=>?_) ?_
 ·rw[tS λd hd e=>a3 d hd (e▸ht)]
 ·rw[Cp];exact ame hc vf id bX
 ·rw[Cq]at h2;rw[Co (λd hd e=>a2 d e hd)];exact h2
def amg{ops:Array Oper}{ps:List Nat}{qi qk di dk:Bool}{oi ok:Oper}(ha:oi.apart ops ok=true)(hk:cZ qk dk ok=0){σ:St}{K:St->Prop}(h:lz P ops ps qi di oi (lz P ops ps qk dk ok K) σ):lz P ops ps qk dk ok (lz P ops ps qi di oi K) σ:=by
 obtain⟨a1,a2,a3⟩:=Oper.apart_spec ha;obtain⟨vi,os,vf,h1,run⟩:=JR h;obtain⟨vk,h2,D7⟩:=acs GK h1;refine D7 σ _ (λt ht=>(tS (σ:=⟨σ.env,os⟩) λd hd e=>a1 d hd (e▸ht)).symm) (λid _=>by rw[hk];simp[im]) ?_;rw[KE];refine run _ _ (λt ht=>tS λd hd e=>a3 d hd (e▸ht)) ?_;rw[Cq,Co (λd hd e=>a2 d e hd)];exact h2
def amh{ops:Array Oper}{ps:List Nat}{qi qk di dk:Bool}{oi ok:Oper}(ha:oi.apart ops ok=true)(hc:Bx (cZ qi di oi) (cZ qk dk ok)=true){σ:St}{K:St->Prop}(h:lz P ops ps qi di oi (lz P ops ps qk dk ok K) σ):lz P ops ps qk dk ok (lz P ops ps qi di oi K) σ:=by
 by_cases hk:cZ qk dk ok=0
 ·exact amg ha hk h
 ·have fY:(cZ qi di oi==0||(cZ qi di oi==1&&decide (cZ qk dk ok<=4))||(cZ qi di oi==2&&decide (cZ qk dk ok<=3))||(decide (cZ qi di oi<=2)&&cZ qk dk ok==6))=true:=by
   simp only[Bx,AF,lD,bb,beq_iff_eq,decide_eq_true_eq]at hc ⊢;rcases hc with(((h|h)|h)|h)|h
   ·exact .inl (.inl (.inl h))
   ·exact absurd h hk
   ·exact .inl (.inl (.inr h))
   ·exact .inl (.inr h)
   ·exact .inr h
  refine amf ha ?_ fY h;simp only[lD,bb,beq_iff_eq,decide_eq_true_eq]at fY;omega
def jy(P:Program)(ops:Array Oper)(ps:List Nat)(qs ds:List Nat)(i:Nat)(K:St->Prop)(σ:St):Prop :=
 match ops[i]? with
 |none=>K σ
 |some o=>lz P ops ps (qs.contains i) (ds.contains i) o K σ
def xL(P:Program)(ops:Array Oper)(ps:List Nat)(qs ds:List Nat)(K:St->Prop):Nat->Array Bool->St->Prop
 |0,aG,σ=>Region.ready .any ops aG=[]/\K σ
 |n+1,aG,σ=>(Region.ready .any ops aG=[]->K σ)/\∀ i∈Region.ready .any ops aG,jy P ops ps qs ds i (xL P ops ps qs ds K n (aG.setIfInBounds i true)) σ
def ami{ops:Array Oper}{ps:List Nat}{q dc:Bool}{o:Oper}{σ:St}{K K2:St->Prop}(hk:∀ s,K s->K2 s)(h:lz P ops ps q dc o K σ):lz P ops ps q dc o K2 σ:=by
 obtain⟨v,os,_,h2,run⟩:=JR h;exact run σ.env K2 (λ_ _=>rfl) (hk _ h2)
def amj{ops:Array Oper}{ps:List Nat}{q dc:Bool}{o:Oper}{σ:St}{K:St->Prop}(h:lz P ops ps q dc o K σ):∃s,K s:=by
 obtain⟨v,os,_,h2,run⟩:=JR h;exact⟨_,h2⟩
def Ai{ops:Array Oper}{ps:List Nat}{qs ds:List Nat}{i:Nat}{σ:St}{K K2:St->Prop}(hk:∀ s,K s->K2 s)(h:jy P ops ps qs ds i K σ):jy P ops ps qs ds i K2 σ:=by
 unfold jy at h ⊢;split at h
 ·exact hk _ h
 ·exact ami hk h
def amk{ops:Array Oper}{ps:List Nat}{qs ds:List Nat}{i:Nat}{σ:St}{K:St->Prop}(h:jy P ops ps qs ds i K σ):∃s,K s:=by
 unfold jy at h;split at h
 ·exact⟨_,h⟩
 ·exact amj h
def O2{os:List Ob}{γ0:Cx}{ops:Array Oper}{ps:List Nat}{qs ds:List Nat}(hd:∀ o∈ops.toList,∀ d,o.dst=some d->d<N){K:St->Prop}{Q:Exit->Act->World->Prop}(hQ:∀ σ' a' w',K σ'->fX N os γ0 σ' a' w'->Q .normal a' w'):∀ (n:Nat) (aG:Array Bool) (σ:St) (a:Act) (w:World),xL P ops ps qs ds K n aG σ->fX N os γ0 σ a w->wpAny P .any ops Q n aG a w
 |0,aG,σ,a,w,h,ax=>⟨h.1,hQ _ _ _ h.2 ax⟩
 |n+1,aG,σ,a,w,h,ax=>by
  refine⟨λhr=>hQ _ _ _ (h.1 hr) ax,λi hi=>?_⟩;have:=h.2 i hi;unfold jy at this;split at this
  ·rename_i ar;unfold wpOp;simp only[ar];exact O2 hd hQ n _ _ _ _ this ax
  ·rename_i o ar;exact amd hd ar this ax λσ' a' w' hK cW=>O2 hd hQ n _ _ _ _ hK cW
def aml{id:Nat}{ops:Array Oper}{Q:Exit->St->Prop}(ps:List Nat)(qs ds:List Nat)(hm:P.follows .mixedOrders=true)(hd:fq N ops=true)(h:xL P ops ps qs ds (Q .normal) ops.size (wz ops.size false) σ):W P N n0 (.region id ops true) Q σ:=by
 intro os γ0 a w _ ax;refine wp_region_any hm ?_;exact O2 (oL hd) (K:=Q .normal) (λσ' a' w' hK cW=>⟨σ',hK,cW⟩) _ _ _ _ _ h ax.drawn
def amm{ops:Array Oper}{ps:List Nat}{qs ds:List Nat}{K:St->Prop}{i:Nat}{o:Oper}(hi:ops[i]?=some o)(D:List Nat)(Rt:i∈D)(hD:∀ j∈D,j=i\/∃ oj,ops[j]?=some oj/\∃ e∈oj.after,Region.binds .any e=true/\e.on∈D):∀ (fuel:Nat) (aG:Array Bool) (σ:St),(∀ j∈D,aG.getD j true=false) ->
   i∈Region.ready .any ops aG ->
   (∀ j oj,ops[j]?=some oj->aG.getD j true=false->j ∉ D->o.apart ops oj=true/\Bx (cZ (qs.contains i) (ds.contains i) o) (cZ (qs.contains j) (ds.contains j) oj)=true) ->
   jy P ops ps qs ds i (xL P ops ps qs ds K fuel (aG.setIfInBounds i true)) σ->xL P ops ps qs ds K (fuel+1) aG σ:=by
 intro fuel
 induction fuel with
 |zero =>
  intro aG σ hu hr k8 h;refine⟨λe=>by rw[e]at hr;simp at hr,λk hk=>?_⟩;by_cases fD:k=i
  ·subst fD;exact h
  ·obtain⟨s,hs⟩:=amk h;have:=ready_mono hk fD;rw[hs.1]at this;simp at this
 |succ m ih =>
  intro aG σ hu hr k8 h;refine⟨λe=>by rw[e]at hr;simp at hr,λk hk=>?_⟩;by_cases fD:k=i
  ·subst fD;exact h
  ·have AG:=mem_ready.1 hk;obtain⟨eG,ok,ax,ec⟩:=AG;have q6:k ∉ D:=by
    intro q6;rcases hD k q6 with e|⟨oj,iq,e,he,hb,pj⟩
    ·exact fD e
    ·rw[ax]at iq;simp only[cA.injEq]at iq;subst iq;have h1:=ec e he hb;have h2:=hu e.on pj;rw[Array.getD_eq_getD_getElem?]at h1 h2;cases hx:aG[e.on]? with
     |none=>rw[hx]at h1;simp at h1
     |some b=>rw[hx]at h1 h2;simp at h1 h2;rw[h1]at h2;simp at h2
   obtain⟨ha,hc⟩:=k8 k ok ax eG q6;have h1:jy P ops ps qs ds i (jy P ops ps qs ds k (xL P ops ps qs ds K m ((aG.setIfInBounds i true).setIfInBounds k true))) σ :=
    Ai (λs hs=>hs.2 k (ready_mono hk fD)) h
   have h2:jy P ops ps qs ds k (jy P ops ps qs ds i (xL P ops ps qs ds K m ((aG.setIfInBounds i true).setIfInBounds k true))) σ:=by
    unfold jy at h1 ⊢;simp only[hi,ax]at h1 ⊢;exact amh ha hc h1
   refine Ai (λs hs=>?_) h2;refine ih (aG.setIfInBounds k true) s (λj hj=>?_) (ready_mono hr (Ne.symm fD)) (λj oj iq hl pk=>?_) ?_
   ·have cy:k≠j:=λe=>q6 (by rw[e];exact hj);rw[getD_set_ne _ cy];exact hu j hj
   ·refine k8 j oj iq ?_ pk;by_cases zl:k=j
    ·subst zl;exact eG
    ·rwa [getD_set_ne _ zl]at hl
   ·rw[Array.setIfInBounds_comm _ _ (Ne.symm fD)]at hs;exact hs
def amn{ops:Array Oper}{ps:List Nat}{qs ds:List Nat}{K:St->Prop}{i:Nat}{D:List Nat}{fuel:Nat}{aG:Array Bool}(h:Ff ops qs ds aG i D=true)(hs:jy P ops ps qs ds i (xL P ops ps qs ds K fuel (aG.setIfInBounds i true)) σ):xL P ops ps qs ds K (fuel+1) aG σ:=by
 unfold Ff at h;cases hi:ops[i]? with
 |none=>simp[hi]at h
 |some o =>
  simp only[hi,bb,List.all_eq_true,sq,lD,beq_iff_eq,Bool.not_eq_true']at h;obtain⟨⟨⟨⟨h1,h2⟩,h3⟩,h4⟩,h5⟩:=h;refine amm hi D h1 (λj hj=>?_) fuel aG σ h3 ?_ ?_ hs
  ·rcases h2 j hj with h|h
   ·exact .inl h
   ·right;split at h
    ·rename_i oj iq;rw[Array.any_eq_true']at h;obtain⟨e,he,hb⟩:=h;simp only[bb,sq]at hb;exact⟨oj,iq,e,he,hb.1,hb.2⟩
    ·simp at h
  ·rw[mem_ready];refine⟨h3 i h1,o,hi,λe he hb=>?_⟩;rw[Array.all_eq_true']at h4;have:=h4 e he;simpa [hb] using this
  ·intro j oj iq hl pk;have hj:j<ops.size:=(Array.getElem?_eq_some_iff.1 iq).1;rcases h5 j (List.mem_range.2 hj) with(h|h)|h
   ·exact absurd h pk
   ·rw[hl]at h;simp at h
   ·simpa [iq] using h
def oD(P:Program)(ops:Array Oper)(ps:List Nat)(qs ds:List Nat):PT->(St->Prop)->St->Prop
 |.nil,K,σ=>K σ
 |.take i t,K,σ=>jy P ops ps qs ds i (oD P ops ps qs ds t K) σ
 |.both i t j u,K,σ=>jy P ops ps qs ds i (oD P ops ps qs ds t K) σ/\jy P ops ps qs ds j (oD P ops ps qs ds u K) σ
 |.three i t j u k v,K,σ=>jy P ops ps qs ds i (oD P ops ps qs ds t K) σ/\jy P ops ps qs ds j (oD P ops ps qs ds u K) σ/\jy P ops ps qs ds k (oD P ops ps qs ds v K) σ
def BX{ops:Array Oper}{ps:List Nat}{qs ds:List Nat}{K:St->Prop}:∀ (t:PT) (n:Nat) (aG:Array Bool) (σ:St),t.kR ops qs ds n aG=true->oD P ops ps qs ds t K σ->xL P ops ps qs ds K n aG σ
 |.nil,n,aG,σ,h,hp=>by
  simp only[PT.kR,bb,beq_iff_eq,List.isEmpty_iff]at h;obtain⟨rfl,h⟩:=h;exact⟨h,hp⟩
 |.take _ _,0,_,_,h,_=>by simp[PT.kR]at h
 |.take i t,n+1,aG,σ,h,hp=>by
  simp only[PT.kR,bb]at h;exact amn h.1 (Ai (λs hs=>BX t n _ s h.2 hs) hp)
 |.both _ _ _ _,0,_,_,h,_=>by simp[PT.kR]at h
 |.both i t j u,n+1,aG,σ,h,hp=>by
  simp only[PT.kR,bb,beq_iff_eq]at h;obtain⟨⟨h1,h2⟩,h3⟩:=h;refine⟨λe=>by rw[h1]at e;simp at e,λk hk=>?_⟩;rw[h1]at hk;simp only[bw,iM,or_false]at hk;rcases hk with rfl|rfl
  ·exact Ai (λs hs=>BX t n _ s h2 hs) hp.1
  ·exact Ai (λs hs=>BX u n _ s h3 hs) hp.2
 |.three _ _ _ _ _ _,0,_,_,h,_=>by simp[PT.kR]at h
 |.three i t j u k v,n+1,aG,σ,h,hp=>by
  simp only[PT.kR,bb,beq_iff_eq]at h;obtain⟨⟨⟨h1,h2⟩,h3⟩,h4⟩:=h;refine⟨λe=>by rw[h1]at e;simp at e,λx hk=>?_⟩;rw[h1]at hk;simp only[bw,iM,or_false]at hk;rcases hk with rfl|rfl|rfl
  ·exact Ai (λs hs=>BX t n _ s h2 hs) hp.1
  ·exact Ai (λs hs=>BX u n _ s h3 hs) hp.2.1
  ·exact Ai (λs hs=>BX v n _ s h4 hs) hp.2.2
def abE{id:Nat}{ops:Array Oper}{Q:Exit->St->Prop}(ps:List Nat)(qs ds:List Nat)(t:PT)(hm:P.follows .mixedOrders=true)(hd:fq N ops=true)(ht:t.kR ops qs ds ops.size (wz ops.size false)=true)(h:oD P ops ps qs ds t (Q .normal) σ):W P N n0 (.region id ops true) Q σ :=
 aml ps qs ds hm hd (BX t _ _ σ ht h)
def acu{ops:Array Oper}{ps:List Nat}{qs ds:List Nat}{K:St->Prop}:oD P ops ps qs ds .nil K σ=K σ:=rfl
def acv{ops:Array Oper}{ps:List Nat}{qs ds:List Nat}{i:Nat}{t:PT}{K:St->Prop}:oD P ops ps qs ds (.take i t) K σ=jy P ops ps qs ds i (oD P ops ps qs ds t K) σ:=rfl
def acw{ops:Array Oper}{ps:List Nat}{qs ds:List Nat}{i j k:Nat}{t u v:PT}{K:St->Prop}:oD P ops ps qs ds (.three i t j u k v) K σ=(jy P ops ps qs ds i (oD P ops ps qs ds t K) σ/\jy P ops ps qs ds j (oD P ops ps qs ds u K) σ/\jy P ops ps qs ds k (oD P ops ps qs ds v K) σ):=rfl
def acx{ops:Array Oper}{ps:List Nat}{qs ds:List Nat}{i j:Nat}{t u:PT}{K:St->Prop}:oD P ops ps qs ds (.both i t j u) K σ=(jy P ops ps qs ds i (oD P ops ps qs ds t K) σ/\jy P ops ps qs ds j (oD P ops ps qs ds u K) σ):=rfl
def acy{ops:Array Oper}{ps:List Nat}{q:Bool}{o:Oper}{K:St->Prop}:lz P ops ps q true o K σ=(o.guard=none/\xK ps P o K σ):=rfl
def acz{ops:Array Oper}{ps:List Nat}{q:Bool}{o:Oper}{K:St->Prop}:lz P ops ps q false o K σ=(iZ ps q o σ/\er P ops q o K σ):=rfl
section
variable {dst:Option Tmp} {tt:TypeId} {p:String} {af:Array Edge} {g:Option (Nat×Bool)} {K:St->Prop} {ps:List Nat}
def BK(ps:List Nat)(v:AV):Prop:=∀ id,pC v=some id->id ∉ ps
def OW(v:Value):BK ps (.lit v)=True:=eq_true λid h=>by cases h
def OX(id a b c:Nat):BK ps (.ref id a b c)=(id ∉ ps):=propext ⟨λh=>h id rfl,λh i e=>by cases e;exact h⟩
def acA(s x:Operand)(cC:Array TypeId):xK ps P ⟨dst,.call ⟨.builtin .append,#[s,x],cC⟩,tt,p,af,g⟩ K σ=(BK ps (ev σ s)/\(∀ id∈ps,id<σ.aa.length)/\aL P ⟨dst,.call ⟨.builtin .append,#[s,x],cC⟩,tt,p,af,g⟩ σ K):=by
 simp only[xK,aL,BK]
def acB{o:Oper}:iZ ps true o σ=True:=by simp[iZ]
def yR{o:Oper}(h:(cls o.op==0||decide (3<=cls o.op))=true):iZ ps false o σ=True:=eq_true (.inl (by simpa using h))
def acC(t:TypeId)(a:Operand):iZ ps false ⟨dst,.load t a,tt,p,af,g⟩ σ=rW ps (ev σ a):=by simp[iZ,cls,Op.operands,xJ]
def acD(t:TypeId)(a i:Operand):iZ ps false ⟨dst,.indexAddr t a i,tt,p,af,g⟩ σ=(rW ps (ev σ a)/\rW ps (ev σ i)):=by simp[iZ,cls,Op.operands,xJ]
def acE(a:Operand):iZ ps false ⟨dst,.nilCheck a,tt,p,af,g⟩ σ=rW ps (ev σ a):=by simp[iZ,cls,Op.operands,xJ]
def acF(t:TypeId)(a:Operand)(f:Nat):iZ ps false ⟨dst,.fieldAddr t a f,tt,p,af,g⟩ σ=rW ps (ev σ a):=by simp[iZ,cls,Op.operands,xJ]
def acG(x:Operand):iZ ps false ⟨dst,.move x,tt,p,af,g⟩ σ=True:=yR P8
def acH(x:Operand):iZ ps false ⟨dst,.assign x,tt,p,af,g⟩ σ=True:=yR P8
def acI(c a b:Operand):iZ ps false ⟨dst,.pick c a b,tt,p,af,g⟩ σ=True:=yR P8
def acJ(op:BinOp)(t:TypeId)(x y:Operand)(yt:TypeId):iZ ps false ⟨dst,.binOp op t x y yt,tt,p,af,g⟩ σ=True:=yR P8
def acK(t:TypeId)(parts:Array (Nat×Operand)):iZ ps false ⟨dst,.build t parts,tt,p,af,g⟩ σ=True:=yR P8
def acL(e:TypeId):iZ ps false ⟨dst,.alloc e,tt,p,af,g⟩ σ=True:=yR P8
def acM(t:TypeId)(len:Nat)(parts:Array (Nat×Operand)):iZ ps false ⟨dst,.buildSlice t len parts,tt,p,af,g⟩ σ=True:=yR P8
def acN(t:TypeId)(a x:Operand):iZ ps false ⟨dst,.store t a x,tt,p,af,g⟩ σ=True:=yR P8
def acO(f:Operand)(args:Array Operand)(cC:Array TypeId):iZ ps false ⟨dst,.call ⟨.value f,args,cC⟩,tt,p,af,g⟩ σ=True:=yR P8
def acP(id r c:Nat):rW ps (.ptr id r c)=(id∈ps):=rfl
def acQ(id a b c:Nat):rW ps (.ref id a b c)=(id∈ps):=rfl
def acR(v:Value):rW ps (.lit v)=True:=rfl
def acS(s:Nat)(r:List (List AV)):rW ps (.tree s r)=True:=rfl
def acT(r:List AV):rW ps (.cB r)=True:=rfl
def acU(r:List AV):rW ps (.agg r)=True:=rfl
def acV(r:List AV):rW ps (.bD r)=True:=rfl
end
def Ra:=aaP @acu @acv @acw @acx @acy @acz @OW (aaP @OX @acA @acB @acC @acD @acE @acF (aaP @acG @acH @acI @acJ @acK @acL @acM (aaP @acN @acO @acP @acQ @acR @acS @acT (aac @acU @acV))))
def Js{x:Code}{Q:Exit->St->Prop}(R:St->Prop)(h1:∀ s,R s->Q .normal s)(h2:∀ Q':Exit->St->Prop,(∀ s,R s->Q' .normal s)->W P N n0 x Q' σ):W P N n0 x Q σ:=h2 Q h1
end Go.Am

