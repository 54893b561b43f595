import Derived.Test.YtfoopmojjjpapaaGreatX14
set_option linter.all false
set_option maxHeartbeats 0
set_option maxRecDepth 20000
open List renaming getElem?_eq_some_iff→aT,getElem?_set→bU,getElem?_eq_getElem→bS,mem_cons→a8,contains_iff_mem→uX,not_mem_nil→iJ
open Option renaming some→cy
open Bool renaming or_eq_true→kL,and_eq_true→a7
open Array renaming replicate→uW
namespace Go.Am
variable {P:Program} {N n0:Nat} {σ:St}
def aH.US(d id sz:Nat){rows:List (List AV)}(ho:σ.aa[id]?=some (.arr sz rows))(hd:σ.env d=.ref id sz 0 rows.length)(hw:∀ row∈rows,row.length=sz)(u9:∀ row∈rows,∀ v∈row,(∃ x,v=.lit x)\/∃ s r,v=.tree s r):aH n0 σ ⟨jn σ.env d (.tree sz rows),σ.aa.set id .gone⟩:=by
 intro os γ0 γ _ hs hf;have zK:id<σ.aa.length:=(aT.1 ho).1
 let aB:Cx:={ γ with Z:=λb=>γ.Z b\/∃ o cap,γ.blk id=some (b,o,cap) }
 let os2:=σ.aa.set id .gone
 have gw:∀ i,os2[i]?=if i=id then some .gone else σ.aa[i]?:=by
  intro i;show(σ.aa.set id _)[i]?=_;rw[bU];by_cases h1:i=id
  ·subst h1;simp[zK]
  ·simp[Ne.symm h1,h1]
 have hR:∀ v cv,aw σ.aa γ.w γ.Z γ.blk v cv->aw os2 aB.w aB.Z aB.blk v cv:=λv cv hv =>
  hv.mono (λb hb=>⟨.inl hb,rfl⟩) (λi o hi=>by
   rw[gw];by_cases h1:i=id
   ·left;rw[if_pos h1]
   ·rw[if_neg h1];by_cases hg:o=.gone
    ·subst hg;exact .inl hi
    ·exact .inr ⟨rfl,o,hi,Ob.jr hg⟩)
 have bO:∀ i,Live os2 i->Live σ.aa i/\i≠id:=by
  rintro i⟨o,hi,hg⟩;rw[gw]at hi;split at hi
  ·simp at hi;exact absurd hi.symm hg
  ·rename_i h2;exact⟨⟨o,hi,hg⟩,h2⟩
 have ox:Live σ.aa id:=⟨_,ho,Fl⟩;have th:=hs.ar d;rw[hd]at th;have jm:aw os2 aB.w aB.Z aB.blk (.tree sz rows) (γ.tmps.getD d Go.undef):=by
  have cX:dU σ (λx=>x≠id) (.tree sz rows) (.ref id sz 0 rows.length):=dU.flat ho hw rfl Fl u9;exact .cJ _ _ (cX.zl hs (γc:=aB) (λb hb=>.inl hb) rfl (λx b o cap bV _ hb=>.inr ⟨o,cap,by rw[show id=x by simpa using(Decidable.not_not.1 bV).symm];exact hb⟩) _ th)
 refine⟨aB,rfl,rfl,⟨λk=>?_,?_,λi j b o c o' c' hi hj=>hs.inj i j b o c o' c' (bO i hi).1 (bO j hj).1,?_,?_,λg=>x8 (hs.gl g) λb hb=>⟨.inl hb,rfl⟩⟩,?_⟩
 ·show aw os2 aB.w aB.Z aB.blk (jn σ.env d (.tree sz rows) k) (γ.tmps.getD k Go.undef);simp only[jn];split
  ·rename_i e;subst e;exact jm
  ·exact hR _ _ (hs.ar k)
 ·intro i o hi;have aq:os2[i]?=some o:=hi;rw[gw]at aq;split at aq
  ·simp only[cy.injEq]at aq;subst aq;trivial
  ·by_cases hg:o=.gone
   ·subst hg;trivial
   ·exact(hs.dz i o aq).mono hR rfl (λ_ _ _ _=>rfl)
 ·rintro b ⟨i,o,c',hi,hb⟩ (hz|⟨o',cap,aV⟩)
  ·exact hs.nz b ⟨i,o,c',(bO i hi).1,hb⟩ hz
  ·exact(bO i hi).2 (hs.inj i id b o c' o' cap (bO i hi).1 ox hb aV)
 ·rintro b (hz|⟨o,cap,hb⟩)
  ·exact hs.gk b hz
  ·exact hs.blt ox hb
 ·refine⟨hf.kM,hf.tape,hf.output,hf.size,hf.dS,λb hb=>.inl (hf.z0 b hb),?_,?_,by show os.length<=os2.length;simp[os2];exact hf.len,?_,hf.drawn⟩
  ·rintro b (hz|⟨o,cap,hb⟩)
   ·exact hf.z1 b hz
   ·exact .inr (hf.own b ⟨id,o,cap,ox,hb⟩)
  ·rintro b ⟨i,o,c',hi,hb⟩;exact hf.own b ⟨i,o,c',(bO i hi).1,hb⟩
  ·intro i hi hl;obtain⟨h1,x,x',hx,bZ,hk⟩:=hf.dV i hi (bO i hl).1;have jR:Live os2 i:=hl;obtain⟨o,dC,nW⟩:=jR;refine⟨h1,x,o,hx,dC,?_⟩;rw[gw]at dC;split at dC
   ·simp at dC;exact absurd dC.symm nW
   ·rw[bZ]at dC;simp only[cy.injEq]at dC;subst dC;exact hk
def dZ.mono{P:Program}{f:FuncId}{args:List AV}{aa:List Ob}{je aaA:AV->List Ob->Prop}(h:dZ P f args aa je)(hp:∀ r os,je r os->aaA r os):dZ P f args aa aaA:=by
 refine⟨h.1,λγ ka mg=>Calls.mono (h.2 γ ka mg) ?_⟩;rintro e w'⟨res,bb,cv,aB,h0,h1⟩;exact⟨res,bb,cv,aB,hp _ _ h0,h1⟩
end Go.Am
namespace Go.Am
variable {P:Program} {N n0:Nat} {σ:St}
end Go.Am
namespace Go.Am
variable {P:Program} {N n0:Nat} {σ:St} {Q:Exit->St->Prop}
end Go.Am
namespace Go.Am
variable {P:Program} {N n0:Nat} {σ:St} {Q:Exit->St->Prop}
def aH.Tp(d:Nat)(kp:Nat->Prop){v:AV}{os2:List Ob}(hl:os2.length=σ.aa.length)(hk:∀ i o,σ.aa[i]?=some o->(kp i/\os2[i]?=some o)\/(¬ kp i/\os2[i]?=some .gone))(cX:dU σ kp v (σ.env d)):aH n0 σ ⟨jn σ.env d v,os2⟩:=by
 intro os γ0 γ _ hs hf
 let aB:Cx:={ γ with Z:=λb=>γ.Z b\/∃ id o cap,Live σ.aa id/\¬ kp id/\γ.blk id=some (b,o,cap) }
 have An:∀ i o,os2[i]?=some o->o≠.gone->kp i/\σ.aa[i]?=some o:=by
  intro i o hi hg;have ba:i<σ.aa.length:=by rw[<- hl];exact(aT.1 hi).1
  obtain⟨x,hx⟩:∃x,σ.aa[i]?=some x:=⟨_,bS ba⟩;rcases hk i x hx with⟨h1,h2⟩|⟨_,h2⟩
  ·rw[hi]at h2;exact⟨h1,by rw[hx,h2]⟩
  ·rw[hi]at h2;simp at h2;exact absurd h2 hg
 have hR:∀ v cv,aw σ.aa γ.w γ.Z γ.blk v cv->aw os2 aB.w aB.Z aB.blk v cv:=λv cv hv =>
  hv.mono (λb hb=>⟨.inl hb,rfl⟩) (λi o hi=>by
   rcases hk i o hi with⟨h1,h2⟩|⟨h1,h2⟩
   ·by_cases hg:o=.gone
    ·subst hg;exact .inl h2
    ·exact .inr ⟨rfl,o,h2,Ob.jr hg⟩
   ·exact .inl h2)
 have bO:∀ i,Live os2 i->Live σ.aa i/\kp i:=by
  rintro i⟨o,hi,hg⟩;obtain⟨h1,h2⟩:=An i o hi hg;exact⟨⟨o,h2,hg⟩,h1⟩
 have jm:aw os2 aB.w aB.Z aB.blk v (γ.tmps.getD d Go.undef) :=
  .cJ _ _ (cX.zl hs (γc:=aB) (λb hb=>.inl hb) rfl (λx b o cap bV ke hb=>.inr ⟨x,o,cap,ke,bV,hb⟩) _ (hs.ar d))
 refine⟨aB,rfl,rfl,⟨λk=>?_,?_,λi j b o c o' c' hi hj=>hs.inj i j b o c o' c' (bO i hi).1 (bO j hj).1,?_,?_,λg=>x8 (hs.gl g) λb hb=>⟨.inl hb,rfl⟩⟩,?_⟩
 ·show aw os2 aB.w aB.Z aB.blk (jn σ.env d v k) (γ.tmps.getD k Go.undef);simp only[jn];split
  ·rename_i e;subst e;exact jm
  ·exact hR _ _ (hs.ar k)
 ·intro i o hi;have aq:os2[i]?=some o:=hi;by_cases hg:o=.gone
  ·subst hg;trivial
  ·exact(hs.dz i o (An i o aq hg).2).mono hR rfl (λ_ _ _ _=>rfl)
 ·rintro b ⟨i,o,c',hi,hb⟩ (hz|⟨j,o',cap,hj,Ao,aV⟩)
  ·exact hs.nz b ⟨i,o,c',(bO i hi).1,hb⟩ hz
  ·have:=hs.inj i j b o c' o' cap (bO i hi).1 hj hb aV;subst this;exact Ao (bO i hi).2
 ·rintro b (hz|⟨j,o',cap,hj,Ao,hb⟩)
  ·exact hs.gk b hz
  ·exact hs.blt hj hb
 ·refine⟨hf.kM,hf.tape,hf.output,hf.size,hf.dS,λb hb=>.inl (hf.z0 b hb),?_,?_,by show os.length<=os2.length;rw[hl];exact hf.len,?_,hf.drawn⟩
  ·rintro b (hz|⟨j,o',cap,hj,Ao,hb⟩)
   ·exact hf.z1 b hz
   ·exact .inr (hf.own b ⟨j,o',cap,hj,hb⟩)
  ·rintro b ⟨i,o,c',hi,hb⟩;exact hf.own b ⟨i,o,c',(bO i hi).1,hb⟩
  ·intro i hi ke;obtain⟨h1,x,x',hx,bZ,iN⟩:=hf.dV i hi (bO i ke).1;obtain⟨o,dC,nW⟩:Live os2 i:=ke;refine⟨h1,x,o,hx,dC,?_⟩;have h3:=(An i o dC nW).2;rw[bZ]at h3;simp only[cy.injEq]at h3;subst h3;exact iN
end Go.Am
namespace Go.Am
variable {P:Program} {N n0:Nat} {σ:St} {Q:Exit->St->Prop}
def aH.ahg(id c:Nat)(kp:Nat->Prop){cells:List AV}{x v:AV}{os2:List Ob}(ho:σ.aa[id]?=some (.var cells))(hc:cells[c]?=some x)(aaB:kp id)(hl:os2.length=σ.aa.length)(hk:∀ i o,σ.aa[i]?=some o->(kp i/\os2[i]?=some (if i=id then .var (cells.set c v) else o))\/(¬ kp i/\os2[i]?=some .gone))(cX:dU σ kp v x):aH n0 σ ⟨σ.env,os2⟩:=by
 intro os γ0 γ _ hs hf
 let aB:Cx:={ γ with Z:=λb=>γ.Z b\/∃ id o cap,Live σ.aa id/\¬ kp id/\γ.blk id=some (b,o,cap) }
 have MS:os2[id]?=some (.var (cells.set c v)):=by
  rcases hk id _ ho with⟨_,h2⟩|⟨h1,_⟩
  ·rw[if_pos rfl]at h2;exact h2
  ·exact absurd aaB h1
 have An:∀ i o,i≠id->os2[i]?=some o->o≠.gone->kp i/\σ.aa[i]?=some o:=by
  intro i o bX hi hg;have ba:i<σ.aa.length:=by rw[<- hl];exact(aT.1 hi).1
  obtain⟨x,hx⟩:∃x,σ.aa[i]?=some x:=⟨_,bS ba⟩;rcases hk i x hx with⟨h1,h2⟩|⟨_,h2⟩
  ·rw[if_neg bX,hi]at h2;exact⟨h1,by rw[hx,h2]⟩
  ·rw[hi]at h2;simp at h2;exact absurd h2 hg
 have hR:∀ v cv,aw σ.aa γ.w γ.Z γ.blk v cv->aw os2 aB.w aB.Z aB.blk v cv:=λv cv hv =>
  hv.mono (λb hb=>⟨.inl hb,rfl⟩) (λi o hi=>by
   by_cases bX:i=id
   ·subst bX;rw[ho]at hi;simp only[cy.injEq]at hi;subst hi;exact .inr ⟨rfl,_,MS,by simp[Ob.dO]⟩
   rcases hk i o hi with⟨h1,h2⟩|⟨h1,h2⟩
   ·rw[if_neg bX]at h2;by_cases hg:o=.gone
    ·subst hg;exact .inl h2
    ·exact .inr ⟨rfl,o,h2,Ob.jr hg⟩
   ·exact .inl h2)
 have bO:∀ i,Live os2 i->Live σ.aa i/\kp i:=by
  rintro i⟨o,hi,hg⟩;by_cases bX:i=id
  ·subst bX;exact⟨⟨_,ho,Fl⟩,aaB⟩
  ·obtain⟨h1,h2⟩:=An i o bX hi hg;exact⟨⟨o,h2,hg⟩,h1⟩
 refine⟨aB,rfl,rfl,⟨λk=>hR _ _ (hs.ar k),?_,λi j b o c o' c' hi hj=>hs.inj i j b o c o' c' (bO i hi).1 (bO j hj).1,?_,?_,λg=>x8 (hs.gl g) λb hb=>⟨.inl hb,rfl⟩⟩,?_⟩
 ·intro i o hi;have aq:os2[i]?=some o:=hi;by_cases bX:i=id
  ·subst bX;rw[MS]at aq;simp only[cy.injEq]at aq;subst aq;obtain⟨b,cap,cur,t,h1,h2,h3,h4⟩:=hs.dz _ _ ho;refine⟨b,cap,cur,t,h1,h2,by simpa using h3,λk v' hv=>?_⟩;rw[bU]at hv;split at hv
   ·rename_i e;subst e;split at hv
    ·simp only[cy.injEq]at hv;subst hv;exact .cJ _ _ (cX.zl hs (γc:=aB) (λb hb=>.inl hb) rfl (λx b o cap bV ke hb=>.inr ⟨x,o,cap,ke,bV,hb⟩) _ (h4 c _ hc))
    ·simp at hv
   ·exact hR _ _ (h4 k v' hv)
  ·by_cases hg:o=.gone
   ·subst hg;trivial
   ·exact(hs.dz i o (An i o bX aq hg).2).mono hR rfl (λ_ _ _ _=>rfl)
 ·rintro b ⟨i,o,c',hi,hb⟩ (hz|⟨j,o',cap,hj,Ao,aV⟩)
  ·exact hs.nz b ⟨i,o,c',(bO i hi).1,hb⟩ hz
  ·have:=hs.inj i j b o c' o' cap (bO i hi).1 hj hb aV;subst this;exact Ao (bO i hi).2
 ·rintro b (hz|⟨j,o',cap,hj,Ao,hb⟩)
  ·exact hs.gk b hz
  ·exact hs.blt hj hb
 ·refine⟨hf.kM,hf.tape,hf.output,hf.size,hf.dS,λb hb=>.inl (hf.z0 b hb),?_,?_,by show os.length<=os2.length;rw[hl];exact hf.len,?_,hf.drawn⟩
  ·rintro b (hz|⟨j,o',cap,hj,Ao,hb⟩)
   ·exact hf.z1 b hz
   ·exact .inr (hf.own b ⟨j,o',cap,hj,hb⟩)
  ·rintro b ⟨i,o,c',hi,hb⟩;exact hf.own b ⟨i,o,c',(bO i hi).1,hb⟩
  ·intro i hi ke;obtain⟨h1,x,x',hx,bZ,iN⟩:=hf.dV i hi (bO i ke).1;obtain⟨o,dC,nW⟩:Live os2 i:=ke;refine⟨h1,x,o,hx,dC,?_⟩;by_cases bX:i=id
   ·subst bX;rw[ho]at bZ;rw[MS]at dC;simp only[cy.injEq]at bZ dC;subst bZ;subst dC;exact Ob.Gm iN (by simp[Ob.dO])
   ·have h3:=(An i o bX dC nW).2;rw[bZ]at h3;simp only[cy.injEq]at h3;subst h3;exact iN
end Go.Am
namespace Go.Am
variable {P:Program} {N n0:Nat} {σ:St}
def qR(ps:List Nat):AV->Prop
 |.ptr id _ _=>id∈ps
 |.ref id _ _ _=>id∈ps
 |.db id=>id∈ps
 |_=>True
def v7(ps:List Nat)(σ:St):List Operand->Prop
 |[]=>True
 |x::l=>qR ps (ev σ x)/\v7 ps σ l
def jL(ps:List Nat)(q:Bool)(o:Oper)(σ:St):Prop:=(q||cls o.op==0||decide (3<=cls o.op))=true\/v7 ps σ o.op.operands.toList
def aaC{ps:List Nat}:∀ {l:List Operand},v7 ps σ l->∀ x∈l,∀ id,oh (ev σ x)=some id->id∈ps
 |[],_,x,hx=>by simp at hx
 |y::l,h,x,hx=>by
  rcases a8.1 hx with rfl|hx
  ·intro id e;have h1:=h.1;cases hv:ev σ x<;>rw[hv]at e h1<;>simp[oh,qR]at e h1;all_goals subst e;exact h1
  ·exact aaC h.2 x hx
def MT{ps:List Nat}{σ2:St}:∀ {l:List Operand},(∀ x∈l,ev σ2 x=ev σ x)->v7 ps σ2 l=v7 ps σ l
 |[],_=>rfl
 |y::l,h=>by
  simp only[v7];rw[h y Fl,MT λx hx=>h x (by simp[hx])]
def v8(ps:List Nat)(P:Program)(o:Oper)(K:St->Prop)(σ:St):Prop :=
 match o.op with
 |.call { callee:=.builtin .append,args,.. } =>
  match args.toList with
  |[s,_]=>(∀ id,oh (ev σ s)=some id->id ∉ ps)/\(∀ id∈ps,id<σ.aa.length)/\b9 P o σ K
  |_=>False
 |_=>False
def ajB{ps:List Nat}{o:Oper}{K:St->Prop}(h:v8 ps P o K σ):aJ P o σ K:=by
 unfold v8 at h;unfold aJ;split at h
 ·rename_i args cm cO;split at h
  ·simp only[cO];exact h.2.2
  ·exact h.elim
 ·exact h.elim
def ajC{ps:List Nat}{o:Oper}{K:St->Prop}(h:v8 ps P o K σ):
  ∃ v os,(∀ id∈ps,os[id]?=σ.aa[id]?)/\K ((⟨σ.env,os⟩:St).put o.dst v)/\∀ (e2:Nat->AV) (K2:St->Prop),(∀ x∈o.op.operands.toList,ev ⟨e2,σ.aa⟩ x=ev σ x)->K2 ((⟨e2,os⟩:St).put o.dst v)->v8 ps P o K2 ⟨e2,σ.aa⟩:=by
 obtain⟨dst,op,type,pos,after,guard⟩:=o;unfold v8 at h;dsimp only at h;split at h
 ·rename_i args cm;split at h
  ·rename_i s x H4;obtain⟨h1,h2,hW⟩:=h;unfold b9 at hW;simp only at hW;(repeat' split at hW)<;>try exact hW.elim
   rename_i s' x' t t' bZ jP _ _ _ _ z pre σ1 sz src hk hz mS qm;obtain⟨rfl,rfl⟩:s=s'/\x=x':=by rw[H4]at bZ;simpa using bZ
   have sH:σ1=⟨σ.env,σ1.aa⟩/\∀ e,lj ⟨e,σ.aa⟩ (ty P (ty P t).elem).size (ev σ s)=some (pre,⟨e,σ1.aa⟩):=by
    unfold lj at mS ⊢;(repeat' split at mS)<;>simp_all
    all_goals obtain⟨rfl,rfl⟩:=mS;simp
   have dY:σ1.aa=σ.aa\/∃ nZ,ev σ s=.ref nZ (ty P (ty P t).elem).size 0 0/\False\/(oh (ev σ s)=some nZ/\σ1.aa=σ.aa.set nZ .gone):=by
    clear bZ H4 hW qm sH h2;unfold lj at mS;split at mS
    ·left;cases mS;rfl
    ·rename_i nZ _ _ _ he;split at mS
     ·split at mS
      ·cases mS;exact .inr ⟨nZ,.inr ⟨by rw[he];rfl,rfl⟩⟩
      ·cases mS
     ·cases mS
    ·cases mS
   have J3:∀ id∈ps,σ1.aa[id]?=σ.aa[id]?:=λid bV=>by
    rcases dY with e|⟨nZ,⟨_,h⟩|⟨e,e2⟩⟩
    ·rw[e]
    ·exact h.elim
    ·rw[e2,bU,if_neg];intro e3;subst e3;exact h1 _ e bV
   have hlen:σ1.aa.length=σ.aa.length:=by
    rcases dY with e|⟨nZ,⟨_,h⟩|⟨e,e2⟩⟩
    ·rw[e]
    ·exact h.elim
    ·rw[e2,List.length_set]
   refine⟨_,σ1.aa++[.arr sz (pre++src)],λid bV=>?_,by have:=hW.2;rw[sH.1]at this;exact this,λe2 K2 hx dD=>?_⟩
   ·rw[List.getElem?_append_left (by rw[hlen];exact h2 id bV)];exact J3 id bV
   ·have mg:nu ⟨e2,σ.aa⟩ (ev σ x)=some (sz,src):=qm;simp[Op.operands,Call.operands,H4]at hx;unfold v8;simp only[H4];refine⟨λid he=>h1 id (by rw[<- hx.1];exact he),h2,?_⟩;unfold b9;simp only[bZ,jP,hx.1,hx.2,hk,hz,sH.2,mg];exact⟨hW.1,dD⟩
  ·exact h.elim
 ·exact h.elim
def kI(P:Program)(ops:Array Oper)(ps:List Nat)(q dc:Bool)(o:Oper)(K:St->Prop)(σ:St):Prop :=
 match dc with
 |true=>o.guard=none/\v8 ps P o K σ
 |false=>jL ps q o σ/\ew P ops q o K σ
def EA(ps:List Nat)(c:Nat)(a b:List Ob):Prop:=if c=6 then ∀ id∈ps,b[id]?=a[id]? else kr c a b
def ajD{N:Nat}{os:List Ob}{γ0:Cx}{ops:Array Oper}{ps:List Nat}(hd:∀ o∈ops.toList,∀ d,o.dst=some d->d<N){q dc:Bool}{i:Nat}{o:Oper}(hi:ops[i]?=some o){σ:St}{K:St->Prop}(h:kI P ops ps q dc o K σ){a:Act}{w:World}(aA:gf N os γ0 σ a w){Q:Exit->Act->World->Prop}{next:Act->World->Prop}(hn:∀ σ' a' w',K σ'->gf N os γ0 σ' a' w'->next a' w'):wpOp P ops Q i next a w:=by
 cases dc with
 |false=>exact JF hd hi h.2 aA hn
 |true =>
  have cD:o∈ops.toList:=List.mem_of_getElem? (by simpa using hi);unfold wpOp;simp only[hi];have hw:Region.wanted o (yielded ops a.tmps)=true:=by simp[Region.wanted,h.1]
  rw[if_pos hw];left;exact wJ (ajB h.2) aA (hd o cD) hn
def H5{ops:Array Oper}{ps:List Nat}{q dc:Bool}{o:Oper}{σ:St}{K:St->Prop}(hW:kI P ops ps q dc o K σ):
  ∃ v os,EA ps (cN q dc o) σ.aa os/\K ((⟨σ.env,os⟩:St).put o.dst v)/\∀ (e2:Nat->AV) (K2:St->Prop),(∀ t∈o.looksAt ops,e2 t=σ.env t)->K2 ((⟨e2,os⟩:St).put o.dst v)->kI P ops ps q dc o K2 ⟨e2,σ.aa⟩:=by
 cases dc with
 |false =>
  obtain⟨hc,hW⟩:=hW;obtain⟨v,os,h1,h2,h3⟩:=A9 hW;refine⟨v,os,?_,h2,λe2 K2 hl hK=>⟨?_,h3 e2 K2 hl hK⟩⟩
  ·unfold EA cN;simp only[Bool.false_eq_true,if_false];rw[if_neg]
   ·exact h1
   ·unfold eM;split
    ·omega
    ·unfold cls;split<;>omega
  ·unfold jL at hc ⊢;rw[MT (σ:=σ) (sc hl)];exact hc
 |true =>
  obtain⟨hg,hW⟩:=hW;obtain⟨v,os,h1,h2,h3⟩:=ajC hW;exact⟨v,os,by unfold EA cN;simp only[if_true];exact h1,h2,λe2 K2 hl hK=>⟨hg,h3 e2 K2 (sc (os:=σ.aa) hl) hK⟩⟩
def aaD{ops:Array Oper}{ps:List Nat}{q dc:Bool}{o:Oper}{σ:St}{K:St->Prop}(hc:cN q dc o<=2)(hW:kI P ops ps q dc o K σ):
  ∃ v,K (σ.put o.dst v)/\∀ (σ2:St) (K2:St->Prop),(∀ t∈o.looksAt ops,σ2.env t=σ.env t)->(∀ (id:Nat),id∈ps->gR (cN q dc o) σ.aa[id]? σ2.aa[id]?)->K2 (σ2.put o.dst v)->kI P ops ps q dc o K2 σ2:=by
 cases dc with
 |true=>simp[cN]at hc
 |false =>
  obtain⟨hk,hW⟩:=hW;have fI:eM q o<=2:=by simpa [cN] using hc
  obtain⟨v,h1,h2⟩:=Sm fI hW;refine⟨v,h1,λσ2 K2 hl ho hK=>⟨?_,h2 σ2 K2 hl (λx hx id hp=>?_) hK⟩⟩
  ·unfold jL at hk ⊢;rw[MT (σ:=σ) (sc (e2:=σ2.env) (os:=σ2.aa) hl)];exact hk
  ·have cH:∀ id,id∈ps->gR (eM q o) σ.aa[id]? σ2.aa[id]?:=by simpa [cN] using ho
   by_cases h0:eM q o=0
   ·rw[h0];simp[gR]
   ·refine cH id ?_;unfold eM at h0 fI;split at h0
    ·omega
    ·rename_i hq;simp only[hq]at fI;have vA:q=false:=by simpa using hq
     subst vA;unfold jL at hk;have um:cls o.op<=2:=by simpa using fI
     have h3:decide (3<=cls o.op)=false:=decide_eq_false CZ;have h4:(cls o.op==0)=false:=by simpa using h0
     rw[h3,h4]at hk;rcases hk with hk|hk
     ·simp at hk
     ·exact aaC hk x hx id hp
def ajE{ps:List Nat}{ci ck:Nat}(h:(ci==0||(ci==1&&decide (ck<=4))||(ci==2&&decide (ck<=3))||(decide (ci<=2)&&ck==6))=true){a b:List Ob}(he:EA ps ck a b)(id:Nat)(bV:id∈ps):gR ci a[id]? b[id]?:=by
 unfold EA at he;split at he
 ·rename_i h6;subst h6;rw[he id bV];unfold gR;split
  ·trivial
  ·split
   ·intro o ho;exact⟨o,ho,xX o⟩
   ·intro o ho;exact ho
 ·rename_i h6;refine JH ?_ he id;have:(ck==6)=false:=by simpa using h6
  rw[this]at h;simpa using h
def ajF{ops:Array Oper}{ps:List Nat}{qi qk di dk:Bool}{oi ok:Oper}(ha:oi.apart ops ok=true)(hi:cN qi di oi<=2)(hc:(cN qi di oi==0||(cN qi di oi==1&&decide (cN qk dk ok<=4))||(cN qi di oi==2&&decide (cN qk dk ok<=3))||(decide (cN qi di oi<=2)&&cN qk dk ok==6))=true){σ:St}{K:St->Prop}(h:kI P ops ps qi di oi (kI P ops ps qk dk ok K) σ):kI P ops ps qk dk ok (kI P ops ps qi di oi K) σ:=by
 obtain⟨a1,a2,a3⟩:=Oper.apart_spec ha;obtain⟨v,h1,run⟩:=aaD hi h;obtain⟨vk,os,ua,h2,xY⟩:=H5 h1;rw[Bb]at ua xY;refine xY σ.env _ (λt ht=>(sq λd hd e=>a1 d hd (e▸ht)).symm) ?_;refine run _ _ (λt ht=>?_) (λid bV=>?_) ?_
 ·rw[sq λd hd e=>a3 d hd (e▸ht)]
 ·rw[Bb];exact ajE hc ua id bV
 ·rw[Bd]at h2;rw[Ba (λd hd e=>a2 d e hd)];exact h2
def ajG{ops:Array Oper}{ps:List Nat}{qi qk di dk:Bool}{oi ok:Oper}(ha:oi.apart ops ok=true)(hk:cN qk dk ok=0){σ:St}{K:St->Prop}(h:kI P ops ps qi di oi (kI P ops ps qk dk ok K) σ):kI P ops ps qk dk ok (kI P ops ps qi di oi K) σ:=by
 obtain⟨a1,a2,a3⟩:=Oper.apart_spec ha;obtain⟨vi,os,ua,h1,run⟩:=H5 h;obtain⟨vk,h2,C8⟩:=aaD CZ h1;refine C8 σ _ (λt ht=>(sq (σ:=⟨σ.env,os⟩) λd hd e=>a1 d hd (e▸ht)).symm) (λid _=>by rw[hk];simp[gR]) ?_;rw[JG];refine run _ _ (λt ht=>sq λd hd e=>a3 d hd (e▸ht)) ?_;rw[Bd,Ba (λd hd e=>a2 d e hd)];exact h2
def ajH{ops:Array Oper}{ps:List Nat}{qi qk di dk:Bool}{oi ok:Oper}(ha:oi.apart ops ok=true)(hc:zL (cN qi di oi) (cN qk dk ok)=true){σ:St}{K:St->Prop}(h:kI P ops ps qi di oi (kI P ops ps qk dk ok K) σ):kI P ops ps qk dk ok (kI P ops ps qi di oi K) σ:=by
 by_cases hk:cN qk dk ok=0
 ·exact ajG ha hk h
 ·have fI:(cN qi di oi==0||(cN qi di oi==1&&decide (cN qk dk ok<=4))||(cN qi di oi==2&&decide (cN qk dk ok<=3))||(decide (cN qi di oi<=2)&&cN qk dk ok==6))=true:=by
   simp only[zL,zf,kL,a7,beq_iff_eq,decide_eq_true_eq]at hc ⊢;rcases hc with(((h|h)|h)|h)|h
   ·exact .inl (.inl (.inl h))
   ·exact absurd h hk
   ·exact .inl (.inl (.inr h))
   ·exact .inl (.inr h)
   ·exact .inr h
  refine ajF ha ?_ fI h;simp only[kL,a7,beq_iff_eq,decide_eq_true_eq]at fI;omega
def jg(P:Program)(ops:Array Oper)(ps:List Nat)(qs ds:List Nat)(i:Nat)(K:St->Prop)(σ:St):Prop :=
 match ops[i]? with
 |none=>K σ
 |some o=>kI P ops ps (qs.contains i) (ds.contains i) o K σ
def wa(P:Program)(ops:Array Oper)(ps:List Nat)(qs ds:List Nat)(K:St->Prop):Nat->Array Bool->St->Prop
 |0,aG,σ=>Region.ready .any ops aG=[]/\K σ
 |n+1,aG,σ=>(Region.ready .any ops aG=[]->K σ)/\∀ i∈Region.ready .any ops aG,jg P ops ps qs ds i (wa P ops ps qs ds K n (aG.setIfInBounds i true)) σ
def ajI{ops:Array Oper}{ps:List Nat}{q dc:Bool}{o:Oper}{σ:St}{K K2:St->Prop}(hk:∀ s,K s->K2 s)(h:kI P ops ps q dc o K σ):kI P ops ps q dc o K2 σ:=by
 obtain⟨v,os,_,h2,run⟩:=H5 h;exact run σ.env K2 (λ_ _=>rfl) (hk _ h2)
def ajJ{ops:Array Oper}{ps:List Nat}{q dc:Bool}{o:Oper}{σ:St}{K:St->Prop}(h:kI P ops ps q dc o K σ):∃s,K s:=by
 obtain⟨v,os,_,h2,run⟩:=H5 h;exact⟨_,h2⟩
def yO{ops:Array Oper}{ps:List Nat}{qs ds:List Nat}{i:Nat}{σ:St}{K K2:St->Prop}(hk:∀ s,K s->K2 s)(h:jg P ops ps qs ds i K σ):jg P ops ps qs ds i K2 σ:=by
 unfold jg at h ⊢;split at h
 ·exact hk _ h
 ·exact ajI hk h
def ajK{ops:Array Oper}{ps:List Nat}{qs ds:List Nat}{i:Nat}{σ:St}{K:St->Prop}(h:jg P ops ps qs ds i K σ):∃s,K s:=by
 unfold jg at h;split at h
 ·exact⟨_,h⟩
 ·exact ajJ h
def MU{os:List Ob}{γ0:Cx}{ops:Array Oper}{ps:List Nat}{qs ds:List Nat}(hd:∀ o∈ops.toList,∀ d,o.dst=some d->d<N){K:St->Prop}{Q:Exit->Act->World->Prop}(hQ:∀ σ' a' w',K σ'->gf N os γ0 σ' a' w'->Q .normal a' w'):∀ (n:Nat) (aG:Array Bool) (σ:St) (a:Act) (w:World),wa P ops ps qs ds K n aG σ->gf N os γ0 σ a w->wpAny P .any ops Q n aG a w
 |0,aG,σ,a,w,h,aA=>⟨h.1,hQ _ _ _ h.2 aA⟩
 |n+1,aG,σ,a,w,h,aA=>by
  refine⟨λhr=>hQ _ _ _ (h.1 hr) aA,λi hi=>?_⟩;have:=h.2 i hi;unfold jg at this;split at this
  ·rename_i aq;unfold wpOp;simp only[aq];exact MU hd hQ n _ _ _ _ this aA
  ·rename_i o aq;exact ajD hd aq this aA λσ' a' w' hK cW=>MU hd hQ n _ _ _ _ hK cW
def ajL{id:Nat}{ops:Array Oper}{Q:Exit->St->Prop}(ps:List Nat)(qs ds:List Nat)(hm:P.follows .mixedOrders=true)(hd:fJ N ops=true)(h:wa P ops ps qs ds (Q .normal) ops.size (uW ops.size false) σ):W P N n0 (.region id ops true) Q σ:=by
 intro os γ0 a w _ aA;refine wp_region_any hm ?_;exact MU (sr hd) (K:=Q .normal) (λσ' a' w' hK cW=>⟨σ',hK,cW⟩) _ _ _ _ _ h aA.drawn
def ajM{ops:Array Oper}{ps:List Nat}{qs ds:List Nat}{K:St->Prop}{i:Nat}{o:Oper}(hi:ops[i]?=some o)(D:List Nat)(QM:i∈D)(hD:∀ j∈D,j=i\/∃ oj,ops[j]?=some oj/\∃ e∈oj.after,Region.binds .any e=true/\e.on∈D):∀ (fuel:Nat) (aG:Array Bool) (σ:St),(∀ j∈D,aG.getD j true=false) ->
   i∈Region.ready .any ops aG ->
   (∀ j oj,ops[j]?=some oj->aG.getD j true=false->j ∉ D->o.apart ops oj=true/\zL (cN (qs.contains i) (ds.contains i) o) (cN (qs.contains j) (ds.contains j) oj)=true) ->
   jg P ops ps qs ds i (wa P ops ps qs ds K fuel (aG.setIfInBounds i true)) σ->wa P ops ps qs ds K (fuel+1) aG σ:=by
 intro fuel
 induction fuel with
 |zero =>
  intro aG σ hu hr lK h;refine⟨λe=>by rw[e]at hr;simp at hr,λk hk=>?_⟩;by_cases eC:k=i
  ·subst eC;exact h
  ·obtain⟨s,hs⟩:=ajK h;have:=ready_mono hk eC;rw[hs.1]at this;simp at this
 |succ m ih =>
  intro aG σ hu hr lK h;refine⟨λe=>by rw[e]at hr;simp at hr,λk hk=>?_⟩;by_cases eC:k=i
  ·subst eC;exact h
  ·have zg:=mem_ready.1 hk;obtain⟨dY,ok,aA,c7⟩:=zg;have p7:k ∉ D:=by
    intro p7;rcases hD k p7 with e|⟨oj,gT,e,he,hb,nX⟩
    ·exact eC e
    ·rw[aA]at gT;simp only[cy.injEq]at gT;subst gT;have h1:=c7 e he hb;have h2:=hu e.on nX;rw[Array.getD_eq_getD_getElem?]at h1 h2;cases hx:aG[e.on]? with
     |none=>rw[hx]at h1;simp at h1
     |some b=>rw[hx]at h1 h2;simp at h1 h2;rw[h1]at h2;simp at h2
   obtain⟨ha,hc⟩:=lK k ok aA dY p7;have h1:jg P ops ps qs ds i (jg P ops ps qs ds k (wa P ops ps qs ds K m ((aG.setIfInBounds i true).setIfInBounds k true))) σ :=
    yO (λs hs=>hs.2 k (ready_mono hk eC)) h
   have h2:jg P ops ps qs ds k (jg P ops ps qs ds i (wa P ops ps qs ds K m ((aG.setIfInBounds i true).setIfInBounds k true))) σ:=by
    unfold jg at h1 ⊢;simp only[hi,aA]at h1 ⊢;exact ajH ha hc h1
   refine yO (λs hs=>?_) h2;refine ih (aG.setIfInBounds k true) s (λj hj=>?_) (ready_mono hr (Ne.symm eC)) (λj oj gT hl nY=>?_) ?_
   ·have bX:k≠j:=λe=>p7 (by rw[e];exact hj);rw[getD_set_ne _ bX];exact hu j hj
   ·refine lK j oj gT ?_ nY;by_cases xZ:k=j
    ·subst xZ;exact dY
    ·rwa [getD_set_ne _ xZ]at hl
   ·rw[Array.setIfInBounds_comm _ _ (Ne.symm eC)]at hs;exact hs
def ajN{ops:Array Oper}{ps:List Nat}{qs ds:List Nat}{K:St->Prop}{i:Nat}{D:List Nat}{fuel:Nat}{aG:Array Bool}(h:DE ops qs ds aG i D=true)(hs:jg P ops ps qs ds i (wa P ops ps qs ds K fuel (aG.setIfInBounds i true)) σ):wa P ops ps qs ds K (fuel+1) aG σ:=by
 unfold DE at h;cases hi:ops[i]? with
 |none=>simp[hi]at h
 |some o =>
  simp only[hi,a7,List.all_eq_true,uX,kL,beq_iff_eq,Bool.not_eq_true']at h;obtain⟨⟨⟨⟨h1,h2⟩,h3⟩,h4⟩,h5⟩:=h;refine ajM hi D h1 (λj hj=>?_) fuel aG σ h3 ?_ ?_ hs
  ·rcases h2 j hj with h|h
   ·exact .inl h
   ·right;split at h
    ·rename_i oj gT;rw[Array.any_eq_true']at h;obtain⟨e,he,hb⟩:=h;simp only[a7,uX]at hb;exact⟨oj,gT,e,he,hb.1,hb.2⟩
    ·simp at h
  ·rw[mem_ready];refine⟨h3 i h1,o,hi,λe he hb=>?_⟩;rw[Array.all_eq_true']at h4;have:=h4 e he;simpa [hb] using this
  ·intro j oj gT hl nY;have hj:j<ops.size:=(Array.getElem?_eq_some_iff.1 gT).1;rcases h5 j (List.mem_range.2 hj) with(h|h)|h
   ·exact absurd h nY
   ·rw[hl]at h;simp at h
   ·simpa [gT] using h
def nn(P:Program)(ops:Array Oper)(ps:List Nat)(qs ds:List Nat):PT->(St->Prop)->St->Prop
 |.nil,K,σ=>K σ
 |.take i t,K,σ=>jg P ops ps qs ds i (nn P ops ps qs ds t K) σ
 |.both i t j u,K,σ=>jg P ops ps qs ds i (nn P ops ps qs ds t K) σ/\jg P ops ps qs ds j (nn P ops ps qs ds u K) σ
 |.three i t j u k v,K,σ=>jg P ops ps qs ds i (nn P ops ps qs ds t K) σ/\jg P ops ps qs ds j (nn P ops ps qs ds u K) σ/\jg P ops ps qs ds k (nn P ops ps qs ds v K) σ
def Ap{ops:Array Oper}{ps:List Nat}{qs ds:List Nat}{K:St->Prop}:∀ (t:PT) (n:Nat) (aG:Array Bool) (σ:St),t.kf ops qs ds n aG=true->nn P ops ps qs ds t K σ->wa P ops ps qs ds K n aG σ
 |.nil,n,aG,σ,h,hp=>by
  simp only[PT.kf,a7,beq_iff_eq,List.isEmpty_iff]at h;obtain⟨rfl,h⟩:=h;exact⟨h,hp⟩
 |.take _ _,0,_,_,h,_=>by simp[PT.kf]at h
 |.take i t,n+1,aG,σ,h,hp=>by
  simp only[PT.kf,a7]at h;exact ajN h.1 (yO (λs hs=>Ap t n _ s h.2 hs) hp)
 |.both _ _ _ _,0,_,_,h,_=>by simp[PT.kf]at h
 |.both i t j u,n+1,aG,σ,h,hp=>by
  simp only[PT.kf,a7,beq_iff_eq]at h;obtain⟨⟨h1,h2⟩,h3⟩:=h;refine⟨λe=>by rw[h1]at e;simp at e,λk hk=>?_⟩;rw[h1]at hk;simp only[a8,iJ,or_false]at hk;rcases hk with rfl|rfl
  ·exact yO (λs hs=>Ap t n _ s h2 hs) hp.1
  ·exact yO (λs hs=>Ap u n _ s h3 hs) hp.2
 |.three _ _ _ _ _ _,0,_,_,h,_=>by simp[PT.kf]at h
 |.three i t j u k v,n+1,aG,σ,h,hp=>by
  simp only[PT.kf,a7,beq_iff_eq]at h;obtain⟨⟨⟨h1,h2⟩,h3⟩,h4⟩:=h;refine⟨λe=>by rw[h1]at e;simp at e,λx hk=>?_⟩;rw[h1]at hk;simp only[a8,iJ,or_false]at hk;rcases hk with rfl|rfl|rfl
  ·exact yO (λs hs=>Ap t n _ s h2 hs) hp.1
  ·exact yO (λs hs=>Ap u n _ s h3 hs) hp.2.1
  ·exact yO (λs hs=>Ap v n _ s h4 hs) hp.2.2
def Uz{id:Nat}{ops:Array Oper}{Q:Exit->St->Prop}(ps:List Nat)(qs ds:List Nat)(t:PT)(hm:P.follows .mixedOrders=true)(hd:fJ N ops=true)(ht:t.kf ops qs ds ops.size (uW ops.size false)=true)(h:nn P ops ps qs ds t (Q .normal) σ):W P N n0 (.region id ops true) Q σ :=
 ajL ps qs ds hm hd (Ap t _ _ σ ht h)
def aaE{ops:Array Oper}{ps:List Nat}{qs ds:List Nat}{K:St->Prop}:nn P ops ps qs ds .nil K σ=K σ:=rfl
def aaF{ops:Array Oper}{ps:List Nat}{qs ds:List Nat}{i:Nat}{t:PT}{K:St->Prop}:nn P ops ps qs ds (.take i t) K σ=jg P ops ps qs ds i (nn P ops ps qs ds t K) σ:=rfl
def aaG{ops:Array Oper}{ps:List Nat}{qs ds:List Nat}{i j k:Nat}{t u v:PT}{K:St->Prop}:nn P ops ps qs ds (.three i t j u k v) K σ=(jg P ops ps qs ds i (nn P ops ps qs ds t K) σ/\jg P ops ps qs ds j (nn P ops ps qs ds u K) σ/\jg P ops ps qs ds k (nn P ops ps qs ds v K) σ):=rfl
def aaH{ops:Array Oper}{ps:List Nat}{qs ds:List Nat}{i j:Nat}{t u:PT}{K:St->Prop}:nn P ops ps qs ds (.both i t j u) K σ=(jg P ops ps qs ds i (nn P ops ps qs ds t K) σ/\jg P ops ps qs ds j (nn P ops ps qs ds u K) σ):=rfl
def aaI{ops:Array Oper}{ps:List Nat}{q:Bool}{o:Oper}{K:St->Prop}:kI P ops ps q true o K σ=(o.guard=none/\v8 ps P o K σ):=rfl
def aaJ{ops:Array Oper}{ps:List Nat}{q:Bool}{o:Oper}{K:St->Prop}:kI P ops ps q false o K σ=(jL ps q o σ/\ew P ops q o K σ):=rfl
section
variable {dst:Option Tmp} {tt:TypeId} {p:String} {af:Array Edge} {g:Option (Nat×Bool)} {K:St->Prop} {ps:List Nat}
def zV(ps:List Nat)(v:AV):Prop:=∀ id,oh v=some id->id ∉ ps
def LN(v:Value):zV ps (.lit v)=True:=eq_true λid h=>by cases h
def LP(id a b c:Nat):zV ps (.ref id a b c)=(id ∉ ps):=propext ⟨λh=>h id rfl,λh i e=>by cases e;exact h⟩
def aaK(s x:Operand)(cm:Array TypeId):v8 ps P ⟨dst,.call ⟨.builtin .append,#[s,x],cm⟩,tt,p,af,g⟩ K σ=(zV ps (ev σ s)/\(∀ id∈ps,id<σ.aa.length)/\aJ P ⟨dst,.call ⟨.builtin .append,#[s,x],cm⟩,tt,p,af,g⟩ σ K):=by
 simp only[v8,aJ,zV]
def aaL{o:Oper}:jL ps true o σ=True:=by simp[jL]
def xz{o:Oper}(h:(cls o.op==0||decide (3<=cls o.op))=true):jL ps false o σ=True:=eq_true (.inl (by simpa using h))
def aaM(t:TypeId)(a:Operand):jL ps false ⟨dst,.load t a,tt,p,af,g⟩ σ=qR ps (ev σ a):=by simp[jL,cls,Op.operands,v7]
def aaN(t:TypeId)(a i:Operand):jL ps false ⟨dst,.indexAddr t a i,tt,p,af,g⟩ σ=(qR ps (ev σ a)/\qR ps (ev σ i)):=by simp[jL,cls,Op.operands,v7]
def aaO(a:Operand):jL ps false ⟨dst,.nilCheck a,tt,p,af,g⟩ σ=qR ps (ev σ a):=by simp[jL,cls,Op.operands,v7]
def aaP(t:TypeId)(a:Operand)(f:Nat):jL ps false ⟨dst,.fieldAddr t a f,tt,p,af,g⟩ σ=qR ps (ev σ a):=by simp[jL,cls,Op.operands,v7]
def aaQ(x:Operand):jL ps false ⟨dst,.move x,tt,p,af,g⟩ σ=True:=xz OI
def aaR(x:Operand):jL ps false ⟨dst,.assign x,tt,p,af,g⟩ σ=True:=xz OI
def aaS(c a b:Operand):jL ps false ⟨dst,.pick c a b,tt,p,af,g⟩ σ=True:=xz OI
def aaT(op:BinOp)(t:TypeId)(x y:Operand)(yt:TypeId):jL ps false ⟨dst,.binOp op t x y yt,tt,p,af,g⟩ σ=True:=xz OI
def aaU(t:TypeId)(parts:Array (Nat×Operand)):jL ps false ⟨dst,.build t parts,tt,p,af,g⟩ σ=True:=xz OI
def aaV(e:TypeId):jL ps false ⟨dst,.alloc e,tt,p,af,g⟩ σ=True:=xz OI
def aaW(t:TypeId)(len:Nat)(parts:Array (Nat×Operand)):jL ps false ⟨dst,.buildSlice t len parts,tt,p,af,g⟩ σ=True:=xz OI
def aaX(t:TypeId)(a x:Operand):jL ps false ⟨dst,.store t a x,tt,p,af,g⟩ σ=True:=xz OI
def aaY(f:Operand)(args:Array Operand)(cm:Array TypeId):jL ps false ⟨dst,.call ⟨.value f,args,cm⟩,tt,p,af,g⟩ σ=True:=xz OI
def aaZ(id r c:Nat):qR ps (.ptr id r c)=(id∈ps):=rfl
def aa0(id a b c:Nat):qR ps (.ref id a b c)=(id∈ps):=rfl
def aa1(v:Value):qR ps (.lit v)=True:=rfl
def aa2(s:Nat)(r:List (List AV)):qR ps (.tree s r)=True:=rfl
def aa3(r:List AV):qR ps (.cj r)=True:=rfl
def aa4(r:List AV):qR ps (.agg r)=True:=rfl
def aa5(r:List AV):qR ps (.bx r)=True:=rfl
end
def Ra:=aba @aaE @aaF @aaG @aaH @aaI @aaJ @LN (aba @LP @aaK @aaL @aaM @aaN @aaO @aaP (aba @aaQ @aaR @aaS @aaT @aaU @aaV @aaW (aba @aaX @aaY @aaZ @aa0 @aa1 @aa2 @aa3 (OY @aa4 @aa5))))
def Ha{x:Code}{Q:Exit->St->Prop}(R:St->Prop)(h1:∀ s,R s->Q .normal s)(h2:∀ Q':Exit->St->Prop,(∀ s,R s->Q' .normal s)->W P N n0 x Q' σ):W P N n0 x Q σ:=h2 Q h1
end Go.Am

