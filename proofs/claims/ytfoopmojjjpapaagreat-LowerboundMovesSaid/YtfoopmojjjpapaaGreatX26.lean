import Derived.Test.YtfoopmojjjpapaaGreatX18
set_option linter.all false
set_option maxHeartbeats 0
set_option maxRecDepth 20000
open List renaming getElem?_eq_some_iff→aR,getElem?_set→bY,getElem?_eq_getElem→bT,mem_cons→bj,contains_iff_mem→uY,not_mem_nil→gU
open Option renaming some→cm
open Bool renaming or_eq_true→kG,and_eq_true→aZ
open Array renaming replicate→uX
namespace Go.Am
variable {P:Program} {N n0:Nat} {σ:St}
def aF.zY(d id sz:Nat){rows:List (List AV)}(ho:σ.aa[id]?=some (.arr sz rows))(hd:σ.env d=.ref id sz 0 rows.length)(hw:∀ row∈rows,row.length=sz)(u9:∀ row∈rows,∀ v∈row,(∃ x,v=.lit x)\/∃ s r,v=.tree s r):aF n0 σ ⟨jd σ.env d (.tree sz rows),σ.aa.set id .gone⟩:=by
 intro os γ0 γ _ hs hf;have zC:id<σ.aa.length:=(aR.1 ho).1
 let az:Cx:={ γ with Z:=λb=>γ.Z b\/∃ o cap,γ.blk id=some (b,o,cap) }
 let os2:=σ.aa.set id .gone
 have iU:∀ i,os2[i]?=if i=id then some .gone else σ.aa[i]?:=by
  intro i;show(σ.aa.set id _)[i]?=_;rw[bY];by_cases h1:i=id
  ·subst h1;simp[zC]
  ·simp[Ne.symm h1,h1]
 have hR:∀ v cv,aw σ.aa γ.w γ.Z γ.blk v cv->aw os2 az.w az.Z az.blk v cv:=λv cv hv =>
  hv.mono (λb hb=>⟨.inl hb,rfl⟩) (λi o hi=>by
   rw[iU];by_cases h1:i=id
   ·left;rw[if_pos h1]
   ·rw[if_neg h1];by_cases hg:o=.gone
    ·subst hg;exact .inl hi
    ·exact .inr ⟨rfl,o,hi,Ob.jg hg⟩)
 have bL:∀ i,Live os2 i->Live σ.aa i/\i≠id:=by
  rintro i⟨o,hi,hg⟩;rw[iU]at hi;split at hi
  ·simp at hi;exact absurd hi.symm hg
  ·rename_i h2;exact⟨⟨o,hi,hg⟩,h2⟩
 have oz:Live σ.aa id:=⟨_,ho,Iy⟩;have sW:=hs.an d;rw[hd]at sW;have jc:aw os2 az.w az.Z az.blk (.tree sz rows) (γ.tmps.getD d Go.undef):=by
  have ee:cL σ (λx=>x≠id) (.tree sz rows) (.ref id sz 0 rows.length):=cL.flat ho hw rfl Iy u9;exact .cG _ _ (ee.ze hs (γc:=az) (λb hb=>.inl hb) rfl (λx b o cap bO _ hb=>.inr ⟨o,cap,by rw[show id=x by simpa using(Decidable.not_not.1 bO).symm];exact hb⟩) _ sW)
 refine⟨az,rfl,rfl,⟨λk=>?_,?_,λi j b o c o' c' hi hj=>hs.inj i j b o c o' c' (bL i hi).1 (bL j hj).1,?_,?_,λg=>xV (hs.gl g) λb hb=>⟨.inl hb,rfl⟩⟩,?_⟩
 ·show aw os2 az.w az.Z az.blk (jd σ.env d (.tree sz rows) k) (γ.tmps.getD k Go.undef);simp only[jd];split
  ·rename_i e;subst e;exact jc
  ·exact hR _ _ (hs.an k)
 ·intro i o hi;have aq:os2[i]?=some o:=hi;rw[iU]at aq;split at aq
  ·simp only[cm.injEq]at aq;subst aq;trivial
  ·by_cases hg:o=.gone
   ·subst hg;trivial
   ·exact(hs.dF i o aq).mono hR rfl (λ_ _ _ _=>rfl)
 ·rintro b ⟨i,o,c',hi,hb⟩ (hz|⟨o',cap,aV⟩)
  ·exact hs.nz b ⟨i,o,c',(bL i hi).1,hb⟩ hz
  ·exact(bL i hi).2 (hs.inj i id b o c' o' cap (bL i hi).1 oz hb aV)
 ·rintro b (hz|⟨o,cap,hb⟩)
  ·exact hs.fZ b hz
  ·exact hs.blt oz hb
 ·refine⟨hf.kJ,hf.tape,hf.output,hf.size,hf.dV,λb hb=>.inl (hf.z0 b hb),?_,?_,by show os.length<=os2.length;simp[os2];exact hf.len,?_,hf.drawn⟩
  ·rintro b (hz|⟨o,cap,hb⟩)
   ·exact hf.z1 b hz
   ·exact .inr (hf.own b ⟨id,o,cap,oz,hb⟩)
  ·rintro b ⟨i,o,c',hi,hb⟩;exact hf.own b ⟨i,o,c',(bL i hi).1,hb⟩
  ·intro i hi hl;obtain⟨h1,x,x',hx,bS,hk⟩:=hf.dY i hi (bL i hl).1;have jJ:Live os2 i:=hl;obtain⟨o,c9,mM⟩:=jJ;refine⟨h1,x,o,hx,c9,?_⟩;rw[iU]at c9;split at c9
   ·simp at c9;exact absurd c9.symm mM
   ·rw[bS]at c9;simp only[cm.injEq]at c9;subst c9;exact hk
def cQ.mono{P:Program}{f:FuncId}{args:List AV}{aa:List Ob}{hJ ZP:AV->List Ob->Prop}(h:cQ P f args aa hJ)(hp:∀ r os,hJ r os->ZP r os):cQ P f args aa ZP:=by
 refine⟨h.1,λγ jH kZ=>Calls.mono (h.2 γ jH kZ) ?_⟩;rintro e w'⟨res,a8,cv,az,h0,h1⟩;exact⟨res,a8,cv,az,hp _ _ h0,h1⟩
end Go.Am
namespace Go.Am
variable {P:Program} {N n0:Nat} {σ:St}
end Go.Am
namespace Go.Am
variable {P:Program} {N n0:Nat} {σ:St} {Q:Exit->St->Prop}
end Go.Am
namespace Go.Am
variable {P:Program} {N n0:Nat} {σ:St} {Q:Exit->St->Prop}
def aF.ajh(d:Nat)(kp:Nat->Prop){v:AV}{os2:List Ob}(hl:os2.length=σ.aa.length)(hk:∀ i o,σ.aa[i]?=some o->(kp i/\os2[i]?=some o)\/(¬ kp i/\os2[i]?=some .gone))(ee:cL σ kp v (σ.env d)):aF n0 σ ⟨jd σ.env d v,os2⟩:=by
 intro os γ0 γ _ hs hf
 let az:Cx:={ γ with Z:=λb=>γ.Z b\/∃ id o cap,Live σ.aa id/\¬ kp id/\γ.blk id=some (b,o,cap) }
 have Av:∀ i o,os2[i]?=some o->o≠.gone->kp i/\σ.aa[i]?=some o:=by
  intro i o hi hg;have a6:i<σ.aa.length:=by rw[<- hl];exact(aR.1 hi).1
  obtain⟨x,hx⟩:∃x,σ.aa[i]?=some x:=⟨_,bT a6⟩;rcases hk i x hx with⟨h1,h2⟩|⟨_,h2⟩
  ·rw[hi]at h2;exact⟨h1,by rw[hx,h2]⟩
  ·rw[hi]at h2;simp at h2;exact absurd h2 hg
 have hR:∀ v cv,aw σ.aa γ.w γ.Z γ.blk v cv->aw os2 az.w az.Z az.blk v cv:=λv cv hv =>
  hv.mono (λb hb=>⟨.inl hb,rfl⟩) (λi o hi=>by
   rcases hk i o hi with⟨h1,h2⟩|⟨h1,h2⟩
   ·by_cases hg:o=.gone
    ·subst hg;exact .inl h2
    ·exact .inr ⟨rfl,o,h2,Ob.jg hg⟩
   ·exact .inl h2)
 have bL:∀ i,Live os2 i->Live σ.aa i/\kp i:=by
  rintro i⟨o,hi,hg⟩;obtain⟨h1,h2⟩:=Av i o hi hg;exact⟨⟨o,h2,hg⟩,h1⟩
 have jc:aw os2 az.w az.Z az.blk v (γ.tmps.getD d Go.undef) :=
  .cG _ _ (ee.ze hs (γc:=az) (λb hb=>.inl hb) rfl (λx b o cap bO j3 hb=>.inr ⟨x,o,cap,j3,bO,hb⟩) _ (hs.an d))
 refine⟨az,rfl,rfl,⟨λk=>?_,?_,λi j b o c o' c' hi hj=>hs.inj i j b o c o' c' (bL i hi).1 (bL j hj).1,?_,?_,λg=>xV (hs.gl g) λb hb=>⟨.inl hb,rfl⟩⟩,?_⟩
 ·show aw os2 az.w az.Z az.blk (jd σ.env d v k) (γ.tmps.getD k Go.undef);simp only[jd];split
  ·rename_i e;subst e;exact jc
  ·exact hR _ _ (hs.an k)
 ·intro i o hi;have aq:os2[i]?=some o:=hi;by_cases hg:o=.gone
  ·subst hg;trivial
  ·exact(hs.dF i o (Av i o aq hg).2).mono hR rfl (λ_ _ _ _=>rfl)
 ·rintro b ⟨i,o,c',hi,hb⟩ (hz|⟨j,o',cap,hj,Aw,aV⟩)
  ·exact hs.nz b ⟨i,o,c',(bL i hi).1,hb⟩ hz
  ·have:=hs.inj i j b o c' o' cap (bL i hi).1 hj hb aV;subst this;exact Aw (bL i hi).2
 ·rintro b (hz|⟨j,o',cap,hj,Aw,hb⟩)
  ·exact hs.fZ b hz
  ·exact hs.blt hj hb
 ·refine⟨hf.kJ,hf.tape,hf.output,hf.size,hf.dV,λb hb=>.inl (hf.z0 b hb),?_,?_,by show os.length<=os2.length;rw[hl];exact hf.len,?_,hf.drawn⟩
  ·rintro b (hz|⟨j,o',cap,hj,Aw,hb⟩)
   ·exact hf.z1 b hz
   ·exact .inr (hf.own b ⟨j,o',cap,hj,hb⟩)
  ·rintro b ⟨i,o,c',hi,hb⟩;exact hf.own b ⟨i,o,c',(bL i hi).1,hb⟩
  ·intro i hi j3;obtain⟨h1,x,x',hx,bS,kx⟩:=hf.dY i hi (bL i j3).1;obtain⟨o,c9,mM⟩:Live os2 i:=j3;refine⟨h1,x,o,hx,c9,?_⟩;have h3:=(Av i o c9 mM).2;rw[bS]at h3;simp only[cm.injEq]at h3;subst h3;exact kx
end Go.Am
namespace Go.Am
variable {P:Program} {N n0:Nat} {σ:St} {Q:Exit->St->Prop}
def aF.aiq(id c:Nat)(kp:Nat->Prop){cells:List AV}{x v:AV}{os2:List Ob}(ho:σ.aa[id]?=some (.var cells))(hc:cells[c]?=some x)(ZQ:kp id)(hl:os2.length=σ.aa.length)(hk:∀ i o,σ.aa[i]?=some o->(kp i/\os2[i]?=some (if i=id then .var (cells.set c v) else o))\/(¬ kp i/\os2[i]?=some .gone))(ee:cL σ kp v x):aF n0 σ ⟨σ.env,os2⟩:=by
 intro os γ0 γ _ hs hf
 let az:Cx:={ γ with Z:=λb=>γ.Z b\/∃ id o cap,Live σ.aa id/\¬ kp id/\γ.blk id=some (b,o,cap) }
 have MI:os2[id]?=some (.var (cells.set c v)):=by
  rcases hk id _ ho with⟨_,h2⟩|⟨h1,_⟩
  ·rw[if_pos rfl]at h2;exact h2
  ·exact absurd ZQ h1
 have Av:∀ i o,i≠id->os2[i]?=some o->o≠.gone->kp i/\σ.aa[i]?=some o:=by
  intro i o cA hi hg;have a6:i<σ.aa.length:=by rw[<- hl];exact(aR.1 hi).1
  obtain⟨x,hx⟩:∃x,σ.aa[i]?=some x:=⟨_,bT a6⟩;rcases hk i x hx with⟨h1,h2⟩|⟨_,h2⟩
  ·rw[if_neg cA,hi]at h2;exact⟨h1,by rw[hx,h2]⟩
  ·rw[hi]at h2;simp at h2;exact absurd h2 hg
 have hR:∀ v cv,aw σ.aa γ.w γ.Z γ.blk v cv->aw os2 az.w az.Z az.blk v cv:=λv cv hv =>
  hv.mono (λb hb=>⟨.inl hb,rfl⟩) (λi o hi=>by
   by_cases cA:i=id
   ·subst cA;rw[ho]at hi;simp only[cm.injEq]at hi;subst hi;exact .inr ⟨rfl,_,MI,by simp[Ob.dT]⟩
   rcases hk i o hi with⟨h1,h2⟩|⟨h1,h2⟩
   ·rw[if_neg cA]at h2;by_cases hg:o=.gone
    ·subst hg;exact .inl h2
    ·exact .inr ⟨rfl,o,h2,Ob.jg hg⟩
   ·exact .inl h2)
 have bL:∀ i,Live os2 i->Live σ.aa i/\kp i:=by
  rintro i⟨o,hi,hg⟩;by_cases cA:i=id
  ·subst cA;exact⟨⟨_,ho,Iy⟩,ZQ⟩
  ·obtain⟨h1,h2⟩:=Av i o cA hi hg;exact⟨⟨o,h2,hg⟩,h1⟩
 refine⟨az,rfl,rfl,⟨λk=>hR _ _ (hs.an k),?_,λi j b o c o' c' hi hj=>hs.inj i j b o c o' c' (bL i hi).1 (bL j hj).1,?_,?_,λg=>xV (hs.gl g) λb hb=>⟨.inl hb,rfl⟩⟩,?_⟩
 ·intro i o hi;have aq:os2[i]?=some o:=hi;by_cases cA:i=id
  ·subst cA;rw[MI]at aq;simp only[cm.injEq]at aq;subst aq;obtain⟨b,cap,cur,t,h1,h2,h3,h4⟩:=hs.dF _ _ ho;refine⟨b,cap,cur,t,h1,h2,by simpa using h3,λk v' hv=>?_⟩;rw[bY]at hv;split at hv
   ·rename_i e;subst e;split at hv
    ·simp only[cm.injEq]at hv;subst hv;exact .cG _ _ (ee.ze hs (γc:=az) (λb hb=>.inl hb) rfl (λx b o cap bO j3 hb=>.inr ⟨x,o,cap,j3,bO,hb⟩) _ (h4 c _ hc))
    ·simp at hv
   ·exact hR _ _ (h4 k v' hv)
  ·by_cases hg:o=.gone
   ·subst hg;trivial
   ·exact(hs.dF i o (Av i o cA aq hg).2).mono hR rfl (λ_ _ _ _=>rfl)
 ·rintro b ⟨i,o,c',hi,hb⟩ (hz|⟨j,o',cap,hj,Aw,aV⟩)
  ·exact hs.nz b ⟨i,o,c',(bL i hi).1,hb⟩ hz
  ·have:=hs.inj i j b o c' o' cap (bL i hi).1 hj hb aV;subst this;exact Aw (bL i hi).2
 ·rintro b (hz|⟨j,o',cap,hj,Aw,hb⟩)
  ·exact hs.fZ b hz
  ·exact hs.blt hj hb
 ·refine⟨hf.kJ,hf.tape,hf.output,hf.size,hf.dV,λb hb=>.inl (hf.z0 b hb),?_,?_,by show os.length<=os2.length;rw[hl];exact hf.len,?_,hf.drawn⟩
  ·rintro b (hz|⟨j,o',cap,hj,Aw,hb⟩)
   ·exact hf.z1 b hz
   ·exact .inr (hf.own b ⟨j,o',cap,hj,hb⟩)
  ·rintro b ⟨i,o,c',hi,hb⟩;exact hf.own b ⟨i,o,c',(bL i hi).1,hb⟩
  ·intro i hi j3;obtain⟨h1,x,x',hx,bS,kx⟩:=hf.dY i hi (bL i j3).1;obtain⟨o,c9,mM⟩:Live os2 i:=j3;refine⟨h1,x,o,hx,c9,?_⟩;by_cases cA:i=id
   ·subst cA;rw[ho]at bS;rw[MI]at c9;simp only[cm.injEq]at bS c9;subst bS;subst c9;exact Ob.FV kx (by simp[Ob.dT])
   ·have h3:=(Av i o cA c9 mM).2;rw[bS]at h3;simp only[cm.injEq]at h3;subst h3;exact kx
end Go.Am
namespace Go.Am
variable {P:Program} {N n0:Nat} {σ:St}
def qI(ps:List Nat):AV->Prop
 |.ptr id _ _=>id∈ps
 |.ref id _ _ _=>id∈ps
 |.du id=>id∈ps
 |_=>True
def vX(ps:List Nat)(σ:St):List Operand->Prop
 |[]=>True
 |x::l=>qI ps (ev σ x)/\vX ps σ l
def jX(ps:List Nat)(q:Bool)(o:Oper)(σ:St):Prop:=(q||cls o.op==0||decide (3<=cls o.op))=true\/vX ps σ o.op.operands.toList
def ZR{ps:List Nat}:∀ {l:List Operand},vX ps σ l->∀ x∈l,∀ id,og (ev σ x)=some id->id∈ps
 |[],_,x,hx=>by simp at hx
 |y::l,h,x,hx=>by
  rcases bj.1 hx with rfl|hx
  ·intro id e;have h1:=h.1;cases hv:ev σ x<;>rw[hv]at e h1<;>simp[og,qI]at e h1;all_goals subst e;exact h1
  ·exact ZR h.2 x hx
def MJ{ps:List Nat}{σ2:St}:∀ {l:List Operand},(∀ x∈l,ev σ2 x=ev σ x)->vX ps σ2 l=vX ps σ l
 |[],_=>rfl
 |y::l,h=>by
  simp only[vX];rw[h y Iy,MJ λx hx=>h x (by simp[hx])]
def vY(ps:List Nat)(P:Program)(o:Oper)(K:St->Prop)(σ:St):Prop :=
 match o.op with
 |.call { callee:=.builtin .append,args,.. } =>
  match args.toList with
  |[s,_]=>(∀ id,og (ev σ s)=some id->id ∉ ps)/\(∀ id∈ps,id<σ.aa.length)/\bW P o σ K
  |_=>False
 |_=>False
def ajJ{ps:List Nat}{o:Oper}{K:St->Prop}(h:vY ps P o K σ):aI P o σ K:=by
 unfold vY at h;unfold aI;split at h
 ·rename_i args cp cZ;split at h
  ·simp only[cZ];exact h.2.2
  ·exact h.elim
 ·exact h.elim
def ajK{ps:List Nat}{o:Oper}{K:St->Prop}(h:vY ps P o K σ):
  ∃ v os,(∀ id∈ps,os[id]?=σ.aa[id]?)/\K ((⟨σ.env,os⟩:St).put o.dst v)/\∀ (e2:Nat->AV) (K2:St->Prop),(∀ x∈o.op.operands.toList,ev ⟨e2,σ.aa⟩ x=ev σ x)->K2 ((⟨e2,os⟩:St).put o.dst v)->vY ps P o K2 ⟨e2,σ.aa⟩:=by
 obtain⟨dst,op,type,pos,after,guard⟩:=o;unfold vY at h;dsimp only at h;split at h
 ·rename_i args cp;split at h
  ·rename_i s x HT;obtain⟨h1,h2,hW⟩:=h;unfold bW at hW;simp only at hW;(repeat' split at hW)<;>try exact hW.elim
   rename_i s' x' t t' bS jG _ _ _ _ z pre σ1 sz src hk hz mQ qm;obtain⟨rfl,rfl⟩:s=s'/\x=x':=by rw[HT]at bS;simpa using bS
   have sw:σ1=⟨σ.env,σ1.aa⟩/\∀ e,k0 ⟨e,σ.aa⟩ (ty P (ty P t).elem).size (ev σ s)=some (pre,⟨e,σ1.aa⟩):=by
    unfold k0 at mQ ⊢;(repeat' split at mQ)<;>simp_all
    all_goals obtain⟨rfl,rfl⟩:=mQ;simp
   have eW:σ1.aa=σ.aa\/∃ nZ,ev σ s=.ref nZ (ty P (ty P t).elem).size 0 0/\False\/(og (ev σ s)=some nZ/\σ1.aa=σ.aa.set nZ .gone):=by
    clear bS HT hW qm sw h2;unfold k0 at mQ;split at mQ
    ·left;cases mQ;rfl
    ·rename_i nZ _ _ _ he;split at mQ
     ·split at mQ
      ·cases mQ;exact .inr ⟨nZ,.inr ⟨by rw[he];rfl,rfl⟩⟩
      ·cases mQ
     ·cases mQ
    ·cases mQ
   have Ji:∀ id∈ps,σ1.aa[id]?=σ.aa[id]?:=λid bO=>by
    rcases eW with e|⟨nZ,⟨_,h⟩|⟨e,e2⟩⟩
    ·rw[e]
    ·exact h.elim
    ·rw[e2,bY,if_neg];intro e3;subst e3;exact h1 _ e bO
   have hlen:σ1.aa.length=σ.aa.length:=by
    rcases eW with e|⟨nZ,⟨_,h⟩|⟨e,e2⟩⟩
    ·rw[e]
    ·exact h.elim
    ·rw[e2,List.length_set]
   refine⟨_,σ1.aa++[.arr sz (pre++src)],λid bO=>?_,by have:=hW.2;rw[sw.1]at this;exact this,λe2 K2 hx dK=>?_⟩
   ·rw[List.getElem?_append_left (by rw[hlen];exact h2 id bO)];exact Ji id bO
   ·have kZ:nw ⟨e2,σ.aa⟩ (ev σ x)=some (sz,src):=qm;simp[Op.operands,Call.operands,HT]at hx;unfold vY;simp only[HT];refine⟨λid he=>h1 id (by rw[<- hx.1];exact he),h2,?_⟩;unfold bW;simp only[bS,jG,hx.1,hx.2,hk,hz,sw.2,kZ];exact⟨hW.1,dK⟩
  ·exact h.elim
 ·exact h.elim
def kF(P:Program)(ops:Array Oper)(ps:List Nat)(q dc:Bool)(o:Oper)(K:St->Prop)(σ:St):Prop :=
 match dc with
 |true=>o.guard=none/\vY ps P o K σ
 |false=>jX ps q o σ/\dX P ops q o K σ
def Et(ps:List Nat)(c:Nat)(a b:List Ob):Prop:=if c=6 then ∀ id∈ps,b[id]?=a[id]? else kj c a b
def ajL{N:Nat}{os:List Ob}{γ0:Cx}{ops:Array Oper}{ps:List Nat}(hd:∀ o∈ops.toList,∀ d,o.dst=some d->d<N){q dc:Bool}{i:Nat}{o:Oper}(hi:ops[i]?=some o){σ:St}{K:St->Prop}(h:kF P ops ps q dc o K σ){a:Act}{w:World}(ay:fq N os γ0 σ a w){Q:Exit->Act->World->Prop}{next:Act->World->Prop}(hn:∀ σ' a' w',K σ'->fq N os γ0 σ' a' w'->next a' w'):wpOp P ops Q i next a w:=by
 cases dc with
 |false=>exact IT hd hi h.2 ay hn
 |true =>
  have cH:o∈ops.toList:=List.mem_of_getElem? (by simpa using hi);unfold wpOp;simp only[hi];have hw:Region.wanted o (yielded ops a.tmps)=true:=by simp[Region.wanted,h.1]
  rw[if_pos hw];left;exact wI (ajJ h.2) ay (hd o cH) hn
def HU{ops:Array Oper}{ps:List Nat}{q dc:Bool}{o:Oper}{σ:St}{K:St->Prop}(hW:kF P ops ps q dc o K σ):
  ∃ v os,Et ps (cT q dc o) σ.aa os/\K ((⟨σ.env,os⟩:St).put o.dst v)/\∀ (e2:Nat->AV) (K2:St->Prop),(∀ t∈o.looksAt ops,e2 t=σ.env t)->K2 ((⟨e2,os⟩:St).put o.dst v)->kF P ops ps q dc o K2 ⟨e2,σ.aa⟩:=by
 cases dc with
 |false =>
  obtain⟨hc,hW⟩:=hW;obtain⟨v,os,h1,h2,h3⟩:=A2 hW;refine⟨v,os,?_,h2,λe2 K2 hl hK=>⟨?_,h3 e2 K2 hl hK⟩⟩
  ·unfold Et cT;simp only[Bool.false_eq_true,if_false];rw[if_neg]
   ·exact h1
   ·unfold eN;split
    ·omega
    ·unfold cls;split<;>omega
  ·unfold jX at hc ⊢;rw[MJ (σ:=σ) (sc hl)];exact hc
 |true =>
  obtain⟨hg,hW⟩:=hW;obtain⟨v,os,h1,h2,h3⟩:=ajK hW;exact⟨v,os,by unfold Et cT;simp only[if_true];exact h1,h2,λe2 K2 hl hK=>⟨hg,h3 e2 K2 (sc (os:=σ.aa) hl) hK⟩⟩
def ZS{ops:Array Oper}{ps:List Nat}{q dc:Bool}{o:Oper}{σ:St}{K:St->Prop}(hc:cT q dc o<=2)(hW:kF P ops ps q dc o K σ):
  ∃ v,K (σ.put o.dst v)/\∀ (σ2:St) (K2:St->Prop),(∀ t∈o.looksAt ops,σ2.env t=σ.env t)->(∀ (id:Nat),id∈ps->gJ (cT q dc o) σ.aa[id]? σ2.aa[id]?)->K2 (σ2.put o.dst v)->kF P ops ps q dc o K2 σ2:=by
 cases dc with
 |true=>simp[cT]at hc
 |false =>
  obtain⟨hk,hW⟩:=hW;have fD:eN q o<=2:=by simpa [cT] using hc
  obtain⟨v,h1,h2⟩:=T9 fD hW;refine⟨v,h1,λσ2 K2 hl ho hK=>⟨?_,h2 σ2 K2 hl (λx hx id hp=>?_) hK⟩⟩
  ·unfold jX at hk ⊢;rw[MJ (σ:=σ) (sc (e2:=σ2.env) (os:=σ2.aa) hl)];exact hk
  ·have cE:∀ id,id∈ps->gJ (eN q o) σ.aa[id]? σ2.aa[id]?:=by simpa [cT] using ho
   by_cases h0:eN q o=0
   ·rw[h0];simp[gJ]
   ·refine cE id ?_;unfold eN at h0 fD;split at h0
    ·omega
    ·rename_i hq;simp only[hq]at fD;have vA:q=false:=by simpa using hq
     subst vA;unfold jX at hk;have yb:cls o.op<=2:=by simpa using fD
     have h3:decide (3<=cls o.op)=false:=decide_eq_false Ix;have h4:(cls o.op==0)=false:=by simpa using h0
     rw[h3,h4]at hk;rcases hk with hk|hk
     ·simp at hk
     ·exact ZR hk x hx id hp
def ajM{ps:List Nat}{ci ck:Nat}(h:(ci==0||(ci==1&&decide (ck<=4))||(ci==2&&decide (ck<=3))||(decide (ci<=2)&&ck==6))=true){a b:List Ob}(he:Et ps ck a b)(id:Nat)(bO:id∈ps):gJ ci a[id]? b[id]?:=by
 unfold Et at he;split at he
 ·rename_i h6;subst h6;rw[he id bO];unfold gJ;split
  ·trivial
  ·split
   ·intro o ho;exact⟨o,ho,xR o⟩
   ·intro o ho;exact ho
 ·rename_i h6;refine IV ?_ he id;have:(ck==6)=false:=by simpa using h6
  rw[this]at h;simpa using h
def ajN{ops:Array Oper}{ps:List Nat}{qi qk di dk:Bool}{oi ok:Oper}(ha:oi.apart ops ok=true)(hi:cT qi di oi<=2)(hc:(cT qi di oi==0||(cT qi di oi==1&&decide (cT qk dk ok<=4))||(cT qi di oi==2&&decide (cT qk dk ok<=3))||(decide (cT qi di oi<=2)&&cT qk dk ok==6))=true){σ:St}{K:St->Prop}(h:kF P ops ps qi di oi (kF P ops ps qk dk ok K) σ):kF P ops ps qk dk ok (kF P ops ps qi di oi K) σ:=by
 obtain⟨a1,a2,a3⟩:=Oper.apart_spec ha;obtain⟨v,h1,run⟩:=ZS hi h;obtain⟨vk,os,tV,h2,xS⟩:=HU h1;rw[A4]at tV xS;refine xS σ.env _ (λt ht=>(sg λd hd e=>a1 d hd (e▸ht)).symm) ?_;refine run _ _ (λt ht=>?_) (λid bO=>?_) ?_
 ·rw[sg λd hd e=>a3 d hd (e▸ht)]
 ·rw[A4];exact ajM hc tV id bO
 ·rw[A5]at h2;rw[A3 (λd hd e=>a2 d e hd)];exact h2
def ajO{ops:Array Oper}{ps:List Nat}{qi qk di dk:Bool}{oi ok:Oper}(ha:oi.apart ops ok=true)(hk:cT qk dk ok=0){σ:St}{K:St->Prop}(h:kF P ops ps qi di oi (kF P ops ps qk dk ok K) σ):kF P ops ps qk dk ok (kF P ops ps qi di oi K) σ:=by
 obtain⟨a1,a2,a3⟩:=Oper.apart_spec ha;obtain⟨vi,os,tV,h1,run⟩:=HU h;obtain⟨vk,h2,CC⟩:=ZS Ix h1;refine CC σ _ (λt ht=>(sg (σ:=⟨σ.env,os⟩) λd hd e=>a1 d hd (e▸ht)).symm) (λid _=>by rw[hk];simp[gJ]) ?_;rw[IU];refine run _ _ (λt ht=>sg λd hd e=>a3 d hd (e▸ht)) ?_;rw[A5,A3 (λd hd e=>a2 d e hd)];exact h2
def ajP{ops:Array Oper}{ps:List Nat}{qi qk di dk:Bool}{oi ok:Oper}(ha:oi.apart ops ok=true)(hc:zJ (cT qi di oi) (cT qk dk ok)=true){σ:St}{K:St->Prop}(h:kF P ops ps qi di oi (kF P ops ps qk dk ok K) σ):kF P ops ps qk dk ok (kF P ops ps qi di oi K) σ:=by
 by_cases hk:cT qk dk ok=0
 ·exact ajO ha hk h
 ·have fD:(cT qi di oi==0||(cT qi di oi==1&&decide (cT qk dk ok<=4))||(cT qi di oi==2&&decide (cT qk dk ok<=3))||(decide (cT qi di oi<=2)&&cT qk dk ok==6))=true:=by
   simp only[zJ,y8,kG,aZ,beq_iff_eq,decide_eq_true_eq]at hc ⊢;rcases hc with(((h|h)|h)|h)|h
   ·exact .inl (.inl (.inl h))
   ·exact absurd h hk
   ·exact .inl (.inl (.inr h))
   ·exact .inl (.inr h)
   ·exact .inr h
  refine ajN ha ?_ fD h;simp only[kG,aZ,beq_iff_eq,decide_eq_true_eq]at fD;omega
def ja(P:Program)(ops:Array Oper)(ps:List Nat)(qs ds:List Nat)(i:Nat)(K:St->Prop)(σ:St):Prop :=
 match ops[i]? with
 |none=>K σ
 |some o=>kF P ops ps (qs.contains i) (ds.contains i) o K σ
def vZ(P:Program)(ops:Array Oper)(ps:List Nat)(qs ds:List Nat)(K:St->Prop):Nat->Array Bool->St->Prop
 |0,aE,σ=>Region.ready .any ops aE=[]/\K σ
 |n+1,aE,σ=>(Region.ready .any ops aE=[]->K σ)/\∀ i∈Region.ready .any ops aE,ja P ops ps qs ds i (vZ P ops ps qs ds K n (aE.setIfInBounds i true)) σ
def ajQ{ops:Array Oper}{ps:List Nat}{q dc:Bool}{o:Oper}{σ:St}{K K2:St->Prop}(hk:∀ s,K s->K2 s)(h:kF P ops ps q dc o K σ):kF P ops ps q dc o K2 σ:=by
 obtain⟨v,os,_,h2,run⟩:=HU h;exact run σ.env K2 (λ_ _=>rfl) (hk _ h2)
def ajR{ops:Array Oper}{ps:List Nat}{q dc:Bool}{o:Oper}{σ:St}{K:St->Prop}(h:kF P ops ps q dc o K σ):∃s,K s:=by
 obtain⟨v,os,_,h2,run⟩:=HU h;exact⟨_,h2⟩
def yQ{ops:Array Oper}{ps:List Nat}{qs ds:List Nat}{i:Nat}{σ:St}{K K2:St->Prop}(hk:∀ s,K s->K2 s)(h:ja P ops ps qs ds i K σ):ja P ops ps qs ds i K2 σ:=by
 unfold ja at h ⊢;split at h
 ·exact hk _ h
 ·exact ajQ hk h
def ajS{ops:Array Oper}{ps:List Nat}{qs ds:List Nat}{i:Nat}{σ:St}{K:St->Prop}(h:ja P ops ps qs ds i K σ):∃s,K s:=by
 unfold ja at h;split at h
 ·exact⟨_,h⟩
 ·exact ajR h
def MK{os:List Ob}{γ0:Cx}{ops:Array Oper}{ps:List Nat}{qs ds:List Nat}(hd:∀ o∈ops.toList,∀ d,o.dst=some d->d<N){K:St->Prop}{Q:Exit->Act->World->Prop}(hQ:∀ σ' a' w',K σ'->fq N os γ0 σ' a' w'->Q .normal a' w'):∀ (n:Nat) (aE:Array Bool) (σ:St) (a:Act) (w:World),vZ P ops ps qs ds K n aE σ->fq N os γ0 σ a w->wpAny P .any ops Q n aE a w
 |0,aE,σ,a,w,h,ay=>⟨h.1,hQ _ _ _ h.2 ay⟩
 |n+1,aE,σ,a,w,h,ay=>by
  refine⟨λhr=>hQ _ _ _ (h.1 hr) ay,λi hi=>?_⟩;have:=h.2 i hi;unfold ja at this;split at this
  ·rename_i aq;unfold wpOp;simp only[aq];exact MK hd hQ n _ _ _ _ this ay
  ·rename_i o aq;exact ajL hd aq this ay λσ' a' w' hK cP=>MK hd hQ n _ _ _ _ hK cP
def ajT{id:Nat}{ops:Array Oper}{Q:Exit->St->Prop}(ps:List Nat)(qs ds:List Nat)(hm:P.follows .mixedOrders=true)(hd:eU N ops=true)(h:vZ P ops ps qs ds (Q .normal) ops.size (uX ops.size false) σ):W P N n0 (.region id ops true) Q σ:=by
 intro os γ0 a w _ ay;refine wp_region_any hm ?_;exact MK (nx hd) (K:=Q .normal) (λσ' a' w' hK cP=>⟨σ',hK,cP⟩) _ _ _ _ _ h ay.drawn
def ajU{ops:Array Oper}{ps:List Nat}{qs ds:List Nat}{K:St->Prop}{i:Nat}{o:Oper}(hi:ops[i]?=some o)(D:List Nat)(Pf:i∈D)(hD:∀ j∈D,j=i\/∃ oj,ops[j]?=some oj/\∃ e∈oj.after,Region.binds .any e=true/\e.on∈D):∀ (fuel:Nat) (aE:Array Bool) (σ:St),(∀ j∈D,aE.getD j true=false) ->
   i∈Region.ready .any ops aE ->
   (∀ j oj,ops[j]?=some oj->aE.getD j true=false->j ∉ D->o.apart ops oj=true/\zJ (cT (qs.contains i) (ds.contains i) o) (cT (qs.contains j) (ds.contains j) oj)=true) ->
   ja P ops ps qs ds i (vZ P ops ps qs ds K fuel (aE.setIfInBounds i true)) σ->vZ P ops ps qs ds K (fuel+1) aE σ:=by
 intro fuel
 induction fuel with
 |zero =>
  intro aE σ hu hr lN h;refine⟨λe=>by rw[e]at hr;simp at hr,λk hk=>?_⟩;by_cases eV:k=i
  ·subst eV;exact h
  ·obtain⟨s,hs⟩:=ajS h;have:=ready_mono hk eV;rw[hs.1]at this;simp at this
 |succ m ih =>
  intro aE σ hu hr lN h;refine⟨λe=>by rw[e]at hr;simp at hr,λk hk=>?_⟩;by_cases eV:k=i
  ·subst eV;exact h
  ·have y9:=mem_ready.1 hk;obtain⟨eW,ok,ay,dJ⟩:=y9;have p8:k ∉ D:=by
    intro p8;rcases hD k p8 with e|⟨oj,gK,e,he,hb,nX⟩
    ·exact eV e
    ·rw[ay]at gK;simp only[cm.injEq]at gK;subst gK;have h1:=dJ e he hb;have h2:=hu e.on nX;rw[Array.getD_eq_getD_getElem?]at h1 h2;cases hx:aE[e.on]? with
     |none=>rw[hx]at h1;simp at h1
     |some b=>rw[hx]at h1 h2;simp at h1 h2;rw[h1]at h2;simp at h2
   obtain⟨ha,hc⟩:=lN k ok ay eW p8;have h1:ja P ops ps qs ds i (ja P ops ps qs ds k (vZ P ops ps qs ds K m ((aE.setIfInBounds i true).setIfInBounds k true))) σ :=
    yQ (λs hs=>hs.2 k (ready_mono hk eV)) h
   have h2:ja P ops ps qs ds k (ja P ops ps qs ds i (vZ P ops ps qs ds K m ((aE.setIfInBounds i true).setIfInBounds k true))) σ:=by
    unfold ja at h1 ⊢;simp only[hi,ay]at h1 ⊢;exact ajP ha hc h1
   refine yQ (λs hs=>?_) h2;refine ih (aE.setIfInBounds k true) s (λj hj=>?_) (ready_mono hr (Ne.symm eV)) (λj oj gK hl tX=>?_) ?_
   ·have cA:k≠j:=λe=>p8 (by rw[e];exact hj);rw[getD_set_ne _ cA];exact hu j hj
   ·refine lN j oj gK ?_ tX;by_cases xT:k=j
    ·subst xT;exact eW
    ·rwa [getD_set_ne _ xT]at hl
   ·rw[Array.setIfInBounds_comm _ _ (Ne.symm eV)]at hs;exact hs
def ajV{ops:Array Oper}{ps:List Nat}{qs ds:List Nat}{K:St->Prop}{i:Nat}{D:List Nat}{fuel:Nat}{aE:Array Bool}(h:Df ops qs ds aE i D=true)(hs:ja P ops ps qs ds i (vZ P ops ps qs ds K fuel (aE.setIfInBounds i true)) σ):vZ P ops ps qs ds K (fuel+1) aE σ:=by
 unfold Df at h;cases hi:ops[i]? with
 |none=>simp[hi]at h
 |some o =>
  simp only[hi,aZ,List.all_eq_true,uY,kG,beq_iff_eq,Bool.not_eq_true']at h;obtain⟨⟨⟨⟨h1,h2⟩,h3⟩,h4⟩,h5⟩:=h;refine ajU hi D h1 (λj hj=>?_) fuel aE σ h3 ?_ ?_ hs
  ·rcases h2 j hj with h|h
   ·exact .inl h
   ·right;split at h
    ·rename_i oj gK;rw[Array.any_eq_true']at h;obtain⟨e,he,hb⟩:=h;simp only[aZ,uY]at hb;exact⟨oj,gK,e,he,hb.1,hb.2⟩
    ·simp at h
  ·rw[mem_ready];refine⟨h3 i h1,o,hi,λe he hb=>?_⟩;rw[Array.all_eq_true']at h4;have:=h4 e he;simpa [hb] using this
  ·intro j oj gK hl tX;have hj:j<ops.size:=(Array.getElem?_eq_some_iff.1 gK).1;rcases h5 j (List.mem_range.2 hj) with(h|h)|h
   ·exact absurd h tX
   ·rw[hl]at h;simp at h
   ·simpa [gK] using h
def nq(P:Program)(ops:Array Oper)(ps:List Nat)(qs ds:List Nat):PT->(St->Prop)->St->Prop
 |.nil,K,σ=>K σ
 |.take i t,K,σ=>ja P ops ps qs ds i (nq P ops ps qs ds t K) σ
 |.both i t j u,K,σ=>ja P ops ps qs ds i (nq P ops ps qs ds t K) σ/\ja P ops ps qs ds j (nq P ops ps qs ds u K) σ
 |.three i t j u k v,K,σ=>ja P ops ps qs ds i (nq P ops ps qs ds t K) σ/\ja P ops ps qs ds j (nq P ops ps qs ds u K) σ/\ja P ops ps qs ds k (nq P ops ps qs ds v K) σ
def Ax{ops:Array Oper}{ps:List Nat}{qs ds:List Nat}{K:St->Prop}:∀ (t:PT) (n:Nat) (aE:Array Bool) (σ:St),t.j6 ops qs ds n aE=true->nq P ops ps qs ds t K σ->vZ P ops ps qs ds K n aE σ
 |.nil,n,aE,σ,h,hp=>by
  simp only[PT.j6,aZ,beq_iff_eq,List.isEmpty_iff]at h;obtain⟨rfl,h⟩:=h;exact⟨h,hp⟩
 |.take _ _,0,_,_,h,_=>by simp[PT.j6]at h
 |.take i t,n+1,aE,σ,h,hp=>by
  simp only[PT.j6,aZ]at h;exact ajV h.1 (yQ (λs hs=>Ax t n _ s h.2 hs) hp)
 |.both _ _ _ _,0,_,_,h,_=>by simp[PT.j6]at h
 |.both i t j u,n+1,aE,σ,h,hp=>by
  simp only[PT.j6,aZ,beq_iff_eq]at h;obtain⟨⟨h1,h2⟩,h3⟩:=h;refine⟨λe=>by rw[h1]at e;simp at e,λk hk=>?_⟩;rw[h1]at hk;simp only[bj,gU,or_false]at hk;rcases hk with rfl|rfl
  ·exact yQ (λs hs=>Ax t n _ s h2 hs) hp.1
  ·exact yQ (λs hs=>Ax u n _ s h3 hs) hp.2
 |.three _ _ _ _ _ _,0,_,_,h,_=>by simp[PT.j6]at h
 |.three i t j u k v,n+1,aE,σ,h,hp=>by
  simp only[PT.j6,aZ,beq_iff_eq]at h;obtain⟨⟨⟨h1,h2⟩,h3⟩,h4⟩:=h;refine⟨λe=>by rw[h1]at e;simp at e,λx hk=>?_⟩;rw[h1]at hk;simp only[bj,gU,or_false]at hk;rcases hk with rfl|rfl|rfl
  ·exact yQ (λs hs=>Ax t n _ s h2 hs) hp.1
  ·exact yQ (λs hs=>Ax u n _ s h3 hs) hp.2.1
  ·exact yQ (λs hs=>Ax v n _ s h4 hs) hp.2.2
def Y4{id:Nat}{ops:Array Oper}{Q:Exit->St->Prop}(ps:List Nat)(qs ds:List Nat)(t:PT)(hm:P.follows .mixedOrders=true)(hd:eU N ops=true)(ht:t.j6 ops qs ds ops.size (uX ops.size false)=true)(h:nq P ops ps qs ds t (Q .normal) σ):W P N n0 (.region id ops true) Q σ :=
 ajT ps qs ds hm hd (Ax t _ _ σ ht h)
def ZT{ops:Array Oper}{ps:List Nat}{qs ds:List Nat}{K:St->Prop}:nq P ops ps qs ds .nil K σ=K σ:=rfl
def ZU{ops:Array Oper}{ps:List Nat}{qs ds:List Nat}{i:Nat}{t:PT}{K:St->Prop}:nq P ops ps qs ds (.take i t) K σ=ja P ops ps qs ds i (nq P ops ps qs ds t K) σ:=rfl
def ZV{ops:Array Oper}{ps:List Nat}{qs ds:List Nat}{i j k:Nat}{t u v:PT}{K:St->Prop}:nq P ops ps qs ds (.three i t j u k v) K σ=(ja P ops ps qs ds i (nq P ops ps qs ds t K) σ/\ja P ops ps qs ds j (nq P ops ps qs ds u K) σ/\ja P ops ps qs ds k (nq P ops ps qs ds v K) σ):=rfl
def ZW{ops:Array Oper}{ps:List Nat}{qs ds:List Nat}{i j:Nat}{t u:PT}{K:St->Prop}:nq P ops ps qs ds (.both i t j u) K σ=(ja P ops ps qs ds i (nq P ops ps qs ds t K) σ/\ja P ops ps qs ds j (nq P ops ps qs ds u K) σ):=rfl
def ZX{ops:Array Oper}{ps:List Nat}{q:Bool}{o:Oper}{K:St->Prop}:kF P ops ps q true o K σ=(o.guard=none/\vY ps P o K σ):=rfl
def ZY{ops:Array Oper}{ps:List Nat}{q:Bool}{o:Oper}{K:St->Prop}:kF P ops ps q false o K σ=(jX ps q o σ/\dX P ops q o K σ):=rfl
section
variable {dst:Option Tmp} {tt:TypeId} {p:String} {af:Array Edge} {g:Option (Nat×Bool)} {K:St->Prop} {ps:List Nat}
def Ah(ps:List Nat)(v:AV):Prop:=∀ id,og v=some id->id ∉ ps
def ML(v:Value):Ah ps (.lit v)=True:=eq_true λid h=>by cases h
def MN(id a b c:Nat):Ah ps (.ref id a b c)=(id ∉ ps):=propext ⟨λh=>h id rfl,λh i e=>by cases e;exact h⟩
def ZZ(s x:Operand)(cp:Array TypeId):vY ps P ⟨dst,.call ⟨.builtin .append,#[s,x],cp⟩,tt,p,af,g⟩ K σ=(Ah ps (ev σ s)/\(∀ id∈ps,id<σ.aa.length)/\aI P ⟨dst,.call ⟨.builtin .append,#[s,x],cp⟩,tt,p,af,g⟩ σ K):=by
 simp only[vY,aI,Ah]
def Z0{o:Oper}:jX ps true o σ=True:=by simp[jX]
def xy{o:Oper}(h:(cls o.op==0||decide (3<=cls o.op))=true):jX ps false o σ=True:=eq_true (.inl (by simpa using h))
def Z1(t:TypeId)(a:Operand):jX ps false ⟨dst,.load t a,tt,p,af,g⟩ σ=qI ps (ev σ a):=by simp[jX,cls,Op.operands,vX]
def Z2(t:TypeId)(a i:Operand):jX ps false ⟨dst,.indexAddr t a i,tt,p,af,g⟩ σ=(qI ps (ev σ a)/\qI ps (ev σ i)):=by simp[jX,cls,Op.operands,vX]
def Z3(a:Operand):jX ps false ⟨dst,.nilCheck a,tt,p,af,g⟩ σ=qI ps (ev σ a):=by simp[jX,cls,Op.operands,vX]
def Z4(t:TypeId)(a:Operand)(f:Nat):jX ps false ⟨dst,.fieldAddr t a f,tt,p,af,g⟩ σ=qI ps (ev σ a):=by simp[jX,cls,Op.operands,vX]
def Z5(x:Operand):jX ps false ⟨dst,.move x,tt,p,af,g⟩ σ=True:=xy NZ
def Z6(x:Operand):jX ps false ⟨dst,.assign x,tt,p,af,g⟩ σ=True:=xy NZ
def Z7(c a b:Operand):jX ps false ⟨dst,.pick c a b,tt,p,af,g⟩ σ=True:=xy NZ
def Z8(op:BinOp)(t:TypeId)(x y:Operand)(yt:TypeId):jX ps false ⟨dst,.binOp op t x y yt,tt,p,af,g⟩ σ=True:=xy NZ
def Z9(t:TypeId)(parts:Array (Nat×Operand)):jX ps false ⟨dst,.build t parts,tt,p,af,g⟩ σ=True:=xy NZ
def aaa(e:TypeId):jX ps false ⟨dst,.alloc e,tt,p,af,g⟩ σ=True:=xy NZ
def aab(t:TypeId)(len:Nat)(parts:Array (Nat×Operand)):jX ps false ⟨dst,.buildSlice t len parts,tt,p,af,g⟩ σ=True:=xy NZ
def aac(t:TypeId)(a x:Operand):jX ps false ⟨dst,.store t a x,tt,p,af,g⟩ σ=True:=xy NZ
def aad(f:Operand)(args:Array Operand)(cp:Array TypeId):jX ps false ⟨dst,.call ⟨.value f,args,cp⟩,tt,p,af,g⟩ σ=True:=xy NZ
def aae(id r c:Nat):qI ps (.ptr id r c)=(id∈ps):=rfl
def aaf(id a b c:Nat):qI ps (.ref id a b c)=(id∈ps):=rfl
def aag(v:Value):qI ps (.lit v)=True:=rfl
def aah(s:Nat)(r:List (List AV)):qI ps (.tree s r)=True:=rfl
def aai(r:List AV):qI ps (.cd r)=True:=rfl
def aaj(r:List AV):qI ps (.agg r)=True:=rfl
def aak(r:List AV):qI ps (.bu r)=True:=rfl
end
def Ra:=aaI @ZT @ZU @ZV @ZW @ZX @ZY @ML (aaI @MN @ZZ @Z0 @Z1 @Z2 @Z3 @Z4 (aaI @Z5 @Z6 @Z7 @Z8 @Z9 @aaa @aab (aaI @aac @aad @aae @aaf @aag @aah @aai (N2 @aaj @aak))))
def Ht{x:Code}{Q:Exit->St->Prop}(R:St->Prop)(h1:∀ s,R s->Q .normal s)(h2:∀ Q':Exit->St->Prop,(∀ s,R s->Q' .normal s)->W P N n0 x Q' σ):W P N n0 x Q σ:=h2 Q h1
end Go.Am

