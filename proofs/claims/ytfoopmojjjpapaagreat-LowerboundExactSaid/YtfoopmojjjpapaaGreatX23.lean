import Derived.Test.YtfoopmojjjpapaaGreatX12
set_option linter.all false
set_option maxHeartbeats 0
set_option maxRecDepth 20000
open List renaming getElem?_eq_some_iff→aR,getElem?_set→bP,getElem?_eq_getElem→bq,mem_cons→bm,contains_iff_mem→pY,not_mem_nil→iT
open Option renaming some→cy
open Bool renaming or_eq_true→l7,and_eq_true→bg
open Array renaming replicate→xK
namespace Go.Am
variable {P:Program} {N n0:Nat} {σ:St}
def aF.Ko(d id sz:Nat){rows:List (List AV)}(ho:σ.aa[id]?=some (.arr sz rows))(hd:σ.env d=.ref id sz 0 rows.length)(hw:∀ row∈rows,row.length=sz)(u3:∀ row∈rows,∀ v∈row,(∃ x,v=.lit x)\/∃ s r,v=.tree s r):aF n0 σ ⟨je σ.env d (.tree sz rows),σ.aa.set id .gone⟩:=by
 intro os γ0 γ _ hs hf;have zO:id<σ.aa.length:=(aR.1 ho).1
 let az:Cx:={ γ with Z:=λb=>γ.Z b\/∃ o cap,γ.blk id=some (b,o,cap) }
 let os2:=σ.aa.set id .gone
 have ij:∀ i,os2[i]?=if i=id then some .gone else σ.aa[i]?:=by
  intro i;show(σ.aa.set id _)[i]?=_;rw[bP];by_cases h1:i=id
  ·subst h1;simp[zO]
  ·simp[Ne.symm h1,h1]
 have hR:∀ v cv,aw σ.aa γ.w γ.Z γ.blk v cv->aw os2 az.w az.Z az.blk v cv:=λv cv hv =>
  hv.mono (λb hb=>⟨.inl hb,rfl⟩) (λi o hi=>by
   rw[ij];by_cases h1:i=id
   ·left;rw[if_pos h1]
   ·rw[if_neg h1];by_cases hg:o=.gone
    ·subst hg;exact .inl hi
    ·exact .inr ⟨rfl,o,hi,Ob.jh hg⟩)
 have bN:∀ i,Live os2 i->Live σ.aa i/\i≠id:=by
  rintro i⟨o,hi,hg⟩;rw[ij]at hi;split at hi
  ·simp at hi;exact absurd hi.symm hg
  ·rename_i h2;exact⟨⟨o,hi,hg⟩,h2⟩
 have ov:Live σ.aa id:=⟨_,ho,IM⟩;have tq:=hs.ao d;rw[hd]at tq;have jd:aw os2 az.w az.Z az.blk (.tree sz rows) (γ.tmps.getD d Go.undef):=by
  have ef:dF σ (λx=>x≠id) (.tree sz rows) (.ref id sz 0 rows.length):=dF.flat ho hw rfl IM u3;exact .cC _ _ (ef.zq hs (γc:=az) (λb hb=>.inl hb) rfl (λx b o cap b9 _ hb=>.inr ⟨o,cap,by rw[show id=x by simpa using(Decidable.not_not.1 b9).symm];exact hb⟩) _ tq)
 refine⟨az,rfl,rfl,⟨λk=>?_,?_,λi j b o c o' c' hi hj=>hs.inj i j b o c o' c' (bN i hi).1 (bN j hj).1,?_,?_,λg=>xY (hs.gl g) λb hb=>⟨.inl hb,rfl⟩⟩,?_⟩
 ·show aw os2 az.w az.Z az.blk (je σ.env d (.tree sz rows) k) (γ.tmps.getD k Go.undef);simp only[je];split
  ·rename_i e;subst e;exact jd
  ·exact hR _ _ (hs.ao k)
 ·intro i o hi;have ar:os2[i]?=some o:=hi;rw[ij]at ar;split at ar
  ·simp only[cy.injEq]at ar;subst ar;trivial
  ·by_cases hg:o=.gone
   ·subst hg;trivial
   ·exact(hs.dx i o ar).mono hR rfl (λ_ _ _ _=>rfl)
 ·rintro b ⟨i,o,c',hi,hb⟩ (hz|⟨o',cap,aY⟩)
  ·exact hs.nz b ⟨i,o,c',(bN i hi).1,hb⟩ hz
  ·exact(bN i hi).2 (hs.inj i id b o c' o' cap (bN i hi).1 ov hb aY)
 ·rintro b (hz|⟨o,cap,hb⟩)
  ·exact hs.fV b hz
  ·exact hs.blt ov hb
 ·refine⟨hf.kD,hf.tape,hf.output,hf.size,hf.dN,λb hb=>.inl (hf.z0 b hb),?_,?_,by show os.length<=os2.length;simp[os2];exact hf.len,?_,hf.drawn⟩
  ·rintro b (hz|⟨o,cap,hb⟩)
   ·exact hf.z1 b hz
   ·exact .inr (hf.own b ⟨id,o,cap,ov,hb⟩)
  ·rintro b ⟨i,o,c',hi,hb⟩;exact hf.own b ⟨i,o,c',(bN i hi).1,hb⟩
  ·intro i hi hl;obtain⟨h1,x,x',hx,bW,hk⟩:=hf.dV i hi (bN i hl).1;have jO:Live os2 i:=hl;obtain⟨o,dz,nY⟩:=jO;refine⟨h1,x,o,hx,dz,?_⟩;rw[ij]at dz;split at dz
   ·simp at dz;exact absurd dz.symm nY
   ·rw[bW]at dz;simp only[cy.injEq]at dz;subst dz;exact hk
def dy.mono{P:Program}{f:FuncId}{args:List AV}{aa:List Ob}{ic Zm:AV->List Ob->Prop}(h:dy P f args aa ic)(hp:∀ r os,ic r os->Zm r os):dy P f args aa Zm:=by
 refine⟨h.1,λγ jx j3=>Calls.mono (h.2 γ jx j3) ?_⟩;rintro e w'⟨res,ba,cv,az,h0,h1⟩;exact⟨res,ba,cv,az,hp _ _ h0,h1⟩
end Go.Am
namespace Go.Am
variable {P:Program} {N n0:Nat} {σ:St}
end Go.Am
namespace Go.Am
variable {P:Program} {N n0:Nat} {σ:St} {Q:Exit->St->Prop}
end Go.Am
namespace Go.Am
variable {P:Program} {N n0:Nat} {σ:St} {Q:Exit->St->Prop}
def aF.aiP(d:Nat)(kp:Nat->Prop){v:AV}{os2:List Ob}(hl:os2.length=σ.aa.length)(hk:∀ i o,σ.aa[i]?=some o->(kp i/\os2[i]?=some o)\/(¬ kp i/\os2[i]?=some .gone))(ef:dF σ kp v (σ.env d)):aF n0 σ ⟨je σ.env d v,os2⟩:=by
 intro os γ0 γ _ hs hf
 let az:Cx:={ γ with Z:=λb=>γ.Z b\/∃ id o cap,Live σ.aa id/\¬ kp id/\γ.blk id=some (b,o,cap) }
 have Ao:∀ i o,os2[i]?=some o->o≠.gone->kp i/\σ.aa[i]?=some o:=by
  intro i o hi hg;have aS:i<σ.aa.length:=by rw[<- hl];exact(aR.1 hi).1
  obtain⟨x,hx⟩:∃x,σ.aa[i]?=some x:=⟨_,bq aS⟩;rcases hk i x hx with⟨h1,h2⟩|⟨_,h2⟩
  ·rw[hi]at h2;exact⟨h1,by rw[hx,h2]⟩
  ·rw[hi]at h2;simp at h2;exact absurd h2 hg
 have hR:∀ v cv,aw σ.aa γ.w γ.Z γ.blk v cv->aw os2 az.w az.Z az.blk v cv:=λv cv hv =>
  hv.mono (λb hb=>⟨.inl hb,rfl⟩) (λi o hi=>by
   rcases hk i o hi with⟨h1,h2⟩|⟨h1,h2⟩
   ·by_cases hg:o=.gone
    ·subst hg;exact .inl h2
    ·exact .inr ⟨rfl,o,h2,Ob.jh hg⟩
   ·exact .inl h2)
 have bN:∀ i,Live os2 i->Live σ.aa i/\kp i:=by
  rintro i⟨o,hi,hg⟩;obtain⟨h1,h2⟩:=Ao i o hi hg;exact⟨⟨o,h2,hg⟩,h1⟩
 have jd:aw os2 az.w az.Z az.blk v (γ.tmps.getD d Go.undef) :=
  .cC _ _ (ef.zq hs (γc:=az) (λb hb=>.inl hb) rfl (λx b o cap b9 j6 hb=>.inr ⟨x,o,cap,j6,b9,hb⟩) _ (hs.ao d))
 refine⟨az,rfl,rfl,⟨λk=>?_,?_,λi j b o c o' c' hi hj=>hs.inj i j b o c o' c' (bN i hi).1 (bN j hj).1,?_,?_,λg=>xY (hs.gl g) λb hb=>⟨.inl hb,rfl⟩⟩,?_⟩
 ·show aw os2 az.w az.Z az.blk (je σ.env d v k) (γ.tmps.getD k Go.undef);simp only[je];split
  ·rename_i e;subst e;exact jd
  ·exact hR _ _ (hs.ao k)
 ·intro i o hi;have ar:os2[i]?=some o:=hi;by_cases hg:o=.gone
  ·subst hg;trivial
  ·exact(hs.dx i o (Ao i o ar hg).2).mono hR rfl (λ_ _ _ _=>rfl)
 ·rintro b ⟨i,o,c',hi,hb⟩ (hz|⟨j,o',cap,hj,Ap,aY⟩)
  ·exact hs.nz b ⟨i,o,c',(bN i hi).1,hb⟩ hz
  ·have:=hs.inj i j b o c' o' cap (bN i hi).1 hj hb aY;subst this;exact Ap (bN i hi).2
 ·rintro b (hz|⟨j,o',cap,hj,Ap,hb⟩)
  ·exact hs.fV b hz
  ·exact hs.blt hj hb
 ·refine⟨hf.kD,hf.tape,hf.output,hf.size,hf.dN,λb hb=>.inl (hf.z0 b hb),?_,?_,by show os.length<=os2.length;rw[hl];exact hf.len,?_,hf.drawn⟩
  ·rintro b (hz|⟨j,o',cap,hj,Ap,hb⟩)
   ·exact hf.z1 b hz
   ·exact .inr (hf.own b ⟨j,o',cap,hj,hb⟩)
  ·rintro b ⟨i,o,c',hi,hb⟩;exact hf.own b ⟨i,o,c',(bN i hi).1,hb⟩
  ·intro i hi j6;obtain⟨h1,x,x',hx,bW,jU⟩:=hf.dV i hi (bN i j6).1;obtain⟨o,dz,nY⟩:Live os2 i:=j6;refine⟨h1,x,o,hx,dz,?_⟩;have h3:=(Ao i o dz nY).2;rw[bW]at h3;simp only[cy.injEq]at h3;subst h3;exact jU
end Go.Am
namespace Go.Am
variable {P:Program} {N n0:Nat} {σ:St} {Q:Exit->St->Prop}
def aF.aiQ(id c:Nat)(kp:Nat->Prop){cells:List AV}{x v:AV}{os2:List Ob}(ho:σ.aa[id]?=some (.var cells))(hc:cells[c]?=some x)(Zn:kp id)(hl:os2.length=σ.aa.length)(hk:∀ i o,σ.aa[i]?=some o->(kp i/\os2[i]?=some (if i=id then .var (cells.set c v) else o))\/(¬ kp i/\os2[i]?=some .gone))(ef:dF σ kp v x):aF n0 σ ⟨σ.env,os2⟩:=by
 intro os γ0 γ _ hs hf
 let az:Cx:={ γ with Z:=λb=>γ.Z b\/∃ id o cap,Live σ.aa id/\¬ kp id/\γ.blk id=some (b,o,cap) }
 have MI:os2[id]?=some (.var (cells.set c v)):=by
  rcases hk id _ ho with⟨_,h2⟩|⟨h1,_⟩
  ·rw[if_pos rfl]at h2;exact h2
  ·exact absurd Zn h1
 have Ao:∀ i o,i≠id->os2[i]?=some o->o≠.gone->kp i/\σ.aa[i]?=some o:=by
  intro i o bZ hi hg;have aS:i<σ.aa.length:=by rw[<- hl];exact(aR.1 hi).1
  obtain⟨x,hx⟩:∃x,σ.aa[i]?=some x:=⟨_,bq aS⟩;rcases hk i x hx with⟨h1,h2⟩|⟨_,h2⟩
  ·rw[if_neg bZ,hi]at h2;exact⟨h1,by rw[hx,h2]⟩
  ·rw[hi]at h2;simp at h2;exact absurd h2 hg
 have hR:∀ v cv,aw σ.aa γ.w γ.Z γ.blk v cv->aw os2 az.w az.Z az.blk v cv:=λv cv hv =>
  hv.mono (λb hb=>⟨.inl hb,rfl⟩) (λi o hi=>by
   by_cases bZ:i=id
   ·subst bZ;rw[ho]at hi;simp only[cy.injEq]at hi;subst hi;exact .inr ⟨rfl,_,MI,by simp[Ob.dI]⟩
   rcases hk i o hi with⟨h1,h2⟩|⟨h1,h2⟩
   ·rw[if_neg bZ]at h2;by_cases hg:o=.gone
    ·subst hg;exact .inl h2
    ·exact .inr ⟨rfl,o,h2,Ob.jh hg⟩
   ·exact .inl h2)
 have bN:∀ i,Live os2 i->Live σ.aa i/\kp i:=by
  rintro i⟨o,hi,hg⟩;by_cases bZ:i=id
  ·subst bZ;exact⟨⟨_,ho,IM⟩,Zn⟩
  ·obtain⟨h1,h2⟩:=Ao i o bZ hi hg;exact⟨⟨o,h2,hg⟩,h1⟩
 refine⟨az,rfl,rfl,⟨λk=>hR _ _ (hs.ao k),?_,λi j b o c o' c' hi hj=>hs.inj i j b o c o' c' (bN i hi).1 (bN j hj).1,?_,?_,λg=>xY (hs.gl g) λb hb=>⟨.inl hb,rfl⟩⟩,?_⟩
 ·intro i o hi;have ar:os2[i]?=some o:=hi;by_cases bZ:i=id
  ·subst bZ;rw[MI]at ar;simp only[cy.injEq]at ar;subst ar;obtain⟨b,cap,cur,t,h1,h2,h3,h4⟩:=hs.dx _ _ ho;refine⟨b,cap,cur,t,h1,h2,by simpa using h3,λk v' hv=>?_⟩;rw[bP]at hv;split at hv
   ·rename_i e;subst e;split at hv
    ·simp only[cy.injEq]at hv;subst hv;exact .cC _ _ (ef.zq hs (γc:=az) (λb hb=>.inl hb) rfl (λx b o cap b9 j6 hb=>.inr ⟨x,o,cap,j6,b9,hb⟩) _ (h4 c _ hc))
    ·simp at hv
   ·exact hR _ _ (h4 k v' hv)
  ·by_cases hg:o=.gone
   ·subst hg;trivial
   ·exact(hs.dx i o (Ao i o bZ ar hg).2).mono hR rfl (λ_ _ _ _=>rfl)
 ·rintro b ⟨i,o,c',hi,hb⟩ (hz|⟨j,o',cap,hj,Ap,aY⟩)
  ·exact hs.nz b ⟨i,o,c',(bN i hi).1,hb⟩ hz
  ·have:=hs.inj i j b o c' o' cap (bN i hi).1 hj hb aY;subst this;exact Ap (bN i hi).2
 ·rintro b (hz|⟨j,o',cap,hj,Ap,hb⟩)
  ·exact hs.fV b hz
  ·exact hs.blt hj hb
 ·refine⟨hf.kD,hf.tape,hf.output,hf.size,hf.dN,λb hb=>.inl (hf.z0 b hb),?_,?_,by show os.length<=os2.length;rw[hl];exact hf.len,?_,hf.drawn⟩
  ·rintro b (hz|⟨j,o',cap,hj,Ap,hb⟩)
   ·exact hf.z1 b hz
   ·exact .inr (hf.own b ⟨j,o',cap,hj,hb⟩)
  ·rintro b ⟨i,o,c',hi,hb⟩;exact hf.own b ⟨i,o,c',(bN i hi).1,hb⟩
  ·intro i hi j6;obtain⟨h1,x,x',hx,bW,jU⟩:=hf.dV i hi (bN i j6).1;obtain⟨o,dz,nY⟩:Live os2 i:=j6;refine⟨h1,x,o,hx,dz,?_⟩;by_cases bZ:i=id
   ·subst bZ;rw[ho]at bW;rw[MI]at dz;simp only[cy.injEq]at bW dz;subst bW;subst dz;exact Ob.FU jU (by simp[Ob.dI])
   ·have h3:=(Ao i o bZ dz nY).2;rw[bW]at h3;simp only[cy.injEq]at h3;subst h3;exact jU
end Go.Am
namespace Go.Am
variable {P:Program} {N n0:Nat} {σ:St}
def qY(ps:List Nat):AV->Prop
 |.ptr id _ _=>id∈ps
 |.ref id _ _ _=>id∈ps
 |.c9 id=>id∈ps
 |_=>True
def vQ(ps:List Nat)(σ:St):List Operand->Prop
 |[]=>True
 |x::l=>qY ps (ev σ x)/\vQ ps σ l
def jK(ps:List Nat)(q:Bool)(o:Oper)(σ:St):Prop:=(q||cls o.op==0||decide (3<=cls o.op))=true\/vQ ps σ o.op.operands.toList
def Zo{ps:List Nat}:∀ {l:List Operand},vQ ps σ l->∀ x∈l,∀ id,qu (ev σ x)=some id->id∈ps
 |[],_,x,hx=>by simp at hx
 |y::l,h,x,hx=>by
  rcases bm.1 hx with rfl|hx
  ·intro id e;have h1:=h.1;cases hv:ev σ x<;>rw[hv]at e h1<;>simp[qu,qY]at e h1;all_goals subst e;exact h1
  ·exact Zo h.2 x hx
def MJ{ps:List Nat}{σ2:St}:∀ {l:List Operand},(∀ x∈l,ev σ2 x=ev σ x)->vQ ps σ2 l=vQ ps σ l
 |[],_=>rfl
 |y::l,h=>by
  simp only[vQ];rw[h y IM,MJ λx hx=>h x (by simp[hx])]
def vR(ps:List Nat)(P:Program)(o:Oper)(K:St->Prop)(σ:St):Prop :=
 match o.op with
 |.call { callee:=.builtin .append,args,.. } =>
  match args.toList with
  |[s,_]=>(∀ id,qu (ev σ s)=some id->id ∉ ps)/\(∀ id∈ps,id<σ.aa.length)/\b8 P o σ K
  |_=>False
 |_=>False
def aiR{ps:List Nat}{o:Oper}{K:St->Prop}(h:vR ps P o K σ):aH P o σ K:=by
 unfold vR at h;unfold aH;split at h
 ·rename_i args dh dt;split at h
  ·simp only[dt];exact h.2.2
  ·exact h.elim
 ·exact h.elim
def aiS{ps:List Nat}{o:Oper}{K:St->Prop}(h:vR ps P o K σ):
  ∃ v os,(∀ id∈ps,os[id]?=σ.aa[id]?)/\K ((⟨σ.env,os⟩:St).put o.dst v)/\∀ (e2:Nat->AV) (K2:St->Prop),(∀ x∈o.op.operands.toList,ev ⟨e2,σ.aa⟩ x=ev σ x)->K2 ((⟨e2,os⟩:St).put o.dst v)->vR ps P o K2 ⟨e2,σ.aa⟩:=by
 obtain⟨dst,op,type,pos,after,guard⟩:=o;unfold vR at h;dsimp only at h;split at h
 ·rename_i args dh;split at h
  ·rename_i s x HU;obtain⟨h1,h2,hW⟩:=h;unfold b8 at hW;simp only at hW;(repeat' split at hW)<;>try exact hW.elim
   rename_i s' x' t t' bW jM _ _ _ _ z pre σ1 sz src hk hz mP qw;obtain⟨rfl,rfl⟩:s=s'/\x=x':=by rw[HU]at bW;simpa using bW
   have sP:σ1=⟨σ.env,σ1.aa⟩/\∀ e,kZ ⟨e,σ.aa⟩ (ty P (ty P t).elem).size (ev σ s)=some (pre,⟨e,σ1.aa⟩):=by
    unfold kZ at mP ⊢;(repeat' split at mP)<;>simp_all
    all_goals obtain⟨rfl,rfl⟩:=mP;simp
   have ed:σ1.aa=σ.aa\/∃ n9,ev σ s=.ref n9 (ty P (ty P t).elem).size 0 0/\False\/(qu (ev σ s)=some n9/\σ1.aa=σ.aa.set n9 .gone):=by
    clear bW HU hW qw sP h2;unfold kZ at mP;split at mP
    ·left;cases mP;rfl
    ·rename_i n9 _ _ _ he;split at mP
     ·split at mP
      ·cases mP;exact .inr ⟨n9,.inr ⟨by rw[he];rfl,rfl⟩⟩
      ·cases mP
     ·cases mP
    ·cases mP
   have Jx:∀ id∈ps,σ1.aa[id]?=σ.aa[id]?:=λid b9=>by
    rcases ed with e|⟨n9,⟨_,h⟩|⟨e,e2⟩⟩
    ·rw[e]
    ·exact h.elim
    ·rw[e2,bP,if_neg];intro e3;subst e3;exact h1 _ e b9
   have hlen:σ1.aa.length=σ.aa.length:=by
    rcases ed with e|⟨n9,⟨_,h⟩|⟨e,e2⟩⟩
    ·rw[e]
    ·exact h.elim
    ·rw[e2,List.length_set]
   refine⟨_,σ1.aa++[.arr sz (pre++src)],λid b9=>?_,by have:=hW.2;rw[sP.1]at this;exact this,λe2 K2 hx dC=>?_⟩
   ·rw[List.getElem?_append_left (by rw[hlen];exact h2 id b9)];exact Jx id b9
   ·have j3:nC ⟨e2,σ.aa⟩ (ev σ x)=some (sz,src):=qw;simp[Op.operands,Call.operands,HU]at hx;unfold vR;simp only[HU];refine⟨λid he=>h1 id (by rw[<- hx.1];exact he),h2,?_⟩;unfold b8;simp only[bW,jM,hx.1,hx.2,hk,hz,sP.2,j3];exact⟨hW.1,dC⟩
  ·exact h.elim
 ·exact h.elim
def ku(P:Program)(ops:Array Oper)(ps:List Nat)(q dc:Bool)(o:Oper)(K:St->Prop)(σ:St):Prop :=
 match dc with
 |true=>o.guard=none/\vR ps P o K σ
 |false=>jK ps q o σ/\dY P ops q o K σ
def Ew(ps:List Nat)(c:Nat)(a b:List Ob):Prop:=if c=6 then ∀ id∈ps,b[id]?=a[id]? else kF c a b
def aiT{N:Nat}{os:List Ob}{γ0:Cx}{ops:Array Oper}{ps:List Nat}(hd:∀ o∈ops.toList,∀ d,o.dst=some d->d<N){q dc:Bool}{i:Nat}{o:Oper}(hi:ops[i]?=some o){σ:St}{K:St->Prop}(h:ku P ops ps q dc o K σ){a:Act}{w:World}(aA:h9 N os γ0 σ a w){Q:Exit->Act->World->Prop}{next:Act->World->Prop}(hn:∀ σ' a' w',K σ'->h9 N os γ0 σ' a' w'->next a' w'):wpOp P ops Q i next a w:=by
 cases dc with
 |false=>exact P0 hd hi h.2 aA hn
 |true =>
  have cq:o∈ops.toList:=List.mem_of_getElem? (by simpa using hi);unfold wpOp;simp only[hi];have hw:Region.wanted o (yielded ops a.tmps)=true:=by simp[Region.wanted,h.1]
  rw[if_pos hw];left;exact xT (aiR h.2) aA (hd o cq) hn
def HV{ops:Array Oper}{ps:List Nat}{q dc:Bool}{o:Oper}{σ:St}{K:St->Prop}(hW:ku P ops ps q dc o K σ):
  ∃ v os,Ew ps (ik q dc o) σ.aa os/\K ((⟨σ.env,os⟩:St).put o.dst v)/\∀ (e2:Nat->AV) (K2:St->Prop),(∀ t∈o.looksAt ops,e2 t=σ.env t)->K2 ((⟨e2,os⟩:St).put o.dst v)->ku P ops ps q dc o K2 ⟨e2,σ.aa⟩:=by
 cases dc with
 |false =>
  obtain⟨hc,hW⟩:=hW;obtain⟨v,os,h1,h2,h3⟩:=CR hW;refine⟨v,os,?_,h2,λe2 K2 hl hK=>⟨?_,h3 e2 K2 hl hK⟩⟩
  ·unfold Ew ik;simp only[Bool.false_eq_true,if_false];rw[if_neg]
   ·exact h1
   ·unfold fS;split
    ·omega
    ·unfold cls;split<;>omega
  ·unfold jK at hc ⊢;rw[MJ (σ:=σ) (wz hl)];exact hc
 |true =>
  obtain⟨hg,hW⟩:=hW;obtain⟨v,os,h1,h2,h3⟩:=aiS hW;exact⟨v,os,by unfold Ew ik;simp only[if_true];exact h1,h2,λe2 K2 hl hK=>⟨hg,h3 e2 K2 (wz (os:=σ.aa) hl) hK⟩⟩
def Zp{ops:Array Oper}{ps:List Nat}{q dc:Bool}{o:Oper}{σ:St}{K:St->Prop}(hc:ik q dc o<=2)(hW:ku P ops ps q dc o K σ):
  ∃ v,K (σ.put o.dst v)/\∀ (σ2:St) (K2:St->Prop),(∀ t∈o.looksAt ops,σ2.env t=σ.env t)->(∀ (id:Nat),id∈ps->jz (ik q dc o) σ.aa[id]? σ2.aa[id]?)->K2 (σ2.put o.dst v)->ku P ops ps q dc o K2 σ2:=by
 cases dc with
 |true=>simp[ik]at hc
 |false =>
  obtain⟨hk,hW⟩:=hW;have iK:fS q o<=2:=by simpa [ik] using hc
  obtain⟨v,h1,h2⟩:=aez iK hW;refine⟨v,h1,λσ2 K2 hl ho hK=>⟨?_,h2 σ2 K2 hl (λx hx id hp=>?_) hK⟩⟩
  ·unfold jK at hk ⊢;rw[MJ (σ:=σ) (wz (e2:=σ2.env) (os:=σ2.aa) hl)];exact hk
  ·have cJ:∀ id,id∈ps->jz (fS q o) σ.aa[id]? σ2.aa[id]?:=by simpa [ik] using ho
   by_cases h0:fS q o=0
   ·rw[h0];simp[jz]
   ·refine cJ id ?_;unfold fS at h0 iK;split at h0
    ·omega
    ·rename_i hq;simp only[hq]at iK;have xh:q=false:=by simpa using hq
     subst xh;unfold jK at hk;have zH:cls o.op<=2:=by simpa using iK
     have h3:decide (3<=cls o.op)=false:=decide_eq_false AT;have h4:(cls o.op==0)=false:=by simpa using h0
     rw[h3,h4]at hk;rcases hk with hk|hk
     ·simp at hk
     ·exact Zo hk x hx id hp
def aiU{ps:List Nat}{ci ck:Nat}(h:(ci==0||(ci==1&&decide (ck<=4))||(ci==2&&decide (ck<=3))||(decide (ci<=2)&&ck==6))=true){a b:List Ob}(he:Ew ps ck a b)(id:Nat)(b9:id∈ps):jz ci a[id]? b[id]?:=by
 unfold Ew at he;split at he
 ·rename_i h6;subst h6;rw[he id b9];unfold jz;split
  ·trivial
  ·split
   ·intro o ho;exact⟨o,ho,zl o⟩
   ·intro o ho;exact ho
 ·rename_i h6;refine P7 ?_ he id;have:(ck==6)=false:=by simpa using h6
  rw[this]at h;simpa using h
def aiV{ops:Array Oper}{ps:List Nat}{qi qk di dk:Bool}{oi ok:Oper}(ha:oi.apart ops ok=true)(hi:ik qi di oi<=2)(hc:(ik qi di oi==0||(ik qi di oi==1&&decide (ik qk dk ok<=4))||(ik qi di oi==2&&decide (ik qk dk ok<=3))||(decide (ik qi di oi<=2)&&ik qk dk ok==6))=true){σ:St}{K:St->Prop}(h:ku P ops ps qi di oi (ku P ops ps qk dk ok K) σ):ku P ops ps qk dk ok (ku P ops ps qi di oi K) σ:=by
 obtain⟨a1,a2,a3⟩:=Oper.apart_spec ha;obtain⟨v,h1,run⟩:=Zp hi h;obtain⟨vk,os,zm,h2,CS⟩:=HV h1;rw[Fg]at zm CS;refine CS σ.env _ (λt ht=>(xV λd hd e=>a1 d hd (e▸ht)).symm) ?_;refine run _ _ (λt ht=>?_) (λid b9=>?_) ?_
 ·rw[xV λd hd e=>a3 d hd (e▸ht)]
 ·rw[Fg];exact aiU hc zm id b9
 ·rw[Fh]at h2;rw[Ff (λd hd e=>a2 d e hd)];exact h2
def aiW{ops:Array Oper}{ps:List Nat}{qi qk di dk:Bool}{oi ok:Oper}(ha:oi.apart ops ok=true)(hk:ik qk dk ok=0){σ:St}{K:St->Prop}(h:ku P ops ps qi di oi (ku P ops ps qk dk ok K) σ):ku P ops ps qk dk ok (ku P ops ps qi di oi K) σ:=by
 obtain⟨a1,a2,a3⟩:=Oper.apart_spec ha;obtain⟨vi,os,zm,h1,run⟩:=HV h;obtain⟨vk,h2,Jc⟩:=Zp AT h1;refine Jc σ _ (λt ht=>(xV (σ:=⟨σ.env,os⟩) λd hd e=>a1 d hd (e▸ht)).symm) (λid _=>by rw[hk];simp[jz]) ?_;rw[P6];refine run _ _ (λt ht=>xV λd hd e=>a3 d hd (e▸ht)) ?_;rw[Fh,Ff (λd hd e=>a2 d e hd)];exact h2
def aiX{ops:Array Oper}{ps:List Nat}{qi qk di dk:Bool}{oi ok:Oper}(ha:oi.apart ops ok=true)(hc:Gj (ik qi di oi) (ik qk dk ok)=true){σ:St}{K:St->Prop}(h:ku P ops ps qi di oi (ku P ops ps qk dk ok K) σ):ku P ops ps qk dk ok (ku P ops ps qi di oi K) σ:=by
 by_cases hk:ik qk dk ok=0
 ·exact aiW ha hk h
 ·have iK:(ik qi di oi==0||(ik qi di oi==1&&decide (ik qk dk ok<=4))||(ik qi di oi==2&&decide (ik qk dk ok<=3))||(decide (ik qi di oi<=2)&&ik qk dk ok==6))=true:=by
   simp only[Gj,A9,l7,bg,beq_iff_eq,decide_eq_true_eq]at hc ⊢;rcases hc with(((h|h)|h)|h)|h
   ·exact .inl (.inl (.inl h))
   ·exact absurd h hk
   ·exact .inl (.inl (.inr h))
   ·exact .inl (.inr h)
   ·exact .inr h
  refine aiV ha ?_ iK h;simp only[l7,bg,beq_iff_eq,decide_eq_true_eq]at iK;omega
def iY(P:Program)(ops:Array Oper)(ps:List Nat)(qs ds:List Nat)(i:Nat)(K:St->Prop)(σ:St):Prop :=
 match ops[i]? with
 |none=>K σ
 |some o=>ku P ops ps (qs.contains i) (ds.contains i) o K σ
def vS(P:Program)(ops:Array Oper)(ps:List Nat)(qs ds:List Nat)(K:St->Prop):Nat->Array Bool->St->Prop
 |0,aI,σ=>Region.ready .any ops aI=[]/\K σ
 |n+1,aI,σ=>(Region.ready .any ops aI=[]->K σ)/\∀ i∈Region.ready .any ops aI,iY P ops ps qs ds i (vS P ops ps qs ds K n (aI.setIfInBounds i true)) σ
def aiY{ops:Array Oper}{ps:List Nat}{q dc:Bool}{o:Oper}{σ:St}{K K2:St->Prop}(hk:∀ s,K s->K2 s)(h:ku P ops ps q dc o K σ):ku P ops ps q dc o K2 σ:=by
 obtain⟨v,os,_,h2,run⟩:=HV h;exact run σ.env K2 (λ_ _=>rfl) (hk _ h2)
def aiZ{ops:Array Oper}{ps:List Nat}{q dc:Bool}{o:Oper}{σ:St}{K:St->Prop}(h:ku P ops ps q dc o K σ):∃s,K s:=by
 obtain⟨v,os,_,h2,run⟩:=HV h;exact⟨_,h2⟩
def yM{ops:Array Oper}{ps:List Nat}{qs ds:List Nat}{i:Nat}{σ:St}{K K2:St->Prop}(hk:∀ s,K s->K2 s)(h:iY P ops ps qs ds i K σ):iY P ops ps qs ds i K2 σ:=by
 unfold iY at h ⊢;split at h
 ·exact hk _ h
 ·exact aiY hk h
def ai0{ops:Array Oper}{ps:List Nat}{qs ds:List Nat}{i:Nat}{σ:St}{K:St->Prop}(h:iY P ops ps qs ds i K σ):∃s,K s:=by
 unfold iY at h;split at h
 ·exact⟨_,h⟩
 ·exact aiZ h
def MK{os:List Ob}{γ0:Cx}{ops:Array Oper}{ps:List Nat}{qs ds:List Nat}(hd:∀ o∈ops.toList,∀ d,o.dst=some d->d<N){K:St->Prop}{Q:Exit->Act->World->Prop}(hQ:∀ σ' a' w',K σ'->h9 N os γ0 σ' a' w'->Q .normal a' w'):∀ (n:Nat) (aI:Array Bool) (σ:St) (a:Act) (w:World),vS P ops ps qs ds K n aI σ->h9 N os γ0 σ a w->wpAny P .any ops Q n aI a w
 |0,aI,σ,a,w,h,aA=>⟨h.1,hQ _ _ _ h.2 aA⟩
 |n+1,aI,σ,a,w,h,aA=>by
  refine⟨λhr=>hQ _ _ _ (h.1 hr) aA,λi hi=>?_⟩;have:=h.2 i hi;unfold iY at this;split at this
  ·rename_i ar;unfold wpOp;simp only[ar];exact MK hd hQ n _ _ _ _ this aA
  ·rename_i o ar;exact aiT hd ar this aA λσ' a' w' hK dj=>MK hd hQ n _ _ _ _ hK dj
def ai1{id:Nat}{ops:Array Oper}{Q:Exit->St->Prop}(ps:List Nat)(qs ds:List Nat)(hm:P.follows .mixedOrders=true)(hd:fU N ops=true)(h:vS P ops ps qs ds (Q .normal) ops.size (xK ops.size false) σ):W P N n0 (.region id ops true) Q σ:=by
 intro os γ0 a w _ aA;refine wp_region_any hm ?_;exact MK (ud hd) (K:=Q .normal) (λσ' a' w' hK dj=>⟨σ',hK,dj⟩) _ _ _ _ _ h aA.drawn
def ai2{ops:Array Oper}{ps:List Nat}{qs ds:List Nat}{K:St->Prop}{i:Nat}{o:Oper}(hi:ops[i]?=some o)(D:List Nat)(hiD:i∈D)(hD:∀ j∈D,j=i\/∃ oj,ops[j]?=some oj/\∃ e∈oj.after,Region.binds .any e=true/\e.on∈D):∀ (fuel:Nat) (aI:Array Bool) (σ:St),(∀ j∈D,aI.getD j true=false) ->
   i∈Region.ready .any ops aI ->
   (∀ j oj,ops[j]?=some oj->aI.getD j true=false->j ∉ D->o.apart ops oj=true/\Gj (ik (qs.contains i) (ds.contains i) o) (ik (qs.contains j) (ds.contains j) oj)=true) ->
   iY P ops ps qs ds i (vS P ops ps qs ds K fuel (aI.setIfInBounds i true)) σ->vS P ops ps qs ds K (fuel+1) aI σ:=by
 intro fuel
 induction fuel with
 |zero =>
  intro aI σ hu hr nZ h;refine⟨λe=>by rw[e]at hr;simp at hr,λk hk=>?_⟩;by_cases iA:k=i
  ·subst iA;exact h
  ·obtain⟨s,hs⟩:=ai0 h;have:=ready_mono hk iA;rw[hs.1]at this;simp at this
 |succ m ih =>
  intro aI σ hu hr nZ h;refine⟨λe=>by rw[e]at hr;simp at hr,λk hk=>?_⟩;by_cases iA:k=i
  ·subst iA;exact h
  ·have CU:=mem_ready.1 hk;obtain⟨ed,ok,aA,dP⟩:=CU;have wB:k ∉ D:=by
    intro wB;rcases hD k wB with e|⟨oj,k0,e,he,hb,qj⟩
    ·exact iA e
    ·rw[aA]at k0;simp only[cy.injEq]at k0;subst k0;have h1:=dP e he hb;have h2:=hu e.on qj;rw[Array.getD_eq_getD_getElem?]at h1 h2;cases hx:aI[e.on]? with
     |none=>rw[hx]at h1;simp at h1
     |some b=>rw[hx]at h1 h2;simp at h1 h2;rw[h1]at h2;simp at h2
   obtain⟨ha,hc⟩:=nZ k ok aA ed wB;have h1:iY P ops ps qs ds i (iY P ops ps qs ds k (vS P ops ps qs ds K m ((aI.setIfInBounds i true).setIfInBounds k true))) σ :=
    yM (λs hs=>hs.2 k (ready_mono hk iA)) h
   have h2:iY P ops ps qs ds k (iY P ops ps qs ds i (vS P ops ps qs ds K m ((aI.setIfInBounds i true).setIfInBounds k true))) σ:=by
    unfold iY at h1 ⊢;simp only[hi,aA]at h1 ⊢;exact aiX ha hc h1
   refine yM (λs hs=>?_) h2;refine ih (aI.setIfInBounds k true) s (λj hj=>?_) (ready_mono hr (Ne.symm iA)) (λj oj k0 hl sI=>?_) ?_
   ·have bZ:k≠j:=λe=>wB (by rw[e];exact hj);rw[getD_set_ne _ bZ];exact hu j hj
   ·refine nZ j oj k0 ?_ sI;by_cases CV:k=j
    ·subst CV;exact ed
    ·rwa [getD_set_ne _ CV]at hl
   ·rw[Array.setIfInBounds_comm _ _ (Ne.symm iA)]at hs;exact hs
def ai3{ops:Array Oper}{ps:List Nat}{qs ds:List Nat}{K:St->Prop}{i:Nat}{D:List Nat}{fuel:Nat}{aI:Array Bool}(h:Ks ops qs ds aI i D=true)(hs:iY P ops ps qs ds i (vS P ops ps qs ds K fuel (aI.setIfInBounds i true)) σ):vS P ops ps qs ds K (fuel+1) aI σ:=by
 unfold Ks at h;cases hi:ops[i]? with
 |none=>simp[hi]at h
 |some o =>
  simp only[hi,bg,List.all_eq_true,pY,l7,beq_iff_eq,Bool.not_eq_true']at h;obtain⟨⟨⟨⟨h1,h2⟩,h3⟩,h4⟩,h5⟩:=h;refine ai2 hi D h1 (λj hj=>?_) fuel aI σ h3 ?_ ?_ hs
  ·rcases h2 j hj with h|h
   ·exact .inl h
   ·right;split at h
    ·rename_i oj k0;rw[Array.any_eq_true']at h;obtain⟨e,he,hb⟩:=h;simp only[bg,pY]at hb;exact⟨oj,k0,e,he,hb.1,hb.2⟩
    ·simp at h
  ·rw[mem_ready];refine⟨h3 i h1,o,hi,λe he hb=>?_⟩;rw[Array.all_eq_true']at h4;have:=h4 e he;simpa [hb] using this
  ·intro j oj k0 hl sI;have hj:j<ops.size:=(Array.getElem?_eq_some_iff.1 k0).1;rcases h5 j (List.mem_range.2 hj) with(h|h)|h
   ·exact absurd h sI
   ·rw[hl]at h;simp at h
   ·simpa [k0] using h
def nm(P:Program)(ops:Array Oper)(ps:List Nat)(qs ds:List Nat):PT->(St->Prop)->St->Prop
 |.nil,K,σ=>K σ
 |.take i t,K,σ=>iY P ops ps qs ds i (nm P ops ps qs ds t K) σ
 |.both i t j u,K,σ=>iY P ops ps qs ds i (nm P ops ps qs ds t K) σ/\iY P ops ps qs ds j (nm P ops ps qs ds u K) σ
 |.three i t j u k v,K,σ=>iY P ops ps qs ds i (nm P ops ps qs ds t K) σ/\iY P ops ps qs ds j (nm P ops ps qs ds u K) σ/\iY P ops ps qs ds k (nm P ops ps qs ds v K) σ
def Aq{ops:Array Oper}{ps:List Nat}{qs ds:List Nat}{K:St->Prop}:∀ (t:PT) (n:Nat) (aI:Array Bool) (σ:St),t.py ops qs ds n aI=true->nm P ops ps qs ds t K σ->vS P ops ps qs ds K n aI σ
 |.nil,n,aI,σ,h,hp=>by
  simp only[PT.py,bg,beq_iff_eq,List.isEmpty_iff]at h;obtain⟨rfl,h⟩:=h;exact⟨h,hp⟩
 |.take _ _,0,_,_,h,_=>by simp[PT.py]at h
 |.take i t,n+1,aI,σ,h,hp=>by
  simp only[PT.py,bg]at h;exact ai3 h.1 (yM (λs hs=>Aq t n _ s h.2 hs) hp)
 |.both _ _ _ _,0,_,_,h,_=>by simp[PT.py]at h
 |.both i t j u,n+1,aI,σ,h,hp=>by
  simp only[PT.py,bg,beq_iff_eq]at h;obtain⟨⟨h1,h2⟩,h3⟩:=h;refine⟨λe=>by rw[h1]at e;simp at e,λk hk=>?_⟩;rw[h1]at hk;simp only[bm,iT,or_false]at hk;rcases hk with rfl|rfl
  ·exact yM (λs hs=>Aq t n _ s h2 hs) hp.1
  ·exact yM (λs hs=>Aq u n _ s h3 hs) hp.2
 |.three _ _ _ _ _ _,0,_,_,h,_=>by simp[PT.py]at h
 |.three i t j u k v,n+1,aI,σ,h,hp=>by
  simp only[PT.py,bg,beq_iff_eq]at h;obtain⟨⟨⟨h1,h2⟩,h3⟩,h4⟩:=h;refine⟨λe=>by rw[h1]at e;simp at e,λx hk=>?_⟩;rw[h1]at hk;simp only[bm,iT,or_false]at hk;rcases hk with rfl|rfl|rfl
  ·exact yM (λs hs=>Aq t n _ s h2 hs) hp.1
  ·exact yM (λs hs=>Aq u n _ s h3 hs) hp.2.1
  ·exact yM (λs hs=>Aq v n _ s h4 hs) hp.2.2
def Zq{id:Nat}{ops:Array Oper}{Q:Exit->St->Prop}(ps:List Nat)(qs ds:List Nat)(t:PT)(hm:P.follows .mixedOrders=true)(hd:fU N ops=true)(ht:t.py ops qs ds ops.size (xK ops.size false)=true)(h:nm P ops ps qs ds t (Q .normal) σ):W P N n0 (.region id ops true) Q σ :=
 ai1 ps qs ds hm hd (Aq t _ _ σ ht h)
def Zr{ops:Array Oper}{ps:List Nat}{qs ds:List Nat}{K:St->Prop}:nm P ops ps qs ds .nil K σ=K σ:=rfl
def Zs{ops:Array Oper}{ps:List Nat}{qs ds:List Nat}{i:Nat}{t:PT}{K:St->Prop}:nm P ops ps qs ds (.take i t) K σ=iY P ops ps qs ds i (nm P ops ps qs ds t K) σ:=rfl
def Zt{ops:Array Oper}{ps:List Nat}{qs ds:List Nat}{i j k:Nat}{t u v:PT}{K:St->Prop}:nm P ops ps qs ds (.three i t j u k v) K σ=(iY P ops ps qs ds i (nm P ops ps qs ds t K) σ/\iY P ops ps qs ds j (nm P ops ps qs ds u K) σ/\iY P ops ps qs ds k (nm P ops ps qs ds v K) σ):=rfl
def Zu{ops:Array Oper}{ps:List Nat}{qs ds:List Nat}{i j:Nat}{t u:PT}{K:St->Prop}:nm P ops ps qs ds (.both i t j u) K σ=(iY P ops ps qs ds i (nm P ops ps qs ds t K) σ/\iY P ops ps qs ds j (nm P ops ps qs ds u K) σ):=rfl
def Zv{ops:Array Oper}{ps:List Nat}{q:Bool}{o:Oper}{K:St->Prop}:ku P ops ps q true o K σ=(o.guard=none/\vR ps P o K σ):=rfl
def Zw{ops:Array Oper}{ps:List Nat}{q:Bool}{o:Oper}{K:St->Prop}:ku P ops ps q false o K σ=(jK ps q o σ/\dY P ops q o K σ):=rfl
section
variable {dst:Option Tmp} {tt:TypeId} {p:String} {af:Array Edge} {g:Option (Nat×Bool)} {K:St->Prop} {ps:List Nat}
def Ar(ps:List Nat)(v:AV):Prop:=∀ id,qu v=some id->id ∉ ps
def ML(v:Value):Ar ps (.lit v)=True:=eq_true λid h=>by cases h
def MN(id a b c:Nat):Ar ps (.ref id a b c)=(id ∉ ps):=propext ⟨λh=>h id rfl,λh i e=>by cases e;exact h⟩
def Zx(s x:Operand)(dh:Array TypeId):vR ps P ⟨dst,.call ⟨.builtin .append,#[s,x],dh⟩,tt,p,af,g⟩ K σ=(Ar ps (ev σ s)/\(∀ id∈ps,id<σ.aa.length)/\aH P ⟨dst,.call ⟨.builtin .append,#[s,x],dh⟩,tt,p,af,g⟩ σ K):=by
 simp only[vR,aH,Ar]
def Zy{o:Oper}:jK ps true o σ=True:=by simp[jK]
def xq{o:Oper}(h:(cls o.op==0||decide (3<=cls o.op))=true):jK ps false o σ=True:=eq_true (.inl (by simpa using h))
def Zz(t:TypeId)(a:Operand):jK ps false ⟨dst,.load t a,tt,p,af,g⟩ σ=qY ps (ev σ a):=by simp[jK,cls,Op.operands,vQ]
def ZA(t:TypeId)(a i:Operand):jK ps false ⟨dst,.indexAddr t a i,tt,p,af,g⟩ σ=(qY ps (ev σ a)/\qY ps (ev σ i)):=by simp[jK,cls,Op.operands,vQ]
def ZB(a:Operand):jK ps false ⟨dst,.nilCheck a,tt,p,af,g⟩ σ=qY ps (ev σ a):=by simp[jK,cls,Op.operands,vQ]
def ZC(t:TypeId)(a:Operand)(f:Nat):jK ps false ⟨dst,.fieldAddr t a f,tt,p,af,g⟩ σ=qY ps (ev σ a):=by simp[jK,cls,Op.operands,vQ]
def ZD(x:Operand):jK ps false ⟨dst,.move x,tt,p,af,g⟩ σ=True:=xq Od
def ZE(x:Operand):jK ps false ⟨dst,.assign x,tt,p,af,g⟩ σ=True:=xq Od
def ZF(c a b:Operand):jK ps false ⟨dst,.pick c a b,tt,p,af,g⟩ σ=True:=xq Od
def ZG(op:BinOp)(t:TypeId)(x y:Operand)(yt:TypeId):jK ps false ⟨dst,.binOp op t x y yt,tt,p,af,g⟩ σ=True:=xq Od
def ZH(t:TypeId)(parts:Array (Nat×Operand)):jK ps false ⟨dst,.build t parts,tt,p,af,g⟩ σ=True:=xq Od
def ZI(e:TypeId):jK ps false ⟨dst,.alloc e,tt,p,af,g⟩ σ=True:=xq Od
def ZJ(t:TypeId)(len:Nat)(parts:Array (Nat×Operand)):jK ps false ⟨dst,.buildSlice t len parts,tt,p,af,g⟩ σ=True:=xq Od
def ZK(t:TypeId)(a x:Operand):jK ps false ⟨dst,.store t a x,tt,p,af,g⟩ σ=True:=xq Od
def ZL(f:Operand)(args:Array Operand)(dh:Array TypeId):jK ps false ⟨dst,.call ⟨.value f,args,dh⟩,tt,p,af,g⟩ σ=True:=xq Od
def ZM(id r c:Nat):qY ps (.ptr id r c)=(id∈ps):=rfl
def ZN(id a b c:Nat):qY ps (.ref id a b c)=(id∈ps):=rfl
def ZO(v:Value):qY ps (.lit v)=True:=rfl
def ZP(s:Nat)(r:List (List AV)):qY ps (.tree s r)=True:=rfl
def ZQ(r:List AV):qY ps (.bY r)=True:=rfl
def ZR(r:List AV):qY ps (.agg r)=True:=rfl
def ZS(r:List AV):qY ps (.bu r)=True:=rfl
end
def Ra:=aah @Zr @Zs @Zt @Zu @Zv @Zw @ML (aah @MN @Zx @Zy @Zz @ZA @ZB @ZC (aah @ZD @ZE @ZF @ZG @ZH @ZI @ZJ (aah @ZK @ZL @ZM @ZN @ZO @ZP @ZQ (Oj @ZR @ZS))))
def MO{x:Code}{Q:Exit->St->Prop}(R:St->Prop)(h1:∀ s,R s->Q .normal s)(h2:∀ Q':Exit->St->Prop,(∀ s,R s->Q' .normal s)->W P N n0 x Q' σ):W P N n0 x Q σ:=h2 Q h1
end Go.Am

