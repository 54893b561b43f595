import Derived.Test.YtjadfapldkfbpaaGreatX12
set_option linter.all false
set_option maxHeartbeats 0
set_option maxRecDepth 20000
open List renaming getElem?_set→cm,mem_cons→cu,contains_iff_mem→qh,not_mem_nil→jQ
open Option renaming some→dD
open Bool renaming or_eq_true→kB,and_eq_true→bk
open Array renaming replicate→vR
namespace Go.Am
variable {P:Program} {N n0:Nat} {σ:St}
def ay.abE(d id sz:Nat){rows:List (List AV)}(ho:σ.aa[id]?=some (.arr sz rows))(hd:σ.env d=.ref id sz 0 rows.length)(hw:∀ row∈rows,row.length=sz)(mj:∀ row∈rows,∀ v∈row,(∃ x,v=.lit x)\/∃ s r,v=.tree s r):ay n0 σ ⟨jT σ.env d (.tree sz rows),σ.aa.set id .gone⟩:=by
 intro os γ0 γ _ hs hf;have AH:id<σ.aa.length:=(List.getElem?_eq_some_iff.1 ho).1
 let aP:Cx:={ γ with Z:=λb=>γ.Z b\/∃ o cap,γ.blk id=some (b,o,cap) }
 let eD:=σ.aa.set id .gone
 have iG:∀ i,eD[i]?=if i=id then some .gone else σ.aa[i]?:=by
  intro i;show(σ.aa.set id _)[i]?=_;rw[cm];by_cases h1:i=id
  ·subst h1;simp[AH]
  ·simp[Ne.symm h1,h1]
 have hR:∀ v cv,aA σ.aa γ.w γ.Z γ.blk v cv->aA eD aP.w aP.Z aP.blk v cv:=λv cv hv =>
  hv.mono (λb hb=>⟨.inl hb,rfl⟩) (λi o hi=>by
   rw[iG];by_cases h1:i=id
   ·left;rw[if_pos h1]
   ·rw[if_neg h1];by_cases hg:o=.gone
    ·subst hg;exact .inl hi
    ·exact .inr ⟨rfl,o,hi,Ob.kK hg⟩)
 have c9:∀ i,Live eD i->Live σ.aa i/\i≠id:=by
  rintro i⟨o,hi,hg⟩;rw[iG]at hi;split at hi
  ·simp at hi;exact absurd hi.symm hg
  ·rename_i h2;exact⟨⟨o,hi,hg⟩,h2⟩
 have o7:Live σ.aa id:=⟨_,ho,G9⟩;have tY:=hs.au d;rw[hd]at tY;have kF:aA eD aP.w aP.Z aP.blk (.tree sz rows) (γ.tmps.getD d Go.undef):=by
  have dV:cG σ (λx=>x≠id) (.tree sz rows) (.ref id sz 0 rows.length):=cG.flat ho hw rfl G9 mj;exact .cp _ _ (dV.Eb hs (γc:=aP) (λb hb=>.inl hb) rfl (λx b o cap cT _ hb=>.inr ⟨o,cap,by rw[show id=x by simpa using(Decidable.not_not.1 cT).symm];exact hb⟩) _ tY)
 refine⟨aP,rfl,rfl,⟨λk=>?_,?_,λi j b o c o' c' hi hj=>hs.inj i j b o c o' c' (c9 i hi).1 (c9 j hj).1,?_,?_,λg=>Cd (hs.gl g) λb hb=>⟨.inl hb,rfl⟩⟩,?_⟩
 ·show aA eD aP.w aP.Z aP.blk (jT σ.env d (.tree sz rows) k) (γ.tmps.getD k Go.undef);simp only[jT];split
  ·rename_i e;subst e;exact kF
  ·exact hR _ _ (hs.au k)
 ·intro i o hi;have hi':eD[i]?=some o:=hi;rw[iG]at hi';split at hi'
  ·simp only[dD.injEq]at hi';subst hi';trivial
  ·by_cases hg:o=.gone
   ·subst hg;trivial
   ·exact(hs.fF i o hi').mono hR rfl (λ_ _ _ _=>rfl)
 ·rintro b ⟨i,o,c',hi,hb⟩ (hz|⟨o',cap,cW⟩)
  ·exact hs.nz b ⟨i,o,c',(c9 i hi).1,hb⟩ hz
  ·exact(c9 i hi).2 (hs.inj i id b o c' o' cap (c9 i hi).1 o7 hb cW)
 ·rintro b (hz|⟨o,cap,hb⟩)
  ·exact hs.jm b hz
  ·exact hs.blt o7 hb
 ·refine⟨hf.nt,hf.tape,hf.output,hf.size,hf.aH,λb hb=>.inl (hf.z0 b hb),?_,?_,by show os.length<=eD.length;simp[eD];exact hf.len,?_,hf.drawn⟩
  ·rintro b (hz|⟨o,cap,hb⟩)
   ·exact hf.z1 b hz
   ·exact .inr (hf.own b ⟨id,o,cap,o7,hb⟩)
  ·rintro b ⟨i,o,c',hi,hb⟩;exact hf.own b ⟨i,o,c',(c9 i hi).1,hb⟩
  ·intro i hi hl;obtain⟨h1,x,x',hx,cV,hk⟩:=hf.lk i hi (c9 i hl).1;have jF:Live eD i:=hl;obtain⟨o,e9,tC⟩:=jF;refine⟨h1,x,o,hx,e9,?_⟩;rw[iG]at e9;split at e9
   ·simp at e9;exact absurd e9.symm tC
   ·rw[cV]at e9;simp only[dD.injEq]at e9;subst e9;exact hk
def fG.mono{P:Program}{f:FuncId}{args:List AV}{aa:List Ob}{jd abF:AV->List Ob->Prop}(h:fG P f args aa jd)(hp:∀ r os,jd r os->abF r os):fG P f args aa abF:=by
 refine⟨h.1,λγ jk jS=>Calls.mono (h.2 γ jk jS) ?_⟩;rintro e w'⟨res,bI,cv,aP,h0,h1⟩;exact⟨res,bI,cv,aP,hp _ _ h0,h1⟩
end Go.Am
namespace Go.Am
variable {P:Program} {N n0:Nat} {σ:St}
end Go.Am
namespace Go.Am
variable {P:Program} {N n0:Nat} {σ:St} {Q:Exit->St->Prop}
end Go.Am
namespace Go.Am
variable {P:Program} {N n0:Nat} {σ:St} {Q:Exit->St->Prop}
end Go.Am
namespace Go.Am
variable {P:Program} {N n0:Nat} {σ:St} {Q:Exit->St->Prop}
end Go.Am
namespace Go.Am
variable {P:Program} {N n0:Nat} {σ:St}
def sw(ps:List Nat):AV->Prop
 |.ptr id _ _=>id∈ps
 |.ref id _ _ _=>id∈ps
 |.g6 id=>id∈ps
 |_=>True
def xf(ps:List Nat)(σ:St):List Operand->Prop
 |[]=>True
 |x::l=>sw ps (ev σ x)/\xf ps σ l
def jt(ps:List Nat)(q:Bool)(o:Oper)(σ:St):Prop:=(q||cls o.op==0||decide (3<=cls o.op))=true\/xf ps σ o.op.operands.toList
def abG{ps:List Nat}:∀ {l:List Operand},xf ps σ l->∀ x∈l,∀ id,pP (ev σ x)=some id->id∈ps
 |[],_,x,hx=>by simp at hx
 |y::l,h,x,hx=>by
  rcases cu.1 hx with rfl|hx
  ·intro id e;have h1:=h.1;cases hv:ev σ x<;>rw[hv]at e h1<;>simp[pP,sw]at e h1;all_goals subst e;exact h1
  ·exact abG h.2 x hx
def OT{ps:List Nat}{σ2:St}:∀ {l:List Operand},(∀ x∈l,ev σ2 x=ev σ x)->xf ps σ2 l=xf ps σ l
 |[],_=>rfl
 |y::l,h=>by
  simp only[xf];rw[h y G9,OT λx hx=>h x (by simp[hx])]
def xg(ps:List Nat)(P:Program)(o:Oper)(K:St->Prop)(σ:St):Prop :=
 match o.op with
 |.call { callee:=.builtin .append,args,.. } =>
  match args.toList with
  |[s,_]=>(∀ id,pP (ev σ s)=some id->id ∉ ps)/\(∀ id∈ps,id<σ.aa.length)/\cE P o σ K
  |_=>False
 |_=>False
def ak8{ps:List Nat}{o:Oper}{K:St->Prop}(h:xg ps P o K σ):aW P o σ K:=by
 unfold xg at h;unfold aW;split at h
 ·rename_i args cQ cU;split at h
  ·simp only[cU];exact h.2.2
  ·exact h.elim
 ·exact h.elim
def ak9{ps:List Nat}{o:Oper}{K:St->Prop}(h:xg ps P o K σ):
  ∃ v os,(∀ id∈ps,os[id]?=σ.aa[id]?)/\K ((⟨σ.env,os⟩:St).put o.dst v)/\∀ (e2:Nat->AV) (K2:St->Prop),(∀ x∈o.op.operands.toList,ev ⟨e2,σ.aa⟩ x=ev σ x)->K2 ((⟨e2,os⟩:St).put o.dst v)->xg ps P o K2 ⟨e2,σ.aa⟩:=by
 obtain⟨dst,op,type,pos,after,guard⟩:=o;unfold xg at h;dsimp only at h;split at h
 ·rename_i args cQ;split at h
  ·rename_i s x BF;obtain⟨h1,h2,hW⟩:=h;unfold cE at hW;simp only at hW;(repeat' split at hW)<;>try exact hW.elim
   rename_i s' x' t t' cV kD _ _ _ _ z pre σ1 sz src hk hz oh rJ;obtain⟨rfl,rfl⟩:s=s'/\x=x':=by rw[BF]at cV;simpa using cV
   have tL:σ1=⟨σ.env,σ1.aa⟩/\∀ e,pF ⟨e,σ.aa⟩ (ty P (ty P t).elem).size (ev σ s)=some (pre,⟨e,σ1.aa⟩):=by
    unfold pF at oh ⊢;(repeat' split at oh)<;>simp_all
    all_goals obtain⟨rfl,rfl⟩:=oh;simp
   have cF:σ1.aa=σ.aa\/∃ pL,ev σ s=.ref pL (ty P (ty P t).elem).size 0 0/\False\/(pP (ev σ s)=some pL/\σ1.aa=σ.aa.set pL .gone):=by
    clear cV BF hW rJ tL h2;unfold pF at oh;split at oh
    ·left;cases oh;rfl
    ·rename_i pL _ _ _ he;split at oh
     ·split at oh
      ·cases oh;exact .inr ⟨pL,.inr ⟨by rw[he];rfl,rfl⟩⟩
      ·cases oh
     ·cases oh
    ·cases oh
   have Lh:∀ id∈ps,σ1.aa[id]?=σ.aa[id]?:=λid cT=>by
    rcases cF with e|⟨pL,⟨_,h⟩|⟨e,e2⟩⟩
    ·rw[e]
    ·exact h.elim
    ·rw[e2,cm,if_neg];intro e3;subst e3;exact h1 _ e cT
   have hlen:σ1.aa.length=σ.aa.length:=by
    rcases cF with e|⟨pL,⟨_,h⟩|⟨e,e2⟩⟩
    ·rw[e]
    ·exact h.elim
    ·rw[e2,List.length_set]
   refine⟨_,σ1.aa++[.arr sz (pre++src)],λid cT=>?_,by have:=hW.2;rw[tL.1]at this;exact this,λe2 K2 hx gp=>?_⟩
   ·rw[List.getElem?_append_left (by rw[hlen];exact h2 id cT)];exact Lh id cT
   ·have jS:oR ⟨e2,σ.aa⟩ (ev σ x)=some (sz,src):=rJ;simp[Op.operands,Call.operands,BF]at hx;unfold xg;simp only[BF];refine⟨λid he=>h1 id (by rw[<- hx.1];exact he),h2,?_⟩;unfold cE;simp only[cV,kD,hx.1,hx.2,hk,hz,tL.2,jS];exact⟨hW.1,gp⟩
  ·exact h.elim
 ·exact h.elim
def lQ(P:Program)(ops:Array Oper)(ps:List Nat)(q dc:Bool)(o:Oper)(K:St->Prop)(σ:St):Prop :=
 match dc with
 |true=>o.guard=none/\xg ps P o K σ
 |false=>jt ps q o σ/\e7 P ops q o K σ
def GA(ps:List Nat)(c:Nat)(a b:List Ob):Prop:=if c=6 then ∀ id∈ps,b[id]?=a[id]? else lG c a b
def ak'{N:Nat}{os:List Ob}{γ0:Cx}{ops:Array Oper}{ps:List Nat}(hd:∀ o∈ops.toList,∀ d,o.dst=some d->d<N){q dc:Bool}{i:Nat}{o:Oper}(hi:ops[i]?=some o){σ:St}{K:St->Prop}(h:lQ P ops ps q dc o K σ){a:Act}{w:World}(aw:gP N os γ0 σ a w){Q:Exit->Act->World->Prop}{next:Act->World->Prop}(hn:∀ σ' a' w',K σ'->gP N os γ0 σ' a' w'->next a' w'):wpOp P ops Q i next a w:=by
 cases dc with
 |false=>exact KQ hd hi h.2 aw hn
 |true =>
  have bJ:o∈ops.toList:=List.mem_of_getElem? (by simpa using hi);unfold wpOp;simp only[hi];have hw:Region.wanted o (yielded ops a.tmps)=true:=by simp[Region.wanted,h.1]
  rw[if_pos hw];left;exact xD (ak8 h.2) aw (hd o bJ) hn
def JX{ops:Array Oper}{ps:List Nat}{q dc:Bool}{o:Oper}{σ:St}{K:St->Prop}(hW:lQ P ops ps q dc o K σ):
  ∃ v os,GA ps (dz q dc o) σ.aa os/\K ((⟨σ.env,os⟩:St).put o.dst v)/\∀ (e2:Nat->AV) (K2:St->Prop),(∀ t∈o.looksAt ops,e2 t=σ.env t)->K2 ((⟨e2,os⟩:St).put o.dst v)->lQ P ops ps q dc o K2 ⟨e2,σ.aa⟩:=by
 cases dc with
 |false =>
  obtain⟨hc,hW⟩:=hW;obtain⟨v,os,h1,h2,h3⟩:=B6 hW;refine⟨v,os,?_,h2,λe2 K2 hl hK=>⟨?_,h3 e2 K2 hl hK⟩⟩
  ·unfold GA dz;simp only[Bool.false_eq_true,if_false];rw[if_neg]
   ·exact h1
   ·unfold fV;split
    ·omega
    ·unfold cls;split<;>omega
  ·unfold jt at hc ⊢;rw[OT (σ:=σ) (tD hl)];exact hc
 |true =>
  obtain⟨hg,hW⟩:=hW;obtain⟨v,os,h1,h2,h3⟩:=ak9 hW;exact⟨v,os,by unfold GA dz;simp only[if_true];exact h1,h2,λe2 K2 hl hK=>⟨hg,h3 e2 K2 (tD (os:=σ.aa) hl) hK⟩⟩
def abH{ops:Array Oper}{ps:List Nat}{q dc:Bool}{o:Oper}{σ:St}{K:St->Prop}(hc:dz q dc o<=2)(hW:lQ P ops ps q dc o K σ):
  ∃ v,K (σ.put o.dst v)/\∀ (σ2:St) (K2:St->Prop),(∀ t∈o.looksAt ops,σ2.env t=σ.env t)->(∀ (id:Nat),id∈ps->iQ (dz q dc o) σ.aa[id]? σ2.aa[id]?)->K2 (σ2.put o.dst v)->lQ P ops ps q dc o K2 σ2:=by
 cases dc with
 |true=>simp[dz]at hc
 |false =>
  obtain⟨hk,hW⟩:=hW;have iR:fV q o<=2:=by simpa [dz] using hc
  obtain⟨v,h1,h2⟩:=S2 iR hW;refine⟨v,h1,λσ2 K2 hl ho hK=>⟨?_,h2 σ2 K2 hl (λx hx id hp=>?_) hK⟩⟩
  ·unfold jt at hk ⊢;rw[OT (σ:=σ) (tD (e2:=σ2.env) (os:=σ2.aa) hl)];exact hk
  ·have cy:∀ id,id∈ps->iQ (fV q o) σ.aa[id]? σ2.aa[id]?:=by simpa [dz] using ho
   by_cases h0:fV q o=0
   ·rw[h0];simp[iQ]
   ·refine cy id ?_;unfold fV at h0 iR;split at h0
    ·omega
    ·rename_i hq;simp only[hq]at iR;have CE:q=false:=by simpa using hq
     subst CE;unfold jt at hk;have sP:cls o.op<=2:=by simpa using iR
     have h3:decide (3<=cls o.op)=false:=decide_eq_false G3;have h4:(cls o.op==0)=false:=by simpa using h0
     rw[h3,h4]at hk;rcases hk with hk|hk
     ·simp at hk
     ·exact abG hk x hx id hp
def ala{ps:List Nat}{ci ck:Nat}(h:(ci==0||(ci==1&&decide (ck<=4))||(ci==2&&decide (ck<=3))||(decide (ci<=2)&&ck==6))=true){a b:List Ob}(he:GA ps ck a b)(id:Nat)(cT:id∈ps):iQ ci a[id]? b[id]?:=by
 unfold GA at he;split at he
 ·rename_i h6;subst h6;rw[he id cT];unfold iQ;split
  ·trivial
  ·split
   ·intro o ho;exact⟨o,ho,yW o⟩
   ·intro o ho;exact ho
 ·rename_i h6;refine KS ?_ he id;have:(ck==6)=false:=by simpa using h6
  rw[this]at h;simpa using h
def alb{ops:Array Oper}{ps:List Nat}{qi qk di dk:Bool}{oi ok:Oper}(ha:oi.apart ops ok=true)(hi:dz qi di oi<=2)(hc:(dz qi di oi==0||(dz qi di oi==1&&decide (dz qk dk ok<=4))||(dz qi di oi==2&&decide (dz qk dk ok<=3))||(decide (dz qi di oi<=2)&&dz qk dk ok==6))=true){σ:St}{K:St->Prop}(h:lQ P ops ps qi di oi (lQ P ops ps qk dk ok K) σ):lQ P ops ps qk dk ok (lQ P ops ps qi di oi K) σ:=by
 obtain⟨a1,a2,a3⟩:=Oper.apart_spec ha;obtain⟨v,h1,run⟩:=abH hi h;obtain⟨vk,os,uU,h2,yX⟩:=JX h1;rw[B8]at uU yX;refine yX σ.env _ (λt ht=>(tE λd hd e=>a1 d hd (e▸ht)).symm) ?_;refine run _ _ (λt ht=>?_) (λid cT=>?_) ?_
 ·rw[tE λd hd e=>a3 d hd (e▸ht)]
 ·rw[B8];exact ala hc uU id cT
 ·rw[B9]at h2;rw[B7 (λd hd e=>a2 d e hd)];exact h2
def alc{ops:Array Oper}{ps:List Nat}{qi qk di dk:Bool}{oi ok:Oper}(ha:oi.apart ops ok=true)(hk:dz qk dk ok=0){σ:St}{K:St->Prop}(h:lQ P ops ps qi di oi (lQ P ops ps qk dk ok K) σ):lQ P ops ps qk dk ok (lQ P ops ps qi di oi K) σ:=by
 obtain⟨a1,a2,a3⟩:=Oper.apart_spec ha;obtain⟨vi,os,uU,h1,run⟩:=JX h;obtain⟨vk,h2,D5⟩:=abH G3 h1;refine D5 σ _ (λt ht=>(tE (σ:=⟨σ.env,os⟩) λd hd e=>a1 d hd (e▸ht)).symm) (λid _=>by rw[hk];simp[iQ]) ?_;rw[KR];refine run _ _ (λt ht=>tE λd hd e=>a3 d hd (e▸ht)) ?_;rw[B9,B7 (λd hd e=>a2 d e hd)];exact h2
def ald{ops:Array Oper}{ps:List Nat}{qi qk di dk:Bool}{oi ok:Oper}(ha:oi.apart ops ok=true)(hc:AI (dz qi di oi) (dz qk dk ok)=true){σ:St}{K:St->Prop}(h:lQ P ops ps qi di oi (lQ P ops ps qk dk ok K) σ):lQ P ops ps qk dk ok (lQ P ops ps qi di oi K) σ:=by
 by_cases hk:dz qk dk ok=0
 ·exact alc ha hk h
 ·have iR:(dz qi di oi==0||(dz qi di oi==1&&decide (dz qk dk ok<=4))||(dz qi di oi==2&&decide (dz qk dk ok<=3))||(decide (dz qi di oi<=2)&&dz qk dk ok==6))=true:=by
   simp only[AI,Aj,kB,bk,beq_iff_eq,decide_eq_true_eq]at hc ⊢;rcases hc with(((h|h)|h)|h)|h
   ·exact .inl (.inl (.inl h))
   ·exact absurd h hk
   ·exact .inl (.inl (.inr h))
   ·exact .inl (.inr h)
   ·exact .inr h
  refine alb ha ?_ iR h;simp only[kB,bk,beq_iff_eq,decide_eq_true_eq]at iR;omega
def j8(P:Program)(ops:Array Oper)(ps:List Nat)(qs ds:List Nat)(i:Nat)(K:St->Prop)(σ:St):Prop :=
 match ops[i]? with
 |none=>K σ
 |some o=>lQ P ops ps (qs.contains i) (ds.contains i) o K σ
def xh(P:Program)(ops:Array Oper)(ps:List Nat)(qs ds:List Nat)(K:St->Prop):Nat->Array Bool->St->Prop
 |0,aN,σ=>Region.ready .any ops aN=[]/\K σ
 |n+1,aN,σ=>(Region.ready .any ops aN=[]->K σ)/\∀ i∈Region.ready .any ops aN,j8 P ops ps qs ds i (xh P ops ps qs ds K n (aN.setIfInBounds i true)) σ
def ale{ops:Array Oper}{ps:List Nat}{q dc:Bool}{o:Oper}{σ:St}{K K2:St->Prop}(hk:∀ s,K s->K2 s)(h:lQ P ops ps q dc o K σ):lQ P ops ps q dc o K2 σ:=by
 obtain⟨v,os,_,h2,run⟩:=JX h;exact run σ.env K2 (λ_ _=>rfl) (hk _ h2)
def alf{ops:Array Oper}{ps:List Nat}{q dc:Bool}{o:Oper}{σ:St}{K:St->Prop}(h:lQ P ops ps q dc o K σ):∃s,K s:=by
 obtain⟨v,os,_,h2,run⟩:=JX h;exact⟨_,h2⟩
def zR{ops:Array Oper}{ps:List Nat}{qs ds:List Nat}{i:Nat}{σ:St}{K K2:St->Prop}(hk:∀ s,K s->K2 s)(h:j8 P ops ps qs ds i K σ):j8 P ops ps qs ds i K2 σ:=by
 unfold j8 at h ⊢;split at h
 ·exact hk _ h
 ·exact ale hk h
def alg{ops:Array Oper}{ps:List Nat}{qs ds:List Nat}{i:Nat}{σ:St}{K:St->Prop}(h:j8 P ops ps qs ds i K σ):∃s,K s:=by
 unfold j8 at h;split at h
 ·exact⟨_,h⟩
 ·exact alf h
def OU{os:List Ob}{γ0:Cx}{ops:Array Oper}{ps:List Nat}{qs ds:List Nat}(hd:∀ o∈ops.toList,∀ d,o.dst=some d->d<N){K:St->Prop}{Q:Exit->Act->World->Prop}(hQ:∀ σ' a' w',K σ'->gP N os γ0 σ' a' w'->Q .normal a' w'):∀ (n:Nat) (aN:Array Bool) (σ:St) (a:Act) (w:World),xh P ops ps qs ds K n aN σ->gP N os γ0 σ a w->wpAny P .any ops Q n aN a w
 |0,aN,σ,a,w,h,aw=>⟨h.1,hQ _ _ _ h.2 aw⟩
 |n+1,aN,σ,a,w,h,aw=>by
  refine⟨λhr=>hQ _ _ _ (h.1 hr) aw,λi hi=>?_⟩;have:=h.2 i hi;unfold j8 at this;split at this
  ·rename_i hi';unfold wpOp;simp only[hi'];exact OU hd hQ n _ _ _ _ this aw
  ·rename_i o hi';exact ak' hd hi' this aw λσ' a' w' hK dG=>OU hd hQ n _ _ _ _ hK dG
def alh{id:Nat}{ops:Array Oper}{Q:Exit->St->Prop}(ps:List Nat)(qs ds:List Nat)(hm:P.follows .mixedOrders=true)(hd:gH N ops=true)(h:xh P ops ps qs ds (Q .normal) ops.size (vR ops.size false) σ):W P N n0 (.region id ops true) Q σ:=by
 intro os γ0 a w _ aw;refine wp_region_any hm ?_;exact OU (rC hd) (K:=Q .normal) (λσ' a' w' hK dG=>⟨σ',hK,dG⟩) _ _ _ _ _ h aw.drawn
def ali{ops:Array Oper}{ps:List Nat}{qs ds:List Nat}{K:St->Prop}{i:Nat}{o:Oper}(hi:ops[i]?=some o)(D:List Nat)(RB:i∈D)(hD:∀ j∈D,j=i\/∃ oj,ops[j]?=some oj/\∃ e∈oj.after,Region.binds .any e=true/\e.on∈D):∀ (fuel:Nat) (aN:Array Bool) (σ:St),(∀ j∈D,aN.getD j true=false) ->
   i∈Region.ready .any ops aN ->
   (∀ j oj,ops[j]?=some oj->aN.getD j true=false->j ∉ D->o.apart ops oj=true/\AI (dz (qs.contains i) (ds.contains i) o) (dz (qs.contains j) (ds.contains j) oj)=true) ->
   j8 P ops ps qs ds i (xh P ops ps qs ds K fuel (aN.setIfInBounds i true)) σ->xh P ops ps qs ds K (fuel+1) aN σ:=by
 intro fuel
 induction fuel with
 |zero =>
  intro aN σ hu hr kH h;refine⟨λe=>by rw[e]at hr;simp at hr,λk hk=>?_⟩;by_cases gI:k=i
  ·subst gI;exact h
  ·obtain⟨s,hs⟩:=alg h;have:=ready_mono hk gI;rw[hs.1]at this;simp at this
 |succ m ih =>
  intro aN σ hu hr kH h;refine⟨λe=>by rw[e]at hr;simp at hr,λk hk=>?_⟩;by_cases gI:k=i
  ·subst gI;exact h
  ·have Ak:=mem_ready.1 hk;obtain⟨cF,ok,aw,eP⟩:=Ak;have rF:k ∉ D:=by
    intro rF;rcases hD k rF with e|⟨oj,iS,e,he,hb,xF⟩
    ·exact gI e
    ·rw[aw]at iS;simp only[dD.injEq]at iS;subst iS;have h1:=eP e he hb;have h2:=hu e.on xF;rw[Array.getD_eq_getD_getElem?]at h1 h2;cases hx:aN[e.on]? with
     |none=>rw[hx]at h1;simp at h1
     |some b=>rw[hx]at h1 h2;simp at h1 h2;rw[h1]at h2;simp at h2
   obtain⟨ha,hc⟩:=kH k ok aw cF rF;have h1:j8 P ops ps qs ds i (j8 P ops ps qs ds k (xh P ops ps qs ds K m ((aN.setIfInBounds i true).setIfInBounds k true))) σ :=
    zR (λs hs=>hs.2 k (ready_mono hk gI)) h
   have h2:j8 P ops ps qs ds k (j8 P ops ps qs ds i (xh P ops ps qs ds K m ((aN.setIfInBounds i true).setIfInBounds k true))) σ:=by
    unfold j8 at h1 ⊢;simp only[hi,aw]at h1 ⊢;exact ald ha hc h1
   refine zR (λs hs=>?_) h2;refine ih (aN.setIfInBounds k true) s (λj hj=>?_) (ready_mono hr (Ne.symm gI)) (λj oj iS hl pK=>?_) ?_
   ·have ew:k≠j:=λe=>rF (by rw[e];exact hj);rw[getD_set_ne _ ew];exact hu j hj
   ·refine kH j oj iS ?_ pK;by_cases yY:k=j
    ·subst yY;exact cF
    ·rwa [getD_set_ne _ yY]at hl
   ·rw[Array.setIfInBounds_comm _ _ (Ne.symm gI)]at hs;exact hs
def alj{ops:Array Oper}{ps:List Nat}{qs ds:List Nat}{K:St->Prop}{i:Nat}{D:List Nat}{fuel:Nat}{aN:Array Bool}(h:EL ops qs ds aN i D=true)(hs:j8 P ops ps qs ds i (xh P ops ps qs ds K fuel (aN.setIfInBounds i true)) σ):xh P ops ps qs ds K (fuel+1) aN σ:=by
 unfold EL at h;cases hi:ops[i]? with
 |none=>simp[hi]at h
 |some o =>
  simp only[hi,bk,List.all_eq_true,qh,kB,beq_iff_eq,Bool.not_eq_true']at h;obtain⟨⟨⟨⟨h1,h2⟩,h3⟩,h4⟩,h5⟩:=h;refine ali hi D h1 (λj hj=>?_) fuel aN σ h3 ?_ ?_ hs
  ·rcases h2 j hj with h|h
   ·exact .inl h
   ·right;split at h
    ·rename_i oj iS;rw[Array.any_eq_true']at h;obtain⟨e,he,hb⟩:=h;simp only[bk,qh]at hb;exact⟨oj,iS,e,he,hb.1,hb.2⟩
    ·simp at h
  ·rw[mem_ready];refine⟨h3 i h1,o,hi,λe he hb=>?_⟩;rw[Array.all_eq_true']at h4;have:=h4 e he;simpa [hb] using this
  ·intro j oj iS hl pK;have hj:j<ops.size:=(Array.getElem?_eq_some_iff.1 iS).1;rcases h5 j (List.mem_range.2 hj) with(h|h)|h
   ·exact absurd h pK
   ·rw[hl]at h;simp at h
   ·simpa [iS] using h
def oJ(P:Program)(ops:Array Oper)(ps:List Nat)(qs ds:List Nat):PT->(St->Prop)->St->Prop
 |.nil,K,σ=>K σ
 |.take i t,K,σ=>j8 P ops ps qs ds i (oJ P ops ps qs ds t K) σ
 |.both i t j u,K,σ=>j8 P ops ps qs ds i (oJ P ops ps qs ds t K) σ/\j8 P ops ps qs ds j (oJ P ops ps qs ds u K) σ
 |.three i t j u k v,K,σ=>j8 P ops ps qs ds i (oJ P ops ps qs ds t K) σ/\j8 P ops ps qs ds j (oJ P ops ps qs ds u K) σ/\j8 P ops ps qs ds k (oJ P ops ps qs ds v K) σ
def BG{ops:Array Oper}{ps:List Nat}{qs ds:List Nat}{K:St->Prop}:∀ (t:PT) (n:Nat) (aN:Array Bool) (σ:St),t.lv ops qs ds n aN=true->oJ P ops ps qs ds t K σ->xh P ops ps qs ds K n aN σ
 |.nil,n,aN,σ,h,hp=>by
  simp only[PT.lv,bk,beq_iff_eq,List.isEmpty_iff]at h;obtain⟨rfl,h⟩:=h;exact⟨h,hp⟩
 |.take _ _,0,_,_,h,_=>by simp[PT.lv]at h
 |.take i t,n+1,aN,σ,h,hp=>by
  simp only[PT.lv,bk]at h;exact alj h.1 (zR (λs hs=>BG t n _ s h.2 hs) hp)
 |.both _ _ _ _,0,_,_,h,_=>by simp[PT.lv]at h
 |.both i t j u,n+1,aN,σ,h,hp=>by
  simp only[PT.lv,bk,beq_iff_eq]at h;obtain⟨⟨h1,h2⟩,h3⟩:=h;refine⟨λe=>by rw[h1]at e;simp at e,λk hk=>?_⟩;rw[h1]at hk;simp only[cu,jQ,or_false]at hk;rcases hk with rfl|rfl
  ·exact zR (λs hs=>BG t n _ s h2 hs) hp.1
  ·exact zR (λs hs=>BG u n _ s h3 hs) hp.2
 |.three _ _ _ _ _ _,0,_,_,h,_=>by simp[PT.lv]at h
 |.three i t j u k v,n+1,aN,σ,h,hp=>by
  simp only[PT.lv,bk,beq_iff_eq]at h;obtain⟨⟨⟨h1,h2⟩,h3⟩,h4⟩:=h;refine⟨λe=>by rw[h1]at e;simp at e,λx hk=>?_⟩;rw[h1]at hk;simp only[cu,jQ,or_false]at hk;rcases hk with rfl|rfl|rfl
  ·exact zR (λs hs=>BG t n _ s h2 hs) hp.1
  ·exact zR (λs hs=>BG u n _ s h3 hs) hp.2.1
  ·exact zR (λs hs=>BG v n _ s h4 hs) hp.2.2
def alk{id:Nat}{ops:Array Oper}{Q:Exit->St->Prop}(ps:List Nat)(qs ds:List Nat)(t:PT)(hm:P.follows .mixedOrders=true)(hd:gH N ops=true)(ht:t.lv ops qs ds ops.size (vR ops.size false)=true)(h:oJ P ops ps qs ds t (Q .normal) σ):W P N n0 (.region id ops true) Q σ :=
 alh ps qs ds hm hd (BG t _ _ σ ht h)
def abI{ops:Array Oper}{ps:List Nat}{qs ds:List Nat}{K:St->Prop}:oJ P ops ps qs ds .nil K σ=K σ:=rfl
def abJ{ops:Array Oper}{ps:List Nat}{qs ds:List Nat}{i:Nat}{t:PT}{K:St->Prop}:oJ P ops ps qs ds (.take i t) K σ=j8 P ops ps qs ds i (oJ P ops ps qs ds t K) σ:=rfl
def abK{ops:Array Oper}{ps:List Nat}{qs ds:List Nat}{i j k:Nat}{t u v:PT}{K:St->Prop}:oJ P ops ps qs ds (.three i t j u k v) K σ=(j8 P ops ps qs ds i (oJ P ops ps qs ds t K) σ/\j8 P ops ps qs ds j (oJ P ops ps qs ds u K) σ/\j8 P ops ps qs ds k (oJ P ops ps qs ds v K) σ):=rfl
def abL{ops:Array Oper}{ps:List Nat}{qs ds:List Nat}{i j:Nat}{t u:PT}{K:St->Prop}:oJ P ops ps qs ds (.both i t j u) K σ=(j8 P ops ps qs ds i (oJ P ops ps qs ds t K) σ/\j8 P ops ps qs ds j (oJ P ops ps qs ds u K) σ):=rfl
def abM{ops:Array Oper}{ps:List Nat}{q:Bool}{o:Oper}{K:St->Prop}:lQ P ops ps q true o K σ=(o.guard=none/\xg ps P o K σ):=rfl
def abN{ops:Array Oper}{ps:List Nat}{q:Bool}{o:Oper}{K:St->Prop}:lQ P ops ps q false o K σ=(jt ps q o σ/\e7 P ops q o K σ):=rfl
section
variable {dst:Option Tmp} {tt:TypeId} {p:String} {af:Array Edge} {g:Option (Nat×Bool)} {K:St->Prop} {ps:List Nat}
def JY(ps:List Nat)(v:AV):Prop:=∀ id,pP v=some id->id ∉ ps
def abO(v:Value):JY ps (.lit v)=True:=eq_true λid h=>by cases h
def abP(id a b c:Nat):JY ps (.ref id a b c)=(id ∉ ps):=propext ⟨λh=>h id rfl,λh i e=>by cases e;exact h⟩
def abQ(s x:Operand)(cQ:Array TypeId):xg ps P ⟨dst,.call ⟨.builtin .append,#[s,x],cQ⟩,tt,p,af,g⟩ K σ=(JY ps (ev σ s)/\(∀ id∈ps,id<σ.aa.length)/\aW P ⟨dst,.call ⟨.builtin .append,#[s,x],cQ⟩,tt,p,af,g⟩ σ K):=by
 simp only[xg,aW,JY]
def abR{o:Oper}:jt ps true o σ=True:=by simp[jt]
def yD{o:Oper}(h:(cls o.op==0||decide (3<=cls o.op))=true):jt ps false o σ=True:=eq_true (.inl (by simpa using h))
def abS(t:TypeId)(a:Operand):jt ps false ⟨dst,.load t a,tt,p,af,g⟩ σ=sw ps (ev σ a):=by simp[jt,cls,Op.operands,xf]
def abT(t:TypeId)(a i:Operand):jt ps false ⟨dst,.indexAddr t a i,tt,p,af,g⟩ σ=(sw ps (ev σ a)/\sw ps (ev σ i)):=by simp[jt,cls,Op.operands,xf]
def abU(a:Operand):jt ps false ⟨dst,.nilCheck a,tt,p,af,g⟩ σ=sw ps (ev σ a):=by simp[jt,cls,Op.operands,xf]
def abV(t:TypeId)(a:Operand)(f:Nat):jt ps false ⟨dst,.fieldAddr t a f,tt,p,af,g⟩ σ=sw ps (ev σ a):=by simp[jt,cls,Op.operands,xf]
def abW(x:Operand):jt ps false ⟨dst,.move x,tt,p,af,g⟩ σ=True:=yD P5
def abX(x:Operand):jt ps false ⟨dst,.assign x,tt,p,af,g⟩ σ=True:=yD P5
def abY(c a b:Operand):jt ps false ⟨dst,.pick c a b,tt,p,af,g⟩ σ=True:=yD P5
def abZ(op:BinOp)(t:TypeId)(x y:Operand)(yt:TypeId):jt ps false ⟨dst,.binOp op t x y yt,tt,p,af,g⟩ σ=True:=yD P5
def ab0(t:TypeId)(parts:Array (Nat×Operand)):jt ps false ⟨dst,.build t parts,tt,p,af,g⟩ σ=True:=yD P5
def ab1(e:TypeId):jt ps false ⟨dst,.alloc e,tt,p,af,g⟩ σ=True:=yD P5
def ab2(t:TypeId)(len:Nat)(parts:Array (Nat×Operand)):jt ps false ⟨dst,.buildSlice t len parts,tt,p,af,g⟩ σ=True:=yD P5
def ab3(t:TypeId)(a x:Operand):jt ps false ⟨dst,.store t a x,tt,p,af,g⟩ σ=True:=yD P5
def ab4(f:Operand)(args:Array Operand)(cQ:Array TypeId):jt ps false ⟨dst,.call ⟨.value f,args,cQ⟩,tt,p,af,g⟩ σ=True:=yD P5
def ab5(id r c:Nat):sw ps (.ptr id r c)=(id∈ps):=rfl
def ab6(id a b c:Nat):sw ps (.ref id a b c)=(id∈ps):=rfl
def ab7(v:Value):sw ps (.lit v)=True:=rfl
def ab8(s:Nat)(r:List (List AV)):sw ps (.tree s r)=True:=rfl
def ab9(r:List AV):sw ps (.bm r)=True:=rfl
def ab'(r:List AV):sw ps (.agg r)=True:=rfl
def aca(r:List AV):sw ps (.bH r)=True:=rfl
end
def Ra:=aau @abI @abJ @abK @abL @abM @abN @abO (aau @abP @abQ @abR @abS @abT @abU @abV (aau @abW @abX @abY @abZ @ab0 @ab1 @ab2 (aau @ab3 @ab4 @ab5 @ab6 @ab7 @ab8 @ab9 (aal @ab' @aca))))
end Go.Am

