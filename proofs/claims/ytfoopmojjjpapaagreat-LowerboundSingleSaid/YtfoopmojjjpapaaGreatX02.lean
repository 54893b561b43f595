import Derived.Test.YtfoopmojjjpapaaGreatX01
set_option linter.all false
set_option maxHeartbeats 0
set_option maxRecDepth 20000
open List renaming getElem?_map→bI,mem_of_getElem?→gI,getElem?_eq_some_iff→aV,getElem?_set→bU,range→bu,length_cons→dq,all_eq_true→fW,getElem?_take→wA,getElem?_drop→nM,getElem?_toArray→Ke,getD_eq_getElem?_getD→az,append_assoc→bE,getElem?_append_left→eZ,getElem?_append_right→iA,getElem_mem→tG,mem_of_mem_drop→y0,mem_of_mem_take→ss,eq_nil_of_length_eq_zero→Au,mem_iff_getElem?→PS,mem_append→cG,size_toArray→DV,length_map→fK,length_nil→o8,length_append→bO,length_take→eY,length_drop→wy,ext_getElem?→kY,replicate→aK,eq_of_mem_replicate→Cb,mem_map→bW,range_succ→u3,flatMap_append→sv
open Option renaming map_eq_some_iff→wq,bind_eq_some_iff→Ar,map_some→eH,some→cA
open Array renaming getD_eq_getD_getElem?→eL,length_toList→sg
open Nat renaming mul_le_mul_right→nN,add_mul→gn,add_assoc→xT,add_zero→jq,ne_of_lt→oG,lt_or_ge→dP,mul_comm→tK,mod_lt→xU,div_add_mod→PX,mul_add_mod→PZ,mod_eq_of_lt→GL,eq_zero_or_pos→oH,zero_add→gJ
namespace Go.Am
variable {P:Program}
def AU(o:Oper)(σ:St)(γ:Cx)(a:Act)(K:St->Prop)(r:Result Next):Prop :=
 ∃ n x w' σ' aA,r=.ok n w'/\(n=.value x\/(n=.skip/\x=Go.undef))/\K σ'/\bx σ' aA/\Fr σ.aa γ σ'.aa aA/\aA.w=w'/\aA.tmps=(a.put o.dst x).tmps
def aw.lit{os:List Ob}{w:World}{Z:Nat->Prop}{blk:gB}(v:Value):aw os w Z blk (.lit v) v:=.cO _ _ (.lit v)
def aw.cF{os:List Ob}{w:World}{Z:Nat->Prop}{blk:gB}{v cv:Value}(h:aw os w Z blk (.lit v) cv):cv=v:=by
 cases h with
 |cO _ _ h=>cases h;rfl
def aw.AN{os:List Ob}{w:World}{Z:Nat->Prop}{blk:gB}{sz:Nat}{rows:List (List AV)}{cv:Value}(h:aw os w Z blk (.tree sz rows) cv):iB w Z (.tree sz rows) cv:=by
 cases h with
 |cO _ _ h=>exact h
def aw.eI{os:List Ob}{w:World}{Z:Nat->Prop}{blk:gB}(v:Value):aw os w Z blk (eI v) v:=by
 unfold Am.eI;split
 ·rename_i cs;refine .agg _ _ GM (λj x hx=>?_);simp only[bI,Array.getElem?_toList]at hx;cases hj:cs[j]? with
  |none=>simp[hj]at hx
  |some y =>
   simp[hj]at hx;subst hx;simp[hj];exact .lit y
 ·exact .lit v
def tZ{σ:St}{γ:Cx}(h:bx σ γ){a:Act}(ha:γ.tmps=a.tmps)(x:Operand):aw σ.aa γ.w γ.Z γ.blk (ev σ x) (a.eval x):=by
 cases x with
 |tmp t=>have:=h.ao t;rw[ha]at this;exact this
 |const v=>exact .eI v
 |global g=>exact h.gl g
 |func f=>exact .fn f [] #[] rfl (λj x hx=>by simp at hx)
def Hx{os:List Ob}{w:World}{Z:Nat->Prop}{blk:gB}{v:AV}{cv:Value}(h:aw os w Z blk v cv)(hs:c8 v=true):cv.oneCell'=true:=by
 cases h with
 |undef cv=>simp[c8]at hs
 |cO v cv h=>cases h<;>first|rfl|(simpa [c8] using hs)
 |cB=>rfl
 |k9 id sz off len cv h h1=>exact h1
 |nV id r c cv h h1=>exact h1
 |ref=>rfl
 |mK=>rfl
 |nj=>rfl
 |oN=>rfl
 |py=>rfl
 |agg=>simp[c8]at hs
 |bD=>simp[c8]at hs
 |fn=>rfl
 |iC=>rfl
 |dD=>rfl
 |q9 id cv h h1=>exact h1
def sI{σ:St}{γ:Cx}(h:bx σ γ){a:Act}(ha:γ.tmps=a.tmps){dst:Option Tmp}(hd:∀ d,dst=some d->d<a.tmps.size){v:AV}{cv:Value}(hv:aw σ.aa γ.w γ.Z γ.blk v cv):bx (σ.put dst v) { γ with tmps:=(a.put dst cv).tmps }:=by
 cases dst with
 |none =>
  have:({ γ with tmps:=(a.put none cv).tmps }:Cx)=γ:=by cases γ;simp_all [Act.put]
  rw[this];exact h
 |some d =>
  have:=h.put d (by rw[ha];exact hd d rfl) hv;rw[ha]at this;exact this
def qY(σ:St)(dst:Option Tmp)(v:AV):(σ.put dst v).aa=σ.aa:=by cases dst<;>rfl
def dy{o:Oper}{σ:St}{γ:Cx}{a:Act}{K:St->Prop}(h:bx σ γ)(ha:γ.tmps=a.tmps)(hd:∀ d,o.dst=some d->d<a.tmps.size){v:AV}{cv:Value}(hv:aw σ.aa γ.w γ.Z γ.blk v cv)(hK:K (σ.put o.dst v)){r:Result Next}(hr:r=.ok (.value cv) γ.w):AU o σ γ a K r :=
 ⟨.value cv,cv,γ.w,σ.put o.dst v,{ γ with tmps:=(a.put o.dst cv).tmps },hr,.inl rfl,hK,sI h ha hd hv,by rw[qY];exact(Fr.refl _ _).put _,rfl,rfl⟩
def CD{o:Oper}{σ σ1:St}{γ γ1:Cx}{a:Act}{K:St->Prop}(hf:Fr σ.aa γ σ1.aa γ1)(h:bx σ1 γ1)(ha:γ1.tmps=a.tmps)(hd:∀ d,o.dst=some d->d<a.tmps.size){v:AV}{cv:Value}(hv:aw σ1.aa γ1.w γ1.Z γ1.blk v cv)(hK:K (σ1.put o.dst v)){r:Result Next}(hr:r=.ok (.value cv) γ1.w):AU o σ γ a K r :=
 ⟨.value cv,cv,γ1.w,σ1.put o.dst v,{ γ1 with tmps:=(a.put o.dst cv).tmps },hr,.inl rfl,hK,sI h ha hd hv,by rw[qY];exact hf.put _,rfl,rfl⟩
def Ly{o:Oper}{σ σ1:St}{γ γ1:Cx}{a:Act}{K:St->Prop}(hf:Fr σ.aa γ σ1.aa γ1)(h:bx σ1 γ1)(ha:γ1.tmps=a.tmps)(hd:∀ d,o.dst=some d->d<a.tmps.size)(hK:K (σ1.put o.dst .undef)){r:Result Next}(hr:r=.ok .skip γ1.w):AU o σ γ a K r :=
 ⟨.skip,Go.undef,γ1.w,σ1.put o.dst .undef,{ γ1 with tmps:=(a.put o.dst Go.undef).tmps },hr,.inr ⟨rfl,rfl⟩,hK,sI h ha hd (.undef _),by rw[qY];exact hf.put _,rfl,rfl⟩
def zs{k:IntKind}{n:Int}(h:k.min<=n/\n<=k.max):k.wrap n=n:=by
 cases k<;>simp[IntKind.min,IntKind.max,IntKind.signed,IntKind.bits]at h<;>simp[IntKind.wrap,IntKind.signed,IntKind.bits]<;>omega
def afF{op:BinOp}{k:IntKind}{x y:Int}{K:Value->Prop}(h:gU op k x y K)(t:TypeId)(w:World):
  ∃ v,(binOp op t (.int k x) (.int k y)).run P w=.ok v w/\K v:=by
 cases op<;>simp only[gU]at h
 case add=>exact⟨_,by simp[binOp,Op.intArith,zs h.1],h.2⟩
 case sub=>exact⟨_,by simp[binOp,Op.intArith,zs h.1],h.2⟩
 case mul =>
  unfold wQ at h;split at h
  ·exact⟨_,by simp[binOp,Op.intArith],h⟩
  ·exact⟨_,by simp[binOp,Op.intArith,zs h.1],h.2⟩
 case quo =>
  refine⟨_,?_,h.2⟩;obtain⟨h0,hb,hm⟩:=h.1;have hq:x.tdiv y=x/y:=Int.tdiv_eq_ediv_of_nonneg h0;have hle:x/y<=x:=Int.ediv_le_self _ h0;have gd:0<=x/y:=Int.ediv_nonneg h0 GK;have hw:k.wrap (x/y)=x/y:=zs ⟨by cases k<;>simp[IntKind.min,IntKind.signed,IntKind.bits]<;>omega,GK⟩;have cy:¬ y=0:=GK;simp[binOp,Op.intDiv,cy,hq,hw]
 case rem=>exact⟨_,by simp[binOp,Op.intDiv,h.1],h.2⟩
 case and =>
  exact⟨_,by simp[binOp,Op.intBits,CG],h⟩
 case shr =>
  refine⟨_,?_,h.2⟩;obtain⟨h0,h1⟩:=h.1;have:¬ y<0:=GK;have e:(2:Int)^y.toNat=((2^y.toNat:Nat):Int):=GM;simp[binOp,Op.shift,this,Nat.min_eq_left h1];exact Int.fdiv_eq_ediv_of_nonneg _ (by rw[e];exact Int.natCast_nonneg _)
 case eql=>exact⟨_,by simp[binOp,Op.intCmp],h⟩
 case neq=>exact⟨_,by simp[binOp,Op.intCmp],h⟩
 case lss=>exact⟨_,by simp[binOp,Op.intCmp],h⟩
 case leq=>exact⟨_,by simp[binOp,Op.intCmp],h⟩
 case gtr=>exact⟨_,by simp[binOp,Op.intCmp],h⟩
 case geq=>exact⟨_,by simp[binOp,Op.intCmp],h⟩
def Sj:∀ {cs:List AV} {as:List Int},qg cs=some as->cs=as.map λa=>Qf a
 |[],as,h=>by simp[qg]at h;subst h;rfl
 |c::cs,as,h=>by
  unfold qg at h;split at h
  ·rename_i e;simp at e
  ·rename_i a r e;simp only[List.cons.injEq]at e;obtain⟨rfl,rfl⟩:=e;simp only[wq]at h;obtain⟨as',h,rfl⟩:=h;rw[Sj h];rfl
  ·simp at h
def Lp{os:List Ob}{w:World}{Z:Nat->Prop}{blk:gB}{cs:List AV}{as:List Int}{cv:Value}(h:aw os w Z blk (.agg cs) cv)(hi:qg cs=some as):cv=.agg (as.map (Value.int .i64)).toArray:=by
 have:=Sj hi;subst this;cases h with
 |cO _ _ h=>cases h
 |agg _ bm hs h =>
  congr 1;refine Array.ext (by simpa using hs) (λj h1 h2=>?_);have hj:j<as.length:=by simpa using h2
  have:=(h j (Qf as[j]) (by simp[hj])).cF;rw[eL,Array.getElem?_eq_getElem h1]at this;simpa using this
end Go.Am
namespace Go.Am
variable {P:Program}
def LC{t:TypeId}(h:(ty P t).kind≠99)(w:World):(isAgg t).run P w=.ok (ty P t).isAgg w:=by
 obtain⟨i,d,hi,hd,_⟩:=vu h;simp only[isAgg,Sem.run_bind,run_underlying hd,Result.andThen_ok];have:ty P t=ty P t:=rfl;cases d<;>simp[ty,hi,hd,Ty.isAgg]
def run_sizeOf{t:TypeId}(h:(ty P t).kind≠99)(w:World):(sizeOf t).run P w=.ok (ty P t).size w:=by
 obtain⟨i,d,hi,hd,hs,_⟩:=vu h;simp[sizeOf,typeInfo,hi,hs]
def Se{t:TypeId}{z:List Value}(h:(ty P t).kind≠99)(hz:(ty P t).zero=some z)(w:World):∃v,(zeroValue t).run P w=.ok v w/\v.cells=z.toArray:=by
 obtain⟨i,d,hi,hd,_,_,h3⟩:=vu h;rw[h3]at hz;cases hv:i.zero with
 |none=>simp[hv]at hz
 |some v =>
  simp[hv]at hz;refine⟨v,by simp[zeroValue,typeInfo,hi,hv],?_⟩;rw[<- hz]
def Hi{σ:St}{γ:Cx}(h:bx σ γ){id r c:Nat}{cv:Value}{row:List AV}(hv:aw σ.aa γ.w γ.Z γ.blk (.ptr id r c) cv)(bL:rowOf σ id r=some row):
  ∃ b base cap cur t o,cv=.pointer (some ⟨b,base+c,none⟩)/\γ.blk id=some (b,o,cap)/\γ.w.heap[b]?=some (.cells cur t (0,0))/\base+row.length<=cur.size /\
   (∀ j v,row[j]?=some v->aw σ.aa γ.w γ.Z γ.blk v (cur.getD (base+j) Go.undef))/\Live σ.aa id /\
   (∀ A2 lJ,A2.length=row.length->lJ.size=cur.size->(∀ j v,A2[j]?=some v->aw σ.aa γ.w γ.Z γ.blk v (lJ.getD (base+j) Go.undef))->(∀ k,(k<base\/base+row.length<=k)->lJ.getD k Go.undef=cur.getD k Go.undef) ->
    ∃ ob ob',σ.aa[id]?=some ob/\ob≠.gone/\ob.ej ob'/\(pg σ id r A2) = { σ with aa:=σ.aa.set id ob' }/\ud σ.aa γ.w γ.Z γ.blk o cap lJ ob'):=by
 unfold rowOf at bL;cases ho:σ.aa[id]? with
 |none=>simp[ho]at bL
 |some ob =>
  have bP:=h.dT id ob ho;cases ob with
  |gone=>simp[ho]at bL
  |mp ag L=>simp[ho]at bL
  |var cells =>
   simp only[ho]at bL;split at bL
   ·rename_i vv;subst vv;simp at bL;subst bL;obtain⟨b,cap,cur,t,h1,h2,h3,h4⟩:=bP;have aT:cv=.pointer (some ⟨b,c,none⟩):=by
     cases hv with
     |cO _ _ h=>cases h
     |nV _ _ _ _ h=>rw[ho]at h;simp at h
     |oN _ _ b' cap' cells' h hb=>rw[h1]at hb;simp at hb;simp[hb.1]
     |py _ _ _ sz b' o' cap' rows h hb=>rw[ho]at h;simp at h
    refine⟨b,0,cap,cur,t,0,by simpa using aT,h1,h2,GK,λj v hj=>by simpa using h4 j v hj,⟨_,ho,GM⟩,?_⟩;intro A2 lJ hl hs kF _;refine⟨.var cells,.var A2,rfl,GM,by simp[Ob.ej,hl],by simp[pg,ho],rfl,GK,λc v hc=>by simpa using kF c v hc⟩
   ·simp at bL
  |arr sz rows =>
   simp only[ho]at bL;obtain⟨aP,cD,bP⟩:=bP;have aoN:row.length=sz:=cD row (gI bL);have afP:r<rows.length:=(aV.1 bL).1;rcases bP with⟨_,he⟩|⟨b,o,cap,cur,t,h1,h2,h3,h4,h5,h6⟩
   ·subst he;simp at bL
   ·have aT:cv=.pointer (some ⟨b,o+(r*sz+c),none⟩):=by
     cases hv with
     |cO _ _ h=>cases h
     |nV _ _ _ _ h=>rw[ho]at h;simp at h
     |oN _ _ b' cap' cells' h hb=>rw[ho]at h;simp at h
     |py _ _ _ da b' o' cap' gV h hb=>rw[ho]at h;simp at h;rw[h1]at hb;simp at hb;simp[hb.1,hb.2.1,h.1]
    have hmul:r*sz+sz<=cap*sz:=by
     have:(r+1)*sz<=cap*sz:=nN _ GK;rw[gn]at this;omega
    refine⟨b,o+r*sz,cap,cur,t,o,by rw[aT];simp[xT],h1,h2,GK,?_,⟨_,ho,GM⟩,?_⟩
    ·intro j v hj;have:=h6 r j v (by simp[cellAt,bL,hj]);simpa [xT] using this
    ·intro A2 lJ hl hs kF afQ;refine⟨.arr sz rows,.arr sz (rows.set r A2),rfl,GM,by simp[Ob.ej],by simp[pg,ho],aP,?_,GK,by simp[h4],h5,?_⟩
     ·intro x hx;rcases List.mem_or_eq_of_mem_set hx with hx|rfl
      ·exact cD x hx
      ·omega
     ·intro r' c' v hc;by_cases gX:r=r'
      ·subst gX;simp only[cellAt,bU,if_true,afP]at hc;simp at hc;have:=kF c' v hc;simpa [xT] using this
      ·simp only[cellAt,bU,if_neg gX]at hc;have hold:=h6 r' c' v hc;have fY:c'<sz:=by
        simp only[Ar]at hc;obtain⟨x,hx,vw⟩:=hc;have:=cD x (gI hx);have:=(aV.1 vw).1;omega
       rw[afQ _ ?_]
       ·exact hold
       ·rcases Nat.lt_or_gt_of_ne gX with aX|A3
        ·right;have:(r+1)*sz<=r'*sz:=nN _ GK;rw[gn]at this;omega
        ·left;have:(r'+1)*sz<=r*sz:=nN _ GK;rw[gn]at this;omega
def Addr.sP(b o n:Nat):(⟨b,o,none⟩:Addr).add n=⟨b,o+n,none⟩:=by
 unfold Go.Addr.add;split<;>simp_all
def AP{w:World}{b j:Nat}{cur:Array Value}{t:TypeId}{fr:Nat×Nat}(h:w.heap[b]?=some (.cells cur t fr))(hj:j<cur.size):w.cell? ⟨b,j,none⟩=some (cur.getD j Go.undef):=by
 simp[World.cell?,h,hj,eL]
def Hy{w:World}{t:TypeId}(hk:(ty P t).kind≠99)(b o:Nat)(f:Nat->Value)(hc:∀ j,j<(if(ty P t).isAgg then(ty P t).size else 1)->w.cell? ⟨b,o+j,none⟩=some (f j)):
  (loadVar t ⟨b,o,none⟩).run P w=.ok (if(ty P t).isAgg then .agg ((bu (ty P t).size).map f).toArray else f 0) w:=by
 simp only[loadVar,Sem.run_bind,LC hk,Result.andThen_ok];by_cases ha:(ty P t).isAgg=true
 ·simp only[ha,if_true,Sem.run_bind,run_sizeOf hk,Result.andThen_ok];rw[run_loadCells w ⟨b,o,none⟩ _ f (λj hj=>by rw[Addr.sP];exact hc j (by simpa [ha] using hj))];rfl
 ·have mM:=hc 0 (by simp[ha]);simp only[jq]at mM;simp[ha,mM]
end Go.Am
namespace Go.Am
variable {P:Program}
def Lw(cs:List AV):∀ (row:List AV) (c:Nat),(setCells row c cs).length=row.length:=by
 induction cs with
 |nil=>intro row c;rfl
 |cons v vs ih=>intro row c;simp[setCells,ih]
def Sk(cs:List AV):∀ (row:List AV) (c:Nat),c+cs.length<=row.length->∀ j,(setCells row c cs)[j]?=if c<=j/\j<c+cs.length then cs[j-c]? else row[j]?:=by
 induction cs with
 |nil=>intro row c _ j;simp[setCells];intro h1 h2;omega
 |cons v vs ih =>
  intro row c hl j;simp only[dq]at hl;simp only[setCells,dq];rw[ih (row.set c v) (c+1) P2 j];by_cases h1:c+1<=j/\j<c+1+vs.length
  ·rw[if_pos h1,if_pos GK];have:j-c=(j-(c+1))+1:=GK;rw[this];simp
  ·rw[if_neg h1];by_cases h2:j=c
   ·subst h2;rw[if_pos GK];simp[show j<row.length by omega]
   ·rw[if_neg GK,List.getElem?_set_ne (Ne.symm h2)]
def Lt{os:List Ob}{w:World}{Z:Nat->Prop}{blk:gB}{v:AV}{cv:Value}(h:aw os w Z blk v cv)(hs:(cellsOf v).all c8=true):
  cv.cells.size=(cellsOf v).length/\(∀ j x,(cellsOf v)[j]?=some x->aw os w Z blk x (cv.cells.getD j Go.undef))/\∀ c∈cv.cells,c.oneCell'=true:=by
 by_cases mN :∃cs,v=.agg cs
 ·obtain⟨cs,rfl⟩:=mN;simp only[cellsOf]at hs ⊢;cases h with
  |cO _ _ h=>cases h
  |agg _ bm aP kF =>
   refine⟨aP,kF,?_⟩;intro c hc;simp only[Value.cells]at hc;obtain⟨j,hj,rfl⟩:=Array.mem_iff_getElem.1 hc;have hx:cs[j]?=some cs[j]:=by simp[<- aP,hj]
   have:=kF j _ hx;have hg:bm.getD j Go.undef=bm[j]:=by simp[eL,hj]
   rw[hg]at this;exact Hx this (by rw[fW]at hs;exact hs _ (gI hx))
 ·have lf:cellsOf v=[v]:=by
   unfold cellsOf;split
   ·exact absurd ⟨_,rfl⟩ mN
   ·rfl
  rw[lf]at hs ⊢;simp at hs;have ho:=Hx h hs;have bc:cv.cells = #[cv]:=by cases cv<;>first|rfl|simp[Value.oneCell']at ho
  rw[bc];refine⟨rfl,?_,by simp[ho]⟩;intro j x hx;cases j with
  |zero=>simp at hx;subst hx;simpa using h
  |succ j=>simp at hx
section
variable {o:Oper} {σ:St} {γ:Cx} {a:Act} {K:St->Prop}
def La(hs:bx σ γ){t:TypeId}(hk:(ty P t).kind≠99){id r c:Nat}{cv:Value}(hv:aw σ.aa γ.w γ.Z γ.blk (.ptr id r c) cv){row:List AV}(bL:rowOf σ id r=some row){K:AV->Prop}(h:nh (ty P t) row c K):
  ∃ v qn,(Instr.loadAt t cv).run P γ.w=.ok qn γ.w/\aw σ.aa γ.w γ.Z γ.blk v qn/\K v:=by
 obtain⟨b,base,cap,cur,tt,o,rfl,hb,jc,aP,kF,_,_⟩:=Hi hs hv bL;unfold nh at h;simp only[Instr.loadAt,Instr.sureAddr,Sem.run_bind,Sem.run_pure,Result.andThen_ok];by_cases mN:(ty P t).isAgg=true
 ·rw[if_pos mN]at h;refine⟨_,_,Hy hk b (base+c) (λj=>cur.getD (base+c+j) Go.undef) ?_,?_,h.2⟩
  ·intro j hj;rw[if_pos mN]at hj;exact AP jc GK
  ·rw[if_pos mN];refine .agg _ _ P2 (λj x hx=>?_);have hj:j<(ty P t).size:=by have:=(aV.1 hx).1;simp at this;omega
   rw[wA,if_pos hj,nM]at hx;have:=kF _ _ hx;simp[eL,hj];simpa [xT,eL] using this
 ·rw[if_neg mN]at h;cases hc:row[c]? with
  |none=>simp[hc]at h
  |some v =>
   simp only[hc]at h;have bK:=(aV.1 hc).1;refine⟨v,_,Hy hk b (base+c) (λj=>cur.getD (base+c+j) Go.undef) ?_,?_,h⟩
   ·intro j hj;rw[if_neg mN]at hj;exact AP jc GK
   ·rw[if_neg mN];exact kF _ _ hc
def afD(_hs:bx σ γ){t:TypeId}(hk:(ty P t).kind≠99){cells:List AV}{cv:Value}(hv:aw σ.aa γ.w γ.Z γ.blk (.cB cells) cv){K:AV->Prop}(h:nh (ty P t) cells 0 K):
  ∃ v qn,(Instr.loadAt t cv).run P γ.w=.ok qn γ.w/\aw σ.aa γ.w γ.Z γ.blk v qn/\K v:=by
 cases hv with
 |cO _ _ h=>cases h
 |cB _ b o f hz hc ht =>
 unfold nh at h;simp only[Instr.loadAt,Instr.sureAddr,Sem.run_bind,Sem.run_pure,Result.andThen_ok];by_cases mN:(ty P t).isAgg=true
 ·rw[if_pos mN]at h;have hlen:(ty P t).size<=cells.length:=GK;refine⟨_,_,Hy hk b o f ?_,?_,h.2⟩
  ·intro j hj;rw[if_pos mN]at hj;exact hc j cells[j] GM
  ·rw[if_pos mN];refine .agg _ _ P2 (λj x hx=>?_);have hj:j<(ty P t).size:=by have:=(aV.1 hx).1;simp at this;omega
   rw[wA,if_pos hj,nM]at hx;simp at hx;simp[eL,hj];exact .cO _ _ (ht j x hx)
 ·rw[if_neg mN]at h;cases bc:cells[0]? with
  |none=>simp[bc]at h
  |some v =>
   simp only[bc]at h;refine⟨v,_,Hy hk b o f ?_,?_,h⟩
   ·intro j hj;rw[if_neg mN]at hj;have:j=0:=GK;subst this;exact hc 0 v bc
   ·rw[if_neg mN];exact .cO _ _ (ht 0 v bc)
def Es(cur:Array Value)(p:Nat)(vs:List Value)(hp:p+vs.length<=cur.size)(k:Nat):
  ((cur.toList.take p++vs++cur.toList.drop (p+vs.length)).toArray).getD k Go.undef=if p<=k/\k<p+vs.length then vs.getD (k-p) Go.undef else cur.getD k Go.undef:=by
 simp only[eL,Ke,az];by_cases h1:k<p
 ·rw[if_neg GK,bE,eZ P2,wA,if_pos h1];simp
 ·by_cases h2:k<p+vs.length
  ·rw[if_pos GK,eZ P2,iA P2];simp;congr 3;omega
  ·rw[if_neg GK,iA P2];simp;congr 3;omega
def setRow_size(w:World)(g:Nat)(cs:Array Value):(w.setRow g cs).heap.size=w.heap.size:=by simp[World.setRow]
def afE(hs:bx σ γ){t:TypeId}(hk:(ty P t).kind≠99){id r c:Nat}{cv xv:Value}(hv:aw σ.aa γ.w γ.Z γ.blk (.ptr id r c) cv){row:List AV}(bL:rowOf σ id r=some row){v:AV}(hx:aw σ.aa γ.w γ.Z γ.blk v xv)(h:(cellsOf v).length=(ty P t).size/\c+(ty P t).size<=row.length/\(cellsOf v).all c8=true):
  ∃ w',(Instr.storeAt t cv xv).run P γ.w=.ok () w'/\bx (pg σ id r (setCells row c (cellsOf v))) { γ with w:=w' }/\Fr σ.aa γ (pg σ id r (setCells row c (cellsOf v))).aa { γ with w:=w' }:=by
 obtain⟨b,base,cap,cur,tt,o,rfl,hb,jc,aP,kF,ki,afR⟩:=Hi hs hv bL;obtain⟨h1,h2,h3⟩:=h;obtain⟨e1,e2,e3⟩:=Lt hx h3;have hlen:xv.cells.toList.length=(ty P t).size:=by simp[e1,h1]
 have eT:(Instr.storeAt t (.pointer (some ⟨b,base+c,none⟩)) xv).run P γ.w=.ok () (γ.w.setRow b (cur.toList.take (base+c)++xv.cells.toList++cur.toList.drop (base+c+xv.cells.toList.length)).toArray):=by
  have dV:=run_storeCells_at P b (base+c) tt xv.cells.toList 0 cur γ.w jc (by rw[hlen];omega) (λx hx=>e3 x (by simpa using hx));simp only[jq]at dV;simp only[Instr.storeAt,Instr.sureAddr,Sem.run_bind,Sem.run_pure,Result.andThen_ok,storeVar,run_sizeOf hk];have:¬ (xv.cells.size≠(ty P t).size):=by rw[e1,h1];simp
  rw[if_neg this];simpa using dV
 obtain⟨ob,ob',g1,g2,g3,g4,g5⟩:=afR (setCells row c (cellsOf v)) (cur.toList.take (base+c)++xv.cells.toList++cur.toList.drop (base+c+xv.cells.toList.length)).toArray
  (Lw _ _ _) (by simp[hlen];omega) (by
   intro j x hj;rw[Sk _ _ _ (by rw[h1];exact h2)]at hj;rw[Es cur (base+c) xv.cells.toList (by rw[hlen];omega),hlen];by_cases eJ:c<=j/\j<c+(cellsOf v).length
   ·rw[if_pos eJ]at hj;rw[if_pos GK];have:=e2 _ _ hj;have e:base+j-(base+c)=j-c:=GK;rw[e];simpa [az,eL] using this
   ·rw[if_neg eJ]at hj;rw[if_neg GK];exact kF j x hj) (by
   intro k bg;rw[Es cur (base+c) xv.cells.toList (by rw[hlen];omega),hlen];rw[if_neg GK])
 refine⟨_,eT,?_,?_⟩
 ·rw[g4];exact hs.write g1 g2 g3 hb (setRow_heap γ.w b cur _ tt _ jc) (λk hk=>setRow_other γ.w b k _ hk) (setRow_size _ _ _) g5
 ·rw[g4];exact Fr.write ob' g1 g2 g3 hb (λk hk=>setRow_other γ.w b k _ hk) (setRow_size _ _ _) rfl rfl rfl
end
end Go.Am
namespace Go.Am
variable {P:Program}
def bx.AT{σ:St}{γ:Cx}(h:bx σ γ){sz:Nat}(aP:0<sz):
  bx { σ with aa:=σ.aa++[.arr sz []] } { γ with blk:=df γ.blk σ.aa.length none }:=by
 have hR:∀ v cv,aw σ.aa γ.w γ.Z γ.blk v cv->aw (σ.aa++[.arr sz []]) γ.w γ.Z (df γ.blk σ.aa.length none) v cv:=λv cv hv =>
  hv.mono (λb hb=>⟨hb,rfl⟩) (λi o ho=>by
   have hi:i<σ.aa.length:=(aV.1 ho).1;have cm:(σ.aa++[.arr sz []])[i]?=some o:=by rw[eZ hi];exact ho
   by_cases bG:o=.gone
   ·subst bG;exact .inl cm
   ·exact .inr ⟨by simp[df,oG hi],o,cm,Ob.jK bG⟩)
 have bS:∀ i b,df γ.blk σ.aa.length none i=some b->Live (σ.aa++[.arr sz []]) i->Live σ.aa i/\γ.blk i=some b:=by
  rintro i b hb⟨o,ho,bG⟩;simp only[df]at hb;split at hb
  ·simp at hb
  ·rename_i cy;have hi:i<σ.aa.length:=by have:=(aV.1 ho).1;simp at this;omega
   rw[eZ hi]at ho;exact⟨⟨o,ho,bG⟩,hb⟩
 refine⟨λk=>hR _ _ (h.ao k),?_,?_,?_,h.gG,λg=>hR _ _ (h.gl g)⟩
 ·intro i o ho;rcases dP i σ.aa.length with hi|hi
  ·rw[eZ hi]at ho;exact(h.dT i o ho).mono hR (by simp[df,oG hi]) (λ_ _ _ _=>rfl)
  ·have ar:i=σ.aa.length:=by have:=(aV.1 ho).1;simp at this;omega
   subst ar;simp at ho;subst ho;exact⟨aP,GM,.inl ⟨by simp[df],rfl⟩⟩
 ·intro i j b o c o' c' hi hj gF iu;obtain⟨Hz,qq⟩:=bS i _ gF hi;obtain⟨LF,zu⟩:=bS j _ iu hj;exact h.inj i j b o c o' c' Hz LF qq zu
 ·rintro b ⟨i,o,c,hi,hb⟩;obtain⟨Hz,qq⟩:=bS i _ hb hi;exact h.nz b ⟨i,o,c,Hz,qq⟩
def Fr.AT(os:List Ob)(γ:Cx)(sz:Nat):Fr os γ (os++[.arr sz []]) { γ with blk:=df γ.blk os.length none } where
 lF:=rfl
 tape:=rfl
 output:=rfl
 size:=Nat.le_refl _
 ek:=λ_ _ _=>rfl
 z0:=λ_ h=>h
 z1:=λ_ h=>.inl h
 own:=by
  rintro b⟨i,o,c,⟨x,hx,eS⟩,hb⟩;simp only[df]at hb;split at hb
  ·simp at hb
  ·have hi:i<os.length:=by have:=(aV.1 hx).1;simp at this;omega
   rw[eZ hi]at hx;exact .inl ⟨i,o,c,⟨x,hx,eS⟩,hb⟩
 len:=GM
 eA:=by
  rintro i hi⟨x,hx,eS⟩;have hx0:=hx;rw[eZ hi]at hx;exact⟨by simp[df,oG hi],x,x,hx,hx0,Ob.jK eS⟩
def bx.Et{σ:St}{γ:Cx}(h:bx σ γ){id:Nat}{ob ob':Ob}(ho:σ.aa[id]?=some ob)(hg:ob≠.gone){b o cap o' cap':Nat}(hb:γ.blk id=some (b,o,cap)){w':World}{cur:Array Value}{t:TypeId}(hw:w'.heap[b]?=some (.cells cur t (0,0)))(nr:∀ k,k≠b->w'.heap[k]?=γ.w.heap[k]?)(aP:w'.heap.size=γ.w.heap.size)(bP:ud σ.aa γ.w γ.Z γ.blk o' cap' cur ob'):
  bx { σ with aa:=σ.aa.set id .gone++[ob'] } { γ with w:=w',blk:=df γ.blk σ.aa.length (some (b,o',cap')) }:=by
 have bX:id<σ.aa.length:=(aV.1 ho).1;have ki:Live σ.aa id:=⟨ob,ho,hg⟩;have hR:∀ v cv,aw σ.aa γ.w γ.Z γ.blk v cv->aw (σ.aa.set id .gone++[ob']) w' γ.Z (df γ.blk σ.aa.length (some (b,o',cap'))) v cv:=λv cv hv =>
  hv.mono (λz hz=>⟨hz,nr z (λe=>h.nz b ⟨id,o,cap,ki,hb⟩ (e▸hz))⟩) (λi x hx=>by
   have hi:i<σ.aa.length:=(aV.1 hx).1;rw[eZ (by simpa using hi),bU];by_cases nX:id=i
   ·left;simp[nX,hi]
   ·rw[if_neg nX];by_cases bG:x=.gone
    ·subst bG;exact .inl hx
    ·exact .inr ⟨by simp[df,oG hi],x,hx,Ob.jK bG⟩)
 have bS:∀ i,Live (σ.aa.set id .gone++[ob']) i->i=σ.aa.length\/(i<σ.aa.length/\i≠id/\Live σ.aa i):=by
  rintro i⟨x,hx,eS⟩;rcases dP i σ.aa.length with hi|hi
  ·right;rw[eZ (by simpa using hi),bU]at hx;split at hx
   ·simp at hx;exact absurd hx.symm eS
   ·rename_i cy;exact⟨hi,Ne.symm cy,x,hx,eS⟩
  ·left;have:=(aV.1 hx).1;simp at this;omega
 refine⟨λk=>hR _ _ (h.ao k),?_,?_,?_,λz hz=>by rw[aP];exact h.gG z hz,λg=>hR _ _ (h.gl g)⟩
 ·intro i x hx;rcases dP i σ.aa.length with hi|hi
  ·rw[eZ (by simpa using hi),bU]at hx;split at hx
   ·simp at hx;subst hx;trivial
   ·rename_i cy;by_cases bG:x=.gone
    ·subst bG;trivial
    ·refine(h.dT i x hx).mono hR (by simp[df,oG hi]) (λz y c hz=>nr z (λe=>cy ?_));subst e;exact h.inj id i z o cap y c ki ⟨x,hx,bG⟩ hb hz
  ·have ar:i=σ.aa.length:=by have:=(aV.1 hx).1;simp at this;omega
   subst ar;rw[iA GM]at hx;simp at hx;subst hx;exact bP.LH (b:=b) (cap:=cap') hR (by simp[df]) hw
 ·intro i j z y c y' c' hi hj gF iu;simp only[df]at gF iu;rcases bS i hi with rfl|⟨lY,Sl,ar⟩<;>rcases bS j hj with rfl|⟨gu,afS,fe⟩
  ·rfl
  ·rw[if_pos rfl]at gF;rw[if_neg (oG gu)]at iu;simp at gF;rw[<- gF.1]at iu;exact absurd (h.inj j id b y' c' o cap fe ki iu hb) afS
  ·rw[if_pos rfl]at iu;rw[if_neg (oG lY)]at gF;simp at iu;rw[<- iu.1]at gF;exact absurd (h.inj i id b y c o cap ar ki gF hb) Sl
  ·rw[if_neg (oG lY)]at gF;rw[if_neg (oG gu)]at iu;exact h.inj i j z y c y' c' ar fe gF iu
 ·rintro z ⟨i,y,c,hi,hz⟩ oR;simp only[df]at hz;rcases bS i hi with rfl|⟨lY,Sl,ar⟩
  ·rw[if_pos rfl]at hz;simp at hz;rw[<- hz.1]at oR;exact h.nz b ⟨id,o,cap,ki,hb⟩ oR
  ·rw[if_neg (oG lY)]at hz;exact h.nz z ⟨i,y,c,ar,hz⟩ oR
theorem Fr.Et{σ:St}{γ:Cx}{id:Nat}{ob:Ob}(ob':Ob)(ho:σ.aa[id]?=some ob)(hg:ob≠.gone){b o cap o' cap':Nat}(hb:γ.blk id=some (b,o,cap)){w':World}(nr:∀ k,k≠b->w'.heap[k]?=γ.w.heap[k]?)(aP:w'.heap.size=γ.w.heap.size)(h1:w'.os=γ.w.os)(h2:w'.tape=γ.w.tape)(h3:w'.output=γ.w.output)(h4:γ.w.drawn<=w'.drawn:=by first|exact Nat.le_refl _|(simp;done)|omega):
  Fr σ.aa γ (σ.aa.set id .gone++[ob']) { γ with w:=w',blk:=df γ.blk σ.aa.length (some (b,o',cap')) } where
 lF:=h1
 tape:=h2
 output:=h3
 drawn:=h4
 size:=by simp[aP]
 ek:=fun z _ kE=>nr z (fun e=>kE ⟨id,o,cap,⟨ob,ho,hg⟩,e▸hb⟩)
 z0:=fun _ h=>h
 z1:=fun _ h=>.inl h
 own:=by
  rintro z⟨i,y,c,⟨x,hx,eS⟩,hz⟩;simp only[df]at hz;split at hz
  ·simp at hz;left;exact⟨id,o,cap,⟨ob,ho,hg⟩,by rw[hb,hz.1]⟩
  ·have hi:i<σ.aa.length:=by have:=(List.getElem?_eq_some_iff.1 hx).1;simp at this;omega
   rw[List.getElem?_append_left (by simpa using hi),List.getElem?_set]at hx;split at hx
   ·split at hx<;>simp at hx;exact absurd hx.symm eS
   ·exact .inl ⟨i,y,c,⟨x,hx,eS⟩,hz⟩
 len:=by simp
 eA:=by
  rintro i hi⟨x,hx,eS⟩;have hx0:=hx;rw[List.getElem?_append_left (by simpa using hi),List.getElem?_set]at hx;split at hx
  ·split at hx<;>simp at hx;exact absurd hx.symm eS
  ·exact⟨by simp[df,Nat.ne_of_lt hi],x,x,hx,hx0,Ob.jK eS⟩
def Sm{σ:St}{γ:Cx}(h:bx σ γ){x:AV}{cv:Value}(hv:aw σ.aa γ.w γ.Z γ.blk x cv){sz:Nat}(aP:0<sz){src:List (List AV)}(hs:oJ σ x=some (sz,src)):
  ∃ ad c,∃ g:Nat->Value,cv=.slice ad src.length c/\(∀ row∈src,row.length=sz)/\(0<src.length->∃ b o,ad=some ⟨b,o,none⟩/\∀ j,j<src.length*sz->γ.w.cell? ⟨b,o+j,none⟩=some (g j)) /\
   ∀ r c v,cellAt src r c=some v->aw σ.aa γ.w γ.Z γ.blk v (g (r*sz+c)):=by
 cases x with
 |tree da rows =>
  simp[oJ]at hs;obtain⟨rfl,rfl⟩:=hs;cases hv.AN with
  |nil _ cap a=>exact⟨a,cap,λ_=>Go.undef,rfl,GM,GM,by simp[cellAt]⟩
  |tree _ _ b o cap f hz hr Eu hc ht =>
   refine⟨_,cap,λj=>f (j/da) (j%da),rfl,hr,λhlen=>⟨b,o,rfl,?_⟩,?_⟩
   ·intro j hj;have h1:j/da<rows.length:=Nat.div_lt_of_lt_mul (by rw[tK];exact hj);have h2:j%da<da:=xU _ aP;have cD:(rows[j/da]).length=da:=hr _ (tG h1);have:=hc (j/da) (j%da) ((rows[j/da])[j%da]' GK) (by simp[cellAt,h1,h2,cD]);have e:j/da*da+j%da=j:=by rw[tK];exact PX j da
    rw[e]at this;exact this
   ·intro r c v aT;have bK:c<da:=by
     simp only[cellAt,Ar]at aT;obtain⟨y,hy,rp⟩:=aT;have:=hr y (gI hy);have:=(aV.1 rp).1;omega
    have e1:(r*da+c)/da=r:=by rw[tK,Nat.mul_add_div aP,Nat.div_eq_of_lt bK];rfl
    have e2:(r*da+c)%da=c:=by rw[tK,PZ,GL bK]
    simp only[e1,e2];exact .cO _ _ (ht r c v aT)
 |ref id da off len =>
  simp only[oJ]at hs;cases ho:σ.aa[id]? with
  |none=>simp[ho]at hs
  |some ob =>
   have bP:=h.dT id ob ho;cases ob with
   |gone=>simp[ho]at hs
   |mp ag L=>simp[ho]at hs
   |var cells=>simp[ho]at hs
   |arr lG rows =>
    simp only[ho]at hs;split at hs
    ·rename_i he;subst he;simp at hs;obtain⟨rfl,rfl⟩:=hs;obtain⟨_,cD,bP⟩:=bP;cases hv with
     |cO _ _ h=>cases h
     |k9 _ _ _ _ _ h=>rw[ho]at h;simp at h
     |mK _ _ h hb =>
      rw[ho]at h;simp at h;subst h;exact⟨none,0,λ_=>Go.undef,rfl,GM,GM,by simp[cellAt]⟩
     |nj _ _ _ b x bo gV h hb hl =>
      exact⟨some ⟨b,x,none⟩,0,λ_=>Go.undef,GM,GM,GM,by simp[cellAt]⟩
     |ref _ _ _ _ b o cap cap' gV h hb hl hc jV =>
      rw[ho]at h;simp at h;subst h;rcases bP with⟨h1,_⟩|⟨b',o',Ec,cur,t,h1,h2,h3,h4,h5,h6⟩
      ·rw[hb]at h1;simp at h1
      ·rw[hb]at h1;simp at h1;obtain⟨rfl,rfl,rfl⟩:=h1;have hlen:((rows.drop off).take len).length=len:=P2;refine⟨_,cap',λj=>cur.getD (o+off*lG+j) Go.undef,by rw[hlen],?_,λ_=>⟨b,o+off*lG,rfl,?_⟩,?_⟩
       ·intro row bL;exact cD row (y0 (ss bL))
       ·intro j hj;rw[hlen]at hj;refine AP h2 ?_;have:(off+len)*lG<=cap*lG:=nN _ GK;rw[gn]at this;omega
       ·intro r c v aT;simp only[cellAt,wA,nM]at aT;split at aT
        ·have:=h6 (off+r) c v aT;rw[gn]at this;have e:o+(off*lG+r*lG+c)=o+off*lG+(r*lG+c):=GK;rw[e]at this;exact this
        ·simp at aT
    ·simp at hs
 |_=>simp[oJ]at hs
end Go.Am
namespace Go.Am
variable {P:Program}
def Ed{rows:List (List AV)}{sz r c:Nat}{v:AV}(hr:∀ row∈rows,row.length=sz)(h:cellAt rows r c=some v):r<rows.length/\c<sz:=by
 simp only[cellAt,Ar]at h;obtain⟨y,hy,rp⟩:=h;have h1:=hr y (gI hy);have h2:=(aV.1 rp).1;have h3:=(aV.1 hy).1;omega
def Sn{p s:List (List AV)}{r c:Nat}:cellAt (p++s) r c=if r<p.length then cellAt p r c else cellAt s (r-p.length) c:=by
 unfold cellAt;split
 ·rw[eZ (by assumption)]
 ·rw[iA GK]
def AO{r c n sz:Nat}(hr:r<n)(hc:c<sz):r*sz+c<n*sz:=by
 have:(r+1)*sz<=n*sz:=nN _ hr;rw[gn]at this;omega
def afT{R:AV->Value->Prop}{p s:List (List AV)}{sz:Nat}(hp:∀ row∈p,row.length=sz)(hs:∀ row∈s,row.length=sz){go g:Nat->Value}(h1:∀ r c v,cellAt p r c=some v->R v (go (r*sz+c)))(h2:∀ r c v,cellAt s r c=some v->R v (g (r*sz+c)))(rest:List Value)(r c:Nat)(v:AV)(h:cellAt (p++s) r c=some v):
  R v (((((bu (p.length*sz)).map go)++((bu (s.length*sz)).map g))++rest).toArray.getD (r*sz+c) Go.undef):=by
 rw[Sn]at h;simp only[eL,Ke];split at h
 ·obtain⟨hr,hc⟩:=Ed hp h;have:=AO hr hc;rw[bE,eZ (by simpa using this)];simp[this];exact h1 r c v h
 ·rename_i gd;obtain⟨hr,hc⟩:=Ed hs h;have hl:=AO hr hc;have e:r*sz+c=p.length*sz+((r-p.length)*sz+c):=by
   have:r=p.length+(r-p.length):=GK
   conv=>lhs;rw[this,gn]
   omega
  rw[eZ P2,iA P2];have e2:r*sz+c-(List.map go (bu (p.length*sz))).length=(r-p.length)*sz+c:=P2;rw[e2];simp[hl];exact h2 _ _ _ h
def afU {σ:St} {γ:Cx} (h:bx σ γ) {x:AV} {cv:Value} (hv:aw σ.aa γ.w γ.Z γ.blk x cv) {sz:Nat} {pre:List (List AV)} {σ1:St} (hs:lW σ sz x=some (pre,σ1)) :
    (bx σ1 γ/\Fr σ.aa γ σ1.aa γ/\∃ k,σ1.aa.length=k) /\
    ((cv=.slice none 0 0/\pre=[]) \/
     (∃ id b x bo cur t,cv=.slice (some ⟨b,x,none⟩) 0 0/\pre=[]/\Live σ.aa id/\σ1 = { σ with aa:=σ.aa.set id .gone }/\γ.blk id=some (b,bo)/\γ.w.heap[b]?=some (.cells cur t (0,0))) \/
     ∃ id off rows b o cap cap' cur t,σ.aa[id]?=some (.arr sz rows)/\σ1 = { σ with aa:=σ.aa.set id .gone }/\γ.blk id=some (b,o,cap)/\γ.w.heap[b]?=some (.cells cur t (0,0)) /\
      cv=.slice (some ⟨b,o+off * sz,none⟩) pre.length cap'/\pre.length<=cap'/\cap'<=maxLen/\o+off * sz+cap' * sz<=cur.size/\(∀ row∈pre,row.length=sz) /\
      ∀ r c v,cellAt pre r c=some v->aw σ.aa γ.w γ.Z γ.blk v (cur.getD (o+off * sz+(r * sz+c)) Go.undef)):=by
  unfold lW at hs
  split at hs
  · simp at hs
    obtain ⟨rfl,rfl⟩:=hs
    exact⟨⟨h,Fr.refl _ _,_,rfl⟩,.inl ⟨hv.cF,rfl⟩⟩
  · rename_i id da off len
    cases ho:σ.aa[id]? with
    | none=>simp[ho] at hs
    | some ob =>
      have bP:=h.dT id ob ho
      cases ob with
      | gone=>simp[ho] at hs
      | mp ag L=>simp[ho] at hs
      | var cells=>simp[ho] at hs
      | arr lG rows =>
        simp only[ho] at hs
        split at hs
        · rename_i he
          obtain ⟨vz,jY⟩:=he
          subst vz
          subst jY
          simp at hs
          obtain ⟨rfl,rfl⟩:=hs
          refine⟨⟨h.kill id,Fr.kill _ _ _,_,rfl⟩,?_⟩
          obtain ⟨_,cD,bP⟩:=bP
          cases hv with
          | cO _ _ h=>cases h
          | k9 _ _ _ _ _ h=>rw[ho] at h;simp at h
          | mK _ _ h hb=>left;exact⟨rfl,GM⟩
          | nj _ _ _ b x bo gV h' hb hl =>
            right;left
            rcases bP with ⟨h1,_⟩ | ⟨b',o',Ec,cur,t,h1,h2,_⟩
            · rw[hb] at h1;simp at h1
            · rw[hb] at h1;simp at h1
              obtain ⟨rfl,_⟩:=h1
              exact⟨id,b,x,bo,cur,t,rfl,GM,⟨_,ho,GM⟩,rfl,hb,h2⟩
          | ref _ _ _ _ b o cap cap' gV h' hb hl hc jV =>
            rw[ho] at h';simp at h'
            subst h'
            rcases bP with ⟨h1,_⟩ | ⟨b',o',Ec,cur,t,h1,h2,h3,h4,h5,h6⟩
            · rw[hb] at h1;simp at h1
            · rw[hb] at h1;simp at h1
              obtain ⟨rfl,rfl,rfl⟩:=h1
              right;right
              have hlen:((rows.drop off).take len).length=len:=P2
              refine⟨id,off,rows,b,o,cap,cap',cur,t,ho,rfl,hb,h2,by rw[hlen],GK,GK,?_,?_,?_⟩
              · have:(off+cap') * lG<=cap * lG:=nN _ hc
                rw[gn] at this;omega
              · intro row bL
                exact cD row (y0 (ss bL))
              · intro r c v aT
                simp only[cellAt,wA,nM] at aT
                split at aT
                · have:=h6 (off+r) c v aT
                  rw[gn] at this
                  have e:o+(off * lG+r * lG+c)=o+off * lG+(r * lG+c):=GK
                  rw[e] at this
                  exact this
                · simp at aT
        · simp at hs
  · simp at hs
def afV(w:World)(t ty' e:TypeId)(i:TypeInfo)(ht:P.underlying t=some (.slice e))(hi:P.info? e=some i)(g o A4 LI:Nat)(cur:Array Value)(tt:TypeId)(hg:w.heap[g]?=some (.cells cur tt (0,0)))(xa:Option Addr)(m c:Nat)(news:List Value)(hl:news.length=m*i.size)(zw:0<m->∃ a,xa=some a/\∀ j u,news[j]?=some u->w.cell? (a.add j)=some u)(h1:∀ u∈news,u.oneCell'=true)(CH:A4+m<=LI)(kG:o+A4*i.size+news.length<=cur.size):
  (Builtin.append_ #[t,t] ty' #[.slice (some ⟨g,o,none⟩) A4 LI,.slice xa m c]).run P w =
   .ok (.slice (some ⟨g,o,none⟩) (A4+m) LI) (w.setRow g (cur.toList.take (o+A4*i.size)++news++cur.toList.drop (o+A4*i.size+news.length)).toArray):=by
 have hf:(Builtin.firstCells i.size m (.slice xa m c)).run P w=.ok news.toArray w:=by
  rcases oH m with h0|hp
  ·subst h0;have hn:news=[]:=Au (by simpa using hl);subst hn;cases xa<;>simp[Builtin.firstCells,loadCells,loadCellsFrom]
  ·obtain⟨a,rfl,hc⟩:=zw hp;exact run_firstCells_some w i.size m a m c news hl hc
 have dV:=run_storeCells_at P g (o+A4*i.size) tt news 0 cur w hg (by simpa using kG) h1;simp only[jq]at dV;simp[Builtin.append_,run_underlying ht,sizeOf,typeInfo,hi,Builtin.lenOf,CH,hf,Addr.sP,dV]
def CJ{g:Nat->Value}{n j:Nat}{u:Value}(h:((bu n).map g)[j]?=some u):j<n/\u=g j:=by
 have hj:=(aV.1 h).1;simp at hj;simp[hj]at h;exact⟨hj,h.symm⟩
def afM{σ σ1:St}{γ:Cx}(h:bx σ γ){t oty:TypeId}{sz:Nat}{z:List Value}(hk:(ty P t).kind=1)(ec:(ty P (ty P t).elem).kind≠99)(hz:(ty P (ty P t).elem).zero=some z)(aP:sz=(ty P (ty P t).elem).size)(h0:0<sz)(nY:z.length=sz){sD x:AV}{uf Ev:Value}(hS:aw σ.aa γ.w γ.Z γ.blk sD uf)(hX:aw σ.aa γ.w γ.Z γ.blk x Ev){pre src:List (List AV)}(hd:lW σ sz sD=some (pre,σ1))(rm:oJ σ x=some (sz,src))(hlen:pre.length+src.length<=549755813888)(Eo:(ty P (ty P t).elem).bytes<=128)(sR:(src.all λrow=>row.all c8)=true):
    ∃ qn γ1,(Builtin.append_ #[t,t] oty #[uf,Ev]).run P γ.w=.ok qn γ1.w/\γ1.tmps=γ.tmps/\bx { σ1 with aa:=σ1.aa++[.arr sz (pre++src)] } γ1 /\
      Fr σ.aa γ (σ1.aa++[.arr sz (pre++src)]) γ1/\aw (σ1.aa++[.arr sz (pre++src)]) γ1.w γ1.Z γ1.blk (.ref σ1.aa.length sz 0 (pre.length+src.length)) qn:=by
  obtain⟨i,d,hi,Hp,vt,Ep,hzero⟩:=vu ec;have ht:=vr hk;have yf:i.size=sz:=by rw[<- vt,<- aP]
  obtain⟨zv,AZ,jI⟩:∃zv,i.zero=some zv/\zv.cells.size=sz:=by
    rw[hzero]at hz;cases hv:i.zero with
    |none=>simp[hv]at hz
    |some v=>simp[hv]at hz;exact⟨v,rfl,by rw[<- nY,<- hz];simp⟩
  obtain⟨ad,c,g,rfl,mO,LJ,CK⟩:=Sm h hX h0 rm;obtain⟨⟨jr,CL,_⟩,afX⟩:=afU h hS hd
  let news:=(bu (src.length*sz)).map g
  have ak:news.length=src.length*i.size:=by simp[news,yf]
  have afY:∀ u∈news,u.oneCell'=true:=by
    intro u hu;obtain⟨j,hj⟩:=PS.1 hu;obtain⟨gu,rfl⟩:=CJ hj;have h1:j/sz<src.length:=Nat.div_lt_of_lt_mul (by rw[tK];exact gu);have h2:j%sz<sz:=xU _ h0;have cD:(src[j/sz]).length=sz:=mO _ (tG h1);have:=CK (j/sz) (j%sz) ((src[j/sz])[j%sz]' GK) (by simp[cellAt,h1,h2,cD]);have e:j/sz*sz+j%sz=j:=by rw[tK];exact PX j sz
    rw[e]at this;refine Hx this ?_;rw[fW]at sR;have:=sR _ (tG h1);rw[fW]at this;exact this _ (tG _)
  have zw:0<src.length->∃ a,ad=some a/\∀ j u,news[j]?=some u->γ.w.cell? (a.add j)=some u:=by
    intro hp;obtain⟨b,o,rfl,hc⟩:=LJ hp;refine⟨_,rfl,λj u hu=>?_⟩;obtain⟨gu,rfl⟩:=CJ hu;rw[Addr.sP];exact hc j gu
  have zx:pre.length+src.length<=maxLen:=by unfold maxLen;omega
  have kH:(pre.length+src.length)*i.bytes<=140737488355328:=by
    rw[<- Ep]
    calc _<=549755813888*128:=Nat.mul_le_mul hlen Eo
      _<=_:=GK
  have fresh:∀ (eA:Nat) (go:Nat->Value),(∀ row∈pre,row.length=sz)->(∀ r c v,cellAt pre r c=some v->aw σ.aa γ.w γ.Z γ.blk v (go (r*sz+c))) ->
      ∀ (w':World) (cap:Nat),pre.length+src.length<=cap->cap<=maxLen ->
        w'=γ.w.drew.alloc (.cells (((bu (pre.length*sz)).map go).toArray++news.toArray++Builtin.zeroCells zv.cells (cap-(pre.length+src.length))) (ty P t).elem) ->
        ∃ γ1:Cx,γ1.w=w'/\γ1.tmps=γ.tmps/\bx { σ1 with aa:=σ1.aa++[.arr sz (pre++src)] } γ1/\Fr σ.aa γ (σ1.aa++[.arr sz (pre++src)]) γ1 /\
          aw (σ1.aa++[.arr sz (pre++src)]) γ1.w γ1.Z γ1.blk (.ref σ1.aa.length sz 0 (pre.length+src.length)) (.slice (some ⟨γ.w.heap.size,0,none⟩) (pre.length+src.length) cap):=by
    intro eA go dg HA w' cap lf zy rh;have HB:∀ v cv,aw σ.aa γ.w γ.Z γ.blk v cv->aw σ1.aa γ.w γ.Z γ.blk v cv:=by
      intro v cv hv;refine hv.mono (λb hb=>⟨hb,rfl⟩) (λi o ho=>?_);unfold lW at hd;split at hd
      · simp at hd
        rw[<- hd.2];by_cases bG:o=.gone
        · subst bG;exact .inl ho
        · exact .inr ⟨rfl,o,ho,Ob.jK bG⟩
      · rename_i id da off len
        have hi:i<σ.aa.length:=(aV.1 ho).1;split at hd
        · split at hd
          · simp at hd
            rw[<- hd.2];show(σ.aa.set id Ob.gone)[i]?=some Ob.gone\/_;simp only[bU];by_cases nX:id=i
            · left;simp[nX,hi]
            · rw[if_neg nX]
              by_cases bG:o=.gone
              · subst bG;exact .inl ho
              · exact .inr ⟨trivial,o,ho,Ob.jK bG⟩
          · simp at hd
        · simp at hd
      · simp at hd
    let cur:=((bu (pre.length*sz)).map go).toArray++news.toArray++Builtin.zeroCells zv.cells (cap-(pre.length+src.length))
    have bP:ud σ1.aa γ.w γ.Z γ.blk 0 cap cur (.arr sz (pre++src)):=by
      refine⟨h0,?_,?_,by simpa using lf,zy,?_⟩
      · intro row bL
        rcases cG.1 bL with h|h
        · exact dg row h
        · exact mO row h
      · simp only[cur,news,Array.size_append,DV,fK,List.length_range,size_zeroCells,jI,<- gn]
        have:pre.length+src.length+(cap-(pre.length+src.length))=cap:=GK;rw[this];omega
      · intro r c v hv
        have:=afT (R:=aw σ1.aa γ.w γ.Z γ.blk) dg mO (λr c v hv=>HB _ _ (HA r c v hv)) (λr c v hv=>HB _ _ (CK r c v hv)) (Builtin.zeroCells zv.cells (cap-(pre.length+src.length))).toList r c v hv;rw[gJ];have e:cur=(((bu (pre.length*sz)).map go)++((bu (src.length*sz)).map g)++(Builtin.zeroCells zv.cells (cap-(pre.length+src.length))).toList).toArray:=by
          apply Array.ext';simp[cur,news]
        rw[e];exact this
    refine⟨{ γ with w:=w',blk:=df γ.blk σ1.aa.length (some (γ.w.heap.size,0,cap)) },rfl,rfl,?_,?_,?_⟩
    · exact jr.push (t:=(ty P t).elem) (cur:=cur) (by rw[rh];rfl) bP
    · exact CL.trans (Fr.push (σ:=σ1) (t:=(ty P t).elem) (cur:=cur) _ (by rw[rh];rfl) (by rw[rh];rfl) (by rw[rh];rfl) (by rw[rh];rfl) (by rw[rh];exact Nat.le_succ _))
    · have:=aw.ref (os:=σ1.aa++[.arr sz (pre++src)]) (w:=w') (Z:=γ.Z) (blk:=df γ.blk σ1.aa.length (some (γ.w.heap.size,0,cap))) σ1.aa.length sz 0 (pre.length+src.length) γ.w.heap.size 0 cap cap (pre++src)
        GM (by simp[df]) GM GK lf
      simpa using this
  rcases afX with⟨rfl,rfl⟩|⟨id,b,x,bo,cur,tt,rfl,rfl,ki,rfl,hb,jc⟩|⟨id,off,rows,b,o,cap,cap',cur,tt,ho,rfl,hb,jc,rfl,vA,kj,kG,dg,HA⟩
  · rcases oH src.length with hm|hp
    ·
      have fc:src=[]:=Au hm;subst fc;refine⟨.slice none 0 0,{ γ with blk:=df γ.blk σ1.aa.length none },?_,rfl,jr.AT h0,CL.trans (Fr.AT _ _ _),?_⟩
      · cases ad<;>simp[Builtin.append_,run_underlying ht,sizeOf,typeInfo,hi,Builtin.lenOf,Builtin.firstCells,loadCells,loadCellsFrom]
      · exact .mK _ _ GM (by simp[df])
    · obtain⟨a,rfl,hc⟩:=zw hp
      have hr:=run_append_nil (P:=P) γ.w t oty _ i zv ht hi AZ a src.length c news ak hc hp (by unfold maxLen at zx;simp at zx;omega) (by have hb:=kH;simp only[o8,gJ]at hb;omega);have gd:=grownCap_ge γ.w src.length 0 (ty P t).elem;have kj:=grownCap_le_maxLen γ.w src.length 0 (ty P t).elem (by simpa using zx);obtain⟨γ1,e1,e2,e3,e4,e5⟩:=fresh 0 (λ_=>Go.undef) GM (by simp[cellAt]) _ (grownCap γ.w src.length 0 (ty P t).elem) (by simpa using gd) kj rfl;simp only[o8,Nat.zero_mul,List.range_zero,List.map_nil,gJ,Array.empty_append]at e1 e5;refine⟨.slice (some ⟨γ.w.heap.size,0,none⟩) src.length (grownCap γ.w src.length 0 (ty P t).elem),γ1,?_,e2,e3,e4,?_⟩
      · rw[hr,e1]
      · simpa using e5
  · rcases oH src.length with hm|hp
    · have fc:src=[]:=Au hm
      subst fc;obtain⟨ob,ho,hg⟩:=ki;have nr:∀ k,k≠b->γ.w.heap[k]?=γ.w.heap[k]?:=λ_ _=>rfl;have LK:=h.Et (ob':=.arr sz []) (o':=0) (cap':=0) ho hg (o:=bo.1) (cap:=bo.2) hb jc nr rfl ⟨h0,GM,GM,GM,by simp[maxLen],by simp[cellAt]⟩;have dU:=Fr.Et (γ:=γ) (o':=0) (cap':=0) (.arr sz []) ho hg (o:=bo.1) (cap:=bo.2) hb (w':=γ.w) nr rfl rfl rfl rfl;refine⟨.slice (some ⟨b,x,none⟩) 0 0,{ γ with w:=γ.w,blk:=df γ.blk σ.aa.length (some (b,0,0)) },?_,rfl,by simpa using LK,by simpa using dU,?_⟩
      · cases ad<;>simp[Builtin.append_,run_underlying ht,sizeOf,typeInfo,hi,Builtin.lenOf,Builtin.firstCells,loadCells,loadCellsFrom,storeCells]
      · have:=aw.nj (os:=σ.aa.set id .gone++[.arr sz []]) (w:=γ.w) (Z:=γ.Z) (blk:=df γ.blk σ.aa.length (some (b,0,0))) σ.aa.length sz 0 b x (0,0) []
          (by rw[iA GM];simp) (by simp[df]) GM
        simpa using this
    · obtain⟨a,rfl,hc⟩:=zw hp
      have hr:=run_append_grow (P:=P) γ.w t oty _ i zv ht hi AZ ⟨b,x,none⟩ 0 0 [] GM GM a src.length c news ak hc GK (by unfold maxLen at zx;simp at zx;omega) (growslice_fits GK (by simpa using kH));have gd:=grownCap_ge γ.w (0+src.length) 0 (ty P t).elem;have kj:=grownCap_le_maxLen γ.w (0+src.length) 0 (ty P t).elem (by simpa using zx);obtain⟨γ1,e1,e2,e3,e4,e5⟩:=fresh 0 (λ_=>Go.undef) GM (by simp[cellAt]) _ (grownCap γ.w (0+src.length) 0 (ty P t).elem) (by simpa using gd) kj rfl;refine⟨.slice (some ⟨γ.w.heap.size,0,none⟩) (0+src.length) (grownCap γ.w (0+src.length) 0 (ty P t).elem),γ1,?_,e2,e3,e4,?_⟩
      · rw[hr,e1];simp
      · simpa using e5
  · by_cases CH:pre.length+src.length<=cap'
    ·
      have hmul:pre.length*sz+src.length*sz<=cap'*sz:=by rw[<- gn];exact nN _ CH
      have HC:news.length=src.length*sz:=by rw[ak,yf]
      have hr:=afV (P:=P) γ.w t oty _ i ht hi b (o+off*sz) pre.length cap' cur tt jc ad src.length c news ak zw afY CH (by rw[yf,HC];omega);have bP:ud σ.aa γ.w γ.Z γ.blk (o+off*sz) cap' (cur.toList.take (o+off*sz+pre.length*i.size)++news++cur.toList.drop (o+off*sz+pre.length*i.size+news.length)).toArray (.arr sz (pre++src)):=by
        refine⟨h0,?_,?_,by simpa using CH,kj,?_⟩
        · intro row bL
          rcases cG.1 bL with h|h
          · exact dg row h
          · exact mO row h
        · simp only[DV,bO,eY,wy,sg,yf,HC]
          omega
        · intro r c v hv
          rw[Es cur _ news (by rw[yf,HC];omega),yf,HC];rw[Sn]at hv;split at hv
          · obtain⟨kI,lf⟩:=Ed dg hv
            have:=AO kI lf;rw[if_neg GK];exact HA r c v hv
          · obtain⟨kI,lf⟩:=Ed mO hv
            have hl:=AO kI lf;have e:r*sz+c=pre.length*sz+((r-pre.length)*sz+c):=by
              have:r=pre.length+(r-pre.length):=GK
              conv=>lhs;rw[this,gn]
              omega
            rw[if_pos GK];have e2:o+off*sz+(r*sz+c)-(o+off*sz+pre.length*sz)=(r-pre.length)*sz+c:=GK;rw[e2];simp only[news,az];simp[hl];exact CK _ _ _ hv
      have LK:=h.Et ho GM hb (setRow_heap γ.w b cur _ tt _ jc) (λk hk=>setRow_other γ.w b k _ hk) (setRow_size _ _ _) bP;have dU:=Fr.Et (γ:=γ) (o':=o+off*sz) (cap':=cap') (.arr sz (pre++src)) ho GM hb (w':=γ.w.setRow b (cur.toList.take (o+off*sz+pre.length*i.size)++news++cur.toList.drop (o+off*sz+pre.length*i.size+news.length)).toArray) (λk hk=>setRow_other γ.w b k _ hk) (setRow_size _ _ _) rfl rfl rfl;refine⟨_,{ γ with w:=γ.w.setRow b (cur.toList.take (o+off*sz+pre.length*i.size)++news++cur.toList.drop (o+off*sz+pre.length*i.size+news.length)).toArray,blk:=df γ.blk σ.aa.length (some (b,o+off*sz,cap')) },hr,rfl,?_,?_,?_⟩
      · simpa using LK
      · simpa using dU
      · have:=aw.ref (os:=σ.aa.set id .gone++[.arr sz (pre++src)]) (w:=γ.w.setRow b (cur.toList.take (o+off*sz+pre.length*i.size)++news++cur.toList.drop (o+off*sz+pre.length*i.size+news.length)).toArray) (Z:=γ.Z)
          (blk:=df γ.blk σ.aa.length (some (b,o+off*sz,cap'))) σ.aa.length sz 0 (pre.length+src.length) b (o+off*sz) cap' cap' (pre++src)
          (by rw[iA GM];simp) (by simp[df]) GM GK CH
        simpa using this
    ·
      let go:Nat->Value:=λj=>cur.getD (o+off*sz+j) Go.undef
      let HD:=(bu (pre.length*sz)).map go
      have nt:HD.length=pre.length*i.size:=by simp[HD,yf]
      have aoO:pre.length*sz<=cap'*sz:=nN _ vA;have holds:∀ j v,HD[j]?=some v->γ.w.cell? ((⟨b,o+off*sz,none⟩:Addr).add j)=some v:=by
        intro j v hj;obtain⟨gu,rfl⟩:=CJ hj;rw[Addr.sP];exact AP jc GK
      have hp:0<src.length:=GK;obtain⟨a,rfl,hc⟩:=zw hp;have hr:=run_append_grow (P:=P) γ.w t oty _ i zv ht hi AZ ⟨b,o+off*sz,none⟩ pre.length cap' HD nt holds a src.length c news ak hc GK (by unfold maxLen at zx;omega) (growslice_fits GK kH);have gd:=grownCap_ge γ.w (pre.length+src.length) cap' (ty P t).elem;have afZ:=grownCap_le_maxLen γ.w (pre.length+src.length) cap' (ty P t).elem zx;obtain⟨γ1,e1,e2,e3,e4,e5⟩:=fresh 0 go dg HA _ (grownCap γ.w (pre.length+src.length) cap' (ty P t).elem) gd afZ rfl;refine⟨_,γ1,?_,e2,e3,e4,e5⟩;rw[hr,e1]
def afN{σ:St}{γ:Cx}(h:bx σ γ){t t' oty:TypeId}{sz:Nat}(hk:(ty P t).kind=1)(ec:(ty P (ty P t).elem).kind≠99)(aP:sz=(ty P (ty P t).elem).size)(h0:0<sz){id off len:Nat}{x:AV}{uf Ev:Value}(hS:aw σ.aa γ.w γ.Z γ.blk (.ref id sz off len) uf)(hX:aw σ.aa γ.w γ.Z γ.blk x Ev){rows:List (List AV)}(ho:σ.aa[id]?=some (.arr sz rows)){src:List (List AV)}(rm:oJ σ x=some (sz,src))(sR:(src.all λrow=>row.all c8)=true):
  ∃ w',(Builtin.copy_ #[t,t'] oty #[uf,Ev]).run P γ.w=.ok (.int .i64 (min src.length len:Nat)) w' /\
   bx { σ with aa:=σ.aa.set id (.arr sz (rows.take off++src.take (min src.length len)++rows.drop (off+min src.length len))) } { γ with w:=w' } /\
   Fr σ.aa γ (σ.aa.set id (.arr sz (rows.take off++src.take (min src.length len)++rows.drop (off+min src.length len)))) { γ with w:=w' }:=by
 obtain⟨i,d,hi,Hp,vt,Ep,hzero⟩:=vu ec;have ht:=vr hk;have yf:i.size=sz:=by rw[<- vt,<- aP]
 obtain⟨ad,c,g,rfl,mO,LJ,CK⟩:=Sm h hX h0 rm;have bX:id<σ.aa.length:=(aV.1 ho).1;have zero:∀ (A5:Option Addr) (cap':Nat),min src.length len=0->uf=.slice A5 len cap'->∃ w',(Builtin.copy_ #[t,t'] oty #[uf,.slice ad src.length c]).run P γ.w=.ok (.int .i64 (min src.length len:Nat)) w' /\
   bx { σ with aa:=σ.aa.set id (.arr sz (rows.take off++src.take (min src.length len)++rows.drop (off+min src.length len))) } { γ with w:=w' } /\
   Fr σ.aa γ (σ.aa.set id (.arr sz (rows.take off++src.take (min src.length len)++rows.drop (off+min src.length len)))) { γ with w:=w' }:=by
  intro A5 cap' hz aT;have jZ:σ.aa.set id (.arr sz rows)=σ.aa:=by
   apply kY;intro j;rw[bU];split
   ·rename_i e;subst e;simp[ho]
   ·rfl
  refine⟨γ.w,?_,?_,?_⟩
  ·have hm:Nat.min src.length len=0:=hz;subst aT;cases ad<;>cases A5<;>simp[Builtin.copy_,run_underlying ht,sizeOf,typeInfo,hi,Builtin.lenOf,Builtin.firstCells,loadCells,loadCellsFrom,storeCells,hm,goInt,hz]
  ·rw[hz];simp[jZ];exact h
  ·rw[hz];simp[jZ];exact Fr.refl _ _
 cases hS with
 |cO _ _ h=>cases h
 |k9 _ _ _ _ _ h=>rw[ho]at h;simp at h
 |mK _ _ h hb=>exact zero none 0 GM rfl
 |nj _ _ _ b x bo gV h hb hl=>exact zero _ 0 GM rfl
 |ref _ _ _ _ b o cap cap' gV h' hb hl hc jV =>
  rw[ho]at h';simp at h';subst h';rcases oH (min src.length len) with hz|hp
  ·exact zero _ _ hz rfl
  obtain⟨_,cD,bP⟩:=h.dT id _ ho;rcases bP with⟨h1,_⟩|⟨b',o',Ec,cur,tt,h1,h2,h3,h4,h5,h6⟩
  ·rw[hb]at h1;simp at h1
  rw[hb]at h1;simp at h1;obtain⟨rfl,rfl,rfl⟩:=h1;generalize hn:min src.length len=n at *;have mL:n<=src.length:=GK;have nm:n<=len:=GK
  let news:=(bu (n*sz)).map g
  have ak:news.length=n*sz:=by simp[news]
  have n9:∀ u∈news,u.oneCell'=true:=by
   intro u hu;obtain⟨j,hj⟩:=PS.1 hu;obtain⟨gu,rfl⟩:=CJ hj;have k1:j/sz<n:=Nat.div_lt_of_lt_mul (by rw[tK];exact gu);have k2:j%sz<sz:=xU _ h0;have k3:j/sz<src.length:=GK;have cD:(src[j/sz]).length=sz:=mO _ (tG k3);have:=CK (j/sz) (j%sz) ((src[j/sz])[j%sz]' GK) (by simp[cellAt,k3,k2,cD]);have e:j/sz*sz+j%sz=j:=by rw[tK];exact PX j sz
   rw[e]at this;refine Hx this ?_;rw[fW]at sR;have:=sR _ (tG k3);rw[fW]at this;exact this _ (tG _)
  obtain⟨sb,so,rfl,wJ⟩:=LJ GK;have hle:n*sz<=src.length*sz:=nN _ mL;have Ew:=run_loadCells_list (P:=P) γ.w ⟨sb,so,none⟩ news (λj v hj=>by
   obtain⟨gu,rfl⟩:=CJ hj;rw[Addr.sP];exact wJ j GK)
  have kG:(off+n)*sz<=cap*sz:=nN _ GK;rw[gn]at kG;have dV:=run_storeCells_at P b (o+off*sz) tt news 0 cur γ.w h2 (by rw[ak];omega) n9;simp only[jq]at dV;have eT:(Builtin.copy_ #[t,t'] oty #[.slice (some ⟨b,o+off*sz,none⟩) len cap',.slice (some ⟨sb,so,none⟩) src.length c]).run P γ.w=.ok (.int .i64 (n:Nat)) (γ.w.setRow b (cur.toList.take (o+off*sz)++news++cur.toList.drop (o+off*sz+news.length)).toArray):=by
   have hm:Nat.min src.length len=n:=hn;rw[ak]at Ew;simp[Builtin.copy_,run_underlying ht,sizeOf,typeInfo,hi,Builtin.lenOf,Builtin.firstCells,hm,yf,Ew,dV,goInt]
  have LL:ud σ.aa γ.w γ.Z γ.blk o cap (cur.toList.take (o+off*sz)++news++cur.toList.drop (o+off*sz+news.length)).toArray (.arr sz (rows.take off++src.take n++rows.drop (off+n))):=by
   refine⟨h0,?_,?_,?_,h5,?_⟩
   ·intro row bL;simp only[cG]at bL;rcases bL with(hr|hr)|hr
    ·exact cD row (ss hr)
    ·exact mO row (ss hr)
    ·exact cD row (y0 hr)
   ·simp only[DV,bO,eY,wy,sg,ak];omega
   ·simp;omega
   ·intro r cc v hv;rw[Es cur _ news (by rw[ak];omega),ak];have aX:cc<sz:=by
     simp only[cellAt,Ar]at hv;obtain⟨y,hy,rp⟩:=hv;have hm:=gI hy;have:=(aV.1 rp).1;simp only[cG]at hm;rcases hm with(hr|hr)|hr
     ·have:=cD y (ss hr);omega
     ·have:=mO y (ss hr);omega
     ·have:=cD y (y0 hr);omega
    rcases dP r off with k1|k1
    ·have e:cellAt (rows.take off++src.take n++rows.drop (off+n)) r cc=cellAt rows r cc:=by
      simp only[cellAt,bE];rw[eZ P2,wA,if_pos k1]
     rw[e]at hv;have hm:(r+1)*sz<=off*sz:=nN _ GK;rw[gn]at hm;rw[if_neg GK];exact h6 r cc v hv
    ·rcases dP r (off+n) with k2|k2
     ·have e:cellAt (rows.take off++src.take n++rows.drop (off+n)) r cc=cellAt src (r-off) cc:=by
       simp only[cellAt,bE];rw[iA P2,eZ P2,wA,if_pos P2];congr 2;simp;omega
      rw[e]at hv;have e1:r=off+(r-off):=GK;have e2:r*sz=off*sz+(r-off)*sz:=by rw[<- gn,<- e1]
      have hm:(r-off+1)*sz<=n*sz:=nN _ GK;rw[gn]at hm;rw[if_pos GK];have e3:o+(r*sz+cc)-(o+off*sz)=(r-off)*sz+cc:=GK;rw[e3];have hl:(r-off)*sz+cc<n*sz:=GK;simp only[news,az];simp[hl];exact CK _ _ _ hv
     ·have e:cellAt (rows.take off++src.take n++rows.drop (off+n)) r cc=cellAt rows r cc:=by
       simp only[cellAt];rw[iA P2,nM];congr 2;simp;omega
      rw[e]at hv;have hm:(off+n)*sz<=r*sz:=nN _ k2;rw[gn]at hm;rw[if_neg GK];exact h6 r cc v hv
  refine⟨_,eT,?_,?_⟩
  ·exact h.write ho GM (by simp[Ob.ej];omega) hb (setRow_heap γ.w b cur _ tt _ h2) (λk hk=>setRow_other γ.w b k _ hk) (setRow_size _ _ _) LL
  ·exact Fr.write _ ho GM (by simp[Ob.ej];omega) hb (λk hk=>setRow_other γ.w b k _ hk) (setRow_size _ _ _) rfl rfl rfl
def afO{σ:St}{γ:Cx}(h:bx σ γ){t oty:TypeId}{sz:Nat}{z:List Value}(hk:(ty P t).kind=1)(ec:(ty P (ty P t).elem).kind≠99)(nY:z.length=sz)(h0:0<sz)(hz:(ty P (ty P t).elem).zero=some z)(ye:(z.all λu=>u.oneCell')=true){id off len:Nat}{uf:Value}(hS:aw σ.aa γ.w γ.Z γ.blk (.ref id sz off len) uf){rows:List (List AV)}(ho:σ.aa[id]?=some (.arr sz rows)):
  ∃ w',(Builtin.clear_ #[t] oty #[uf]).run P γ.w=.ok (.tuple #[]) w' /\
   bx { σ with aa:=σ.aa.set id (.arr sz (rows.take off++aK len (z.map AV.lit)++rows.drop (off+len))) } { γ with w:=w' } /\
   Fr σ.aa γ (σ.aa.set id (.arr sz (rows.take off++aK len (z.map AV.lit)++rows.drop (off+len)))) { γ with w:=w' }:=by
 obtain⟨i,d,hi,Hp,vt,Ep,hzero⟩:=vu ec;have ht:=vr hk;rw[hz]at hzero;obtain⟨zv,AZ,jI⟩:=wq.1 hzero.symm;have LM:zv.cells.size=sz:=by rw[<- nY,<- jI];simp
 have bX:id<σ.aa.length:=(aV.1 ho).1;have zero:∀ (A5:Option Addr) (cap':Nat),len=0->uf=.slice A5 len cap'->∃ w',(Builtin.clear_ #[t] oty #[uf]).run P γ.w=.ok (.tuple #[]) w' /\
   bx { σ with aa:=σ.aa.set id (.arr sz (rows.take off++aK len (z.map AV.lit)++rows.drop (off+len))) } { γ with w:=w' } /\
   Fr σ.aa γ (σ.aa.set id (.arr sz (rows.take off++aK len (z.map AV.lit)++rows.drop (off+len)))) { γ with w:=w' }:=by
  intro A5 cap' CM aT;have jZ:σ.aa.set id (.arr sz rows)=σ.aa:=by
   apply kY;intro j;rw[bU];split
   ·rename_i e;subst e;simp[ho]
   ·rfl
  refine⟨γ.w,?_,?_,?_⟩
  ·subst aT;subst CM;cases A5<;>simp[Builtin.clear_,run_underlying ht]
  ·subst CM;simp[jZ];exact h
  ·subst CM;simp[jZ];exact Fr.refl _ _
 cases hS with
 |cO _ _ h=>cases h
 |k9 _ _ _ _ _ h=>rw[ho]at h;simp at h
 |mK _ _ h hb=>exact zero none 0 rfl rfl
 |nj _ _ _ b x bo gV h hb hl=>exact zero _ 0 rfl rfl
 |ref _ _ _ _ b o cap cap' gV h' hb hl hc jV =>
  rw[ho]at h';simp at h';subst h';rcases oH len with CM|hp
  ·exact zero _ _ CM rfl
  obtain⟨_,cD,bP⟩:=h.dT id _ ho;rcases bP with⟨h1,_⟩|⟨b',o',Ec,cur,tt,h1,h2,h3,h4,h5,h6⟩
  ·rw[hb]at h1;simp at h1
  rw[hb]at h1;simp at h1;obtain⟨rfl,rfl,rfl⟩:=h1
  let g:Nat->Value:=λi=>zv.cells[i%zv.cells.size]!
  let news:=(bu (len*sz)).map g
  have zw:(Builtin.zeroCells zv.cells len).toList=news:=by
   simp[Builtin.zeroCells,news,g,LM]
  have ak:news.length=len*sz:=by simp[news]
  have Sp:∀ i,i<sz->∃ u,z[i]?=some u/\zv.cells[i]! = u:=by
   intro i ar;have:i<zv.cells.size:=GK;refine⟨zv.cells[i],?_,?_⟩
   ·rw[<- jI];simp[this]
   ·simp[this]
  have n9:∀ u∈news,u.oneCell'=true:=by
   intro u hu;obtain⟨j,hj⟩:=PS.1 hu;obtain⟨gu,rfl⟩:=CJ hj;obtain⟨u,k1,k2⟩:=Sp (j%sz) (xU _ h0);show(zv.cells[j%zv.cells.size]!).oneCell'=true;rw[LM,k2];rw[fW]at ye;exact ye _ (gI k1)
  have kG:(off+len)*sz<=cap*sz:=nN _ GK;rw[gn]at kG;have dV:=run_storeCells_at P b (o+off*sz) tt news 0 cur γ.w h2 (by rw[ak];omega) n9;simp only[jq]at dV;have eT:(Builtin.clear_ #[t] oty #[.slice (some ⟨b,o+off*sz,none⟩) len cap']).run P γ.w=.ok (.tuple #[]) (γ.w.setRow b (cur.toList.take (o+off*sz)++news++cur.toList.drop (o+off*sz+news.length)).toArray):=by
   obtain⟨aoP,rfl⟩:∃k,len=k+1:=⟨len-1,GK⟩;simp[Builtin.clear_,run_underlying ht,zeroValue,typeInfo,hi,AZ,zw,dV]
  have LL:ud σ.aa γ.w γ.Z γ.blk o cap (cur.toList.take (o+off*sz)++news++cur.toList.drop (o+off*sz+news.length)).toArray (.arr sz (rows.take off++aK len (z.map AV.lit)++rows.drop (off+len))):=by
   refine⟨h0,?_,?_,?_,h5,?_⟩
   ·intro row bL;simp only[cG]at bL;rcases bL with(hr|hr)|hr
    ·exact cD row (ss hr)
    ·rw[Cb hr,fK];exact nY
    ·exact cD row (y0 hr)
   ·simp only[DV,bO,eY,wy,sg,ak];omega
   ·simp;omega
   ·intro r cc v hv;rw[Es cur _ news (by rw[ak];omega),ak];have aX:cc<sz:=by
     simp only[cellAt,Ar]at hv;obtain⟨y,hy,rp⟩:=hv;have hm:=gI hy;have:=(aV.1 rp).1;simp only[cG]at hm;rcases hm with(hr|hr)|hr
     ·have:=cD y (ss hr);omega
     ·have HE:=Cb hr;rw[HE,fK]at this;omega
     ·have:=cD y (y0 hr);omega
    rcases dP r off with k1|k1
    ·have e:cellAt (rows.take off++aK len (z.map AV.lit)++rows.drop (off+len)) r cc=cellAt rows r cc:=by
      simp only[cellAt,bE];rw[eZ P2,wA,if_pos k1]
     rw[e]at hv;have hm:(r+1)*sz<=off*sz:=nN _ GK;rw[gn]at hm;rw[if_neg GK];exact h6 r cc v hv
    ·rcases dP r (off+len) with k2|k2
     ·have e:cellAt (rows.take off++aK len (z.map AV.lit)++rows.drop (off+len)) r cc=(z.map AV.lit)[cc]?:=by
       simp only[cellAt,bE];rw[iA P2,eZ P2,List.getElem?_replicate,if_pos P2];rfl
      rw[e,bI]at hv;obtain⟨u,k3,k4⟩:=Sp cc aX;rw[k3]at hv;simp only[eH,cA.injEq]at hv;subst hv;have e1:r=off+(r-off):=GK;have e2:r*sz=off*sz+(r-off)*sz:=by rw[<- gn,<- e1]
      have hm:(r-off+1)*sz<=len*sz:=nN _ GK;rw[gn]at hm;rw[if_pos GK];have e3:o+(r*sz+cc)-(o+off*sz)=(r-off)*sz+cc:=GK;rw[e3];have hl:(r-off)*sz+cc<len*sz:=GK;have e4:news.getD ((r-off)*sz+cc) Go.undef=u:=by
       simp only[news,az];rw[bI,List.getElem?_range hl];show zv.cells[((r-off)*sz+cc)%zv.cells.size]! = u;rw[LM,tK,PZ,GL aX,k4]
      first
       | (rw[e4];exact .lit _)
       | (simp only[az]at e4 ⊢;rw[e4];exact .lit _)
     ·have e:cellAt (rows.take off++aK len (z.map AV.lit)++rows.drop (off+len)) r cc=cellAt rows r cc:=by
       simp only[cellAt];rw[iA P2,nM];congr 2;simp;omega
      rw[e]at hv;have hm:(off+len)*sz<=r*sz:=nN _ k2;rw[gn]at hm;rw[if_neg GK];exact h6 r cc v hv
  refine⟨_,eT,?_,?_⟩
  ·exact h.write ho GM (by simp[Ob.ej];omega) hb (setRow_heap γ.w b cur _ tt _ h2) (λk hk=>setRow_other γ.w b k _ hk) (setRow_size _ _ _) LL
  ·exact Fr.write _ ho GM (by simp[Ob.ej];omega) hb (λk hk=>setRow_other γ.w b k _ hk) (setRow_size _ _ _) rfl rfl rfl
end Go.Am
namespace Go.Am
variable {P:Program}
def af0(l:List Value):∀ (j off:Nat) (cells:Array Value),off+j+l.length<=cells.size ->
  ((l.zipIdx j).foldl (λcs (x:Value×Nat)=>cs.setIfInBounds (off+x.2) x.1) cells).size=cells.size /\
  ∀ k,((l.zipIdx j).foldl (λcs (x:Value×Nat)=>cs.setIfInBounds (off+x.2) x.1) cells).getD k Go.undef=if off+j<=k/\k<off+j+l.length then l.getD (k-(off+j)) Go.undef else cells.getD k Go.undef:=by
 induction l with
 |nil=>intro j off cells _;simp;intro k h1 h2;omega
 |cons v l ih =>
  intro j off cells hl;simp only[dq]at hl;simp only[List.zipIdx_cons,List.foldl_cons];obtain⟨h1,h2⟩:=ih (j+1) off (cells.setIfInBounds (off+j) v) P2;refine⟨by rw[h1];simp,λk=>?_⟩;rw[h2 k];simp only[dq];by_cases c1:off+(j+1)<=k/\k<off+(j+1)+l.length
  ·rw[if_pos c1,if_pos GK];have:k-(off+j)=(k-(off+(j+1)))+1:=GK;rw[this];simp
  ·rw[if_neg c1];by_cases c2:k=off+j
   ·subst c2;rw[if_pos GK];simp[eL,show off+j<cells.size by omega]
   ·rw[if_neg GK];simp[eL,Array.getElem?_setIfInBounds_ne (Ne.symm c2)]
def af1(v:Value)(off:Nat)(cells:Array Value):
  (v.cells.zipIdx.foldl (λcs (c,j)=>cs.setIfInBounds (off+j) c) cells)=((v.cells.toList.zipIdx 0).foldl (λcs (x:Value×Nat)=>cs.setIfInBounds (off+x.2) x.1) cells):=by
 rw[<- Array.foldl_toList];simp
def Ex(R:AV->Value->Prop)(cs:List AV)(cur:Array Value):Prop:=cur.size=cs.length/\∀ j x,cs[j]?=some x->R x (cur.getD j Go.undef)
def Hs{σ:St}{γ:Cx}{place:Nat->Option (Nat×Nat)}:∀ (parts:List (Nat×AV)) (pv:List (Nat×Value)) (cs:List AV) (cur:Array Value) (sK:List AV),
  parts.length=pv.length->(∀ (j:Nat) (p:Nat×AV) (q:Nat×Value),parts[j]?=some p->pv[j]?=some q->p.1=q.1/\aw σ.aa γ.w γ.Z γ.blk p.2 q.2)->(∀ p∈parts,(cellsOf p.2).all c8=true) ->
  Ex (aw σ.aa γ.w γ.Z γ.blk) cs cur->nf place cs parts=some sK->∃ lJ,Instr.fill place cur pv=some lJ/\Ex (aw σ.aa γ.w γ.Z γ.blk) sK lJ
 |[],pv,cs,cur,sK,hl,_,_,hc,h=>by
  have:pv=[]:=Au hl.symm;subst this;simp[nf]at h;subst h;exact⟨cur,by simp[Instr.fill],hc⟩
 | (i,v)::rest,[],cs,cur,sK,hl,_,_,_,_=>by simp at hl
 | (i,v)::rest,(i',x)::pv,cs,cur,sK,hl,hr,hs,hc,h=>by
  obtain⟨e1,e2⟩:=hr 0 (i,v) (i',x) rfl rfl;simp only at e1 e2;subst e1;simp only[nf]at h;cases hp:place i with
  |none=>simp[hp]at h
  |some os =>
   obtain⟨off,size⟩:=os;simp only[hp]at h;split at h
   ·rename_i af2;obtain⟨h1,h2⟩:=af2;obtain⟨g1,g2,g3⟩:=Lt e2 (hs (i,v) GM);have aP:x.cells.size=size:=by rw[g1,h1]
    obtain⟨gD,sM⟩:=hc;have kG:off+0+x.cells.toList.length<=cur.size:=by simp[aP,gD];omega
    obtain⟨f1,f2⟩:=af0 x.cells.toList 0 off cur kG;have A6:Ex (aw σ.aa γ.w γ.Z γ.blk) (setCells cs off (cellsOf v)) (x.cells.zipIdx.foldl (λcs (c,j)=>cs.setIfInBounds (off+j) c) cur):=by
     rw[af1];refine⟨by rw[f1,Lw];exact gD,λj y hj=>?_⟩;rw[Sk _ _ _ (by rw[h1];exact h2)]at hj;rw[f2 j];simp only[jq,sg,aP];rw[h1]at hj;by_cases eJ:off<=j/\j<off+size
     ·rw[if_pos eJ]at hj;rw[if_pos eJ];have:=g2 _ _ hj;simpa [az,eL] using this
     ·rw[if_neg eJ]at hj;rw[if_neg eJ];exact sM j y hj
    obtain⟨lJ,k1,k2⟩:=Hs rest pv _ _ sK (by simpa using hl) (λj p q hp hq=>hr (j+1) p q (by simpa using hp) (by simpa using hq)) (λp hp=>hs p (by simp[hp])) A6 h;refine⟨lJ,?_,k2⟩;simp only[Instr.fill,hp];rw[if_neg ?_]
    ·exact k1
    ·simp[aP,gD];omega
   ·simp at h
def Ls{os:List Ob}{w:World}{Z:Nat->Prop}{blk:gB}(z:List Value):Ex (aw os w Z blk) (z.map .lit) z.toArray:=by
 refine⟨GM,λj x hx=>?_⟩;simp only[bI]at hx;cases hj:z[j]? with
 |none=>simp[hj]at hx
 |some y =>
  simp[hj]at hx;subst hx;simp[eL,hj];exact .lit y
def Lu{σ:St}{γ:Cx}(h:bx σ γ){a:Act}(ha:γ.tmps=a.tmps)(parts:Array (Nat×Operand)):
  (parts.toList.map λp=>(p.1,ev σ p.2)).length=(parts.map λ(i,x)=>(i,a.eval x)).toList.length /\
  ∀ (j:Nat) (p:Nat×AV) (q:Nat×Value),(parts.toList.map λp=>(p.1,ev σ p.2))[j]?=some p->(parts.map λ(i,x)=>(i,a.eval x)).toList[j]?=some q->p.1=q.1/\aw σ.aa γ.w γ.Z γ.blk p.2 q.2:=by
 refine⟨GM,λj p q hp hq=>?_⟩;simp only[Array.toList_map,bI]at hp hq;cases hj:parts.toList[j]? with
 |none=>simp[hj]at hp
 |some y =>
  simp only[hj,eH,cA.injEq]at hp hq;subst hp;subst hq;exact⟨rfl,tZ h ha y.2⟩
def afz{σ:St}{γ:Cx}(h:bx σ γ){a:Act}(ha:γ.tmps=a.tmps){t:TypeId}{parts:Array (Nat×Operand)}{z:List Value}(hk:(ty P t).kind=3)(hz:(ty P t).zero=some z){cs:List AV}(hf:nf (λi=>((ty P t).aQ[i]?).map λf=>(f.1,f.2.2)) (z.map .lit) (parts.toList.map λp=>(p.1,ev σ p.2))=some cs)(hs:(parts.toList.all λp=>(cellsOf (ev σ p.2)).all c8)=true)(hp:((ty P t).aQ.all λf=>decide (0<f.2.2))=true):
  ∃ cur,(Instr.build t (parts.map λ(i,x)=>(i,a.eval x))).run P γ.w=.ok (.agg cur) γ.w/\aw σ.aa γ.w γ.Z γ.blk (.agg cs) (.agg cur):=by
 obtain⟨it,d,hi,hd,_,_,hzero⟩:=vu (P:=P) (t:=t) (by rw[hk];simp);obtain⟨fs,hu,iP⟩:=LB hk;rw[hzero]at hz;cases hv:it.zero with
 |none=>simp[hv]at hz
 |some zv =>
  simp[hv]at hz;have jI:z.toArray=zv.cells:=by rw[<- hz]
  obtain⟨hl,hr⟩:=Lu h ha parts;obtain⟨cur,h1,h2⟩:=Hs (σ:=σ) (γ:=γ) _ _ _ _ cs hl hr (λp hp=>by
   simp only[bW]at hp;obtain⟨q,hq,rfl⟩:=hp;rw[fW]at hs;exact hs q hq) (Ls z) hf
  refine⟨cur,run_build γ.w t _ cur ?_,.agg _ _ h2.1 h2.2⟩;unfold Program.built;rw[hi,hu];simp only[hv];have af3:∀ (l:List Field),(∀ f∈l,0<yd P f.type)->l.mapM (λf=>(P.info? f.type).map λi=>(f.offset,i.size))=some (l.map λf=>(f.offset,yd P f.type)):=by
   intro l
   induction l with
   |nil=>intro _;simp
   |cons f l ih =>
    intro hl;have h0:=hl f GM;unfold yd at h0;cases LN:P.info? f.type with
    |none=>simp[LN]at h0
    |some i =>
     simp only[List.mapM_cons,LN,eH,ih (λg hg=>hl g (by simp[hg]))];simp[yd,LN]
  rw[af3 fs.toList (by
   intro f fF;rw[iP]at hp;simp only[List.all_map,fW]at hp;have:=hp f fF;simpa using this)]
  simp only;rw[<- jI];have:(λ(x:Nat)=>((fs.toList.map λf=>(f.offset,yd P f.type)).toArray[x]?))=(λ(i:Nat)=>((ty P t).aQ[i]?).map λ(f:Nat×Nat×Nat)=>(f.1,f.2.2)):=by
   funext i;rw[iP];simp;cases fs[i]?<;>simp
  rw[this];exact h1
def afA{σ:St}{γ:Cx}(h:bx σ γ){a:Act}(ha:γ.tmps=a.tmps){t:TypeId}{parts:Array (Nat×Operand)}{z:List Value}(hk:(ty P t).kind=2)(hz:(ty P t).zero=some z){cs:List AV}(hf:nf (λi=>some (i*(ty P (ty P t).elem).size,(ty P (ty P t).elem).size)) (z.map .lit) (parts.toList.map λp=>(p.1,ev σ p.2))=some cs)(hs:(parts.toList.all λp=>(cellsOf (ev σ p.2)).all c8)=true)(ec:(ty P (ty P t).elem).kind≠99):
  ∃ cur,(Instr.build t (parts.map λ(i,x)=>(i,a.eval x))).run P γ.w=.ok (.agg cur) γ.w/\aw σ.aa γ.w γ.Z γ.blk (.agg cs) (.agg cur):=by
 obtain⟨it,d,hi,hd,_,_,hzero⟩:=vu (P:=P) (t:=t) (by rw[hk];simp);have hu:=LD hk;obtain⟨ie,de,hie,_,vt,_,_⟩:=vu ec;rw[hzero]at hz;cases hv:it.zero with
 |none=>simp[hv]at hz
 |some zv =>
  simp[hv]at hz;have jI:z.toArray=zv.cells:=by rw[<- hz]
  obtain⟨hl,hr⟩:=Lu h ha parts;obtain⟨cur,h1,h2⟩:=Hs (σ:=σ) (γ:=γ) _ _ _ _ cs hl hr (λp hp=>by
   simp only[bW]at hp;obtain⟨q,hq,rfl⟩:=hp;rw[fW]at hs;exact hs q hq) (Ls z) hf
  refine⟨cur,run_build γ.w t _ cur ?_,.agg _ _ h2.1 h2.2⟩;unfold Program.built;rw[hi,hu];simp only[hv,hie];rw[<- jI,<- vt];exact h1
def Lx(sz:Nat):∀ (n:Nat) (cs:List AV),(ng sz n cs).length=n
 |0,_=>rfl
 |n+1,cs=>by simp[ng,Lx sz n]
def Sf(sz:Nat):∀ (n:Nat) (cs:List AV),n*sz<=cs.length->∀ row∈ng sz n cs,row.length=sz
 |0,_,_,row,h=>by simp[ng]at h
 |n+1,cs,hl,row,h=>by
  rw[gn]at hl;simp only[ng,List.mem_cons]at h;rcases h with rfl|h
  ·simp;omega
  ·exact Sf sz n (cs.drop sz) P2 row h
def Sg(sz:Nat):∀ (n:Nat) (cs:List AV) (r c:Nat) (v:AV),cellAt (ng sz n cs) r c=some v->cs[r*sz+c]?=some v
 |0,_,r,c,v,h=>by simp[ng,cellAt]at h
 |n+1,cs,0,c,v,h=>by
  simp only[ng,cellAt,List.getElem?_cons_zero,Option.bind_some,wA]at h;split at h
  ·simpa using h
  ·simp at h
 |n+1,cs,r+1,c,v,h=>by
  have h':cellAt (ng sz n (cs.drop sz)) r c=some v:=by simpa [ng,cellAt] using h
  have:=Sg sz n (cs.drop sz) r c v h';rw[nM]at this;rw[gn];have e:r*sz+1*sz+c=sz+(r*sz+c):=GK;rw[e];exact this
def Lv{os:List Ob}{w:World}{Z:Nat->Prop}{blk:gB}(z:List Value)(n m:Nat)(hm:m=n*z.length)(hz:0<z.length):
  Ex (aw os w Z blk) ((bu n).flatMap λ_=>z.map .lit) ((Array.range m).map (z.toArray[· % z.toArray.size]!)):=by
 subst hm;have hlen:((bu n).flatMap λ_=>z.map AV.lit).length=n*z.length:=by
  induction n with
  |zero=>simp
  |succ n ih=>rw[u3,sv,bO,ih];simp[gn]
 refine⟨by simp[hlen],λj x hx=>?_⟩;have hj:j<n*z.length:=by rw[<- hlen];exact(aV.1 hx).1
 have key:∀ (n j:Nat),j<n*z.length->((bu n).flatMap λ_=>z.map AV.lit)[j]?=some (.lit (z[j%z.length]'(xU _ hz))):=by
  intro n
  induction n with
  |zero=>intro j hj;simp at hj
  |succ n ih =>
   intro j hj;have rq:((bu n).flatMap λ_=>z.map AV.lit).length=n*z.length:=by
    clear ih hj hx hlen
    induction n with
    |zero=>simp
    |succ n ih=>rw[u3,sv,bO,ih];simp[gn]
   rw[u3,sv];by_cases Sr:j<n*z.length
   ·rw[eZ (by rw[rq];exact Sr)];exact ih j Sr
   ·rw[iA (by rw[rq];omega),rq];rw[gn]at hj;have aX:j-n*z.length<z.length:=GK;have ry:j%z.length=j-n*z.length:=by
     have:j=(j-n*z.length)+n*z.length:=GK;rw[this,Nat.add_mul_mod_self_right,GL aX];omega
    simp[aX,ry]
 rw[key n j hj]at hx;simp at hx;subst hx;have hm:j%z.length<z.length:=xU _ hz;simp[eL,hj,hm];exact .lit _
end Go.Am

