import Derived.Test.YtfoopmojjjpapaaGreatX01
set_option linter.all false
set_option maxHeartbeats 0
set_option maxRecDepth 20000
open List renaming getElem?_map→bM,mem_of_getElem?→hZ,getElem?_eq_some_iff→aY,getElem?_set→bU,range→bn,length_cons→du,all_eq_true→gA,getElem?_take→w5,getElem?_drop→oa,getElem?_toArray→KM,getD_eq_getElem?_getD→ay,append_assoc→bH,getElem?_append_left→fe,getElem?_append_right→iq,getElem_mem→tW,mem_of_mem_drop→zy,mem_of_mem_take→sV,eq_nil_of_length_eq_zero→AQ,mem_iff_getElem?→QJ,mem_append→cG,size_toArray→Ev,length_map→gD,length_nil→ln,length_append→bN,length_take→e9,length_drop→wY,ext_getElem?→lq,replicate→aK,eq_of_mem_replicate→CN,mem_map→bY,range_succ→uc,flatMap_append→sX
open Option renaming map_eq_some_iff→wT,bind_eq_some_iff→AO,map_some→fc,some→cH
open Array renaming getD_eq_getD_getElem?→eU,length_toList→sU
open Nat renaming mul_le_mul_right→nE,add_mul→gn,add_assoc→w7,add_zero→jK,ne_of_lt→oR,lt_or_ge→dT,mul_comm→vD,mod_lt→yw,div_add_mod→QN,mod_eq_of_lt→KQ,eq_zero_or_pos→pD,zero_add→gR
namespace Go.Am
variable {P:Program}
def Bk(o:Oper)(σ:St)(γ:Cx)(a:Act)(K:St->Prop)(r:Result Next):Prop :=
 ∃ n x w' σ' aC,r=.ok n w'/\(n=.value x\/(n=.skip/\x=Go.undef))/\K σ'/\bz σ' aC/\Fr σ.aa γ σ'.aa aC/\aC.w=w'/\aC.tmps=(a.put o.dst x).tmps
def aw.lit{os:List Ob}{w:World}{Z:Nat->Prop}{blk:gU}(v:Value):aw os w Z blk (.lit v) v:=.cN _ _ (.lit v)
def aw.cO{os:List Ob}{w:World}{Z:Nat->Prop}{blk:gU}{v cv:Value}(h:aw os w Z blk (.lit v) cv):cv=v:=by
 cases h with
 |cN _ _ h=>cases h;rfl
def aw.Bb{os:List Ob}{w:World}{Z:Nat->Prop}{blk:gU}{sz:Nat}{rows:List (List AV)}{cv:Value}(h:aw os w Z blk (.tree sz rows) cv):iT w Z (.tree sz rows) cv:=by
 cases h with
 |cN _ _ h=>exact h
def aw.eS{os:List Ob}{w:World}{Z:Nat->Prop}{blk:gU}(v:Value):aw os w Z blk (eS v) v:=by
 unfold Am.eS;split
 ·rename_i cs;refine .agg _ _ G9 (λj x hx=>?_);simp only[bM,Array.getElem?_toList]at hx;cases hj:cs[j]? with
  |none=>simp[hj]at hx
  |some y =>
   simp[hj]at hx;subst hx;simp[hj];exact .lit y
 ·exact .lit v
def uA{σ:St}{γ:Cx}(h:bz σ γ){a:Act}(ha:γ.tmps=a.tmps)(x:Operand):aw σ.aa γ.w γ.Z γ.blk (ev σ x) (a.eval x):=by
 cases x with
 |tmp t=>have:=h.ar t;rw[ha]at this;exact this
 |const v=>exact .eS v
 |global g=>exact h.gl g
 |func f=>exact .fn f [] #[] rfl (λj x hx=>by simp at hx)
def HX{os:List Ob}{w:World}{Z:Nat->Prop}{blk:gU}{v:AV}{cv:Value}(h:aw os w Z blk v cv)(hs:dh v=true):cv.oneCell'=true:=by
 cases h with
 |undef cv=>simp[dh]at hs
 |cN v cv h=>cases h<;>first|rfl|(simpa [dh] using hs)
 |b6=>rfl
 |lA id sz off len cv h h1=>exact h1
 |og id r c cv h h1=>exact h1
 |ref=>rfl
 |ng=>rfl
 |nJ=>rfl
 |oX=>rfl
 |pM=>rfl
 |agg=>simp[dh]at hs
 |bC=>simp[dh]at hs
 |fn=>rfl
 |iU=>rfl
 |dD=>rfl
 |rP id cv h h1=>exact h1
def s9{σ:St}{γ:Cx}(h:bz σ γ){a:Act}(ha:γ.tmps=a.tmps){dst:Option Tmp}(hd:∀ d,dst=some d->d<a.tmps.size){v:AV}{cv:Value}(hv:aw σ.aa γ.w γ.Z γ.blk v cv):bz (σ.put dst v) { γ with tmps:=(a.put dst cv).tmps }:=by
 cases dst with
 |none =>
  have:({ γ with tmps:=(a.put none cv).tmps }:Cx)=γ:=by cases γ;simp_all [Act.put]
  rw[this];exact h
 |some d =>
  have:=h.put d (by rw[ha];exact hd d rfl) hv;rw[ha]at this;exact this
def rM(σ:St)(dst:Option Tmp)(v:AV):(σ.put dst v).aa=σ.aa:=by cases dst<;>rfl
def dE{o:Oper}{σ:St}{γ:Cx}{a:Act}{K:St->Prop}(h:bz σ γ)(ha:γ.tmps=a.tmps)(hd:∀ d,o.dst=some d->d<a.tmps.size){v:AV}{cv:Value}(hv:aw σ.aa γ.w γ.Z γ.blk v cv)(hK:K (σ.put o.dst v)){r:Result Next}(hr:r=.ok (.value cv) γ.w):Bk o σ γ a K r :=
 ⟨.value cv,cv,γ.w,σ.put o.dst v,{ γ with tmps:=(a.put o.dst cv).tmps },hr,.inl rfl,hK,s9 h ha hd hv,by rw[rM];exact(Fr.refl _ _).put _,rfl,rfl⟩
def C'{o:Oper}{σ σ1:St}{γ γ1:Cx}{a:Act}{K:St->Prop}(hf:Fr σ.aa γ σ1.aa γ1)(h:bz σ1 γ1)(ha:γ1.tmps=a.tmps)(hd:∀ d,o.dst=some d->d<a.tmps.size){v:AV}{cv:Value}(hv:aw σ1.aa γ1.w γ1.Z γ1.blk v cv)(hK:K (σ1.put o.dst v)){r:Result Next}(hr:r=.ok (.value cv) γ1.w):Bk o σ γ a K r :=
 ⟨.value cv,cv,γ1.w,σ1.put o.dst v,{ γ1 with tmps:=(a.put o.dst cv).tmps },hr,.inl rfl,hK,s9 h ha hd hv,by rw[rM];exact hf.put _,rfl,rfl⟩
def Md{o:Oper}{σ σ1:St}{γ γ1:Cx}{a:Act}{K:St->Prop}(hf:Fr σ.aa γ σ1.aa γ1)(h:bz σ1 γ1)(ha:γ1.tmps=a.tmps)(hd:∀ d,o.dst=some d->d<a.tmps.size)(hK:K (σ1.put o.dst .undef)){r:Result Next}(hr:r=.ok .skip γ1.w):Bk o σ γ a K r :=
 ⟨.skip,Go.undef,γ1.w,σ1.put o.dst .undef,{ γ1 with tmps:=(a.put o.dst Go.undef).tmps },hr,.inr ⟨rfl,rfl⟩,hK,s9 h ha hd (.undef _),by rw[rM];exact hf.put _,rfl,rfl⟩
def zO{k:IntKind}{n:Int}(h:k.min<=n/\n<=k.max):k.wrap n=n:=by
 cases k<;>simp[IntKind.min,IntKind.max,IntKind.signed,IntKind.bits]at h<;>simp[IntKind.wrap,IntKind.signed,IntKind.bits]<;>omega
def agy{op:BinOp}{k:IntKind}{x y:Int}{K:Value->Prop}(h:iu op k x y K)(t:TypeId)(w:World):
  ∃ v,(binOp op t (.int k x) (.int k y)).run P w=.ok v w/\K v:=by
 cases op<;>simp only[iu]at h
 case add=>exact⟨_,by simp[binOp,Op.intArith,zO h.1],h.2⟩
 case sub=>exact⟨_,by simp[binOp,Op.intArith,zO h.1],h.2⟩
 case mul =>
  unfold xw at h;split at h
  ·exact⟨_,by simp[binOp,Op.intArith],h⟩
  ·exact⟨_,by simp[binOp,Op.intArith,zO h.1],h.2⟩
 case quo =>
  refine⟨_,?_,h.2⟩;obtain⟨h0,hb,hm⟩:=h.1;have hq:x.tdiv y=x/y:=Int.tdiv_eq_ediv_of_nonneg h0;have hle:x/y<=x:=Int.ediv_le_self _ h0;have iy:0<=x/y:=Int.ediv_nonneg h0 Ey;have hw:k.wrap (x/y)=x/y:=zO ⟨by cases k<;>simp[IntKind.min,IntKind.signed,IntKind.bits]<;>omega,Ey⟩;have cE:¬ y=0:=Ey;simp[binOp,Op.intDiv,cE,hq,hw]
 case rem=>exact⟨_,by simp[binOp,Op.intDiv,h.1],h.2⟩
 case and =>
  exact⟨_,by simp[binOp,Op.intBits,Dc],h⟩
 case shr =>
  refine⟨_,?_,h.2⟩;obtain⟨h0,h1⟩:=h.1;have:¬ y<0:=Ey;have e:(2:Int)^y.toNat=((2^y.toNat:Nat):Int):=G9;simp[binOp,Op.shift,this,Nat.min_eq_left h1];exact Int.fdiv_eq_ediv_of_nonneg _ (by rw[e];exact Int.natCast_nonneg _)
 case eql=>exact⟨_,by simp[binOp,Op.intCmp],h⟩
 case neq=>exact⟨_,by simp[binOp,Op.intCmp],h⟩
 case lss=>exact⟨_,by simp[binOp,Op.intCmp],h⟩
 case leq=>exact⟨_,by simp[binOp,Op.intCmp],h⟩
 case gtr=>exact⟨_,by simp[binOp,Op.intCmp],h⟩
 case geq=>exact⟨_,by simp[binOp,Op.intCmp],h⟩
def Td:∀ {cs:List AV} {as:List Int},qK cs=some as->cs=as.map λa=>QM a
 |[],as,h=>by simp[qK]at h;subst h;rfl
 |c::cs,as,h=>by
  unfold qK at h;split at h
  ·rename_i e;simp at e
  ·rename_i a r e;simp only[List.cons.injEq]at e;obtain⟨rfl,rfl⟩:=e;simp only[wT]at h;obtain⟨as',h,rfl⟩:=h;rw[Td h];rfl
  ·simp at h
def L4{os:List Ob}{w:World}{Z:Nat->Prop}{blk:gU}{cs:List AV}{as:List Int}{cv:Value}(h:aw os w Z blk (.agg cs) cv)(hi:qK cs=some as):cv=.agg (as.map (Value.int .i64)).toArray:=by
 have:=Td hi;subst this;cases h with
 |cN _ _ h=>cases h
 |agg _ bq hs h =>
  congr 1;refine Array.ext (by simpa using hs) (λj h1 h2=>?_);have hj:j<as.length:=by simpa using h2
  have:=(h j (QM as[j]) (by simp[hj])).cO;rw[eU,Array.getElem?_eq_getElem h1]at this;simpa using this
end Go.Am
namespace Go.Am
variable {P:Program}
def Mh{t:TypeId}(h:(ty P t).kind≠99)(w:World):(isAgg t).run P w=.ok (ty P t).isAgg w:=by
 obtain⟨i,d,hi,hd,_⟩:=vV h;simp only[isAgg,Sem.run_bind,run_underlying hd,Result.andThen_ok];have:ty P t=ty P t:=rfl;cases d<;>simp[ty,hi,hd,Ty.isAgg]
def run_sizeOf{t:TypeId}(h:(ty P t).kind≠99)(w:World):(sizeOf t).run P w=.ok (ty P t).size w:=by
 obtain⟨i,d,hi,hd,hs,_⟩:=vV h;simp[sizeOf,typeInfo,hi,hs]
def S8{t:TypeId}{z:List Value}(h:(ty P t).kind≠99)(hz:(ty P t).zero=some z)(w:World):∃v,(zeroValue t).run P w=.ok v w/\v.cells=z.toArray:=by
 obtain⟨i,d,hi,hd,_,_,h3⟩:=vV h;rw[h3]at hz;cases hv:i.zero with
 |none=>simp[hv]at hz
 |some v =>
  simp[hv]at hz;refine⟨v,by simp[zeroValue,typeInfo,hi,hv],?_⟩;rw[<- hz]
def HK{σ:St}{γ:Cx}(h:bz σ γ){id r c:Nat}{cv:Value}{row:List AV}(hv:aw σ.aa γ.w γ.Z γ.blk (.ptr id r c) cv)(bK:rowOf σ id r=some row):
  ∃ b base cap cur t o,cv=.pointer (some ⟨b,base+c,none⟩)/\γ.blk id=some (b,o,cap)/\γ.w.heap[b]?=some (.cells cur t (0,0))/\base+row.length<=cur.size /\
   (∀ j v,row[j]?=some v->aw σ.aa γ.w γ.Z γ.blk v (cur.getD (base+j) Go.undef))/\Live σ.aa id /\
   (∀ Bp lW,Bp.length=row.length->lW.size=cur.size->(∀ j v,Bp[j]?=some v->aw σ.aa γ.w γ.Z γ.blk v (lW.getD (base+j) Go.undef))->(∀ k,(k<base\/base+row.length<=k)->lW.getD k Go.undef=cur.getD k Go.undef) ->
    ∃ ob ob',σ.aa[id]?=some ob/\ob≠.gone/\ob.ew ob'/\(pG σ id r Bp) = { σ with aa:=σ.aa.set id ob' }/\uC σ.aa γ.w γ.Z γ.blk o cap lW ob'):=by
 unfold rowOf at bK;cases ho:σ.aa[id]? with
 |none=>simp[ho]at bK
 |some ob =>
  have bS:=h.ec id ob ho;cases ob with
  |gone=>simp[ho]at bK
  |mp ag L=>simp[ho]at bK
  |var cells =>
   simp only[ho]at bK;split at bK
   ·rename_i qQ;subst qQ;simp at bK;subst bK;obtain⟨b,cap,cur,t,h1,h2,h3,h4⟩:=bS;have aW:cv=.pointer (some ⟨b,c,none⟩):=by
     cases hv with
     |cN _ _ h=>cases h
     |og _ _ _ _ h=>rw[ho]at h;simp at h
     |oX _ _ b' cap' cells' h hb=>rw[h1]at hb;simp at hb;simp[hb.1]
     |pM _ _ _ sz b' o' cap' rows h hb=>rw[ho]at h;simp at h
    refine⟨b,0,cap,cur,t,0,by simpa using aW,h1,h2,Ey,λj v hj=>by simpa using h4 j v hj,⟨_,ho,G9⟩,?_⟩;intro Bp lW hl hs kS _;refine⟨.var cells,.var Bp,rfl,G9,by simp[Ob.ew,hl],by simp[pG,ho],rfl,Ey,λc v hc=>by simpa using kS c v hc⟩
   ·simp at bK
  |arr sz rows =>
   simp only[ho]at bK;obtain⟨aO,cV,bS⟩:=bS;have ap0:row.length=sz:=cV row (hZ bK);have agI:r<rows.length:=(aY.1 bK).1;rcases bS with⟨_,he⟩|⟨b,o,cap,cur,t,h1,h2,h3,h4,h5,h6⟩
   ·subst he;simp at bK
   ·have aW:cv=.pointer (some ⟨b,o+(r*sz+c),none⟩):=by
     cases hv with
     |cN _ _ h=>cases h
     |og _ _ _ _ h=>rw[ho]at h;simp at h
     |oX _ _ b' cap' cells' h hb=>rw[ho]at h;simp at h
     |pM _ _ _ dj b' o' cap' iv h hb=>rw[ho]at h;simp at h;rw[h1]at hb;simp at hb;simp[hb.1,hb.2.1,h.1]
    have hmul:r*sz+sz<=cap*sz:=by
     have:(r+1)*sz<=cap*sz:=nE _ Ey;rw[gn]at this;omega
    refine⟨b,o+r*sz,cap,cur,t,o,by rw[aW];simp[w7],h1,h2,Ey,?_,⟨_,ho,G9⟩,?_⟩
    ·intro j v hj;have:=h6 r j v (by simp[cellAt,bK,hj]);simpa [w7] using this
    ·intro Bp lW hl hs kS agJ;refine⟨.arr sz rows,.arr sz (rows.set r Bp),rfl,G9,by simp[Ob.ew],by simp[pG,ho],aO,?_,Ey,by simp[h4],h5,?_⟩
     ·intro x hx;rcases List.mem_or_eq_of_mem_set hx with hx|rfl
      ·exact cV x hx
      ·omega
     ·intro r' c' v hc;by_cases eV:r=r'
      ·subst eV;simp only[cellAt,bU,if_true,agI]at hc;simp at hc;have:=kS c' v hc;simpa [w7] using this
      ·simp only[cellAt,bU,if_neg eV]at hc;have hold:=h6 r' c' v hc;have gq:c'<sz:=by
        simp only[AO]at hc;obtain⟨x,hx,vX⟩:=hc;have:=cV x (hZ hx);have:=(aY.1 vX).1;omega
       rw[agJ _ ?_]
       ·exact hold
       ·rcases Nat.lt_or_gt_of_ne eV with aX|Br
        ·right;have:(r+1)*sz<=r'*sz:=nE _ Ey;rw[gn]at this;omega
        ·left;have:(r'+1)*sz<=r*sz:=nE _ Ey;rw[gn]at this;omega
def Addr.tu(b o n:Nat):(⟨b,o,none⟩:Addr).add n=⟨b,o+n,none⟩:=by
 unfold Go.Addr.add;split<;>simp_all
def Be{w:World}{b j:Nat}{cur:Array Value}{t:TypeId}{fr:Nat×Nat}(h:w.heap[b]?=some (.cells cur t fr))(hj:j<cur.size):w.cell? ⟨b,j,none⟩=some (cur.getD j Go.undef):=by
 simp[World.cell?,h,hj,eU]
def HY{w:World}{t:TypeId}(hk:(ty P t).kind≠99)(b o:Nat)(f:Nat->Value)(hc:∀ j,j<(if(ty P t).isAgg then(ty P t).size else 1)->w.cell? ⟨b,o+j,none⟩=some (f j)):
  (loadVar t ⟨b,o,none⟩).run P w=.ok (if(ty P t).isAgg then .agg ((bn (ty P t).size).map f).toArray else f 0) w:=by
 simp only[loadVar,Sem.run_bind,Mh hk,Result.andThen_ok];by_cases ha:(ty P t).isAgg=true
 ·simp only[ha,if_true,Sem.run_bind,run_sizeOf hk,Result.andThen_ok];rw[run_loadCells w ⟨b,o,none⟩ _ f (λj hj=>by rw[Addr.tu];exact hc j (by simpa [ha] using hj))];rfl
 ·have mD:=hc 0 (by simp[ha]);simp only[jK]at mD;simp[ha,mD]
end Go.Am
namespace Go.Am
variable {P:Program}
def Ma(cs:List AV):∀ (row:List AV) (c:Nat),(setCells row c cs).length=row.length:=by
 induction cs with
 |nil=>intro row c;rfl
 |cons v vs ih=>intro row c;simp[setCells,ih]
def Te(cs:List AV):∀ (row:List AV) (c:Nat),c+cs.length<=row.length->∀ j,(setCells row c cs)[j]?=if c<=j/\j<c+cs.length then cs[j-c]? else row[j]?:=by
 induction cs with
 |nil=>intro row c _ j;simp[setCells];intro h1 h2;omega
 |cons v vs ih =>
  intro row c hl j;simp only[du]at hl;simp only[setCells,du];rw[ih (row.set c v) (c+1) Hj j];by_cases h1:c+1<=j/\j<c+1+vs.length
  ·rw[if_pos h1,if_pos Ey];have:j-c=(j-(c+1))+1:=Ey;rw[this];simp
  ·rw[if_neg h1];by_cases h2:j=c
   ·subst h2;rw[if_pos Ey];simp[show j<row.length by omega]
   ·rw[if_neg Ey,List.getElem?_set_ne (Ne.symm h2)]
def L7{os:List Ob}{w:World}{Z:Nat->Prop}{blk:gU}{v:AV}{cv:Value}(h:aw os w Z blk v cv)(hs:(cellsOf v).all dh=true):
  cv.cells.size=(cellsOf v).length/\(∀ j x,(cellsOf v)[j]?=some x->aw os w Z blk x (cv.cells.getD j Go.undef))/\∀ c∈cv.cells,c.oneCell'=true:=by
 by_cases ni :∃cs,v=.agg cs
 ·obtain⟨cs,rfl⟩:=ni;simp only[cellsOf]at hs ⊢;cases h with
  |cN _ _ h=>cases h
  |agg _ bq aO kS =>
   refine⟨aO,kS,?_⟩;intro c hc;simp only[Value.cells]at hc;obtain⟨j,hj,rfl⟩:=Array.mem_iff_getElem.1 hc;have hx:cs[j]?=some cs[j]:=by simp[<- aO,hj]
   have:=kS j _ hx;have hg:bq.getD j Go.undef=bq[j]:=by simp[eU,hj]
   rw[hg]at this;exact HX this (by rw[gA]at hs;exact hs _ (hZ hx))
 ·have kT:cellsOf v=[v]:=by
   unfold cellsOf;split
   ·exact absurd ⟨_,rfl⟩ ni
   ·rfl
  rw[kT]at hs ⊢;simp at hs;have ho:=HX h hs;have a6:cv.cells = #[cv]:=by cases cv<;>first|rfl|simp[Value.oneCell']at ho
  rw[a6];refine⟨rfl,?_,by simp[ho]⟩;intro j x hx;cases j with
  |zero=>simp at hx;subst hx;simpa using h
  |succ j=>simp at hx
section
variable {o:Oper} {σ:St} {γ:Cx} {a:Act} {K:St->Prop}
def LP(hs:bz σ γ){t:TypeId}(hk:(ty P t).kind≠99){id r c:Nat}{cv:Value}(hv:aw σ.aa γ.w γ.Z γ.blk (.ptr id r c) cv){row:List AV}(bK:rowOf σ id r=some row){K:AV->Prop}(h:nI (ty P t) row c K):
  ∃ v qP,(Instr.loadAt t cv).run P γ.w=.ok qP γ.w/\aw σ.aa γ.w γ.Z γ.blk v qP/\K v:=by
 obtain⟨b,base,cap,cur,tt,o,rfl,hb,jt,aO,kS,_,_⟩:=HK hs hv bK;unfold nI at h;simp only[Instr.loadAt,Instr.sureAddr,Sem.run_bind,Sem.run_pure,Result.andThen_ok];by_cases ni:(ty P t).isAgg=true
 ·rw[if_pos ni]at h;refine⟨_,_,HY hk b (base+c) (λj=>cur.getD (base+c+j) Go.undef) ?_,?_,h.2⟩
  ·intro j hj;rw[if_pos ni]at hj;exact Be jt Ey
  ·rw[if_pos ni];refine .agg _ _ Hj (λj x hx=>?_);have hj:j<(ty P t).size:=by have:=(aY.1 hx).1;simp at this;omega
   rw[w5,if_pos hj,oa]at hx;have:=kS _ _ hx;simp[eU,hj];simpa [w7,eU] using this
 ·rw[if_neg ni]at h;cases hc:row[c]? with
  |none=>simp[hc]at h
  |some v =>
   simp only[hc]at h;have bI:=(aY.1 hc).1;refine⟨v,_,HY hk b (base+c) (λj=>cur.getD (base+c+j) Go.undef) ?_,?_,h⟩
   ·intro j hj;rw[if_neg ni]at hj;exact Be jt Ey
   ·rw[if_neg ni];exact kS _ _ hc
def agw(_hs:bz σ γ){t:TypeId}(hk:(ty P t).kind≠99){cells:List AV}{cv:Value}(hv:aw σ.aa γ.w γ.Z γ.blk (.b6 cells) cv){K:AV->Prop}(h:nI (ty P t) cells 0 K):
  ∃ v qP,(Instr.loadAt t cv).run P γ.w=.ok qP γ.w/\aw σ.aa γ.w γ.Z γ.blk v qP/\K v:=by
 cases hv with
 |cN _ _ h=>cases h
 |b6 _ b o f hz hc ht =>
 unfold nI at h;simp only[Instr.loadAt,Instr.sureAddr,Sem.run_bind,Sem.run_pure,Result.andThen_ok];by_cases ni:(ty P t).isAgg=true
 ·rw[if_pos ni]at h;have hlen:(ty P t).size<=cells.length:=Ey;refine⟨_,_,HY hk b o f ?_,?_,h.2⟩
  ·intro j hj;rw[if_pos ni]at hj;exact hc j cells[j] G9
  ·rw[if_pos ni];refine .agg _ _ Hj (λj x hx=>?_);have hj:j<(ty P t).size:=by have:=(aY.1 hx).1;simp at this;omega
   rw[w5,if_pos hj,oa]at hx;simp at hx;simp[eU,hj];exact .cN _ _ (ht j x hx)
 ·rw[if_neg ni]at h;cases a6:cells[0]? with
  |none=>simp[a6]at h
  |some v =>
   simp only[a6]at h;refine⟨v,_,HY hk b o f ?_,?_,h⟩
   ·intro j hj;rw[if_neg ni]at hj;have:j=0:=Ey;subst this;exact hc 0 v a6
   ·rw[if_neg ni];exact .cN _ _ (ht 0 v a6)
def E5(cur:Array Value)(p:Nat)(vs:List Value)(hp:p+vs.length<=cur.size)(k:Nat):
  ((cur.toList.take p++vs++cur.toList.drop (p+vs.length)).toArray).getD k Go.undef=if p<=k/\k<p+vs.length then vs.getD (k-p) Go.undef else cur.getD k Go.undef:=by
 simp only[eU,KM,ay];by_cases h1:k<p
 ·rw[if_neg Ey,bH,fe Hj,w5,if_pos h1];simp
 ·by_cases h2:k<p+vs.length
  ·rw[if_pos Ey,fe Hj,iq Hj];simp;congr 3;omega
  ·rw[if_neg Ey,iq Hj];simp;congr 3;omega
def setRow_size(w:World)(g:Nat)(cs:Array Value):(w.setRow g cs).heap.size=w.heap.size:=by simp[World.setRow]
def agx(hs:bz σ γ){t:TypeId}(hk:(ty P t).kind≠99){id r c:Nat}{cv xv:Value}(hv:aw σ.aa γ.w γ.Z γ.blk (.ptr id r c) cv){row:List AV}(bK:rowOf σ id r=some row){v:AV}(hx:aw σ.aa γ.w γ.Z γ.blk v xv)(h:(cellsOf v).length=(ty P t).size/\c+(ty P t).size<=row.length/\(cellsOf v).all dh=true):
  ∃ w',(Instr.storeAt t cv xv).run P γ.w=.ok () w'/\bz (pG σ id r (setCells row c (cellsOf v))) { γ with w:=w' }/\Fr σ.aa γ (pG σ id r (setCells row c (cellsOf v))).aa { γ with w:=w' }:=by
 obtain⟨b,base,cap,cur,tt,o,rfl,hb,jt,aO,kS,jT,agK⟩:=HK hs hv bK;obtain⟨h1,h2,h3⟩:=h;obtain⟨e1,e2,e3⟩:=L7 hx h3;have hlen:xv.cells.toList.length=(ty P t).size:=by simp[e1,h1]
 have fj:(Instr.storeAt t (.pointer (some ⟨b,base+c,none⟩)) xv).run P γ.w=.ok () (γ.w.setRow b (cur.toList.take (base+c)++xv.cells.toList++cur.toList.drop (base+c+xv.cells.toList.length)).toArray):=by
  have dF:=run_storeCells_at P b (base+c) tt xv.cells.toList 0 cur γ.w jt (by rw[hlen];omega) (λx hx=>e3 x (by simpa using hx));simp only[jK]at dF;simp only[Instr.storeAt,Instr.sureAddr,Sem.run_bind,Sem.run_pure,Result.andThen_ok,storeVar,run_sizeOf hk];have:¬ (xv.cells.size≠(ty P t).size):=by rw[e1,h1];simp
  rw[if_neg this];simpa using dF
 obtain⟨ob,ob',g1,g2,g3,g4,g5⟩:=agK (setCells row c (cellsOf v)) (cur.toList.take (base+c)++xv.cells.toList++cur.toList.drop (base+c+xv.cells.toList.length)).toArray
  (Ma _ _ _) (by simp[hlen];omega) (by
   intro j x hj;rw[Te _ _ _ (by rw[h1];exact h2)]at hj;rw[E5 cur (base+c) xv.cells.toList (by rw[hlen];omega),hlen];by_cases da:c<=j/\j<c+(cellsOf v).length
   ·rw[if_pos da]at hj;rw[if_pos Ey];have:=e2 _ _ hj;have e:base+j-(base+c)=j-c:=Ey;rw[e];simpa [ay,eU] using this
   ·rw[if_neg da]at hj;rw[if_neg Ey];exact kS j x hj) (by
   intro k bj;rw[E5 cur (base+c) xv.cells.toList (by rw[hlen];omega),hlen];rw[if_neg Ey])
 refine⟨_,fj,?_,?_⟩
 ·rw[g4];exact hs.write g1 g2 g3 hb (setRow_heap γ.w b cur _ tt _ jt) (λk hk=>setRow_other γ.w b k _ hk) (setRow_size _ _ _) g5
 ·rw[g4];exact Fr.write ob' g1 g2 g3 hb (λk hk=>setRow_other γ.w b k _ hk) (setRow_size _ _ _) rfl rfl rfl
end
end Go.Am
namespace Go.Am
variable {P:Program}
def bz.Bi{σ:St}{γ:Cx}(h:bz σ γ){sz:Nat}(aO:0<sz):
  bz { σ with aa:=σ.aa++[.arr sz []] } { γ with blk:=dq γ.blk σ.aa.length none }:=by
 have hR:∀ v cv,aw σ.aa γ.w γ.Z γ.blk v cv->aw (σ.aa++[.arr sz []]) γ.w γ.Z (dq γ.blk σ.aa.length none) v cv:=λv cv hv =>
  hv.mono (λb hb=>⟨hb,rfl⟩) (λi o ho=>by
   have hi:i<σ.aa.length:=(aY.1 ho).1;have cz:(σ.aa++[.arr sz []])[i]?=some o:=by rw[fe hi];exact ho
   by_cases bL:o=.gone
   ·subst bL;exact .inl cz
   ·exact .inr ⟨by simp[dq,oR hi],o,cz,Ob.jS bL⟩)
 have bW:∀ i b,dq γ.blk σ.aa.length none i=some b->Live (σ.aa++[.arr sz []]) i->Live σ.aa i/\γ.blk i=some b:=by
  rintro i b hb⟨o,ho,bL⟩;simp only[dq]at hb;split at hb
  ·simp at hb
  ·rename_i cE;have hi:i<σ.aa.length:=by have:=(aY.1 ho).1;simp at this;omega
   rw[fe hi]at ho;exact⟨⟨o,ho,bL⟩,hb⟩
 refine⟨λk=>hR _ _ (h.ar k),?_,?_,?_,h.gV,λg=>hR _ _ (h.gl g)⟩
 ·intro i o ho;rcases dT i σ.aa.length with hi|hi
  ·rw[fe hi]at ho;exact(h.ec i o ho).mono hR (by simp[dq,oR hi]) (λ_ _ _ _=>rfl)
  ·have au:i=σ.aa.length:=by have:=(aY.1 ho).1;simp at this;omega
   subst au;simp at ho;subst ho;exact⟨aO,G9,.inl ⟨by simp[dq],rfl⟩⟩
 ·intro i j b o c o' c' hi hj eW iO;obtain⟨HZ,qR⟩:=bW i _ eW hi;obtain⟨Mj,zQ⟩:=bW j _ iO hj;exact h.inj i j b o c o' c' HZ Mj qR zQ
 ·rintro b ⟨i,o,c,hi,hb⟩;obtain⟨HZ,qR⟩:=bW i _ hb hi;exact h.nz b ⟨i,o,c,HZ,qR⟩
def Fr.Bi(os:List Ob)(γ:Cx)(sz:Nat):Fr os γ (os++[.arr sz []]) { γ with blk:=dq γ.blk os.length none } where
 lS:=rfl
 tape:=rfl
 output:=rfl
 size:=Nat.le_refl _
 eA:=λ_ _ _=>rfl
 z0:=λ_ h=>h
 z1:=λ_ h=>.inl h
 own:=by
  rintro b⟨i,o,c,⟨x,hx,fi⟩,hb⟩;simp only[dq]at hb;split at hb
  ·simp at hb
  ·have hi:i<os.length:=by have:=(aY.1 hx).1;simp at this;omega
   rw[fe hi]at hx;exact .inl ⟨i,o,c,⟨x,hx,fi⟩,hb⟩
 len:=G9
 eK:=by
  rintro i hi⟨x,hx,fi⟩;have hx0:=hx;rw[fe hi]at hx;exact⟨by simp[dq,oR hi],x,x,hx,hx0,Ob.jS fi⟩
def bz.E6{σ:St}{γ:Cx}(h:bz σ γ){id:Nat}{ob ob':Ob}(ho:σ.aa[id]?=some ob)(hg:ob≠.gone){b o cap o' cap':Nat}(hb:γ.blk id=some (b,o,cap)){w':World}{cur:Array Value}{t:TypeId}(hw:w'.heap[b]?=some (.cells cur t (0,0)))(nL:∀ k,k≠b->w'.heap[k]?=γ.w.heap[k]?)(aO:w'.heap.size=γ.w.heap.size)(bS:uC σ.aa γ.w γ.Z γ.blk o' cap' cur ob'):
  bz { σ with aa:=σ.aa.set id .gone++[ob'] } { γ with w:=w',blk:=dq γ.blk σ.aa.length (some (b,o',cap')) }:=by
 have bZ:id<σ.aa.length:=(aY.1 ho).1;have jT:Live σ.aa id:=⟨ob,ho,hg⟩;have hR:∀ v cv,aw σ.aa γ.w γ.Z γ.blk v cv->aw (σ.aa.set id .gone++[ob']) w' γ.Z (dq γ.blk σ.aa.length (some (b,o',cap'))) v cv:=λv cv hv =>
  hv.mono (λz hz=>⟨hz,nL z (λe=>h.nz b ⟨id,o,cap,jT,hb⟩ (e▸hz))⟩) (λi x hx=>by
   have hi:i<σ.aa.length:=(aY.1 hx).1;rw[fe (by simpa using hi),bU];by_cases oo:id=i
   ·left;simp[oo,hi]
   ·rw[if_neg oo];by_cases bL:x=.gone
    ·subst bL;exact .inl hx
    ·exact .inr ⟨by simp[dq,oR hi],x,hx,Ob.jS bL⟩)
 have bW:∀ i,Live (σ.aa.set id .gone++[ob']) i->i=σ.aa.length\/(i<σ.aa.length/\i≠id/\Live σ.aa i):=by
  rintro i⟨x,hx,fi⟩;rcases dT i σ.aa.length with hi|hi
  ·right;rw[fe (by simpa using hi),bU]at hx;split at hx
   ·simp at hx;exact absurd hx.symm fi
   ·rename_i cE;exact⟨hi,Ne.symm cE,x,hx,fi⟩
  ·left;have:=(aY.1 hx).1;simp at this;omega
 refine⟨λk=>hR _ _ (h.ar k),?_,?_,?_,λz hz=>by rw[aO];exact h.gV z hz,λg=>hR _ _ (h.gl g)⟩
 ·intro i x hx;rcases dT i σ.aa.length with hi|hi
  ·rw[fe (by simpa using hi),bU]at hx;split at hx
   ·simp at hx;subst hx;trivial
   ·rename_i cE;by_cases bL:x=.gone
    ·subst bL;trivial
    ·refine(h.ec i x hx).mono hR (by simp[dq,oR hi]) (λz y c hz=>nL z (λe=>cE ?_));subst e;exact h.inj id i z o cap y c jT ⟨x,hx,bL⟩ hb hz
  ·have au:i=σ.aa.length:=by have:=(aY.1 hx).1;simp at this;omega
   subst au;rw[iq G9]at hx;simp at hx;subst hx;exact bS.Mk (b:=b) (cap:=cap') hR (by simp[dq]) hw
 ·intro i j z y c y' c' hi hj eW iO;simp only[dq]at eW iO;rcases bW i hi with rfl|⟨iW,Tf,au⟩<;>rcases bW j hj with rfl|⟨iw,agL,fI⟩
  ·rfl
  ·rw[if_pos rfl]at eW;rw[if_neg (oR iw)]at iO;simp at eW;rw[<- eW.1]at iO;exact absurd (h.inj j id b y' c' o cap fI jT iO hb) agL
  ·rw[if_pos rfl]at iO;rw[if_neg (oR iW)]at eW;simp at iO;rw[<- iO.1]at eW;exact absurd (h.inj i id b y c o cap au jT eW hb) Tf
  ·rw[if_neg (oR iW)]at eW;rw[if_neg (oR iw)]at iO;exact h.inj i j z y c y' c' au fI eW iO
 ·rintro z ⟨i,y,c,hi,hz⟩ ph;simp only[dq]at hz;rcases bW i hi with rfl|⟨iW,Tf,au⟩
  ·rw[if_pos rfl]at hz;simp at hz;rw[<- hz.1]at ph;exact h.nz b ⟨id,o,cap,jT,hb⟩ ph
  ·rw[if_neg (oR iW)]at hz;exact h.nz z ⟨i,y,c,au,hz⟩ ph
theorem Fr.E6{σ:St}{γ:Cx}{id:Nat}{ob:Ob}(ob':Ob)(ho:σ.aa[id]?=some ob)(hg:ob≠.gone){b o cap o' cap':Nat}(hb:γ.blk id=some (b,o,cap)){w':World}(nL:∀ k,k≠b->w'.heap[k]?=γ.w.heap[k]?)(aO:w'.heap.size=γ.w.heap.size)(h1:w'.os=γ.w.os)(h2:w'.tape=γ.w.tape)(h3:w'.output=γ.w.output)(h4:γ.w.drawn<=w'.drawn:=by first|exact Nat.le_refl _|(simp;done)|omega):
  Fr σ.aa γ (σ.aa.set id .gone++[ob']) { γ with w:=w',blk:=dq γ.blk σ.aa.length (some (b,o',cap')) } where
 lS:=h1
 tape:=h2
 output:=h3
 drawn:=h4
 size:=by simp[aO]
 eA:=fun z _ iz=>nL z (fun e=>iz ⟨id,o,cap,⟨ob,ho,hg⟩,e▸hb⟩)
 z0:=fun _ h=>h
 z1:=fun _ h=>.inl h
 own:=by
  rintro z⟨i,y,c,⟨x,hx,fi⟩,hz⟩;simp only[dq]at hz;split at hz
  ·simp at hz;left;exact⟨id,o,cap,⟨ob,ho,hg⟩,by rw[hb,hz.1]⟩
  ·have hi:i<σ.aa.length:=by have:=(List.getElem?_eq_some_iff.1 hx).1;simp at this;omega
   rw[List.getElem?_append_left (by simpa using hi),List.getElem?_set]at hx;split at hx
   ·split at hx<;>simp at hx;exact absurd hx.symm fi
   ·exact .inl ⟨i,y,c,⟨x,hx,fi⟩,hz⟩
 len:=by simp
 eK:=by
  rintro i hi⟨x,hx,fi⟩;have hx0:=hx;rw[List.getElem?_append_left (by simpa using hi),List.getElem?_set]at hx;split at hx
  ·split at hx<;>simp at hx;exact absurd hx.symm fi
  ·exact⟨by simp[dq,Nat.ne_of_lt hi],x,x,hx,hx0,Ob.jS fi⟩
def Tg{σ:St}{γ:Cx}(h:bz σ γ){x:AV}{cv:Value}(hv:aw σ.aa γ.w γ.Z γ.blk x cv){sz:Nat}(aO:0<sz){src:List (List AV)}(hs:oT σ x=some (sz,src)):
  ∃ ad c,∃ g:Nat->Value,cv=.slice ad src.length c/\(∀ row∈src,row.length=sz)/\(0<src.length->∃ b o,ad=some ⟨b,o,none⟩/\∀ j,j<src.length*sz->γ.w.cell? ⟨b,o+j,none⟩=some (g j)) /\
   ∀ r c v,cellAt src r c=some v->aw σ.aa γ.w γ.Z γ.blk v (g (r*sz+c)):=by
 cases x with
 |tree dj rows =>
  simp[oT]at hs;obtain⟨rfl,rfl⟩:=hs;cases hv.Bb with
  |nil _ cap a=>exact⟨a,cap,λ_=>Go.undef,rfl,G9,G9,by simp[cellAt]⟩
  |tree _ _ b o cap f hz hr E7 hc ht =>
   refine⟨_,cap,λj=>f (j/dj) (j%dj),rfl,hr,λhlen=>⟨b,o,rfl,?_⟩,?_⟩
   ·intro j hj;have h1:j/dj<rows.length:=Nat.div_lt_of_lt_mul (by rw[vD];exact hj);have h2:j%dj<dj:=yw _ aO;have cV:(rows[j/dj]).length=dj:=hr _ (tW h1);have:=hc (j/dj) (j%dj) ((rows[j/dj])[j%dj]' Ey) (by simp[cellAt,h1,h2,cV]);have e:j/dj*dj+j%dj=j:=by rw[vD];exact QN j dj
    rw[e]at this;exact this
   ·intro r c v aW;have bI:c<dj:=by
     simp only[cellAt,AO]at aW;obtain⟨y,hy,rW⟩:=aW;have:=hr y (hZ hy);have:=(aY.1 rW).1;omega
    have e1:(r*dj+c)/dj=r:=by rw[vD,Nat.mul_add_div aO,Nat.div_eq_of_lt bI];rfl
    have e2:(r*dj+c)%dj=c:=by rw[vD,Nat.mul_add_mod,KQ bI]
    simp only[e1,e2];exact .cN _ _ (ht r c v aW)
 |ref id dj off len =>
  simp only[oT]at hs;cases ho:σ.aa[id]? with
  |none=>simp[ho]at hs
  |some ob =>
   have bS:=h.ec id ob ho;cases ob with
   |gone=>simp[ho]at hs
   |mp ag L=>simp[ho]at hs
   |var cells=>simp[ho]at hs
   |arr lU rows =>
    simp only[ho]at hs;split at hs
    ·rename_i he;subst he;simp at hs;obtain⟨rfl,rfl⟩:=hs;obtain⟨_,cV,bS⟩:=bS;cases hv with
     |cN _ _ h=>cases h
     |lA _ _ _ _ _ h=>rw[ho]at h;simp at h
     |ng _ _ h hb =>
      rw[ho]at h;simp at h;subst h;exact⟨none,0,λ_=>Go.undef,rfl,G9,G9,by simp[cellAt]⟩
     |nJ _ _ _ b x bo iv h hb hl =>
      exact⟨some ⟨b,x,none⟩,0,λ_=>Go.undef,G9,G9,G9,by simp[cellAt]⟩
     |ref _ _ _ _ b o cap cap' iv h hb hl hc j6 =>
      rw[ho]at h;simp at h;subst h;rcases bS with⟨h1,_⟩|⟨b',o',EP,cur,t,h1,h2,h3,h4,h5,h6⟩
      ·rw[hb]at h1;simp at h1
      ·rw[hb]at h1;simp at h1;obtain⟨rfl,rfl,rfl⟩:=h1;have hlen:((rows.drop off).take len).length=len:=Hj;refine⟨_,cap',λj=>cur.getD (o+off*lU+j) Go.undef,by rw[hlen],?_,λ_=>⟨b,o+off*lU,rfl,?_⟩,?_⟩
       ·intro row bK;exact cV row (zy (sV bK))
       ·intro j hj;rw[hlen]at hj;refine Be h2 ?_;have:(off+len)*lU<=cap*lU:=nE _ Ey;rw[gn]at this;omega
       ·intro r c v aW;simp only[cellAt,w5,oa]at aW;split at aW
        ·have:=h6 (off+r) c v aW;rw[gn]at this;have e:o+(off*lU+r*lU+c)=o+off*lU+(r*lU+c):=Ey;rw[e]at this;exact this
        ·simp at aW
    ·simp at hs
 |_=>simp[oT]at hs
end Go.Am
namespace Go.Am
variable {P:Program}
def ER{rows:List (List AV)}{sz r c:Nat}{v:AV}(hr:∀ row∈rows,row.length=sz)(h:cellAt rows r c=some v):r<rows.length/\c<sz:=by
 simp only[cellAt,AO]at h;obtain⟨y,hy,rW⟩:=h;have h1:=hr y (hZ hy);have h2:=(aY.1 rW).1;have h3:=(aY.1 hy).1;omega
def Th{p s:List (List AV)}{r c:Nat}:cellAt (p++s) r c=if r<p.length then cellAt p r c else cellAt s (r-p.length) c:=by
 unfold cellAt;split
 ·rw[fe (by assumption)]
 ·rw[iq Ey]
def Bd{r c n sz:Nat}(hr:r<n)(hc:c<sz):r*sz+c<n*sz:=by
 have:(r+1)*sz<=n*sz:=nE _ hr;rw[gn]at this;omega
def agM{R:AV->Value->Prop}{p s:List (List AV)}{sz:Nat}(hp:∀ row∈p,row.length=sz)(hs:∀ row∈s,row.length=sz){go g:Nat->Value}(h1:∀ r c v,cellAt p r c=some v->R v (go (r*sz+c)))(h2:∀ r c v,cellAt s r c=some v->R v (g (r*sz+c)))(rest:List Value)(r c:Nat)(v:AV)(h:cellAt (p++s) r c=some v):
  R v (((((bn (p.length*sz)).map go)++((bn (s.length*sz)).map g))++rest).toArray.getD (r*sz+c) Go.undef):=by
 rw[Th]at h;simp only[eU,KM];split at h
 ·obtain⟨hr,hc⟩:=ER hp h;have:=Bd hr hc;rw[bH,fe (by simpa using this)];simp[this];exact h1 r c v h
 ·rename_i iy;obtain⟨hr,hc⟩:=ER hs h;have hl:=Bd hr hc;have e:r*sz+c=p.length*sz+((r-p.length)*sz+c):=by
   have:r=p.length+(r-p.length):=Ey
   conv=>lhs;rw[this,gn]
   omega
  rw[fe Hj,iq Hj];have e2:r*sz+c-(List.map go (bn (p.length*sz))).length=(r-p.length)*sz+c:=Hj;rw[e2];simp[hl];exact h2 _ _ _ h
def agN {σ:St} {γ:Cx} (h:bz σ γ) {x:AV} {cv:Value} (hv:aw σ.aa γ.w γ.Z γ.blk x cv) {sz:Nat} {pre:List (List AV)} {σ1:St} (hs:mB σ sz x=some (pre,σ1)) :
    (bz σ1 γ/\Fr σ.aa γ σ1.aa γ/\∃ k,σ1.aa.length=k) /\
    ((cv=.slice none 0 0/\pre=[]) \/
     (∃ id b x bo cur t,cv=.slice (some ⟨b,x,none⟩) 0 0/\pre=[]/\Live σ.aa id/\σ1 = { σ with aa:=σ.aa.set id .gone }/\γ.blk id=some (b,bo)/\γ.w.heap[b]?=some (.cells cur t (0,0))) \/
     ∃ id off rows b o cap cap' cur t,σ.aa[id]?=some (.arr sz rows)/\σ1 = { σ with aa:=σ.aa.set id .gone }/\γ.blk id=some (b,o,cap)/\γ.w.heap[b]?=some (.cells cur t (0,0)) /\
      cv=.slice (some ⟨b,o+off * sz,none⟩) pre.length cap'/\pre.length<=cap'/\cap'<=maxLen/\o+off * sz+cap' * sz<=cur.size/\(∀ row∈pre,row.length=sz) /\
      ∀ r c v,cellAt pre r c=some v->aw σ.aa γ.w γ.Z γ.blk v (cur.getD (o+off * sz+(r * sz+c)) Go.undef)):=by
  unfold mB at hs
  split at hs
  · simp at hs
    obtain ⟨rfl,rfl⟩:=hs
    exact⟨⟨h,Fr.refl _ _,_,rfl⟩,.inl ⟨hv.cO,rfl⟩⟩
  · rename_i id dj off len
    cases ho:σ.aa[id]? with
    | none=>simp[ho] at hs
    | some ob =>
      have bS:=h.ec id ob ho
      cases ob with
      | gone=>simp[ho] at hs
      | mp ag L=>simp[ho] at hs
      | var cells=>simp[ho] at hs
      | arr lU rows =>
        simp only[ho] at hs
        split at hs
        · rename_i he
          obtain ⟨vY,ka⟩:=he
          subst vY
          subst ka
          simp at hs
          obtain ⟨rfl,rfl⟩:=hs
          refine⟨⟨h.kill id,Fr.kill _ _ _,_,rfl⟩,?_⟩
          obtain ⟨_,cV,bS⟩:=bS
          cases hv with
          | cN _ _ h=>cases h
          | lA _ _ _ _ _ h=>rw[ho] at h;simp at h
          | ng _ _ h hb=>left;exact⟨rfl,G9⟩
          | nJ _ _ _ b x bo iv h' hb hl =>
            right;left
            rcases bS with ⟨h1,_⟩ | ⟨b',o',EP,cur,t,h1,h2,_⟩
            · rw[hb] at h1;simp at h1
            · rw[hb] at h1;simp at h1
              obtain ⟨rfl,_⟩:=h1
              exact⟨id,b,x,bo,cur,t,rfl,G9,⟨_,ho,G9⟩,rfl,hb,h2⟩
          | ref _ _ _ _ b o cap cap' iv h' hb hl hc j6 =>
            rw[ho] at h';simp at h'
            subst h'
            rcases bS with ⟨h1,_⟩ | ⟨b',o',EP,cur,t,h1,h2,h3,h4,h5,h6⟩
            · rw[hb] at h1;simp at h1
            · rw[hb] at h1;simp at h1
              obtain ⟨rfl,rfl,rfl⟩:=h1
              right;right
              have hlen:((rows.drop off).take len).length=len:=Hj
              refine⟨id,off,rows,b,o,cap,cap',cur,t,ho,rfl,hb,h2,by rw[hlen],Ey,Ey,?_,?_,?_⟩
              · have:(off+cap') * lU<=cap * lU:=nE _ hc
                rw[gn] at this;omega
              · intro row bK
                exact cV row (zy (sV bK))
              · intro r c v aW
                simp only[cellAt,w5,oa] at aW
                split at aW
                · have:=h6 (off+r) c v aW
                  rw[gn] at this
                  have e:o+(off * lU+r * lU+c)=o+off * lU+(r * lU+c):=Ey
                  rw[e] at this
                  exact this
                · simp at aW
        · simp at hs
  · simp at hs
def agO(w:World)(t ty' e:TypeId)(i:TypeInfo)(ht:P.underlying t=some (.slice e))(hi:P.info? e=some i)(g o Bs Ml:Nat)(cur:Array Value)(tt:TypeId)(hg:w.heap[g]?=some (.cells cur tt (0,0)))(xa:Option Addr)(m c:Nat)(news:List Value)(hl:news.length=m*i.size)(zR:0<m->∃ a,xa=some a/\∀ j u,news[j]?=some u->w.cell? (a.add j)=some u)(h1:∀ u∈news,u.oneCell'=true)(Dd:Bs+m<=Ml)(lB:o+Bs*i.size+news.length<=cur.size):
  (Builtin.append_ #[t,t] ty' #[.slice (some ⟨g,o,none⟩) Bs Ml,.slice xa m c]).run P w =
   .ok (.slice (some ⟨g,o,none⟩) (Bs+m) Ml) (w.setRow g (cur.toList.take (o+Bs*i.size)++news++cur.toList.drop (o+Bs*i.size+news.length)).toArray):=by
 have hf:(Builtin.firstCells i.size m (.slice xa m c)).run P w=.ok news.toArray w:=by
  rcases pD m with h0|hp
  ·subst h0;have hn:news=[]:=AQ (by simpa using hl);subst hn;cases xa<;>simp[Builtin.firstCells,loadCells,loadCellsFrom]
  ·obtain⟨a,rfl,hc⟩:=zR hp;exact run_firstCells_some w i.size m a m c news hl hc
 have dF:=run_storeCells_at P g (o+Bs*i.size) tt news 0 cur w hg (by simpa using lB) h1;simp only[jK]at dF;simp[Builtin.append_,run_underlying ht,sizeOf,typeInfo,hi,Builtin.lenOf,Dd,hf,Addr.tu,dF]
def De{g:Nat->Value}{n j:Nat}{u:Value}(h:((bn n).map g)[j]?=some u):j<n/\u=g j:=by
 have hj:=(aY.1 h).1;simp at hj;simp[hj]at h;exact⟨hj,h.symm⟩
def agF{σ σ1:St}{γ:Cx}(h:bz σ γ){t oty:TypeId}{sz:Nat}{z:List Value}(hk:(ty P t).kind=1)(ei:(ty P (ty P t).elem).kind≠99)(hz:(ty P (ty P t).elem).zero=some z)(aO:sz=(ty P (ty P t).elem).size)(h0:0<sz)(ot:z.length=sz){sD x:AV}{uE E8:Value}(hS:aw σ.aa γ.w γ.Z γ.blk sD uE)(hX:aw σ.aa γ.w γ.Z γ.blk x E8){pre src:List (List AV)}(hd:mB σ sz sD=some (pre,σ1))(rU:oT σ x=some (sz,src))(hlen:pre.length+src.length<=549755813888)(E2:(ty P (ty P t).elem).bytes<=128)(ox:(src.all λrow=>row.all dh)=true):
    ∃ qP γ1,(Builtin.append_ #[t,t] oty #[uE,E8]).run P γ.w=.ok qP γ1.w/\γ1.tmps=γ.tmps/\bz { σ1 with aa:=σ1.aa++[.arr sz (pre++src)] } γ1 /\
      Fr σ.aa γ (σ1.aa++[.arr sz (pre++src)]) γ1/\aw (σ1.aa++[.arr sz (pre++src)]) γ1.w γ1.Z γ1.blk (.ref σ1.aa.length sz 0 (pre.length+src.length)) qP:=by
  obtain⟨i,d,hi,HQ,vU,E3,hzero⟩:=vV ei;have ht:=vT hk;have yF:i.size=sz:=by rw[<- vU,<- aO]
  obtain⟨zv,Bo,jQ⟩:∃zv,i.zero=some zv/\zv.cells.size=sz:=by
    rw[hzero]at hz;cases hv:i.zero with
    |none=>simp[hv]at hz
    |some v=>simp[hv]at hz;exact⟨v,rfl,by rw[<- ot,<- hz];simp⟩
  obtain⟨ad,c,g,rfl,nj,Mm,Df⟩:=Tg h hX h0 rU;obtain⟨⟨jD,hf1,_⟩,agQ⟩:=agN h hS hd
  let news:=(bn (src.length*sz)).map g
  have ak:news.length=src.length*i.size:=by simp[news,yF]
  have agR:∀ u∈news,u.oneCell'=true:=by
    intro u hu;obtain⟨j,hj⟩:=QJ.1 hu;obtain⟨iw,rfl⟩:=De hj;have h1:j/sz<src.length:=Nat.div_lt_of_lt_mul (by rw[vD];exact iw);have h2:j%sz<sz:=yw _ h0;have cV:(src[j/sz]).length=sz:=nj _ (tW h1);have:=Df (j/sz) (j%sz) ((src[j/sz])[j%sz]' Ey) (by simp[cellAt,h1,h2,cV]);have e:j/sz*sz+j%sz=j:=by rw[vD];exact QN j sz
    rw[e]at this;refine HX this ?_;rw[gA]at ox;have:=ox _ (tW h1);rw[gA]at this;exact this _ (tW _)
  have zR:0<src.length->∃ a,ad=some a/\∀ j u,news[j]?=some u->γ.w.cell? (a.add j)=some u:=by
    intro hp;obtain⟨b,o,rfl,hc⟩:=Mm hp;refine⟨_,rfl,λj u hu=>?_⟩;obtain⟨iw,rfl⟩:=De hu;rw[Addr.tu];exact hc j iw
  have zS:pre.length+src.length<=maxLen:=by unfold maxLen;omega
  have lX:(pre.length+src.length)*i.bytes<=140737488355328:=by
    rw[<- E3]
    calc _<=549755813888*128:=Nat.mul_le_mul hlen E2
      _<=_:=Ey
  have fresh:∀ (eK:Nat) (go:Nat->Value),(∀ row∈pre,row.length=sz)->(∀ r c v,cellAt pre r c=some v->aw σ.aa γ.w γ.Z γ.blk v (go (r*sz+c))) ->
      ∀ (w':World) (cap:Nat),pre.length+src.length<=cap->cap<=maxLen ->
        w'=γ.w.drew.alloc (.cells (((bn (pre.length*sz)).map go).toArray++news.toArray++Builtin.zeroCells zv.cells (cap-(pre.length+src.length))) (ty P t).elem) ->
        ∃ γ1:Cx,γ1.w=w'/\γ1.tmps=γ.tmps/\bz { σ1 with aa:=σ1.aa++[.arr sz (pre++src)] } γ1/\Fr σ.aa γ (σ1.aa++[.arr sz (pre++src)]) γ1 /\
          aw (σ1.aa++[.arr sz (pre++src)]) γ1.w γ1.Z γ1.blk (.ref σ1.aa.length sz 0 (pre.length+src.length)) (.slice (some ⟨γ.w.heap.size,0,none⟩) (pre.length+src.length) cap):=by
    intro eK go dG H0 w' cap kT zT rR;have H2:∀ v cv,aw σ.aa γ.w γ.Z γ.blk v cv->aw σ1.aa γ.w γ.Z γ.blk v cv:=by
      intro v cv hv;refine hv.mono (λb hb=>⟨hb,rfl⟩) (λi o ho=>?_);unfold mB at hd;split at hd
      · simp at hd
        rw[<- hd.2];by_cases bL:o=.gone
        · subst bL;exact .inl ho
        · exact .inr ⟨rfl,o,ho,Ob.jS bL⟩
      · rename_i id dj off len
        have hi:i<σ.aa.length:=(aY.1 ho).1;split at hd
        · split at hd
          · simp at hd
            rw[<- hd.2];show(σ.aa.set id Ob.gone)[i]?=some Ob.gone\/_;simp only[bU];by_cases oo:id=i
            · left;simp[oo,hi]
            · rw[if_neg oo]
              by_cases bL:o=.gone
              · subst bL;exact .inl ho
              · exact .inr ⟨trivial,o,ho,Ob.jS bL⟩
          · simp at hd
        · simp at hd
      · simp at hd
    let cur:=((bn (pre.length*sz)).map go).toArray++news.toArray++Builtin.zeroCells zv.cells (cap-(pre.length+src.length))
    have bS:uC σ1.aa γ.w γ.Z γ.blk 0 cap cur (.arr sz (pre++src)):=by
      refine⟨h0,?_,?_,by simpa using kT,zT,?_⟩
      · intro row bK
        rcases cG.1 bK with h|h
        · exact dG row h
        · exact nj row h
      · simp only[cur,news,Array.size_append,Ev,gD,List.length_range,size_zeroCells,jQ,<- gn]
        have:pre.length+src.length+(cap-(pre.length+src.length))=cap:=Ey;rw[this];omega
      · intro r c v hv
        have:=agM (R:=aw σ1.aa γ.w γ.Z γ.blk) dG nj (λr c v hv=>H2 _ _ (H0 r c v hv)) (λr c v hv=>H2 _ _ (Df r c v hv)) (Builtin.zeroCells zv.cells (cap-(pre.length+src.length))).toList r c v hv;rw[gR];have e:cur=(((bn (pre.length*sz)).map go)++((bn (src.length*sz)).map g)++(Builtin.zeroCells zv.cells (cap-(pre.length+src.length))).toList).toArray:=by
          apply Array.ext';simp[cur,news]
        rw[e];exact this
    refine⟨{ γ with w:=w',blk:=dq γ.blk σ1.aa.length (some (γ.w.heap.size,0,cap)) },rfl,rfl,?_,?_,?_⟩
    · exact jD.push (t:=(ty P t).elem) (cur:=cur) (by rw[rR];rfl) bS
    · exact hf1.trans (Fr.push (σ:=σ1) (t:=(ty P t).elem) (cur:=cur) _ (by rw[rR];rfl) (by rw[rR];rfl) (by rw[rR];rfl) (by rw[rR];rfl) (by rw[rR];exact Nat.le_succ _))
    · have:=aw.ref (os:=σ1.aa++[.arr sz (pre++src)]) (w:=w') (Z:=γ.Z) (blk:=dq γ.blk σ1.aa.length (some (γ.w.heap.size,0,cap))) σ1.aa.length sz 0 (pre.length+src.length) γ.w.heap.size 0 cap cap (pre++src)
        G9 (by simp[dq]) G9 Ey kT
      simpa using this
  rcases agQ with⟨rfl,rfl⟩|⟨id,b,x,bo,cur,tt,rfl,rfl,jT,rfl,hb,jt⟩|⟨id,off,rows,b,o,cap,cap',cur,tt,ho,rfl,hb,jt,rfl,vZ,jU,lB,dG,H0⟩
  · rcases pD src.length with hm|hp
    ·
      have eX:src=[]:=AQ hm;subst eX;refine⟨.slice none 0 0,{ γ with blk:=dq γ.blk σ1.aa.length none },?_,rfl,jD.Bi h0,hf1.trans (Fr.Bi _ _ _),?_⟩
      · cases ad<;>simp[Builtin.append_,run_underlying ht,sizeOf,typeInfo,hi,Builtin.lenOf,Builtin.firstCells,loadCells,loadCellsFrom]
      · exact .ng _ _ G9 (by simp[dq])
    · obtain⟨a,rfl,hc⟩:=zR hp
      have hr:=run_append_nil (P:=P) γ.w t oty _ i zv ht hi Bo a src.length c news ak hc hp (by unfold maxLen at zS;simp at zS;omega) (by have hb:=lX;simp only[ln,gR]at hb;omega);have iy:=grownCap_ge γ.w src.length 0 (ty P t).elem;have jU:=grownCap_le_maxLen γ.w src.length 0 (ty P t).elem (by simpa using zS);obtain⟨γ1,e1,e2,e3,e4,e5⟩:=fresh 0 (λ_=>Go.undef) G9 (by simp[cellAt]) _ (grownCap γ.w src.length 0 (ty P t).elem) (by simpa using iy) jU rfl;simp only[ln,Nat.zero_mul,List.range_zero,List.map_nil,gR,Array.empty_append]at e1 e5;refine⟨.slice (some ⟨γ.w.heap.size,0,none⟩) src.length (grownCap γ.w src.length 0 (ty P t).elem),γ1,?_,e2,e3,e4,?_⟩
      · rw[hr,e1]
      · simpa using e5
  · rcases pD src.length with hm|hp
    · have eX:src=[]:=AQ hm
      subst eX;obtain⟨ob,ho,hg⟩:=jT;have nL:∀ k,k≠b->γ.w.heap[k]?=γ.w.heap[k]?:=λ_ _=>rfl;have Mn:=h.E6 (ob':=.arr sz []) (o':=0) (cap':=0) ho hg (o:=bo.1) (cap:=bo.2) hb jt nL rfl ⟨h0,G9,G9,G9,by simp[maxLen],by simp[cellAt]⟩;have eG:=Fr.E6 (γ:=γ) (o':=0) (cap':=0) (.arr sz []) ho hg (o:=bo.1) (cap:=bo.2) hb (w':=γ.w) nL rfl rfl rfl rfl;refine⟨.slice (some ⟨b,x,none⟩) 0 0,{ γ with w:=γ.w,blk:=dq γ.blk σ.aa.length (some (b,0,0)) },?_,rfl,by simpa using Mn,by simpa using eG,?_⟩
      · cases ad<;>simp[Builtin.append_,run_underlying ht,sizeOf,typeInfo,hi,Builtin.lenOf,Builtin.firstCells,loadCells,loadCellsFrom,storeCells]
      · have:=aw.nJ (os:=σ.aa.set id .gone++[.arr sz []]) (w:=γ.w) (Z:=γ.Z) (blk:=dq γ.blk σ.aa.length (some (b,0,0))) σ.aa.length sz 0 b x (0,0) []
          (by rw[iq G9];simp) (by simp[dq]) G9
        simpa using this
    · obtain⟨a,rfl,hc⟩:=zR hp
      have hr:=run_append_grow (P:=P) γ.w t oty _ i zv ht hi Bo ⟨b,x,none⟩ 0 0 [] G9 G9 a src.length c news ak hc Ey (by unfold maxLen at zS;simp at zS;omega) (growslice_fits Ey (by simpa using lX));have iy:=grownCap_ge γ.w (0+src.length) 0 (ty P t).elem;have jU:=grownCap_le_maxLen γ.w (0+src.length) 0 (ty P t).elem (by simpa using zS);obtain⟨γ1,e1,e2,e3,e4,e5⟩:=fresh 0 (λ_=>Go.undef) G9 (by simp[cellAt]) _ (grownCap γ.w (0+src.length) 0 (ty P t).elem) (by simpa using iy) jU rfl;refine⟨.slice (some ⟨γ.w.heap.size,0,none⟩) (0+src.length) (grownCap γ.w (0+src.length) 0 (ty P t).elem),γ1,?_,e2,e3,e4,?_⟩
      · rw[hr,e1];simp
      · simpa using e5
  · by_cases Dd:pre.length+src.length<=cap'
    ·
      have hmul:pre.length*sz+src.length*sz<=cap'*sz:=by rw[<- gn];exact nE _ Dd
      have H3:news.length=src.length*sz:=by rw[ak,yF]
      have hr:=agO (P:=P) γ.w t oty _ i ht hi b (o+off*sz) pre.length cap' cur tt jt ad src.length c news ak zR agR Dd (by rw[yF,H3];omega);have bS:uC σ.aa γ.w γ.Z γ.blk (o+off*sz) cap' (cur.toList.take (o+off*sz+pre.length*i.size)++news++cur.toList.drop (o+off*sz+pre.length*i.size+news.length)).toArray (.arr sz (pre++src)):=by
        refine⟨h0,?_,?_,by simpa using Dd,jU,?_⟩
        · intro row bK
          rcases cG.1 bK with h|h
          · exact dG row h
          · exact nj row h
        · simp only[Ev,bN,e9,wY,sU,yF,H3]
          omega
        · intro r c v hv
          rw[E5 cur _ news (by rw[yF,H3];omega),yF,H3];rw[Th]at hv;split at hv
          · obtain⟨lY,kT⟩:=ER dG hv
            have:=Bd lY kT;rw[if_neg Ey];exact H0 r c v hv
          · obtain⟨lY,kT⟩:=ER nj hv
            have hl:=Bd lY kT;have e:r*sz+c=pre.length*sz+((r-pre.length)*sz+c):=by
              have:r=pre.length+(r-pre.length):=Ey
              conv=>lhs;rw[this,gn]
              omega
            rw[if_pos Ey];have e2:o+off*sz+(r*sz+c)-(o+off*sz+pre.length*sz)=(r-pre.length)*sz+c:=Ey;rw[e2];simp only[news,ay];simp[hl];exact Df _ _ _ hv
      have Mn:=h.E6 ho G9 hb (setRow_heap γ.w b cur _ tt _ jt) (λk hk=>setRow_other γ.w b k _ hk) (setRow_size _ _ _) bS;have eG:=Fr.E6 (γ:=γ) (o':=o+off*sz) (cap':=cap') (.arr sz (pre++src)) ho G9 hb (w':=γ.w.setRow b (cur.toList.take (o+off*sz+pre.length*i.size)++news++cur.toList.drop (o+off*sz+pre.length*i.size+news.length)).toArray) (λk hk=>setRow_other γ.w b k _ hk) (setRow_size _ _ _) rfl rfl rfl;refine⟨_,{ γ with w:=γ.w.setRow b (cur.toList.take (o+off*sz+pre.length*i.size)++news++cur.toList.drop (o+off*sz+pre.length*i.size+news.length)).toArray,blk:=dq γ.blk σ.aa.length (some (b,o+off*sz,cap')) },hr,rfl,?_,?_,?_⟩
      · simpa using Mn
      · simpa using eG
      · have:=aw.ref (os:=σ.aa.set id .gone++[.arr sz (pre++src)]) (w:=γ.w.setRow b (cur.toList.take (o+off*sz+pre.length*i.size)++news++cur.toList.drop (o+off*sz+pre.length*i.size+news.length)).toArray) (Z:=γ.Z)
          (blk:=dq γ.blk σ.aa.length (some (b,o+off*sz,cap'))) σ.aa.length sz 0 (pre.length+src.length) b (o+off*sz) cap' cap' (pre++src)
          (by rw[iq G9];simp) (by simp[dq]) G9 Ey Dd
        simpa using this
    ·
      let go:Nat->Value:=λj=>cur.getD (o+off*sz+j) Go.undef
      let H4:=(bn (pre.length*sz)).map go
      have nN:H4.length=pre.length*i.size:=by simp[H4,yF]
      have ap1:pre.length*sz<=cap'*sz:=nE _ vZ;have holds:∀ j v,H4[j]?=some v->γ.w.cell? ((⟨b,o+off*sz,none⟩:Addr).add j)=some v:=by
        intro j v hj;obtain⟨iw,rfl⟩:=De hj;rw[Addr.tu];exact Be jt Ey
      have hp:0<src.length:=Ey;obtain⟨a,rfl,hc⟩:=zR hp;have hr:=run_append_grow (P:=P) γ.w t oty _ i zv ht hi Bo ⟨b,o+off*sz,none⟩ pre.length cap' H4 nN holds a src.length c news ak hc Ey (by unfold maxLen at zS;omega) (growslice_fits Ey lX);have iy:=grownCap_ge γ.w (pre.length+src.length) cap' (ty P t).elem;have agS:=grownCap_le_maxLen γ.w (pre.length+src.length) cap' (ty P t).elem zS;obtain⟨γ1,e1,e2,e3,e4,e5⟩:=fresh 0 go dG H0 _ (grownCap γ.w (pre.length+src.length) cap' (ty P t).elem) iy agS rfl;refine⟨_,γ1,?_,e2,e3,e4,e5⟩;rw[hr,e1]
def agG{σ:St}{γ:Cx}(h:bz σ γ){t t' oty:TypeId}{sz:Nat}(hk:(ty P t).kind=1)(ei:(ty P (ty P t).elem).kind≠99)(aO:sz=(ty P (ty P t).elem).size)(h0:0<sz){id off len:Nat}{x:AV}{uE E8:Value}(hS:aw σ.aa γ.w γ.Z γ.blk (.ref id sz off len) uE)(hX:aw σ.aa γ.w γ.Z γ.blk x E8){rows:List (List AV)}(ho:σ.aa[id]?=some (.arr sz rows)){src:List (List AV)}(rU:oT σ x=some (sz,src))(ox:(src.all λrow=>row.all dh)=true):
  ∃ w',(Builtin.copy_ #[t,t'] oty #[uE,E8]).run P γ.w=.ok (.int .i64 (min src.length len:Nat)) w' /\
   bz { σ with aa:=σ.aa.set id (.arr sz (rows.take off++src.take (min src.length len)++rows.drop (off+min src.length len))) } { γ with w:=w' } /\
   Fr σ.aa γ (σ.aa.set id (.arr sz (rows.take off++src.take (min src.length len)++rows.drop (off+min src.length len)))) { γ with w:=w' }:=by
 obtain⟨i,d,hi,HQ,vU,E3,hzero⟩:=vV ei;have ht:=vT hk;have yF:i.size=sz:=by rw[<- vU,<- aO]
 obtain⟨ad,c,g,rfl,nj,Mm,Df⟩:=Tg h hX h0 rU;have bZ:id<σ.aa.length:=(aY.1 ho).1;have zero:∀ (Bt:Option Addr) (cap':Nat),min src.length len=0->uE=.slice Bt len cap'->∃ w',(Builtin.copy_ #[t,t'] oty #[uE,.slice ad src.length c]).run P γ.w=.ok (.int .i64 (min src.length len:Nat)) w' /\
   bz { σ with aa:=σ.aa.set id (.arr sz (rows.take off++src.take (min src.length len)++rows.drop (off+min src.length len))) } { γ with w:=w' } /\
   Fr σ.aa γ (σ.aa.set id (.arr sz (rows.take off++src.take (min src.length len)++rows.drop (off+min src.length len)))) { γ with w:=w' }:=by
  intro Bt cap' hz aW;have iP:σ.aa.set id (.arr sz rows)=σ.aa:=by
   apply lq;intro j;rw[bU];split
   ·rename_i e;subst e;simp[ho]
   ·rfl
  refine⟨γ.w,?_,?_,?_⟩
  ·have hm:Nat.min src.length len=0:=hz;subst aW;cases ad<;>cases Bt<;>simp[Builtin.copy_,run_underlying ht,sizeOf,typeInfo,hi,Builtin.lenOf,Builtin.firstCells,loadCells,loadCellsFrom,storeCells,hm,goInt,hz]
  ·rw[hz];simp[iP];exact h
  ·rw[hz];simp[iP];exact Fr.refl _ _
 cases hS with
 |cN _ _ h=>cases h
 |lA _ _ _ _ _ h=>rw[ho]at h;simp at h
 |ng _ _ h hb=>exact zero none 0 G9 rfl
 |nJ _ _ _ b x bo iv h hb hl=>exact zero _ 0 G9 rfl
 |ref _ _ _ _ b o cap cap' iv h' hb hl hc j6 =>
  rw[ho]at h';simp at h';subst h';rcases pD (min src.length len) with hz|hp
  ·exact zero _ _ hz rfl
  obtain⟨_,cV,bS⟩:=h.ec id _ ho;rcases bS with⟨h1,_⟩|⟨b',o',EP,cur,tt,h1,h2,h3,h4,h5,h6⟩
  ·rw[hb]at h1;simp at h1
  rw[hb]at h1;simp at h1;obtain⟨rfl,rfl,rfl⟩:=h1;generalize hn:min src.length len=n at *;have o8:n<=src.length:=Ey;have pd:n<=len:=Ey
  let news:=(bn (n*sz)).map g
  have ak:news.length=n*sz:=by simp[news]
  have nk:∀ u∈news,u.oneCell'=true:=by
   intro u hu;obtain⟨j,hj⟩:=QJ.1 hu;obtain⟨iw,rfl⟩:=De hj;have k1:j/sz<n:=Nat.div_lt_of_lt_mul (by rw[vD];exact iw);have k2:j%sz<sz:=yw _ h0;have k3:j/sz<src.length:=Ey;have cV:(src[j/sz]).length=sz:=nj _ (tW k3);have:=Df (j/sz) (j%sz) ((src[j/sz])[j%sz]' Ey) (by simp[cellAt,k3,k2,cV]);have e:j/sz*sz+j%sz=j:=by rw[vD];exact QN j sz
   rw[e]at this;refine HX this ?_;rw[gA]at ox;have:=ox _ (tW k3);rw[gA]at this;exact this _ (tW _)
  obtain⟨sb,so,rfl,xg⟩:=Mm Ey;have hle:n*sz<=src.length*sz:=nE _ o8;have E9:=run_loadCells_list (P:=P) γ.w ⟨sb,so,none⟩ news (λj v hj=>by
   obtain⟨iw,rfl⟩:=De hj;rw[Addr.tu];exact xg j Ey)
  have lB:(off+n)*sz<=cap*sz:=nE _ Ey;rw[gn]at lB;have dF:=run_storeCells_at P b (o+off*sz) tt news 0 cur γ.w h2 (by rw[ak];omega) nk;simp only[jK]at dF;have fj:(Builtin.copy_ #[t,t'] oty #[.slice (some ⟨b,o+off*sz,none⟩) len cap',.slice (some ⟨sb,so,none⟩) src.length c]).run P γ.w=.ok (.int .i64 (n:Nat)) (γ.w.setRow b (cur.toList.take (o+off*sz)++news++cur.toList.drop (o+off*sz+news.length)).toArray):=by
   have hm:Nat.min src.length len=n:=hn;rw[ak]at E9;simp[Builtin.copy_,run_underlying ht,sizeOf,typeInfo,hi,Builtin.lenOf,Builtin.firstCells,hm,yF,E9,dF,goInt]
  have Mo:uC σ.aa γ.w γ.Z γ.blk o cap (cur.toList.take (o+off*sz)++news++cur.toList.drop (o+off*sz+news.length)).toArray (.arr sz (rows.take off++src.take n++rows.drop (off+n))):=by
   refine⟨h0,?_,?_,?_,h5,?_⟩
   ·intro row bK;simp only[cG]at bK;rcases bK with(hr|hr)|hr
    ·exact cV row (sV hr)
    ·exact nj row (sV hr)
    ·exact cV row (zy hr)
   ·simp only[Ev,bN,e9,wY,sU,ak];omega
   ·simp;omega
   ·intro r cc v hv;rw[E5 cur _ news (by rw[ak];omega),ak];have aX:cc<sz:=by
     simp only[cellAt,AO]at hv;obtain⟨y,hy,rW⟩:=hv;have hm:=hZ hy;have:=(aY.1 rW).1;simp only[cG]at hm;rcases hm with(hr|hr)|hr
     ·have:=cV y (sV hr);omega
     ·have:=nj y (sV hr);omega
     ·have:=cV y (zy hr);omega
    rcases dT r off with k1|k1
    ·have e:cellAt (rows.take off++src.take n++rows.drop (off+n)) r cc=cellAt rows r cc:=by
      simp only[cellAt,bH];rw[fe Hj,w5,if_pos k1]
     rw[e]at hv;have hm:(r+1)*sz<=off*sz:=nE _ Ey;rw[gn]at hm;rw[if_neg Ey];exact h6 r cc v hv
    ·rcases dT r (off+n) with k2|k2
     ·have e:cellAt (rows.take off++src.take n++rows.drop (off+n)) r cc=cellAt src (r-off) cc:=by
       simp only[cellAt,bH];rw[iq Hj,fe Hj,w5,if_pos Hj];congr 2;simp;omega
      rw[e]at hv;have e1:r=off+(r-off):=Ey;have e2:r*sz=off*sz+(r-off)*sz:=by rw[<- gn,<- e1]
      have hm:(r-off+1)*sz<=n*sz:=nE _ Ey;rw[gn]at hm;rw[if_pos Ey];have e3:o+(r*sz+cc)-(o+off*sz)=(r-off)*sz+cc:=Ey;rw[e3];have hl:(r-off)*sz+cc<n*sz:=Ey;simp only[news,ay];simp[hl];exact Df _ _ _ hv
     ·have e:cellAt (rows.take off++src.take n++rows.drop (off+n)) r cc=cellAt rows r cc:=by
       simp only[cellAt];rw[iq Hj,oa];congr 2;simp;omega
      rw[e]at hv;have hm:(off+n)*sz<=r*sz:=nE _ k2;rw[gn]at hm;rw[if_neg Ey];exact h6 r cc v hv
  refine⟨_,fj,?_,?_⟩
  ·exact h.write ho G9 (by simp[Ob.ew];omega) hb (setRow_heap γ.w b cur _ tt _ h2) (λk hk=>setRow_other γ.w b k _ hk) (setRow_size _ _ _) Mo
  ·exact Fr.write _ ho G9 (by simp[Ob.ew];omega) hb (λk hk=>setRow_other γ.w b k _ hk) (setRow_size _ _ _) rfl rfl rfl
def agH{σ:St}{γ:Cx}(h:bz σ γ){t oty:TypeId}{sz:Nat}{z:List Value}(hk:(ty P t).kind=1)(ei:(ty P (ty P t).elem).kind≠99)(ot:z.length=sz)(h0:0<sz)(hz:(ty P (ty P t).elem).zero=some z)(vW:(z.all λu=>u.oneCell')=true){id off len:Nat}{uE:Value}(hS:aw σ.aa γ.w γ.Z γ.blk (.ref id sz off len) uE){rows:List (List AV)}(ho:σ.aa[id]?=some (.arr sz rows)):
  ∃ w',(Builtin.clear_ #[t] oty #[uE]).run P γ.w=.ok (.tuple #[]) w' /\
   bz { σ with aa:=σ.aa.set id (.arr sz (rows.take off++aK len (z.map AV.lit)++rows.drop (off+len))) } { γ with w:=w' } /\
   Fr σ.aa γ (σ.aa.set id (.arr sz (rows.take off++aK len (z.map AV.lit)++rows.drop (off+len)))) { γ with w:=w' }:=by
 obtain⟨i,d,hi,HQ,vU,E3,hzero⟩:=vV ei;have ht:=vT hk;rw[hz]at hzero;obtain⟨zv,Bo,jQ⟩:=wT.1 hzero.symm;have Mp:zv.cells.size=sz:=by rw[<- ot,<- jQ];simp
 have bZ:id<σ.aa.length:=(aY.1 ho).1;have zero:∀ (Bt:Option Addr) (cap':Nat),len=0->uE=.slice Bt len cap'->∃ w',(Builtin.clear_ #[t] oty #[uE]).run P γ.w=.ok (.tuple #[]) w' /\
   bz { σ with aa:=σ.aa.set id (.arr sz (rows.take off++aK len (z.map AV.lit)++rows.drop (off+len))) } { γ with w:=w' } /\
   Fr σ.aa γ (σ.aa.set id (.arr sz (rows.take off++aK len (z.map AV.lit)++rows.drop (off+len)))) { γ with w:=w' }:=by
  intro Bt cap' Dg aW;have iP:σ.aa.set id (.arr sz rows)=σ.aa:=by
   apply lq;intro j;rw[bU];split
   ·rename_i e;subst e;simp[ho]
   ·rfl
  refine⟨γ.w,?_,?_,?_⟩
  ·subst aW;subst Dg;cases Bt<;>simp[Builtin.clear_,run_underlying ht]
  ·subst Dg;simp[iP];exact h
  ·subst Dg;simp[iP];exact Fr.refl _ _
 cases hS with
 |cN _ _ h=>cases h
 |lA _ _ _ _ _ h=>rw[ho]at h;simp at h
 |ng _ _ h hb=>exact zero none 0 rfl rfl
 |nJ _ _ _ b x bo iv h hb hl=>exact zero _ 0 rfl rfl
 |ref _ _ _ _ b o cap cap' iv h' hb hl hc j6 =>
  rw[ho]at h';simp at h';subst h';rcases pD len with Dg|hp
  ·exact zero _ _ Dg rfl
  obtain⟨_,cV,bS⟩:=h.ec id _ ho;rcases bS with⟨h1,_⟩|⟨b',o',EP,cur,tt,h1,h2,h3,h4,h5,h6⟩
  ·rw[hb]at h1;simp at h1
  rw[hb]at h1;simp at h1;obtain⟨rfl,rfl,rfl⟩:=h1
  let g:Nat->Value:=λi=>zv.cells[i%zv.cells.size]!
  let news:=(bn (len*sz)).map g
  have zR:(Builtin.zeroCells zv.cells len).toList=news:=by
   simp[Builtin.zeroCells,news,g,Mp]
  have ak:news.length=len*sz:=by simp[news]
  have Ti:∀ i,i<sz->∃ u,z[i]?=some u/\zv.cells[i]! = u:=by
   intro i au;have:i<zv.cells.size:=Ey;refine⟨zv.cells[i],?_,?_⟩
   ·rw[<- jQ];simp[this]
   ·simp[this]
  have nk:∀ u∈news,u.oneCell'=true:=by
   intro u hu;obtain⟨j,hj⟩:=QJ.1 hu;obtain⟨iw,rfl⟩:=De hj;obtain⟨u,k1,k2⟩:=Ti (j%sz) (yw _ h0);show(zv.cells[j%zv.cells.size]!).oneCell'=true;rw[Mp,k2];rw[gA]at vW;exact vW _ (hZ k1)
  have lB:(off+len)*sz<=cap*sz:=nE _ Ey;rw[gn]at lB;have dF:=run_storeCells_at P b (o+off*sz) tt news 0 cur γ.w h2 (by rw[ak];omega) nk;simp only[jK]at dF;have fj:(Builtin.clear_ #[t] oty #[.slice (some ⟨b,o+off*sz,none⟩) len cap']).run P γ.w=.ok (.tuple #[]) (γ.w.setRow b (cur.toList.take (o+off*sz)++news++cur.toList.drop (o+off*sz+news.length)).toArray):=by
   obtain⟨ap2,rfl⟩:∃k,len=k+1:=⟨len-1,Ey⟩;simp[Builtin.clear_,run_underlying ht,zeroValue,typeInfo,hi,Bo,zR,dF]
  have Mo:uC σ.aa γ.w γ.Z γ.blk o cap (cur.toList.take (o+off*sz)++news++cur.toList.drop (o+off*sz+news.length)).toArray (.arr sz (rows.take off++aK len (z.map AV.lit)++rows.drop (off+len))):=by
   refine⟨h0,?_,?_,?_,h5,?_⟩
   ·intro row bK;simp only[cG]at bK;rcases bK with(hr|hr)|hr
    ·exact cV row (sV hr)
    ·rw[CN hr,gD];exact ot
    ·exact cV row (zy hr)
   ·simp only[Ev,bN,e9,wY,sU,ak];omega
   ·simp;omega
   ·intro r cc v hv;rw[E5 cur _ news (by rw[ak];omega),ak];have aX:cc<sz:=by
     simp only[cellAt,AO]at hv;obtain⟨y,hy,rW⟩:=hv;have hm:=hZ hy;have:=(aY.1 rW).1;simp only[cG]at hm;rcases hm with(hr|hr)|hr
     ·have:=cV y (sV hr);omega
     ·have hy2:=CN hr;rw[hy2,gD]at this;omega
     ·have:=cV y (zy hr);omega
    rcases dT r off with k1|k1
    ·have e:cellAt (rows.take off++aK len (z.map AV.lit)++rows.drop (off+len)) r cc=cellAt rows r cc:=by
      simp only[cellAt,bH];rw[fe Hj,w5,if_pos k1]
     rw[e]at hv;have hm:(r+1)*sz<=off*sz:=nE _ Ey;rw[gn]at hm;rw[if_neg Ey];exact h6 r cc v hv
    ·rcases dT r (off+len) with k2|k2
     ·have e:cellAt (rows.take off++aK len (z.map AV.lit)++rows.drop (off+len)) r cc=(z.map AV.lit)[cc]?:=by
       simp only[cellAt,bH];rw[iq Hj,fe Hj,List.getElem?_replicate,if_pos Hj];rfl
      rw[e,bM]at hv;obtain⟨u,k3,k4⟩:=Ti cc aX;rw[k3]at hv;simp only[fc,cH.injEq]at hv;subst hv;have e1:r=off+(r-off):=Ey;have e2:r*sz=off*sz+(r-off)*sz:=by rw[<- gn,<- e1]
      have hm:(r-off+1)*sz<=len*sz:=nE _ Ey;rw[gn]at hm;rw[if_pos Ey];have e3:o+(r*sz+cc)-(o+off*sz)=(r-off)*sz+cc:=Ey;rw[e3];have hl:(r-off)*sz+cc<len*sz:=Ey;have e4:news.getD ((r-off)*sz+cc) Go.undef=u:=by
       simp only[news,ay];rw[bM,List.getElem?_range hl];show zv.cells[((r-off)*sz+cc)%zv.cells.size]! = u;rw[Mp,vD,Nat.mul_add_mod,KQ aX,k4]
      first
       | (rw[e4];exact .lit _)
       | (simp only[ay]at e4 ⊢;rw[e4];exact .lit _)
     ·have e:cellAt (rows.take off++aK len (z.map AV.lit)++rows.drop (off+len)) r cc=cellAt rows r cc:=by
       simp only[cellAt];rw[iq Hj,oa];congr 2;simp;omega
      rw[e]at hv;have hm:(off+len)*sz<=r*sz:=nE _ k2;rw[gn]at hm;rw[if_neg Ey];exact h6 r cc v hv
  refine⟨_,fj,?_,?_⟩
  ·exact h.write ho G9 (by simp[Ob.ew];omega) hb (setRow_heap γ.w b cur _ tt _ h2) (λk hk=>setRow_other γ.w b k _ hk) (setRow_size _ _ _) Mo
  ·exact Fr.write _ ho G9 (by simp[Ob.ew];omega) hb (λk hk=>setRow_other γ.w b k _ hk) (setRow_size _ _ _) rfl rfl rfl
end Go.Am
namespace Go.Am
variable {P:Program}
def agU(l:List Value):∀ (j off:Nat) (cells:Array Value),off+j+l.length<=cells.size ->
  ((l.zipIdx j).foldl (λcs (x:Value×Nat)=>cs.setIfInBounds (off+x.2) x.1) cells).size=cells.size /\
  ∀ k,((l.zipIdx j).foldl (λcs (x:Value×Nat)=>cs.setIfInBounds (off+x.2) x.1) cells).getD k Go.undef=if off+j<=k/\k<off+j+l.length then l.getD (k-(off+j)) Go.undef else cells.getD k Go.undef:=by
 induction l with
 |nil=>intro j off cells _;simp;intro k h1 h2;omega
 |cons v l ih =>
  intro j off cells hl;simp only[du]at hl;simp only[List.zipIdx_cons,List.foldl_cons];obtain⟨h1,h2⟩:=ih (j+1) off (cells.setIfInBounds (off+j) v) Hj;refine⟨by rw[h1];simp,λk=>?_⟩;rw[h2 k];simp only[du];by_cases c1:off+(j+1)<=k/\k<off+(j+1)+l.length
  ·rw[if_pos c1,if_pos Ey];have:k-(off+j)=(k-(off+(j+1)))+1:=Ey;rw[this];simp
  ·rw[if_neg c1];by_cases c2:k=off+j
   ·subst c2;rw[if_pos Ey];simp[eU,show off+j<cells.size by omega]
   ·rw[if_neg Ey];simp[eU,Array.getElem?_setIfInBounds_ne (Ne.symm c2)]
def agV(v:Value)(off:Nat)(cells:Array Value):
  (v.cells.zipIdx.foldl (λcs (c,j)=>cs.setIfInBounds (off+j) c) cells)=((v.cells.toList.zipIdx 0).foldl (λcs (x:Value×Nat)=>cs.setIfInBounds (off+x.2) x.1) cells):=by
 rw[<- Array.foldl_toList];simp
def E'(R:AV->Value->Prop)(cs:List AV)(cur:Array Value):Prop:=cur.size=cs.length/\∀ j x,cs[j]?=some x->R x (cur.getD j Go.undef)
def HS{σ:St}{γ:Cx}{place:Nat->Option (Nat×Nat)}:∀ (parts:List (Nat×AV)) (pv:List (Nat×Value)) (cs:List AV) (cur:Array Value) (td:List AV),
  parts.length=pv.length->(∀ (j:Nat) (p:Nat×AV) (q:Nat×Value),parts[j]?=some p->pv[j]?=some q->p.1=q.1/\aw σ.aa γ.w γ.Z γ.blk p.2 q.2)->(∀ p∈parts,(cellsOf p.2).all dh=true) ->
  E' (aw σ.aa γ.w γ.Z γ.blk) cs cur->nG place cs parts=some td->∃ lW,Instr.fill place cur pv=some lW/\E' (aw σ.aa γ.w γ.Z γ.blk) td lW
 |[],pv,cs,cur,td,hl,_,_,hc,h=>by
  have:pv=[]:=AQ hl.symm;subst this;simp[nG]at h;subst h;exact⟨cur,by simp[Instr.fill],hc⟩
 | (i,v)::rest,[],cs,cur,td,hl,_,_,_,_=>by simp at hl
 | (i,v)::rest,(i',x)::pv,cs,cur,td,hl,hr,hs,hc,h=>by
  obtain⟨e1,e2⟩:=hr 0 (i,v) (i',x) rfl rfl;simp only at e1 e2;subst e1;simp only[nG]at h;cases hp:place i with
  |none=>simp[hp]at h
  |some os =>
   obtain⟨off,size⟩:=os;simp only[hp]at h;split at h
   ·rename_i agW;obtain⟨h1,h2⟩:=agW;obtain⟨g1,g2,g3⟩:=L7 e2 (hs (i,v) G9);have aO:x.cells.size=size:=by rw[g1,h1]
    obtain⟨fX,qO⟩:=hc;have lB:off+0+x.cells.toList.length<=cur.size:=by simp[aO,fX];omega
    obtain⟨f1,f2⟩:=agU x.cells.toList 0 off cur lB;have Bu:E' (aw σ.aa γ.w γ.Z γ.blk) (setCells cs off (cellsOf v)) (x.cells.zipIdx.foldl (λcs (c,j)=>cs.setIfInBounds (off+j) c) cur):=by
     rw[agV];refine⟨by rw[f1,Ma];exact fX,λj y hj=>?_⟩;rw[Te _ _ _ (by rw[h1];exact h2)]at hj;rw[f2 j];simp only[jK,sU,aO];rw[h1]at hj;by_cases da:off<=j/\j<off+size
     ·rw[if_pos da]at hj;rw[if_pos da];have:=g2 _ _ hj;simpa [ay,eU] using this
     ·rw[if_neg da]at hj;rw[if_neg da];exact qO j y hj
    obtain⟨lW,k1,k2⟩:=HS rest pv _ _ td (by simpa using hl) (λj p q hp hq=>hr (j+1) p q (by simpa using hp) (by simpa using hq)) (λp hp=>hs p (by simp[hp])) Bu h;refine⟨lW,?_,k2⟩;simp only[Instr.fill,hp];rw[if_neg ?_]
    ·exact k1
    ·simp[aO,fX];omega
   ·simp at h
def L6{os:List Ob}{w:World}{Z:Nat->Prop}{blk:gU}(z:List Value):E' (aw os w Z blk) (z.map .lit) z.toArray:=by
 refine⟨G9,λj x hx=>?_⟩;simp only[bM]at hx;cases hj:z[j]? with
 |none=>simp[hj]at hx
 |some y =>
  simp[hj]at hx;subst hx;simp[eU,hj];exact .lit y
def L8{σ:St}{γ:Cx}(h:bz σ γ){a:Act}(ha:γ.tmps=a.tmps)(parts:Array (Nat×Operand)):
  (parts.toList.map λp=>(p.1,ev σ p.2)).length=(parts.map λ(i,x)=>(i,a.eval x)).toList.length /\
  ∀ (j:Nat) (p:Nat×AV) (q:Nat×Value),(parts.toList.map λp=>(p.1,ev σ p.2))[j]?=some p->(parts.map λ(i,x)=>(i,a.eval x)).toList[j]?=some q->p.1=q.1/\aw σ.aa γ.w γ.Z γ.blk p.2 q.2:=by
 refine⟨G9,λj p q hp hq=>?_⟩;simp only[Array.toList_map,bM]at hp hq;cases hj:parts.toList[j]? with
 |none=>simp[hj]at hp
 |some y =>
  simp only[hj,fc,cH.injEq]at hp hq;subst hp;subst hq;exact⟨rfl,uA h ha y.2⟩
def ags{σ:St}{γ:Cx}(h:bz σ γ){a:Act}(ha:γ.tmps=a.tmps){t:TypeId}{parts:Array (Nat×Operand)}{z:List Value}(hk:(ty P t).kind=3)(hz:(ty P t).zero=some z){cs:List AV}(hf:nG (λi=>((ty P t).aS[i]?).map λf=>(f.1,f.2.2)) (z.map .lit) (parts.toList.map λp=>(p.1,ev σ p.2))=some cs)(hs:(parts.toList.all λp=>(cellsOf (ev σ p.2)).all dh)=true)(hp:((ty P t).aS.all λf=>decide (0<f.2.2))=true):
  ∃ cur,(Instr.build t (parts.map λ(i,x)=>(i,a.eval x))).run P γ.w=.ok (.agg cur) γ.w/\aw σ.aa γ.w γ.Z γ.blk (.agg cs) (.agg cur):=by
 obtain⟨it,d,hi,hd,_,_,hzero⟩:=vV (P:=P) (t:=t) (by rw[hk];simp);obtain⟨fs,hu,jg⟩:=Mg hk;rw[hzero]at hz;cases hv:it.zero with
 |none=>simp[hv]at hz
 |some zv =>
  simp[hv]at hz;have jQ:z.toArray=zv.cells:=by rw[<- hz]
  obtain⟨hl,hr⟩:=L8 h ha parts;obtain⟨cur,h1,h2⟩:=HS (σ:=σ) (γ:=γ) _ _ _ _ cs hl hr (λp hp=>by
   simp only[bY]at hp;obtain⟨q,hq,rfl⟩:=hp;rw[gA]at hs;exact hs q hq) (L6 z) hf
  refine⟨cur,run_build γ.w t _ cur ?_,.agg _ _ h2.1 h2.2⟩;unfold Program.built;rw[hi,hu];simp only[hv];have agX:∀ (l:List Field),(∀ f∈l,0<yE P f.type)->l.mapM (λf=>(P.info? f.type).map λi=>(f.offset,i.size))=some (l.map λf=>(f.offset,yE P f.type)):=by
   intro l
   induction l with
   |nil=>intro _;simp
   |cons f l ih =>
    intro hl;have h0:=hl f G9;unfold yE at h0;cases Mq:P.info? f.type with
    |none=>simp[Mq]at h0
    |some i =>
     simp only[List.mapM_cons,Mq,fc,ih (λg hg=>hl g (by simp[hg]))];simp[yE,Mq]
  rw[agX fs.toList (by
   intro f fS;rw[jg]at hp;simp only[List.all_map,gA]at hp;have:=hp f fS;simpa using this)]
  simp only;rw[<- jQ];have:(λ(x:Nat)=>((fs.toList.map λf=>(f.offset,yE P f.type)).toArray[x]?))=(λ(i:Nat)=>((ty P t).aS[i]?).map λ(f:Nat×Nat×Nat)=>(f.1,f.2.2)):=by
   funext i;rw[jg];simp;cases fs[i]?<;>simp
  rw[this];exact h1
def agt{σ:St}{γ:Cx}(h:bz σ γ){a:Act}(ha:γ.tmps=a.tmps){t:TypeId}{parts:Array (Nat×Operand)}{z:List Value}(hk:(ty P t).kind=2)(hz:(ty P t).zero=some z){cs:List AV}(hf:nG (λi=>some (i*(ty P (ty P t).elem).size,(ty P (ty P t).elem).size)) (z.map .lit) (parts.toList.map λp=>(p.1,ev σ p.2))=some cs)(hs:(parts.toList.all λp=>(cellsOf (ev σ p.2)).all dh)=true)(ei:(ty P (ty P t).elem).kind≠99):
  ∃ cur,(Instr.build t (parts.map λ(i,x)=>(i,a.eval x))).run P γ.w=.ok (.agg cur) γ.w/\aw σ.aa γ.w γ.Z γ.blk (.agg cs) (.agg cur):=by
 obtain⟨it,d,hi,hd,_,_,hzero⟩:=vV (P:=P) (t:=t) (by rw[hk];simp);have hu:=Mi hk;obtain⟨ie,de,hie,_,vU,_,_⟩:=vV ei;rw[hzero]at hz;cases hv:it.zero with
 |none=>simp[hv]at hz
 |some zv =>
  simp[hv]at hz;have jQ:z.toArray=zv.cells:=by rw[<- hz]
  obtain⟨hl,hr⟩:=L8 h ha parts;obtain⟨cur,h1,h2⟩:=HS (σ:=σ) (γ:=γ) _ _ _ _ cs hl hr (λp hp=>by
   simp only[bY]at hp;obtain⟨q,hq,rfl⟩:=hp;rw[gA]at hs;exact hs q hq) (L6 z) hf
  refine⟨cur,run_build γ.w t _ cur ?_,.agg _ _ h2.1 h2.2⟩;unfold Program.built;rw[hi,hu];simp only[hv,hie];rw[<- jQ,<- vU];exact h1
def Mb(sz:Nat):∀ (n:Nat) (cs:List AV),(nH sz n cs).length=n
 |0,_=>rfl
 |n+1,cs=>by simp[nH,Mb sz n]
def S9(sz:Nat):∀ (n:Nat) (cs:List AV),n*sz<=cs.length->∀ row∈nH sz n cs,row.length=sz
 |0,_,_,row,h=>by simp[nH]at h
 |n+1,cs,hl,row,h=>by
  rw[gn]at hl;simp only[nH,List.mem_cons]at h;rcases h with rfl|h
  ·simp;omega
  ·exact S9 sz n (cs.drop sz) Hj row h
def Ta(sz:Nat):∀ (n:Nat) (cs:List AV) (r c:Nat) (v:AV),cellAt (nH sz n cs) r c=some v->cs[r*sz+c]?=some v
 |0,_,r,c,v,h=>by simp[nH,cellAt]at h
 |n+1,cs,0,c,v,h=>by
  simp only[nH,cellAt,List.getElem?_cons_zero,Option.bind_some,w5]at h;split at h
  ·simpa using h
  ·simp at h
 |n+1,cs,r+1,c,v,h=>by
  have h':cellAt (nH sz n (cs.drop sz)) r c=some v:=by simpa [nH,cellAt] using h
  have:=Ta sz n (cs.drop sz) r c v h';rw[oa]at this;rw[gn];have e:r*sz+1*sz+c=sz+(r*sz+c):=Ey;rw[e];exact this
def L9{os:List Ob}{w:World}{Z:Nat->Prop}{blk:gU}(z:List Value)(n m:Nat)(hm:m=n*z.length)(hz:0<z.length):
  E' (aw os w Z blk) ((bn n).flatMap λ_=>z.map .lit) ((Array.range m).map (z.toArray[· % z.toArray.size]!)):=by
 subst hm;have hlen:((bn n).flatMap λ_=>z.map AV.lit).length=n*z.length:=by
  induction n with
  |zero=>simp
  |succ n ih=>rw[uc,sX,bN,ih];simp[gn]
 refine⟨by simp[hlen],λj x hx=>?_⟩;have hj:j<n*z.length:=by rw[<- hlen];exact(aY.1 hx).1
 have key:∀ (n j:Nat),j<n*z.length->((bn n).flatMap λ_=>z.map AV.lit)[j]?=some (.lit (z[j%z.length]'(yw _ hz))):=by
  intro n
  induction n with
  |zero=>intro j hj;simp at hj
  |succ n ih =>
   intro j hj;have nm:((bn n).flatMap λ_=>z.map AV.lit).length=n*z.length:=by
    clear ih hj hx hlen
    induction n with
    |zero=>simp
    |succ n ih=>rw[uc,sX,bN,ih];simp[gn]
   rw[uc,sX];by_cases Tj:j<n*z.length
   ·rw[fe (by rw[nm];exact Tj)];exact ih j Tj
   ·rw[iq (by rw[nm];omega),nm];rw[gn]at hj;have aX:j-n*z.length<z.length:=Ey;have uF:j%z.length=j-n*z.length:=by
     have:j=(j-n*z.length)+n*z.length:=Ey;rw[this,Nat.add_mul_mod_self_right,KQ aX];omega
    simp[aX,uF]
 rw[key n j hj]at hx;simp at hx;subst hx;have hm:j%z.length<z.length:=yw _ hz;simp[eU,hj,hm];exact .lit _
end Go.Am

