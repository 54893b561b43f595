import Derived.Test.YtodilglobhifaaaGreatDoorX01
set_option linter.all false
set_option maxHeartbeats 0
set_option maxRecDepth 20000
open List renaming getElem?_map→cm,mem_of_getElem?→fq,getElem?_eq_some_iff→aN,getElem?_set→bT,range→bp,length_cons→cf,all_eq_true→eS,getElem?_take→pS,getElem?_drop→kE,getElem?_toArray→ES,getD_eq_getElem?_getD→ax,append_assoc→bn,getElem?_append_left→cG,getElem?_append_right→dy,getElem_mem→mD,mem_of_mem_drop→xc,mem_of_mem_take→qY,eq_nil_of_length_eq_zero→w9,mem_iff_getElem?→JB,mem_append→bE,size_toArray→yR,length_map→eA,length_nil→gX,length_append→aK,length_take→fE,length_drop→yZ,ext_getElem?→pR,replicate→aD,eq_of_mem_replicate→y7,mem_map→cF,range_succ→sF,flatMap_append→sG
open Option renaming map_eq_some_iff→vn,bind_eq_some_iff→w8,map_some→fN,some→cL
open Array renaming getD_eq_getD_getElem?→dJ,length_toList→oV
open Nat renaming mul_le_mul_right→kG,add_mul→eB,add_assoc→qZ,add_zero→k9,ne_of_lt→j6,lt_or_ge→dr,mul_comm→vp,mod_lt→xe,mod_eq_of_lt→JE,eq_zero_or_pos→uf,zero_add→gw
namespace Go.Am
variable {P:Program}
def vO(o:Oper)(σ:St)(γ:Cx)(a:Act)(K:St->Prop)(r:Result Next):Prop :=
 ∃ n x w' σ' ay,r=.ok n w'/\(n=.value x\/(n=.skip/\x=Go.undef))/\K σ'/\ba σ' ay/\Fr σ.aa γ σ'.aa ay/\ay.w=w'/\ay.tmps=(a.put o.dst x).tmps
def au.lit{os:List Ob}{w:World}{Z:Nat->Prop}{blk:fi}(v:Value):au os w Z blk (.lit v) v:=.bV _ _ (.lit v)
def au.bX{os:List Ob}{w:World}{Z:Nat->Prop}{blk:fi}{v cv:Value}(h:au os w Z blk (.lit v) cv):cv=v:=by
 cases h with
 |bV _ _ h=>cases h;rfl
def au.xC{os:List Ob}{w:World}{Z:Nat->Prop}{blk:fi}{sz:Nat}{rows:List (List AV)}{cv:Value}(h:au os w Z blk (.tree sz rows) cv):fK w Z (.tree sz rows) cv:=by
 cases h with
 |bV _ _ h=>exact h
def au.dD{os:List Ob}{w:World}{Z:Nat->Prop}{blk:fi}(v:Value):au os w Z blk (dD v) v:=by
 unfold Am.dD;split
 ·rename_i cs;refine .agg _ _ Jy (λj x hx=>?_);simp only[cm,Array.getElem?_toList]at hx;cases hj:cs[j]? with
  |none=>simp[hj]at hx
  |some y =>
   simp[hj]at hx;subst hx;simp[hj];exact .lit y
 ·exact .lit v
def mV{σ:St}{γ:Cx}(h:ba σ γ){a:Act}(ha:γ.tmps=a.tmps)(x:Operand):au σ.aa γ.w γ.Z γ.blk (ev σ x) (a.eval x):=by
 cases x with
 |tmp t=>have:=h.ao t;rw[ha]at this;exact this
 |const v=>exact .dD v
 |global g=>exact h.gl g
 |func f=>exact .fn f [] #[] rfl (λj x hx=>by simp at hx)
def C0{os:List Ob}{w:World}{Z:Nat->Prop}{blk:fi}{v:AV}{cv:Value}(h:au os w Z blk v cv)(hs:ca v=true):cv.oneCell'=true:=by
 cases h with
 |undef cv=>simp[ca]at hs
 |bV v cv h=>cases h<;>first|rfl|(simpa [ca] using hs)
 |bU=>rfl
 |iY id sz off len cv h h1=>exact h1
 |kQ id r c cv h h1=>exact h1
 |ref=>rfl
 |jU=>rfl
 |kn=>rfl
 |lv=>rfl
 |ma=>rfl
 |agg=>simp[ca]at hs
 |bH=>simp[ca]at hs
 |fn=>rfl
 |fI=>rfl
 |dP=>rfl
 |oh id cv h h1=>exact h1
def mW{σ:St}{γ:Cx}(h:ba σ γ){a:Act}(ha:γ.tmps=a.tmps){dst:Option Tmp}(hd:∀ d,dst=some d->d<a.tmps.size){v:AV}{cv:Value}(hv:au σ.aa γ.w γ.Z γ.blk v cv):ba (σ.put dst v) { γ with tmps:=(a.put dst cv).tmps }:=by
 cases dst with
 |none =>
  have:({ γ with tmps:=(a.put none cv).tmps }:Cx)=γ:=by cases γ;simp_all [Act.put]
  rw[this];exact h
 |some d =>
  have:=h.put d (by rw[ha];exact hd d rfl) hv;rw[ha]at this;exact this
def l7(σ:St)(dst:Option Tmp)(v:AV):(σ.put dst v).aa=σ.aa:=by cases dst<;>rfl
def cH{o:Oper}{σ:St}{γ:Cx}{a:Act}{K:St->Prop}(h:ba σ γ)(ha:γ.tmps=a.tmps)(hd:∀ d,o.dst=some d->d<a.tmps.size){v:AV}{cv:Value}(hv:au σ.aa γ.w γ.Z γ.blk v cv)(hK:K (σ.put o.dst v)){r:Result Next}(hr:r=.ok (.value cv) γ.w):vO o σ γ a K r :=
 ⟨.value cv,cv,γ.w,σ.put o.dst v,{ γ with tmps:=(a.put o.dst cv).tmps },hr,.inl rfl,hK,mW h ha hd hv,by rw[l7];exact(Fr.refl _ _).put _,rfl,rfl⟩
def xG{o:Oper}{σ σ1:St}{γ γ1:Cx}{a:Act}{K:St->Prop}(hf:Fr σ.aa γ σ1.aa γ1)(h:ba σ1 γ1)(ha:γ1.tmps=a.tmps)(hd:∀ d,o.dst=some d->d<a.tmps.size){v:AV}{cv:Value}(hv:au σ1.aa γ1.w γ1.Z γ1.blk v cv)(hK:K (σ1.put o.dst v)){r:Result Next}(hr:r=.ok (.value cv) γ1.w):vO o σ γ a K r :=
 ⟨.value cv,cv,γ1.w,σ1.put o.dst v,{ γ1 with tmps:=(a.put o.dst cv).tmps },hr,.inl rfl,hK,mW h ha hd hv,by rw[l7];exact hf.put _,rfl,rfl⟩
def Gz{o:Oper}{σ σ1:St}{γ γ1:Cx}{a:Act}{K:St->Prop}(hf:Fr σ.aa γ σ1.aa γ1)(h:ba σ1 γ1)(ha:γ1.tmps=a.tmps)(hd:∀ d,o.dst=some d->d<a.tmps.size)(hK:K (σ1.put o.dst .undef)){r:Result Next}(hr:r=.ok .skip γ1.w):vO o σ γ a K r :=
 ⟨.skip,Go.undef,γ1.w,σ1.put o.dst .undef,{ γ1 with tmps:=(a.put o.dst Go.undef).tmps },hr,.inr ⟨rfl,rfl⟩,hK,mW h ha hd (.undef _),by rw[l7];exact hf.put _,rfl,rfl⟩
def p'{k:IntKind}{n:Int}(h:k.min<=n/\n<=k.max):k.wrap n=n:=by
 cases k<;>simp[IntKind.min,IntKind.max,IntKind.signed,IntKind.bits]at h<;>simp[IntKind.wrap,IntKind.signed,IntKind.bits]<;>omega
def Yg{op:BinOp}{k:IntKind}{x y:Int}{K:Value->Prop}(h:fe op k x y K)(t:TypeId)(w:World):
  ∃ v,(binOp op t (.int k x) (.int k y)).run P w=.ok v w/\K v:=by
 cases op<;>simp only[fe]at h
 case add=>exact⟨_,by simp[binOp,Op.intArith,p' h.1],h.2⟩
 case sub=>exact⟨_,by simp[binOp,Op.intArith,p' h.1],h.2⟩
 case mul =>
  unfold rJ at h;split at h
  ·exact⟨_,by simp[binOp,Op.intArith],h⟩
  ·exact⟨_,by simp[binOp,Op.intArith,p' h.1],h.2⟩
 case quo =>
  refine⟨_,?_,h.2⟩;obtain⟨h0,hb,hm⟩:=h.1;have hq:x.tdiv y=x/y:=Int.tdiv_eq_ediv_of_nonneg h0;have hle:x/y<=x:=Int.ediv_le_self _ h0;have jT:0<=x/y:=Int.ediv_nonneg h0 Bv;have hw:k.wrap (x/y)=x/y:=p' ⟨by cases k<;>simp[IntKind.min,IntKind.signed,IntKind.bits]<;>omega,Bv⟩;have cC:¬ y=0:=Bv;simp[binOp,Op.intDiv,cC,hq,hw]
 case rem=>exact⟨_,by simp[binOp,Op.intDiv,h.1],h.2⟩
 case and =>
  exact⟨_,by simp[binOp,Op.intBits,sN],h⟩
 case shr =>
  refine⟨_,?_,h.2⟩;obtain⟨h0,h1⟩:=h.1;have:¬ y<0:=Bv;have e:(2:Int)^y.toNat=((2^y.toNat:Nat):Int):=Jy;simp[binOp,Op.shift,this,Nat.min_eq_left h1];exact Int.fdiv_eq_ediv_of_nonneg _ (by rw[e];exact Int.natCast_nonneg _)
 case eql=>exact⟨_,by simp[binOp,Op.intCmp],h⟩
 case neq=>exact⟨_,by simp[binOp,Op.intCmp],h⟩
 case lss=>exact⟨_,by simp[binOp,Op.intCmp],h⟩
 case leq=>exact⟨_,by simp[binOp,Op.intCmp],h⟩
 case gtr=>exact⟨_,by simp[binOp,Op.intCmp],h⟩
 case geq=>exact⟨_,by simp[binOp,Op.intCmp],h⟩
def PD:∀ {cs:List AV} {as:List Int},mQ cs=some as->cs=as.map λa=>aam a
 |[],as,h=>by simp[mQ]at h;subst h;rfl
 |c::cs,as,h=>by
  unfold mQ at h;split at h
  ·rename_i e;simp at e
  ·rename_i a r e;simp only[List.cons.injEq]at e;obtain⟨rfl,rfl⟩:=e;simp only[vn]at h;obtain⟨as',h,rfl⟩:=h;rw[PD h];rfl
  ·simp at h
def Gr{os:List Ob}{w:World}{Z:Nat->Prop}{blk:fi}{cs:List AV}{as:List Int}{cv:Value}(h:au os w Z blk (.agg cs) cv)(hi:mQ cs=some as):cv=.agg (as.map (Value.int .i64)).toArray:=by
 have:=PD hi;subst this;cases h with
 |bV _ _ h=>cases h
 |agg _ aR hs h =>
  congr 1;refine Array.ext (by simpa using hs) (λj h1 h2=>?_);have hj:j<as.length:=by simpa using h2
  have:=(h j (aam as[j]) (by simp[hj])).bX;rw[dJ,Array.getElem?_eq_getElem h1]at this;simpa using this
end Go.Am
namespace Go.Am
variable {P:Program}
def GH{t:TypeId}(h:(ty P t).kind≠99)(w:World):(isAgg t).run P w=.ok (ty P t).isAgg w:=by
 obtain⟨i,d,hi,hd,_⟩:=qw h;simp only[isAgg,Sem.run_bind,run_underlying hd,Result.andThen_ok];have:ty P t=ty P t:=rfl;cases d<;>simp[ty,hi,hd,Ty.isAgg]
def run_sizeOf{t:TypeId}(h:(ty P t).kind≠99)(w:World):(sizeOf t).run P w=.ok (ty P t).size w:=by
 obtain⟨i,d,hi,hd,hs,_⟩:=qw h;simp[sizeOf,typeInfo,hi,hs]
def Px{t:TypeId}{z:List Value}(h:(ty P t).kind≠99)(hz:(ty P t).zero=some z)(w:World):∃v,(zeroValue t).run P w=.ok v w/\v.cells=z.toArray:=by
 obtain⟨i,d,hi,hd,_,_,h3⟩:=qw h;rw[h3]at hz;cases hv:i.zero with
 |none=>simp[hv]at hz
 |some v =>
  simp[hv]at hz;refine⟨v,by simp[zeroValue,typeInfo,hi,hv],?_⟩;rw[<- hz]
def CL{σ:St}{γ:Cx}(h:ba σ γ){id r c:Nat}{cv:Value}{row:List AV}(hv:au σ.aa γ.w γ.Z γ.blk (.ptr id r c) cv)(bf:rowOf σ id r=some row):
  ∃ b base cap cur t o,cv=.pointer (some ⟨b,base+c,none⟩)/\γ.blk id=some (b,o,cap)/\γ.w.heap[b]?=some (.cells cur t (0,0))/\base+row.length<=cur.size /\
   (∀ j v,row[j]?=some v->au σ.aa γ.w γ.Z γ.blk v (cur.getD (base+j) Go.undef))/\Live σ.aa id /\
   (∀ vS m6,vS.length=row.length->m6.size=cur.size->(∀ j v,vS[j]?=some v->au σ.aa γ.w γ.Z γ.blk v (m6.getD (base+j) Go.undef))->(∀ k,(k<base\/base+row.length<=k)->m6.getD k Go.undef=cur.getD k Go.undef) ->
    ∃ ob ob',σ.aa[id]?=some ob/\ob≠.gone/\ob.dj ob'/\(lZ σ id r vS) = { σ with aa:=σ.aa.set id ob' }/\qq σ.aa γ.w γ.Z γ.blk o cap m6 ob'):=by
 unfold rowOf at bf;cases ho:σ.aa[id]? with
 |none=>simp[ho]at bf
 |some ob =>
  have a9:=h.dQ id ob ho;cases ob with
  |gone=>simp[ho]at bf
  |mp ag L=>simp[ho]at bf
  |var cells =>
   simp only[ho]at bf;split at bf
   ·rename_i zT;subst zT;simp at bf;subst bf;obtain⟨b,cap,cur,t,h1,h2,h3,h4⟩:=a9;have aV:cv=.pointer (some ⟨b,c,none⟩):=by
     cases hv with
     |bV _ _ h=>cases h
     |kQ _ _ _ _ h=>rw[ho]at h;simp at h
     |lv _ _ b' cap' cells' h hb=>rw[h1]at hb;simp at hb;simp[hb.1]
     |ma _ _ _ sz b' o' cap' rows h hb=>rw[ho]at h;simp at h
    refine⟨b,0,cap,cur,t,0,by simpa using aV,h1,h2,Bv,λj v hj=>by simpa using h4 j v hj,⟨_,ho,Jy⟩,?_⟩;intro vS m6 hl hs jW _;refine⟨.var cells,.var vS,rfl,Jy,by simp[Ob.dj,hl],by simp[lZ,ho],rfl,Bv,λc v hc=>by simpa using jW c v hc⟩
   ·simp at bf
  |arr sz rows =>
   simp only[ho]at bf;obtain⟨aH,dK,a9⟩:=a9;have aev:row.length=sz:=dK row (fq bf);have Yq:r<rows.length:=(aN.1 bf).1;rcases a9 with⟨_,he⟩|⟨b,o,cap,cur,t,h1,h2,h3,h4,h5,h6⟩
   ·subst he;simp at bf
   ·have aV:cv=.pointer (some ⟨b,o+(r*sz+c),none⟩):=by
     cases hv with
     |bV _ _ h=>cases h
     |kQ _ _ _ _ h=>rw[ho]at h;simp at h
     |lv _ _ b' cap' cells' h hb=>rw[ho]at h;simp at h
     |ma _ _ _ cg b' o' cap' fh h hb=>rw[ho]at h;simp at h;rw[h1]at hb;simp at hb;simp[hb.1,hb.2.1,h.1]
    have hmul:r*sz+sz<=cap*sz:=by
     have:(r+1)*sz<=cap*sz:=kG _ Bv;rw[eB]at this;omega
    refine⟨b,o+r*sz,cap,cur,t,o,by rw[aV];simp[qZ],h1,h2,Bv,?_,⟨_,ho,Jy⟩,?_⟩
    ·intro j v hj;have:=h6 r j v (by simp[cellAt,bf,hj]);simpa [qZ] using this
    ·intro vS m6 hl hs jW PE;refine⟨.arr sz rows,.arr sz (rows.set r vS),rfl,Jy,by simp[Ob.dj],by simp[lZ,ho],aH,?_,Bv,by simp[h4],h5,?_⟩
     ·intro x hx;rcases List.mem_or_eq_of_mem_set hx with hx|rfl
      ·exact dK x hx
      ·omega
     ·intro r' c' v hc;by_cases iZ:r=r'
      ·subst iZ;simp only[cellAt,bT,if_true,Yq]at hc;simp at hc;have:=jW c' v hc;simpa [qZ] using this
      ·simp only[cellAt,bT,if_neg iZ]at hc;have hold:=h6 r' c' v hc;have sY:c'<sz:=by
        simp only[w8]at hc;obtain⟨x,hx,px⟩:=hc;have:=dK x (fq hx);have:=(aN.1 px).1;omega
       rw[PE _ ?_]
       ·exact hold
       ·rcases Nat.lt_or_gt_of_ne iZ with bq|zU
        ·right;have:(r+1)*sz<=r'*sz:=kG _ Bv;rw[eB]at this;omega
        ·left;have:(r'+1)*sz<=r*sz:=kG _ Bv;rw[eB]at this;omega
def Addr.oA(b o n:Nat):(⟨b,o,none⟩:Addr).add n=⟨b,o+n,none⟩:=by
 unfold Go.Addr.add;split<;>simp_all
def xD{w:World}{b j:Nat}{cur:Array Value}{t:TypeId}{fr:Nat×Nat}(h:w.heap[b]?=some (.cells cur t fr))(hj:j<cur.size):w.cell? ⟨b,j,none⟩=some (cur.getD j Go.undef):=by
 simp[World.cell?,h,hj,dJ]
def C1{w:World}{t:TypeId}(hk:(ty P t).kind≠99)(b o:Nat)(f:Nat->Value)(hc:∀ j,j<(if(ty P t).isAgg then(ty P t).size else 1)->w.cell? ⟨b,o+j,none⟩=some (f j)):
  (loadVar t ⟨b,o,none⟩).run P w=.ok (if(ty P t).isAgg then .agg ((bp (ty P t).size).map f).toArray else f 0) w:=by
 simp only[loadVar,Sem.run_bind,GH hk,Result.andThen_ok];by_cases ha:(ty P t).isAgg=true
 ·simp only[ha,if_true,Sem.run_bind,run_sizeOf hk,Result.andThen_ok];rw[run_loadCells w ⟨b,o,none⟩ _ f (λj hj=>by rw[Addr.oA];exact hc j (by simpa [ha] using hj))];rfl
 ·have jO:=hc 0 (by simp[ha]);simp only[k9]at jO;simp[ha,jO]
end Go.Am
namespace Go.Am
variable {P:Program}
def Gx(cs:List AV):∀ (row:List AV) (c:Nat),(setCells row c cs).length=row.length:=by
 induction cs with
 |nil=>intro row c;rfl
 |cons v vs ih=>intro row c;simp[setCells,ih]
def PG(cs:List AV):∀ (row:List AV) (c:Nat),c+cs.length<=row.length->∀ j,(setCells row c cs)[j]?=if c<=j/\j<c+cs.length then cs[j-c]? else row[j]?:=by
 induction cs with
 |nil=>intro row c _ j;simp[setCells];intro h1 h2;omega
 |cons v vs ih =>
  intro row c hl j;simp only[cf]at hl;simp only[setCells,cf];rw[ih (row.set c v) (c+1) aak j];by_cases h1:c+1<=j/\j<c+1+vs.length
  ·rw[if_pos h1,if_pos Bv];have:j-c=(j-(c+1))+1:=Bv;rw[this];simp
  ·rw[if_neg h1];by_cases h2:j=c
   ·subst h2;rw[if_pos Bv];simp[show j<row.length by omega]
   ·rw[if_neg Bv,List.getElem?_set_ne (Ne.symm h2)]
def Gu{os:List Ob}{w:World}{Z:Nat->Prop}{blk:fi}{v:AV}{cv:Value}(h:au os w Z blk v cv)(hs:(cellsOf v).all ca=true):
  cv.cells.size=(cellsOf v).length/\(∀ j x,(cellsOf v)[j]?=some x->au os w Z blk x (cv.cells.getD j Go.undef))/\∀ c∈cv.cells,c.oneCell'=true:=by
 by_cases jX :∃cs,v=.agg cs
 ·obtain⟨cs,rfl⟩:=jX;simp only[cellsOf]at hs ⊢;cases h with
  |bV _ _ h=>cases h
  |agg _ aR aH jW =>
   refine⟨aH,jW,?_⟩;intro c hc;simp only[Value.cells]at hc;obtain⟨j,hj,rfl⟩:=Array.mem_iff_getElem.1 hc;have hx:cs[j]?=some cs[j]:=by simp[<- aH,hj]
   have:=jW j _ hx;have hg:aR.getD j Go.undef=aR[j]:=by simp[dJ,hj]
   rw[hg]at this;exact C0 this (by rw[eS]at hs;exact hs _ (fq hx))
 ·have iK:cellsOf v=[v]:=by
   unfold cellsOf;split
   ·exact absurd ⟨_,rfl⟩ jX
   ·rfl
  rw[iK]at hs ⊢;simp at hs;have ho:=C0 h hs;have bC:cv.cells = #[cv]:=by cases cv<;>first|rfl|simp[Value.oneCell']at ho
  rw[bC];refine⟨rfl,?_,by simp[ho]⟩;intro j x hx;cases j with
  |zero=>simp at hx;subst hx;simpa using h
  |succ j=>simp at hx
section
variable {o:Oper} {σ:St} {γ:Cx} {a:Act} {K:St->Prop}
def Gi(hs:ba σ γ){t:TypeId}(hk:(ty P t).kind≠99){id r c:Nat}{cv:Value}(hv:au σ.aa γ.w γ.Z γ.blk (.ptr id r c) cv){row:List AV}(bf:rowOf σ id r=some row){K:AV->Prop}(h:kf (ty P t) row c K):
  ∃ v mU,(Instr.loadAt t cv).run P γ.w=.ok mU γ.w/\au σ.aa γ.w γ.Z γ.blk v mU/\K v:=by
 obtain⟨b,base,cap,cur,tt,o,rfl,hb,iM,aH,jW,_,_⟩:=CL hs hv bf;unfold kf at h;simp only[Instr.loadAt,Instr.sureAddr,Sem.run_bind,Sem.run_pure,Result.andThen_ok];by_cases jX:(ty P t).isAgg=true
 ·rw[if_pos jX]at h;refine⟨_,_,C1 hk b (base+c) (λj=>cur.getD (base+c+j) Go.undef) ?_,?_,h.2⟩
  ·intro j hj;rw[if_pos jX]at hj;exact xD iM Bv
  ·rw[if_pos jX];refine .agg _ _ aak (λj x hx=>?_);have hj:j<(ty P t).size:=by have:=(aN.1 hx).1;simp at this;omega
   rw[pS,if_pos hj,kE]at hx;have:=jW _ _ hx;simp[dJ,hj];simpa [qZ,dJ] using this
 ·rw[if_neg jX]at h;cases hc:row[c]? with
  |none=>simp[hc]at h
  |some v =>
   simp only[hc]at h;have cz:=(aN.1 hc).1;refine⟨v,_,C1 hk b (base+c) (λj=>cur.getD (base+c+j) Go.undef) ?_,?_,h⟩
   ·intro j hj;rw[if_neg jX]at hj;exact xD iM Bv
   ·rw[if_neg jX];exact jW _ _ hc
def Ye(_hs:ba σ γ){t:TypeId}(hk:(ty P t).kind≠99){cells:List AV}{cv:Value}(hv:au σ.aa γ.w γ.Z γ.blk (.bU cells) cv){K:AV->Prop}(h:kf (ty P t) cells 0 K):
  ∃ v mU,(Instr.loadAt t cv).run P γ.w=.ok mU γ.w/\au σ.aa γ.w γ.Z γ.blk v mU/\K v:=by
 cases hv with
 |bV _ _ h=>cases h
 |bU _ b o f hz hc ht =>
 unfold kf at h;simp only[Instr.loadAt,Instr.sureAddr,Sem.run_bind,Sem.run_pure,Result.andThen_ok];by_cases jX:(ty P t).isAgg=true
 ·rw[if_pos jX]at h;have hlen:(ty P t).size<=cells.length:=Bv;refine⟨_,_,C1 hk b o f ?_,?_,h.2⟩
  ·intro j hj;rw[if_pos jX]at hj;exact hc j cells[j] Jy
  ·rw[if_pos jX];refine .agg _ _ aak (λj x hx=>?_);have hj:j<(ty P t).size:=by have:=(aN.1 hx).1;simp at this;omega
   rw[pS,if_pos hj,kE]at hx;simp at hx;simp[dJ,hj];exact .bV _ _ (ht j x hx)
 ·rw[if_neg jX]at h;cases bC:cells[0]? with
  |none=>simp[bC]at h
  |some v =>
   simp only[bC]at h;refine⟨v,_,C1 hk b o f ?_,?_,h⟩
   ·intro j hj;rw[if_neg jX]at hj;have:j=0:=Bv;subst this;exact hc 0 v bC
   ·rw[if_neg jX];exact .bV _ _ (ht 0 v bC)
def zV(cur:Array Value)(p:Nat)(vs:List Value)(hp:p+vs.length<=cur.size)(k:Nat):
  ((cur.toList.take p++vs++cur.toList.drop (p+vs.length)).toArray).getD k Go.undef=if p<=k/\k<p+vs.length then vs.getD (k-p) Go.undef else cur.getD k Go.undef:=by
 simp only[dJ,ES,ax];by_cases h1:k<p
 ·rw[if_neg Bv,bn,cG aak,pS,if_pos h1];simp
 ·by_cases h2:k<p+vs.length
  ·rw[if_pos Bv,cG aak,dy aak];simp;congr 3;omega
  ·rw[if_neg Bv,dy aak];simp;congr 3;omega
def setRow_size(w:World)(g:Nat)(cs:Array Value):(w.setRow g cs).heap.size=w.heap.size:=by simp[World.setRow]
def Yf(hs:ba σ γ){t:TypeId}(hk:(ty P t).kind≠99){id r c:Nat}{cv xv:Value}(hv:au σ.aa γ.w γ.Z γ.blk (.ptr id r c) cv){row:List AV}(bf:rowOf σ id r=some row){v:AV}(hx:au σ.aa γ.w γ.Z γ.blk v xv)(h:(cellsOf v).length=(ty P t).size/\c+(ty P t).size<=row.length/\(cellsOf v).all ca=true):
  ∃ w',(Instr.storeAt t cv xv).run P γ.w=.ok () w'/\ba (lZ σ id r (setCells row c (cellsOf v))) { γ with w:=w' }/\Fr σ.aa γ (lZ σ id r (setCells row c (cellsOf v))).aa { γ with w:=w' }:=by
 obtain⟨b,base,cap,cur,tt,o,rfl,hb,iM,aH,jW,kq,Yr⟩:=CL hs hv bf;obtain⟨h1,h2,h3⟩:=h;obtain⟨e1,e2,e3⟩:=Gu hx h3;have hlen:xv.cells.toList.length=(ty P t).size:=by simp[e1,h1]
 have dG:(Instr.storeAt t (.pointer (some ⟨b,base+c,none⟩)) xv).run P γ.w=.ok () (γ.w.setRow b (cur.toList.take (base+c)++xv.cells.toList++cur.toList.drop (base+c+xv.cells.toList.length)).toArray):=by
  have c9:=run_storeCells_at P b (base+c) tt xv.cells.toList 0 cur γ.w iM (by rw[hlen];omega) (λx hx=>e3 x (by simpa using hx));simp only[k9]at c9;simp only[Instr.storeAt,Instr.sureAddr,Sem.run_bind,Sem.run_pure,Result.andThen_ok,storeVar,run_sizeOf hk];have:¬ (xv.cells.size≠(ty P t).size):=by rw[e1,h1];simp
  rw[if_neg this];simpa using c9
 obtain⟨ob,ob',g1,g2,g3,g4,g5⟩:=Yr (setCells row c (cellsOf v)) (cur.toList.take (base+c)++xv.cells.toList++cur.toList.drop (base+c+xv.cells.toList.length)).toArray
  (Gx _ _ _) (by simp[hlen];omega) (by
   intro j x hj;rw[PG _ _ _ (by rw[h1];exact h2)]at hj;rw[zV cur (base+c) xv.cells.toList (by rw[hlen];omega),hlen];by_cases eE:c<=j/\j<c+(cellsOf v).length
   ·rw[if_pos eE]at hj;rw[if_pos Bv];have:=e2 _ _ hj;have e:base+j-(base+c)=j-c:=Bv;rw[e];simpa [ax,dJ] using this
   ·rw[if_neg eE]at hj;rw[if_neg Bv];exact jW j x hj) (by
   intro k aY;rw[zV cur (base+c) xv.cells.toList (by rw[hlen];omega),hlen];rw[if_neg Bv])
 refine⟨_,dG,?_,?_⟩
 ·rw[g4];exact hs.write g1 g2 g3 hb (setRow_heap γ.w b cur _ tt _ iM) (λk hk=>setRow_other γ.w b k _ hk) (setRow_size _ _ _) g5
 ·rw[g4];exact Fr.write ob' g1 g2 g3 hb (λk hk=>setRow_other γ.w b k _ hk) (setRow_size _ _ _) rfl rfl rfl
end
end Go.Am
namespace Go.Am
variable {P:Program}
def ba.vF{σ:St}{γ:Cx}(h:ba σ γ){sz:Nat}(aH:0<sz):
  ba { σ with aa:=σ.aa++[.arr sz []] } { γ with blk:=cB γ.blk σ.aa.length none }:=by
 have hR:∀ v cv,au σ.aa γ.w γ.Z γ.blk v cv->au (σ.aa++[.arr sz []]) γ.w γ.Z (cB γ.blk σ.aa.length none) v cv:=λv cv hv =>
  hv.mono (λb hb=>⟨hb,rfl⟩) (λi o ho=>by
   have hi:i<σ.aa.length:=(aN.1 ho).1;have cD:(σ.aa++[.arr sz []])[i]?=some o:=by rw[cG hi];exact ho
   by_cases bS:o=.gone
   ·subst bS;exact .inl cD
   ·exact .inr ⟨by simp[cB,j6 hi],o,cD,Ob.iC bS⟩)
 have bI:∀ i b,cB γ.blk σ.aa.length none i=some b->Live (σ.aa++[.arr sz []]) i->Live σ.aa i/\γ.blk i=some b:=by
  rintro i b hb⟨o,ho,bS⟩;simp only[cB]at hb;split at hb
  ·simp at hb
  ·rename_i cC;have hi:i<σ.aa.length:=by have:=(aN.1 ho).1;simp at this;omega
   rw[cG hi]at ho;exact⟨⟨o,ho,bS⟩,hb⟩
 refine⟨λk=>hR _ _ (h.ao k),?_,?_,?_,h.fY,λg=>hR _ _ (h.gl g)⟩
 ·intro i o ho;rcases dr i σ.aa.length with hi|hi
  ·rw[cG hi]at ho;exact(h.dQ i o ho).mono hR (by simp[cB,j6 hi]) (λ_ _ _ _=>rfl)
  ·have hi':i=σ.aa.length:=by have:=(aN.1 ho).1;simp at this;omega
   subst hi';simp at ho;subst ho;exact⟨aH,Jy,.inl ⟨by simp[cB],rfl⟩⟩
 ·intro i j b o c o' c' hi hj eW fB;obtain⟨GK,jY⟩:=bI i _ eW hi;obtain⟨qB,nv⟩:=bI j _ fB hj;exact h.inj i j b o c o' c' GK qB jY nv
 ·rintro b ⟨i,o,c,hi,hb⟩;obtain⟨GK,jY⟩:=bI i _ hb hi;exact h.nz b ⟨i,o,c,GK,jY⟩
def Fr.vF(os:List Ob)(γ:Cx)(sz:Nat):Fr os γ (os++[.arr sz []]) { γ with blk:=cB γ.blk os.length none } where
 kl:=rfl
 tape:=rfl
 output:=rfl
 size:=Nat.le_refl _
 cW:=λ_ _ _=>rfl
 z0:=λ_ h=>h
 z1:=λ_ h=>.inl h
 own:=by
  rintro b⟨i,o,c,⟨x,hx,dZ⟩,hb⟩;simp only[cB]at hb;split at hb
  ·simp at hb
  ·have hi:i<os.length:=by have:=(aN.1 hx).1;simp at this;omega
   rw[cG hi]at hx;exact .inl ⟨i,o,c,⟨x,hx,dZ⟩,hb⟩
 len:=Jy
 jn:=by
  rintro i hi⟨x,hx,dZ⟩;have hx0:=hx;rw[cG hi]at hx;exact⟨by simp[cB,j6 hi],x,x,hx,hx0,Ob.iC dZ⟩
def ba.zW{σ:St}{γ:Cx}(h:ba σ γ){id:Nat}{ob ob':Ob}(ho:σ.aa[id]?=some ob)(hg:ob≠.gone){b o cap o' cap':Nat}(hb:γ.blk id=some (b,o,cap)){w':World}{cur:Array Value}{t:TypeId}(hw:w'.heap[b]?=some (.cells cur t (0,0)))(mf:∀ k,k≠b->w'.heap[k]?=γ.w.heap[k]?)(aH:w'.heap.size=γ.w.heap.size)(a9:qq σ.aa γ.w γ.Z γ.blk o' cap' cur ob'):
  ba { σ with aa:=σ.aa.set id .gone++[ob'] } { γ with w:=w',blk:=cB γ.blk σ.aa.length (some (b,o',cap')) }:=by
 have cO:id<σ.aa.length:=(aN.1 ho).1;have kq:Live σ.aa id:=⟨ob,ho,hg⟩;have hR:∀ v cv,au σ.aa γ.w γ.Z γ.blk v cv->au (σ.aa.set id .gone++[ob']) w' γ.Z (cB γ.blk σ.aa.length (some (b,o',cap'))) v cv:=λv cv hv =>
  hv.mono (λz hz=>⟨hz,mf z (λe=>h.nz b ⟨id,o,cap,kq,hb⟩ (e▸hz))⟩) (λi x hx=>by
   have hi:i<σ.aa.length:=(aN.1 hx).1;rw[cG (by simpa using hi),bT];by_cases kS:id=i
   ·left;simp[kS,hi]
   ·rw[if_neg kS];by_cases bS:x=.gone
    ·subst bS;exact .inl hx
    ·exact .inr ⟨by simp[cB,j6 hi],x,hx,Ob.iC bS⟩)
 have bI:∀ i,Live (σ.aa.set id .gone++[ob']) i->i=σ.aa.length\/(i<σ.aa.length/\i≠id/\Live σ.aa i):=by
  rintro i⟨x,hx,dZ⟩;rcases dr i σ.aa.length with hi|hi
  ·right;rw[cG (by simpa using hi),bT]at hx;split at hx
   ·simp at hx;exact absurd hx.symm dZ
   ·rename_i cC;exact⟨hi,Ne.symm cC,x,hx,dZ⟩
  ·left;have:=(aN.1 hx).1;simp at this;omega
 refine⟨λk=>hR _ _ (h.ao k),?_,?_,?_,λz hz=>by rw[aH];exact h.fY z hz,λg=>hR _ _ (h.gl g)⟩
 ·intro i x hx;rcases dr i σ.aa.length with hi|hi
  ·rw[cG (by simpa using hi),bT]at hx;split at hx
   ·simp at hx;subst hx;trivial
   ·rename_i cC;by_cases bS:x=.gone
    ·subst bS;trivial
    ·refine(h.dQ i x hx).mono hR (by simp[cB,j6 hi]) (λz y c hz=>mf z (λe=>cC ?_));subst e;exact h.inj id i z o cap y c kq ⟨x,hx,bS⟩ hb hz
  ·have hi':i=σ.aa.length:=by have:=(aN.1 hx).1;simp at this;omega
   subst hi';rw[dy Jy]at hx;simp at hx;subst hx;exact a9.GL (b:=b) (cap:=cap') hR (by simp[cB]) hw
 ·intro i j z y c y' c' hi hj eW fB;simp only[cB]at eW fB;rcases bI i hi with rfl|⟨ou,PH,hi'⟩<;>rcases bI j hj with rfl|⟨fF,Ys,eF⟩
  ·rfl
  ·rw[if_pos rfl]at eW;rw[if_neg (j6 fF)]at fB;simp at eW;rw[<- eW.1]at fB;exact absurd (h.inj j id b y' c' o cap eF kq fB hb) Ys
  ·rw[if_pos rfl]at fB;rw[if_neg (j6 ou)]at eW;simp at fB;rw[<- fB.1]at eW;exact absurd (h.inj i id b y c o cap hi' kq eW hb) PH
  ·rw[if_neg (j6 ou)]at eW;rw[if_neg (j6 fF)]at fB;exact h.inj i j z y c y' c' hi' eF eW fB
 ·rintro z ⟨i,y,c,hi,hz⟩ ko;simp only[cB]at hz;rcases bI i hi with rfl|⟨ou,PH,hi'⟩
  ·rw[if_pos rfl]at hz;simp at hz;rw[<- hz.1]at ko;exact h.nz b ⟨id,o,cap,kq,hb⟩ ko
  ·rw[if_neg (j6 ou)]at hz;exact h.nz z ⟨i,y,c,hi',hz⟩ ko
def Fr.zW{σ:St}{γ:Cx}{id:Nat}{ob:Ob}(ob':Ob)(ho:σ.aa[id]?=some ob)(hg:ob≠.gone){b o cap o' cap':Nat}(hb:γ.blk id=some (b,o,cap)){w':World}(mf:∀ k,k≠b->w'.heap[k]?=γ.w.heap[k]?)(aH:w'.heap.size=γ.w.heap.size)(h1:w'.os=γ.w.os)(h2:w'.tape=γ.w.tape)(h3:w'.output=γ.w.output):
  Fr σ.aa γ (σ.aa.set id .gone++[ob']) { γ with w:=w',blk:=cB γ.blk σ.aa.length (some (b,o',cap')) } where
 kl:=h1
 tape:=h2
 output:=h3
 size:=by simp[aH]
 cW:=λz _ lz=>mf z (λe=>lz ⟨id,o,cap,⟨ob,ho,hg⟩,e▸hb⟩)
 z0:=λ_ h=>h
 z1:=λ_ h=>.inl h
 own:=by
  rintro z⟨i,y,c,⟨x,hx,dZ⟩,hz⟩;simp only[cB]at hz;split at hz
  ·simp at hz;left;exact⟨id,o,cap,⟨ob,ho,hg⟩,by rw[hb,hz.1]⟩
  ·have hi:i<σ.aa.length:=by have:=(aN.1 hx).1;simp at this;omega
   rw[cG (by simpa using hi),bT]at hx;split at hx
   ·split at hx<;>simp at hx;exact absurd hx.symm dZ
   ·exact .inl ⟨i,y,c,⟨x,hx,dZ⟩,hz⟩
 len:=Jy
 jn:=by
  rintro i hi⟨x,hx,dZ⟩;have hx0:=hx;rw[cG (by simpa using hi),bT]at hx;split at hx
  ·split at hx<;>simp at hx;exact absurd hx.symm dZ
  ·exact⟨by simp[cB,j6 hi],x,x,hx,hx0,Ob.iC dZ⟩
def PI{σ:St}{γ:Cx}(h:ba σ γ){x:AV}{cv:Value}(hv:au σ.aa γ.w γ.Z γ.blk x cv){sz:Nat}(aH:0<sz){src:List (List AV)}(hs:l4 σ x=some (sz,src)):
  ∃ ad c,∃ g:Nat->Value,cv=.slice ad src.length c/\(∀ row∈src,row.length=sz)/\(0<src.length->∃ b o,ad=some ⟨b,o,none⟩/\∀ j,j<src.length*sz->γ.w.cell? ⟨b,o+j,none⟩=some (g j)) /\
   ∀ r c v,cellAt src r c=some v->au σ.aa γ.w γ.Z γ.blk v (g (r*sz+c)):=by
 cases x with
 |tree cg rows =>
  simp[l4]at hs;obtain⟨rfl,rfl⟩:=hs;cases hv.xC with
  |nil _ cap a=>exact⟨a,cap,λ_=>Go.undef,rfl,Jy,Jy,by simp[cellAt]⟩
  |tree _ _ b o cap f hz hr zX hc ht =>
   refine⟨_,cap,λj=>f (j/cg) (j%cg),rfl,hr,λhlen=>⟨b,o,rfl,?_⟩,?_⟩
   ·intro j hj;have h1:j/cg<rows.length:=Nat.div_lt_of_lt_mul (by rw[vp];exact hj);have h2:j%cg<cg:=xe _ aH;have dK:(rows[j/cg]).length=cg:=hr _ (mD h1);have:=hc (j/cg) (j%cg) ((rows[j/cg])[j%cg]' Bv) (by simp[cellAt,h1,h2,dK]);have e:j/cg*cg+j%cg=j:=by rw[vp];exact Nat.div_add_mod j cg
    rw[e]at this;exact this
   ·intro r c v aV;have cz:c<cg:=by
     simp only[cellAt,w8]at aV;obtain⟨y,hy,vT⟩:=aV;have:=hr y (fq hy);have:=(aN.1 vT).1;omega
    have e1:(r*cg+c)/cg=r:=by rw[vp,Nat.mul_add_div aH,Nat.div_eq_of_lt cz];rfl
    have e2:(r*cg+c)%cg=c:=by rw[vp,Nat.mul_add_mod,JE cz]
    simp only[e1,e2];exact .bV _ _ (ht r c v aV)
 |ref id cg off len =>
  simp only[l4]at hs;cases ho:σ.aa[id]? with
  |none=>simp[ho]at hs
  |some ob =>
   have a9:=h.dQ id ob ho;cases ob with
   |gone=>simp[ho]at hs
   |mp ag L=>simp[ho]at hs
   |var cells=>simp[ho]at hs
   |arr jo rows =>
    simp only[ho]at hs;split at hs
    ·rename_i he;subst he;simp at hs;obtain⟨rfl,rfl⟩:=hs;obtain⟨_,dK,a9⟩:=a9;cases hv with
     |bV _ _ h=>cases h
     |iY _ _ _ _ _ h=>rw[ho]at h;simp at h
     |jU _ _ h hb =>
      rw[ho]at h;simp at h;subst h;exact⟨none,0,λ_=>Go.undef,rfl,Jy,Jy,by simp[cellAt]⟩
     |kn _ _ _ b x bo fh h hb hl =>
      exact⟨some ⟨b,x,none⟩,0,λ_=>Go.undef,Jy,Jy,Jy,by simp[cellAt]⟩
     |ref _ _ _ _ b o cap cap' fh h hb hl hc eK =>
      rw[ho]at h;simp at h;subst h;rcases a9 with⟨h1,_⟩|⟨b',o',zC,cur,t,h1,h2,h3,h4,h5,h6⟩
      ·rw[hb]at h1;simp at h1
      ·rw[hb]at h1;simp at h1;obtain⟨rfl,rfl,rfl⟩:=h1;have hlen:((rows.drop off).take len).length=len:=aak;refine⟨_,cap',λj=>cur.getD (o+off*jo+j) Go.undef,by rw[hlen],?_,λ_=>⟨b,o+off*jo,rfl,?_⟩,?_⟩
       ·intro row bf;exact dK row (xc (qY bf))
       ·intro j hj;rw[hlen]at hj;refine xD h2 ?_;have:(off+len)*jo<=cap*jo:=kG _ Bv;rw[eB]at this;omega
       ·intro r c v aV;simp only[cellAt,pS,kE]at aV;split at aV
        ·have:=h6 (off+r) c v aV;rw[eB]at this;have e:o+(off*jo+r*jo+c)=o+off*jo+(r*jo+c):=Bv;rw[e]at this;exact this
        ·simp at aV
    ·simp at hs
 |_=>simp[l4]at hs
end Go.Am
namespace Go.Am
variable {P:Program}
def zD{rows:List (List AV)}{sz r c:Nat}{v:AV}(hr:∀ row∈rows,row.length=sz)(h:cellAt rows r c=some v):r<rows.length/\c<sz:=by
 simp only[cellAt,w8]at h;obtain⟨y,hy,vT⟩:=h;have h1:=hr y (fq hy);have h2:=(aN.1 vT).1;have h3:=(aN.1 hy).1;omega
def PJ{p s:List (List AV)}{r c:Nat}:cellAt (p++s) r c=if r<p.length then cellAt p r c else cellAt s (r-p.length) c:=by
 unfold cellAt;split
 ·rw[cG (by assumption)]
 ·rw[dy Bv]
def vL{r c n sz:Nat}(hr:r<n)(hc:c<sz):r*sz+c<n*sz:=by
 have:(r+1)*sz<=n*sz:=kG _ hr;rw[eB]at this;omega
def Yt{R:AV->Value->Prop}{p s:List (List AV)}{sz:Nat}(hp:∀ row∈p,row.length=sz)(hs:∀ row∈s,row.length=sz){go g:Nat->Value}(h1:∀ r c v,cellAt p r c=some v->R v (go (r*sz+c)))(h2:∀ r c v,cellAt s r c=some v->R v (g (r*sz+c)))(rest:List Value)(r c:Nat)(v:AV)(h:cellAt (p++s) r c=some v):
  R v (((((bp (p.length*sz)).map go)++((bp (s.length*sz)).map g))++rest).toArray.getD (r*sz+c) Go.undef):=by
 rw[PJ]at h;simp only[dJ,ES];split at h
 ·obtain⟨hr,hc⟩:=zD hp h;have:=vL hr hc;rw[bn,cG (by simpa using this)];simp[this];exact h1 r c v h
 ·rename_i jT;obtain⟨hr,hc⟩:=zD hs h;have hl:=vL hr hc;have e:r*sz+c=p.length*sz+((r-p.length)*sz+c):=by
   have:r=p.length+(r-p.length):=Bv
   conv=>lhs;rw[this,eB]
   omega
  rw[cG aak,dy aak];have e2:r*sz+c-(List.map go (bp (p.length*sz))).length=(r-p.length)*sz+c:=aak;rw[e2];simp[hl];exact h2 _ _ _ h
def Yu {σ:St} {γ:Cx} (h:ba σ γ) {x:AV} {cv:Value} (hv:au σ.aa γ.w γ.Z γ.blk x cv) {sz:Nat} {pre:List (List AV)} {σ1:St} (hs:n8 σ sz x=some (pre,σ1)) :
    (ba σ1 γ/\Fr σ.aa γ σ1.aa γ/\∃ k,σ1.aa.length=k) /\
    ((cv=.slice none 0 0/\pre=[]) \/
     (∃ id b x bo cur t,cv=.slice (some ⟨b,x,none⟩) 0 0/\pre=[]/\Live σ.aa id/\σ1 = { σ with aa:=σ.aa.set id .gone }/\γ.blk id=some (b,bo)/\γ.w.heap[b]?=some (.cells cur t (0,0))) \/
     ∃ id off rows b o cap cap' cur t,σ.aa[id]?=some (.arr sz rows)/\σ1 = { σ with aa:=σ.aa.set id .gone }/\γ.blk id=some (b,o,cap)/\γ.w.heap[b]?=some (.cells cur t (0,0)) /\
      cv=.slice (some ⟨b,o+off * sz,none⟩) pre.length cap'/\pre.length<=cap'/\cap'<=maxLen/\o+off * sz+cap' * sz<=cur.size/\(∀ row∈pre,row.length=sz) /\
      ∀ r c v,cellAt pre r c=some v->au σ.aa γ.w γ.Z γ.blk v (cur.getD (o+off * sz+(r * sz+c)) Go.undef)):=by
  unfold n8 at hs
  split at hs
  · simp at hs
    obtain ⟨rfl,rfl⟩:=hs
    exact⟨⟨h,Fr.refl _ _,_,rfl⟩,.inl ⟨hv.bX,rfl⟩⟩
  · rename_i id cg off len
    cases ho:σ.aa[id]? with
    | none=>simp[ho] at hs
    | some ob =>
      have a9:=h.dQ id ob ho
      cases ob with
      | gone=>simp[ho] at hs
      | mp ag L=>simp[ho] at hs
      | var cells=>simp[ho] at hs
      | arr jo rows =>
        simp only[ho] at hs
        split at hs
        · rename_i he
          obtain ⟨PL,vU⟩:=he
          subst PL
          subst vU
          simp at hs
          obtain ⟨rfl,rfl⟩:=hs
          refine⟨⟨h.kill id,Fr.kill _ _ _,_,rfl⟩,?_⟩
          obtain ⟨_,dK,a9⟩:=a9
          cases hv with
          | bV _ _ h=>cases h
          | iY _ _ _ _ _ h=>rw[ho] at h;simp at h
          | jU _ _ h hb=>left;exact⟨rfl,Jy⟩
          | kn _ _ _ b x bo fh h' hb hl =>
            right;left
            rcases a9 with ⟨h1,_⟩ | ⟨b',o',zC,cur,t,h1,h2,_⟩
            · rw[hb] at h1;simp at h1
            · rw[hb] at h1;simp at h1
              obtain ⟨rfl,_⟩:=h1
              exact⟨id,b,x,bo,cur,t,rfl,Jy,⟨_,ho,Jy⟩,rfl,hb,h2⟩
          | ref _ _ _ _ b o cap cap' fh h' hb hl hc eK =>
            rw[ho] at h';simp at h'
            subst h'
            rcases a9 with ⟨h1,_⟩ | ⟨b',o',zC,cur,t,h1,h2,h3,h4,h5,h6⟩
            · rw[hb] at h1;simp at h1
            · rw[hb] at h1;simp at h1
              obtain ⟨rfl,rfl,rfl⟩:=h1
              right;right
              have hlen:((rows.drop off).take len).length=len:=aak
              refine⟨id,off,rows,b,o,cap,cap',cur,t,ho,rfl,hb,h2,by rw[hlen],Bv,Bv,?_,?_,?_⟩
              · have:(off+cap') * jo<=cap * jo:=kG _ hc
                rw[eB] at this;omega
              · intro row bf
                exact dK row (xc (qY bf))
              · intro r c v aV
                simp only[cellAt,pS,kE] at aV
                split at aV
                · have:=h6 (off+r) c v aV
                  rw[eB] at this
                  have e:o+(off * jo+r * jo+c)=o+off * jo+(r * jo+c):=Bv
                  rw[e] at this
                  exact this
                · simp at aV
        · simp at hs
  · simp at hs
def Yv(w:World)(t Yw e:TypeId)(i:TypeInfo)(ht:P.underlying t=some (.slice e))(hi:P.info? e=some i)(g o vV GM:Nat)(cur:Array Value)(tt:TypeId)(hg:w.heap[g]?=some (.cells cur tt (0,0)))(xa:Option Addr)(m c:Nat)(news:List Value)(hl:news.length=m*i.size)(uF:0<m->∃ a,xa=some a/\∀ j u,news[j]?=some u->w.cell? (a.add j)=some u)(h1:∀ u∈news,u.oneCell'=true)(xI:vV+m<=GM)(mh:o+vV*i.size+news.length<=cur.size):
  (Builtin.append_ #[t,t] Yw #[.slice (some ⟨g,o,none⟩) vV GM,.slice xa m c]).run P w =
   .ok (.slice (some ⟨g,o,none⟩) (vV+m) GM) (w.setRow g (cur.toList.take (o+vV*i.size)++news++cur.toList.drop (o+vV*i.size+news.length)).toArray):=by
 have hf:(Builtin.firstCells i.size m (.slice xa m c)).run P w=.ok news.toArray w:=by
  rcases uf m with h0|hp
  ·subst h0;have hn:news=[]:=w9 (by simpa using hl);subst hn;cases xa<;>simp[Builtin.firstCells,loadCells,loadCellsFrom]
  ·obtain⟨a,rfl,hc⟩:=uF hp;exact run_firstCells_some w i.size m a m c news hl hc
 have c9:=run_storeCells_at P g (o+vV*i.size) tt news 0 cur w hg (by simpa using mh) h1;simp only[k9]at c9;simp[Builtin.append_,run_underlying ht,sizeOf,typeInfo,hi,Builtin.lenOf,xI,hf,Addr.oA,c9]
def xJ{g:Nat->Value}{n j:Nat}{u:Value}(h:((bp n).map g)[j]?=some u):j<n/\u=g j:=by
 have hj:=(aN.1 h).1;simp at hj;simp[hj]at h;exact⟨hj,h.symm⟩
def Yn{σ σ1:St}{γ:Cx}(h:ba σ γ){t oty:TypeId}{sz:Nat}{z:List Value}(hk:(ty P t).kind=1)(dk:(ty P (ty P t).elem).kind≠99)(hz:(ty P (ty P t).elem).zero=some z)(aH:sz=(ty P (ty P t).elem).size)(h0:0<sz)(jD:z.length=sz){sD x:AV}{py zY:Value}(hS:au σ.aa γ.w γ.Z γ.blk sD py)(hX:au σ.aa γ.w γ.Z γ.blk x zY){pre src:List (List AV)}(hd:n8 σ sz sD=some (pre,σ1))(qo:l4 σ x=some (sz,src))(hlen:pre.length+src.length<=549755813888)(zQ:(ty P (ty P t).elem).bytes<=128)(qA:(src.all λrow=>row.all ca)=true):
    ∃ mU γ1,(Builtin.append_ #[t,t] oty #[py,zY]).run P γ.w=.ok mU γ1.w/\γ1.tmps=γ.tmps/\ba { σ1 with aa:=σ1.aa++[.arr sz (pre++src)] } γ1 /\
      Fr σ.aa γ (σ1.aa++[.arr sz (pre++src)]) γ1/\au (σ1.aa++[.arr sz (pre++src)]) γ1.w γ1.Z γ1.blk (.ref σ1.aa.length sz 0 (pre.length+src.length)) mU:=by
  obtain⟨i,d,hi,CS,qv,zR,hzero⟩:=qw dk;have ht:=pw hk;have ta:i.size=sz:=by rw[<- qv,<- aH]
  obtain⟨zv,vR,gP⟩:∃zv,i.zero=some zv/\zv.cells.size=sz:=by
    rw[hzero]at hz;cases hv:i.zero with
    |none=>simp[hv]at hz
    |some v=>simp[hv]at hz;exact⟨v,rfl,by rw[<- jD,<- hz];simp⟩
  obtain⟨ad,c,g,rfl,pU,GN,xK⟩:=PI h hX h0 qo;obtain⟨⟨lB,zb,_⟩,Yx⟩:=Yu h hS hd
  let news:=(bp (src.length*sz)).map g
  have an:news.length=src.length*i.size:=by simp[news,ta]
  have Yy:∀ u∈news,u.oneCell'=true:=by
    intro u hu;obtain⟨j,hj⟩:=JB.1 hu;obtain⟨fF,rfl⟩:=xJ hj;have h1:j/sz<src.length:=Nat.div_lt_of_lt_mul (by rw[vp];exact fF);have h2:j%sz<sz:=xe _ h0;have dK:(src[j/sz]).length=sz:=pU _ (mD h1);have:=xK (j/sz) (j%sz) ((src[j/sz])[j%sz]' Bv) (by simp[cellAt,h1,h2,dK]);have e:j/sz*sz+j%sz=j:=by rw[vp];exact Nat.div_add_mod j sz
    rw[e]at this;refine C0 this ?_;rw[eS]at qA;have:=qA _ (mD h1);rw[eS]at this;exact this _ (mD _)
  have uF:0<src.length->∃ a,ad=some a/\∀ j u,news[j]?=some u->γ.w.cell? (a.add j)=some u:=by
    intro hp;obtain⟨b,o,rfl,hc⟩:=GN hp;refine⟨_,rfl,λj u hu=>?_⟩;obtain⟨fF,rfl⟩:=xJ hu;rw[Addr.oA];exact hc j fF
  have uG:pre.length+src.length<=maxLen:=by unfold maxLen;omega
  have qC:(pre.length+src.length)*i.bytes<=140737488355328:=by
    rw[<- zR]
    calc _<=549755813888*128:=Nat.mul_le_mul hlen zQ
      _<=_:=Bv
  have fresh:∀ (jn:Nat) (go:Nat->Value),(∀ row∈pre,row.length=sz)->(∀ r c v,cellAt pre r c=some v->au σ.aa γ.w γ.Z γ.blk v (go (r*sz+c))) ->
      ∀ (w':World) (cap:Nat),pre.length+src.length<=cap->cap<=maxLen ->
        w'=γ.w.drew.alloc (.cells (((bp (pre.length*sz)).map go).toArray++news.toArray++Builtin.zeroCells zv.cells (cap-(pre.length+src.length))) (ty P t).elem) ->
        ∃ γ1:Cx,γ1.w=w'/\γ1.tmps=γ.tmps/\ba { σ1 with aa:=σ1.aa++[.arr sz (pre++src)] } γ1/\Fr σ.aa γ (σ1.aa++[.arr sz (pre++src)]) γ1 /\
          au (σ1.aa++[.arr sz (pre++src)]) γ1.w γ1.Z γ1.blk (.ref σ1.aa.length sz 0 (pre.length+src.length)) (.slice (some ⟨γ.w.heap.size,0,none⟩) (pre.length+src.length) cap):=by
    intro jn go eL C2 w' cap iK pz ox;have vW:∀ v cv,au σ.aa γ.w γ.Z γ.blk v cv->au σ1.aa γ.w γ.Z γ.blk v cv:=by
      intro v cv hv;refine hv.mono (λb hb=>⟨hb,rfl⟩) (λi o ho=>?_);unfold n8 at hd;split at hd
      · simp at hd
        rw[<- hd.2];by_cases bS:o=.gone
        · subst bS;exact .inl ho
        · exact .inr ⟨rfl,o,ho,Ob.iC bS⟩
      · rename_i id cg off len
        have hi:i<σ.aa.length:=(aN.1 ho).1;split at hd
        · split at hd
          · simp at hd
            rw[<- hd.2];show(σ.aa.set id Ob.gone)[i]?=some Ob.gone\/_;simp only[bT];by_cases kS:id=i
            · left;simp[kS,hi]
            · rw[if_neg kS]
              by_cases bS:o=.gone
              · subst bS;exact .inl ho
              · exact .inr ⟨trivial,o,ho,Ob.iC bS⟩
          · simp at hd
        · simp at hd
      · simp at hd
    let cur:=((bp (pre.length*sz)).map go).toArray++news.toArray++Builtin.zeroCells zv.cells (cap-(pre.length+src.length))
    have a9:qq σ1.aa γ.w γ.Z γ.blk 0 cap cur (.arr sz (pre++src)):=by
      refine⟨h0,?_,?_,by simpa using iK,pz,?_⟩
      · intro row bf
        rcases bE.1 bf with h|h
        · exact eL row h
        · exact pU row h
      · simp only[cur,news,Array.size_append,yR,eA,List.length_range,size_zeroCells,gP,<- eB]
        have:pre.length+src.length+(cap-(pre.length+src.length))=cap:=Bv;rw[this];omega
      · intro r c v hv
        have:=Yt (R:=au σ1.aa γ.w γ.Z γ.blk) eL pU (λr c v hv=>vW _ _ (C2 r c v hv)) (λr c v hv=>vW _ _ (xK r c v hv)) (Builtin.zeroCells zv.cells (cap-(pre.length+src.length))).toList r c v hv;rw[gw];have e:cur=(((bp (pre.length*sz)).map go)++((bp (src.length*sz)).map g)++(Builtin.zeroCells zv.cells (cap-(pre.length+src.length))).toList).toArray:=by
          apply Array.ext';simp[cur,news]
        rw[e];exact this
    refine⟨{ γ with w:=w',blk:=cB γ.blk σ1.aa.length (some (γ.w.heap.size,0,cap)) },rfl,rfl,?_,?_,?_⟩
    · exact lB.push (t:=(ty P t).elem) (cur:=cur) (by rw[ox];rfl) a9
    · exact zb.trans (Fr.push (σ:=σ1) (t:=(ty P t).elem) (cur:=cur) _ (by rw[ox];rfl) (by rw[ox];rfl) (by rw[ox];rfl) (by rw[ox];rfl))
    · have:=au.ref (os:=σ1.aa++[.arr sz (pre++src)]) (w:=w') (Z:=γ.Z) (blk:=cB γ.blk σ1.aa.length (some (γ.w.heap.size,0,cap))) σ1.aa.length sz 0 (pre.length+src.length) γ.w.heap.size 0 cap cap (pre++src)
        Jy (by simp[cB]) Jy Bv iK
      simpa using this
  rcases Yx with⟨rfl,rfl⟩|⟨id,b,x,bo,cur,tt,rfl,rfl,kq,rfl,hb,iM⟩|⟨id,off,rows,b,o,cap,cap',cur,tt,ho,rfl,hb,iM,rfl,zZ,lk,mh,eL,C2⟩
  · rcases uf src.length with hm|hp
    ·
      have ik:src=[]:=w9 hm;subst ik;refine⟨.slice none 0 0,{ γ with blk:=cB γ.blk σ1.aa.length none },?_,rfl,lB.vF h0,zb.trans (Fr.vF _ _ _),?_⟩
      · cases ad<;>simp[Builtin.append_,run_underlying ht,sizeOf,typeInfo,hi,Builtin.lenOf,Builtin.firstCells,loadCells,loadCellsFrom]
      · exact .jU _ _ Jy (by simp[cB])
    · obtain⟨a,rfl,hc⟩:=uF hp
      have hr:=run_append_nil (P:=P) γ.w t oty _ i zv ht hi vR a src.length c news an hc hp (by unfold maxLen at uG;simp at uG;omega) (by have hb:=qC;simp only[gX,gw]at hb;omega);have jT:=grownCap_ge γ.w src.length 0 (ty P t).elem;have lk:=grownCap_le_maxLen γ.w src.length 0 (ty P t).elem (by simpa using uG);obtain⟨γ1,e1,e2,e3,e4,e5⟩:=fresh 0 (λ_=>Go.undef) Jy (by simp[cellAt]) _ (grownCap γ.w src.length 0 (ty P t).elem) (by simpa using jT) lk rfl;simp only[gX,Nat.zero_mul,List.range_zero,List.map_nil,gw,Array.empty_append]at e1 e5;refine⟨.slice (some ⟨γ.w.heap.size,0,none⟩) src.length (grownCap γ.w src.length 0 (ty P t).elem),γ1,?_,e2,e3,e4,?_⟩
      · rw[hr,e1]
      · simpa using e5
  · rcases uf src.length with hm|hp
    · have ik:src=[]:=w9 hm
      subst ik;obtain⟨ob,ho,hg⟩:=kq;have mf:∀ k,k≠b->γ.w.heap[k]?=γ.w.heap[k]?:=λ_ _=>rfl;have GO:=h.zW (ob':=.arr sz []) (o':=0) (cap':=0) ho hg (o:=bo.1) (cap:=bo.2) hb iM mf rfl ⟨h0,Jy,Jy,Jy,by simp[maxLen],by simp[cellAt]⟩;have dC:=Fr.zW (γ:=γ) (o':=0) (cap':=0) (.arr sz []) ho hg (o:=bo.1) (cap:=bo.2) hb (w':=γ.w) mf rfl rfl rfl rfl;refine⟨.slice (some ⟨b,x,none⟩) 0 0,{ γ with w:=γ.w,blk:=cB γ.blk σ.aa.length (some (b,0,0)) },?_,rfl,by simpa using GO,by simpa using dC,?_⟩
      · cases ad<;>simp[Builtin.append_,run_underlying ht,sizeOf,typeInfo,hi,Builtin.lenOf,Builtin.firstCells,loadCells,loadCellsFrom,storeCells]
      · have:=au.kn (os:=σ.aa.set id .gone++[.arr sz []]) (w:=γ.w) (Z:=γ.Z) (blk:=cB γ.blk σ.aa.length (some (b,0,0))) σ.aa.length sz 0 b x (0,0) []
          (by rw[dy Jy];simp) (by simp[cB]) Jy
        simpa using this
    · obtain⟨a,rfl,hc⟩:=uF hp
      have hr:=run_append_grow (P:=P) γ.w t oty _ i zv ht hi vR ⟨b,x,none⟩ 0 0 [] Jy Jy a src.length c news an hc Bv (by unfold maxLen at uG;simp at uG;omega) (growslice_fits Bv (by simpa using qC));have jT:=grownCap_ge γ.w (0+src.length) 0 (ty P t).elem;have lk:=grownCap_le_maxLen γ.w (0+src.length) 0 (ty P t).elem (by simpa using uG);obtain⟨γ1,e1,e2,e3,e4,e5⟩:=fresh 0 (λ_=>Go.undef) Jy (by simp[cellAt]) _ (grownCap γ.w (0+src.length) 0 (ty P t).elem) (by simpa using jT) lk rfl;refine⟨.slice (some ⟨γ.w.heap.size,0,none⟩) (0+src.length) (grownCap γ.w (0+src.length) 0 (ty P t).elem),γ1,?_,e2,e3,e4,?_⟩
      · rw[hr,e1];simp
      · simpa using e5
  · by_cases xI:pre.length+src.length<=cap'
    ·
      have hmul:pre.length*sz+src.length*sz<=cap'*sz:=by rw[<- eB];exact kG _ xI
      have C3:news.length=src.length*sz:=by rw[an,ta]
      have hr:=Yv (P:=P) γ.w t oty _ i ht hi b (o+off*sz) pre.length cap' cur tt iM ad src.length c news an uF Yy xI (by rw[ta,C3];omega);have a9:qq σ.aa γ.w γ.Z γ.blk (o+off*sz) cap' (cur.toList.take (o+off*sz+pre.length*i.size)++news++cur.toList.drop (o+off*sz+pre.length*i.size+news.length)).toArray (.arr sz (pre++src)):=by
        refine⟨h0,?_,?_,by simpa using xI,lk,?_⟩
        · intro row bf
          rcases bE.1 bf with h|h
          · exact eL row h
          · exact pU row h
        · simp only[yR,aK,fE,yZ,oV,ta,C3]
          omega
        · intro r c v hv
          rw[zV cur _ news (by rw[ta,C3];omega),ta,C3];rw[PJ]at hv;split at hv
          · obtain⟨re,iK⟩:=zD eL hv
            have:=vL re iK;rw[if_neg Bv];exact C2 r c v hv
          · obtain⟨re,iK⟩:=zD pU hv
            have hl:=vL re iK;have e:r*sz+c=pre.length*sz+((r-pre.length)*sz+c):=by
              have:r=pre.length+(r-pre.length):=Bv
              conv=>lhs;rw[this,eB]
              omega
            rw[if_pos Bv];have e2:o+off*sz+(r*sz+c)-(o+off*sz+pre.length*sz)=(r-pre.length)*sz+c:=Bv;rw[e2];simp only[news,ax];simp[hl];exact xK _ _ _ hv
      have GO:=h.zW ho Jy hb (setRow_heap γ.w b cur _ tt _ iM) (λk hk=>setRow_other γ.w b k _ hk) (setRow_size _ _ _) a9;have dC:=Fr.zW (γ:=γ) (o':=o+off*sz) (cap':=cap') (.arr sz (pre++src)) ho Jy hb (w':=γ.w.setRow b (cur.toList.take (o+off*sz+pre.length*i.size)++news++cur.toList.drop (o+off*sz+pre.length*i.size+news.length)).toArray) (λk hk=>setRow_other γ.w b k _ hk) (setRow_size _ _ _) rfl rfl rfl;refine⟨_,{ γ with w:=γ.w.setRow b (cur.toList.take (o+off*sz+pre.length*i.size)++news++cur.toList.drop (o+off*sz+pre.length*i.size+news.length)).toArray,blk:=cB γ.blk σ.aa.length (some (b,o+off*sz,cap')) },hr,rfl,?_,?_,?_⟩
      · simpa using GO
      · simpa using dC
      · have:=au.ref (os:=σ.aa.set id .gone++[.arr sz (pre++src)]) (w:=γ.w.setRow b (cur.toList.take (o+off*sz+pre.length*i.size)++news++cur.toList.drop (o+off*sz+pre.length*i.size+news.length)).toArray) (Z:=γ.Z)
          (blk:=cB γ.blk σ.aa.length (some (b,o+off*sz,cap'))) σ.aa.length sz 0 (pre.length+src.length) b (o+off*sz) cap' cap' (pre++src)
          (by rw[dy Jy];simp) (by simp[cB]) Jy Bv xI
        simpa using this
    ·
      let go:Nat->Value:=λj=>cur.getD (o+off*sz+j) Go.undef
      let C4:=(bp (pre.length*sz)).map go
      have pZ:C4.length=pre.length*i.size:=by simp[C4,ta]
      have aew:pre.length*sz<=cap'*sz:=kG _ zZ;have holds:∀ j v,C4[j]?=some v->γ.w.cell? ((⟨b,o+off*sz,none⟩:Addr).add j)=some v:=by
        intro j v hj;obtain⟨fF,rfl⟩:=xJ hj;rw[Addr.oA];exact xD iM Bv
      have hp:0<src.length:=Bv;obtain⟨a,rfl,hc⟩:=uF hp;have hr:=run_append_grow (P:=P) γ.w t oty _ i zv ht hi vR ⟨b,o+off*sz,none⟩ pre.length cap' C4 pZ holds a src.length c news an hc Bv (by unfold maxLen at uG;omega) (growslice_fits Bv qC);have jT:=grownCap_ge γ.w (pre.length+src.length) cap' (ty P t).elem;have Yz:=grownCap_le_maxLen γ.w (pre.length+src.length) cap' (ty P t).elem uG;obtain⟨γ1,e1,e2,e3,e4,e5⟩:=fresh 0 go eL C2 _ (grownCap γ.w (pre.length+src.length) cap' (ty P t).elem) jT Yz rfl;refine⟨_,γ1,?_,e2,e3,e4,e5⟩;rw[hr,e1]
def Yo{σ:St}{γ:Cx}(h:ba σ γ){t t' oty:TypeId}{sz:Nat}(hk:(ty P t).kind=1)(dk:(ty P (ty P t).elem).kind≠99)(aH:sz=(ty P (ty P t).elem).size)(h0:0<sz){id off len:Nat}{x:AV}{py zY:Value}(hS:au σ.aa γ.w γ.Z γ.blk (.ref id sz off len) py)(hX:au σ.aa γ.w γ.Z γ.blk x zY){rows:List (List AV)}(ho:σ.aa[id]?=some (.arr sz rows)){src:List (List AV)}(qo:l4 σ x=some (sz,src))(qA:(src.all λrow=>row.all ca)=true):
  ∃ w',(Builtin.copy_ #[t,t'] oty #[py,zY]).run P γ.w=.ok (.int .i64 (min src.length len:Nat)) w' /\
   ba { σ with aa:=σ.aa.set id (.arr sz (rows.take off++src.take (min src.length len)++rows.drop (off+min src.length len))) } { γ with w:=w' } /\
   Fr σ.aa γ (σ.aa.set id (.arr sz (rows.take off++src.take (min src.length len)++rows.drop (off+min src.length len)))) { γ with w:=w' }:=by
 obtain⟨i,d,hi,CS,qv,zR,hzero⟩:=qw dk;have ht:=pw hk;have ta:i.size=sz:=by rw[<- qv,<- aH]
 obtain⟨ad,c,g,rfl,pU,GN,xK⟩:=PI h hX h0 qo;have cO:id<σ.aa.length:=(aN.1 ho).1;have zero:∀ (vX:Option Addr) (cap':Nat),min src.length len=0->py=.slice vX len cap'->∃ w',(Builtin.copy_ #[t,t'] oty #[py,.slice ad src.length c]).run P γ.w=.ok (.int .i64 (min src.length len:Nat)) w' /\
   ba { σ with aa:=σ.aa.set id (.arr sz (rows.take off++src.take (min src.length len)++rows.drop (off+min src.length len))) } { γ with w:=w' } /\
   Fr σ.aa γ (σ.aa.set id (.arr sz (rows.take off++src.take (min src.length len)++rows.drop (off+min src.length len)))) { γ with w:=w' }:=by
  intro vX cap' hz aV;have jZ:σ.aa.set id (.arr sz rows)=σ.aa:=by
   apply pR;intro j;rw[bT];split
   ·rename_i e;subst e;simp[ho]
   ·rfl
  refine⟨γ.w,?_,?_,?_⟩
  ·have hm:Nat.min src.length len=0:=hz;subst aV;cases ad<;>cases vX<;>simp[Builtin.copy_,run_underlying ht,sizeOf,typeInfo,hi,Builtin.lenOf,Builtin.firstCells,loadCells,loadCellsFrom,storeCells,hm,goInt,hz]
  ·rw[hz];simp[jZ];exact h
  ·rw[hz];simp[jZ];exact Fr.refl _ _
 cases hS with
 |bV _ _ h=>cases h
 |iY _ _ _ _ _ h=>rw[ho]at h;simp at h
 |jU _ _ h hb=>exact zero none 0 Jy rfl
 |kn _ _ _ b x bo fh h hb hl=>exact zero _ 0 Jy rfl
 |ref _ _ _ _ b o cap cap' fh h' hb hl hc eK =>
  rw[ho]at h';simp at h';subst h';rcases uf (min src.length len) with hz|hp
  ·exact zero _ _ hz rfl
  obtain⟨_,dK,a9⟩:=h.dQ id _ ho;rcases a9 with⟨h1,_⟩|⟨b',o',zC,cur,tt,h1,h2,h3,h4,h5,h6⟩
  ·rw[hb]at h1;simp at h1
  rw[hb]at h1;simp at h1;obtain⟨rfl,rfl,rfl⟩:=h1;generalize hn:min src.length len=n at *;have ll:n<=src.length:=Bv;have kk:n<=len:=Bv
  let news:=(bp (n*sz)).map g
  have an:news.length=n*sz:=by simp[news]
  have m7:∀ u∈news,u.oneCell'=true:=by
   intro u hu;obtain⟨j,hj⟩:=JB.1 hu;obtain⟨fF,rfl⟩:=xJ hj;have k1:j/sz<n:=Nat.div_lt_of_lt_mul (by rw[vp];exact fF);have k2:j%sz<sz:=xe _ h0;have k3:j/sz<src.length:=Bv;have dK:(src[j/sz]).length=sz:=pU _ (mD k3);have:=xK (j/sz) (j%sz) ((src[j/sz])[j%sz]' Bv) (by simp[cellAt,k3,k2,dK]);have e:j/sz*sz+j%sz=j:=by rw[vp];exact Nat.div_add_mod j sz
   rw[e]at this;refine C0 this ?_;rw[eS]at qA;have:=qA _ (mD k3);rw[eS]at this;exact this _ (mD _)
  obtain⟨sb,so,rfl,rG⟩:=GN Bv;have hle:n*sz<=src.length*sz:=kG _ ll;have PN:=run_loadCells_list (P:=P) γ.w ⟨sb,so,none⟩ news (λj v hj=>by
   obtain⟨fF,rfl⟩:=xJ hj;rw[Addr.oA];exact rG j Bv)
  have mh:(off+n)*sz<=cap*sz:=kG _ Bv;rw[eB]at mh;have c9:=run_storeCells_at P b (o+off*sz) tt news 0 cur γ.w h2 (by rw[an];omega) m7;simp only[k9]at c9;have dG:(Builtin.copy_ #[t,t'] oty #[.slice (some ⟨b,o+off*sz,none⟩) len cap',.slice (some ⟨sb,so,none⟩) src.length c]).run P γ.w=.ok (.int .i64 (n:Nat)) (γ.w.setRow b (cur.toList.take (o+off*sz)++news++cur.toList.drop (o+off*sz+news.length)).toArray):=by
   have hm:Nat.min src.length len=n:=hn;rw[an]at PN;simp[Builtin.copy_,run_underlying ht,sizeOf,typeInfo,hi,Builtin.lenOf,Builtin.firstCells,hm,ta,PN,c9,goInt]
  have GP:qq σ.aa γ.w γ.Z γ.blk o cap (cur.toList.take (o+off*sz)++news++cur.toList.drop (o+off*sz+news.length)).toArray (.arr sz (rows.take off++src.take n++rows.drop (off+n))):=by
   refine⟨h0,?_,?_,?_,h5,?_⟩
   ·intro row bf;simp only[bE]at bf;rcases bf with(hr|hr)|hr
    ·exact dK row (qY hr)
    ·exact pU row (qY hr)
    ·exact dK row (xc hr)
   ·simp only[yR,aK,fE,yZ,oV,an];omega
   ·simp;omega
   ·intro r cc v hv;rw[zV cur _ news (by rw[an];omega),an];have bq:cc<sz:=by
     simp only[cellAt,w8]at hv;obtain⟨y,hy,vT⟩:=hv;have hm:=fq hy;have:=(aN.1 vT).1;simp only[bE]at hm;rcases hm with(hr|hr)|hr
     ·have:=dK y (qY hr);omega
     ·have:=pU y (qY hr);omega
     ·have:=dK y (xc hr);omega
    rcases dr r off with k1|k1
    ·have e:cellAt (rows.take off++src.take n++rows.drop (off+n)) r cc=cellAt rows r cc:=by
      simp only[cellAt,bn];rw[cG aak,pS,if_pos k1]
     rw[e]at hv;have hm:(r+1)*sz<=off*sz:=kG _ Bv;rw[eB]at hm;rw[if_neg Bv];exact h6 r cc v hv
    ·rcases dr r (off+n) with k2|k2
     ·have e:cellAt (rows.take off++src.take n++rows.drop (off+n)) r cc=cellAt src (r-off) cc:=by
       simp only[cellAt,bn];rw[dy aak,cG aak,pS,if_pos aak];congr 2;simp;omega
      rw[e]at hv;have e1:r=off+(r-off):=Bv;have e2:r*sz=off*sz+(r-off)*sz:=by rw[<- eB,<- e1]
      have hm:(r-off+1)*sz<=n*sz:=kG _ Bv;rw[eB]at hm;rw[if_pos Bv];have e3:o+(r*sz+cc)-(o+off*sz)=(r-off)*sz+cc:=Bv;rw[e3];have hl:(r-off)*sz+cc<n*sz:=Bv;simp only[news,ax];simp[hl];exact xK _ _ _ hv
     ·have e:cellAt (rows.take off++src.take n++rows.drop (off+n)) r cc=cellAt rows r cc:=by
       simp only[cellAt];rw[dy aak,kE];congr 2;simp;omega
      rw[e]at hv;have hm:(off+n)*sz<=r*sz:=kG _ k2;rw[eB]at hm;rw[if_neg Bv];exact h6 r cc v hv
  refine⟨_,dG,?_,?_⟩
  ·exact h.write ho Jy (by simp[Ob.dj];omega) hb (setRow_heap γ.w b cur _ tt _ h2) (λk hk=>setRow_other γ.w b k _ hk) (setRow_size _ _ _) GP
  ·exact Fr.write _ ho Jy (by simp[Ob.dj];omega) hb (λk hk=>setRow_other γ.w b k _ hk) (setRow_size _ _ _) rfl rfl rfl
def Yp{σ:St}{γ:Cx}(h:ba σ γ){t oty:TypeId}{sz:Nat}{z:List Value}(hk:(ty P t).kind=1)(dk:(ty P (ty P t).elem).kind≠99)(jD:z.length=sz)(h0:0<sz)(hz:(ty P (ty P t).elem).zero=some z)(s9:(z.all λu=>u.oneCell')=true){id off len:Nat}{py:Value}(hS:au σ.aa γ.w γ.Z γ.blk (.ref id sz off len) py){rows:List (List AV)}(ho:σ.aa[id]?=some (.arr sz rows)):
  ∃ w',(Builtin.clear_ #[t] oty #[py]).run P γ.w=.ok (.tuple #[]) w' /\
   ba { σ with aa:=σ.aa.set id (.arr sz (rows.take off++aD len (z.map AV.lit)++rows.drop (off+len))) } { γ with w:=w' } /\
   Fr σ.aa γ (σ.aa.set id (.arr sz (rows.take off++aD len (z.map AV.lit)++rows.drop (off+len)))) { γ with w:=w' }:=by
 obtain⟨i,d,hi,CS,qv,zR,hzero⟩:=qw dk;have ht:=pw hk;rw[hz]at hzero;obtain⟨zv,vR,gP⟩:=vn.1 hzero.symm;have GQ:zv.cells.size=sz:=by rw[<- jD,<- gP];simp
 have cO:id<σ.aa.length:=(aN.1 ho).1;have zero:∀ (vX:Option Addr) (cap':Nat),len=0->py=.slice vX len cap'->∃ w',(Builtin.clear_ #[t] oty #[py]).run P γ.w=.ok (.tuple #[]) w' /\
   ba { σ with aa:=σ.aa.set id (.arr sz (rows.take off++aD len (z.map AV.lit)++rows.drop (off+len))) } { γ with w:=w' } /\
   Fr σ.aa γ (σ.aa.set id (.arr sz (rows.take off++aD len (z.map AV.lit)++rows.drop (off+len)))) { γ with w:=w' }:=by
  intro vX cap' z4 aV;have jZ:σ.aa.set id (.arr sz rows)=σ.aa:=by
   apply pR;intro j;rw[bT];split
   ·rename_i e;subst e;simp[ho]
   ·rfl
  refine⟨γ.w,?_,?_,?_⟩
  ·subst aV;subst z4;cases vX<;>simp[Builtin.clear_,run_underlying ht]
  ·subst z4;simp[jZ];exact h
  ·subst z4;simp[jZ];exact Fr.refl _ _
 cases hS with
 |bV _ _ h=>cases h
 |iY _ _ _ _ _ h=>rw[ho]at h;simp at h
 |jU _ _ h hb=>exact zero none 0 rfl rfl
 |kn _ _ _ b x bo fh h hb hl=>exact zero _ 0 rfl rfl
 |ref _ _ _ _ b o cap cap' fh h' hb hl hc eK =>
  rw[ho]at h';simp at h';subst h';rcases uf len with z4|hp
  ·exact zero _ _ z4 rfl
  obtain⟨_,dK,a9⟩:=h.dQ id _ ho;rcases a9 with⟨h1,_⟩|⟨b',o',zC,cur,tt,h1,h2,h3,h4,h5,h6⟩
  ·rw[hb]at h1;simp at h1
  rw[hb]at h1;simp at h1;obtain⟨rfl,rfl,rfl⟩:=h1
  let g:Nat->Value:=λi=>zv.cells[i%zv.cells.size]!
  let news:=(bp (len*sz)).map g
  have uF:(Builtin.zeroCells zv.cells len).toList=news:=by
   simp[Builtin.zeroCells,news,g,GQ]
  have an:news.length=len*sz:=by simp[news]
  have PO:∀ i,i<sz->∃ u,z[i]?=some u/\zv.cells[i]! = u:=by
   intro i hi';have:i<zv.cells.size:=Bv;refine⟨zv.cells[i],?_,?_⟩
   ·rw[<- gP];simp[this]
   ·simp[this]
  have m7:∀ u∈news,u.oneCell'=true:=by
   intro u hu;obtain⟨j,hj⟩:=JB.1 hu;obtain⟨fF,rfl⟩:=xJ hj;obtain⟨u,k1,k2⟩:=PO (j%sz) (xe _ h0);show(zv.cells[j%zv.cells.size]!).oneCell'=true;rw[GQ,k2];rw[eS]at s9;exact s9 _ (fq k1)
  have mh:(off+len)*sz<=cap*sz:=kG _ Bv;rw[eB]at mh;have c9:=run_storeCells_at P b (o+off*sz) tt news 0 cur γ.w h2 (by rw[an];omega) m7;simp only[k9]at c9;have dG:(Builtin.clear_ #[t] oty #[.slice (some ⟨b,o+off*sz,none⟩) len cap']).run P γ.w=.ok (.tuple #[]) (γ.w.setRow b (cur.toList.take (o+off*sz)++news++cur.toList.drop (o+off*sz+news.length)).toArray):=by
   obtain⟨aex,rfl⟩:∃k,len=k+1:=⟨len-1,Bv⟩;simp[Builtin.clear_,run_underlying ht,zeroValue,typeInfo,hi,vR,uF,c9]
  have GP:qq σ.aa γ.w γ.Z γ.blk o cap (cur.toList.take (o+off*sz)++news++cur.toList.drop (o+off*sz+news.length)).toArray (.arr sz (rows.take off++aD len (z.map AV.lit)++rows.drop (off+len))):=by
   refine⟨h0,?_,?_,?_,h5,?_⟩
   ·intro row bf;simp only[bE]at bf;rcases bf with(hr|hr)|hr
    ·exact dK row (qY hr)
    ·rw[y7 hr,eA];exact jD
    ·exact dK row (xc hr)
   ·simp only[yR,aK,fE,yZ,oV,an];omega
   ·simp;omega
   ·intro r cc v hv;rw[zV cur _ news (by rw[an];omega),an];have bq:cc<sz:=by
     simp only[cellAt,w8]at hv;obtain⟨y,hy,vT⟩:=hv;have hm:=fq hy;have:=(aN.1 vT).1;simp only[bE]at hm;rcases hm with(hr|hr)|hr
     ·have:=dK y (qY hr);omega
     ·have YA:=y7 hr;rw[YA,eA]at this;omega
     ·have:=dK y (xc hr);omega
    rcases dr r off with k1|k1
    ·have e:cellAt (rows.take off++aD len (z.map AV.lit)++rows.drop (off+len)) r cc=cellAt rows r cc:=by
      simp only[cellAt,bn];rw[cG aak,pS,if_pos k1]
     rw[e]at hv;have hm:(r+1)*sz<=off*sz:=kG _ Bv;rw[eB]at hm;rw[if_neg Bv];exact h6 r cc v hv
    ·rcases dr r (off+len) with k2|k2
     ·have e:cellAt (rows.take off++aD len (z.map AV.lit)++rows.drop (off+len)) r cc=(z.map AV.lit)[cc]?:=by
       simp only[cellAt,bn];rw[dy aak,cG aak,List.getElem?_replicate,if_pos aak];rfl
      rw[e,cm]at hv;obtain⟨u,k3,k4⟩:=PO cc bq;rw[k3]at hv;simp only[fN,cL.injEq]at hv;subst hv;have e1:r=off+(r-off):=Bv;have e2:r*sz=off*sz+(r-off)*sz:=by rw[<- eB,<- e1]
      have hm:(r-off+1)*sz<=len*sz:=kG _ Bv;rw[eB]at hm;rw[if_pos Bv];have e3:o+(r*sz+cc)-(o+off*sz)=(r-off)*sz+cc:=Bv;rw[e3];have hl:(r-off)*sz+cc<len*sz:=Bv;have e4:news.getD ((r-off)*sz+cc) Go.undef=u:=by
       simp only[news,ax];rw[cm,List.getElem?_range hl];show zv.cells[((r-off)*sz+cc)%zv.cells.size]! = u;rw[GQ,vp,Nat.mul_add_mod,JE bq,k4]
      first
       | (rw[e4];exact .lit _)
       | (simp only[ax]at e4 ⊢;rw[e4];exact .lit _)
     ·have e:cellAt (rows.take off++aD len (z.map AV.lit)++rows.drop (off+len)) r cc=cellAt rows r cc:=by
       simp only[cellAt];rw[dy aak,kE];congr 2;simp;omega
      rw[e]at hv;have hm:(off+len)*sz<=r*sz:=kG _ k2;rw[eB]at hm;rw[if_neg Bv];exact h6 r cc v hv
  refine⟨_,dG,?_,?_⟩
  ·exact h.write ho Jy (by simp[Ob.dj];omega) hb (setRow_heap γ.w b cur _ tt _ h2) (λk hk=>setRow_other γ.w b k _ hk) (setRow_size _ _ _) GP
  ·exact Fr.write _ ho Jy (by simp[Ob.dj];omega) hb (λk hk=>setRow_other γ.w b k _ hk) (setRow_size _ _ _) rfl rfl rfl
end Go.Am
namespace Go.Am
variable {P:Program}
def YB(l:List Value):∀ (j off:Nat) (cells:Array Value),off+j+l.length<=cells.size ->
  ((l.zipIdx j).foldl (λcs (x:Value×Nat)=>cs.setIfInBounds (off+x.2) x.1) cells).size=cells.size /\
  ∀ k,((l.zipIdx j).foldl (λcs (x:Value×Nat)=>cs.setIfInBounds (off+x.2) x.1) cells).getD k Go.undef=if off+j<=k/\k<off+j+l.length then l.getD (k-(off+j)) Go.undef else cells.getD k Go.undef:=by
 induction l with
 |nil=>intro j off cells _;simp;intro k h1 h2;omega
 |cons v l ih =>
  intro j off cells hl;simp only[cf]at hl;simp only[List.zipIdx_cons,List.foldl_cons];obtain⟨h1,h2⟩:=ih (j+1) off (cells.setIfInBounds (off+j) v) aak;refine⟨by rw[h1];simp,λk=>?_⟩;rw[h2 k];simp only[cf];by_cases c1:off+(j+1)<=k/\k<off+(j+1)+l.length
  ·rw[if_pos c1,if_pos Bv];have:k-(off+j)=(k-(off+(j+1)))+1:=Bv;rw[this];simp
  ·rw[if_neg c1];by_cases c2:k=off+j
   ·subst c2;rw[if_pos Bv];simp[dJ,show off+j<cells.size by omega]
   ·rw[if_neg Bv];simp[dJ,Array.getElem?_setIfInBounds_ne (Ne.symm c2)]
def YC(v:Value)(off:Nat)(cells:Array Value):
  (v.cells.zipIdx.foldl (λcs (c,j)=>cs.setIfInBounds (off+j) c) cells)=((v.cells.toList.zipIdx 0).foldl (λcs (x:Value×Nat)=>cs.setIfInBounds (off+x.2) x.1) cells):=by
 rw[<- Array.foldl_toList];simp
def z5(R:AV->Value->Prop)(cs:List AV)(cur:Array Value):Prop:=cur.size=cs.length/\∀ j x,cs[j]?=some x->R x (cur.getD j Go.undef)
def CU{σ:St}{γ:Cx}{place:Nat->Option (Nat×Nat)}:∀ (parts:List (Nat×AV)) (pv:List (Nat×Value)) (cs:List AV) (cur:Array Value) (oo:List AV),
  parts.length=pv.length->(∀ (j:Nat) (p:Nat×AV) (q:Nat×Value),parts[j]?=some p->pv[j]?=some q->p.1=q.1/\au σ.aa γ.w γ.Z γ.blk p.2 q.2)->(∀ p∈parts,(cellsOf p.2).all ca=true) ->
  z5 (au σ.aa γ.w γ.Z γ.blk) cs cur->kh place cs parts=some oo->∃ m6,Instr.fill place cur pv=some m6/\z5 (au σ.aa γ.w γ.Z γ.blk) oo m6
 |[],pv,cs,cur,oo,hl,_,_,hc,h=>by
  have:pv=[]:=w9 hl.symm;subst this;simp[kh]at h;subst h;exact⟨cur,by simp[Instr.fill],hc⟩
 | (i,v)::rest,[],cs,cur,oo,hl,_,_,_,_=>by simp at hl
 | (i,v)::rest,(i',x)::pv,cs,cur,oo,hl,hr,hs,hc,h=>by
  obtain⟨e1,e2⟩:=hr 0 (i,v) (i',x) rfl rfl;simp only at e1 e2;subst e1;simp only[kh]at h;cases hp:place i with
  |none=>simp[hp]at h
  |some os =>
   obtain⟨off,size⟩:=os;simp only[hp]at h;split at h
   ·rename_i YD;obtain⟨h1,h2⟩:=YD;obtain⟨g1,g2,g3⟩:=Gu e2 (hs (i,v) Jy);have aH:x.cells.size=size:=by rw[g1,h1]
    obtain⟨kO,l6⟩:=hc;have mh:off+0+x.cells.toList.length<=cur.size:=by simp[aH,kO];omega
    obtain⟨f1,f2⟩:=YB x.cells.toList 0 off cur mh;have lC:z5 (au σ.aa γ.w γ.Z γ.blk) (setCells cs off (cellsOf v)) (x.cells.zipIdx.foldl (λcs (c,j)=>cs.setIfInBounds (off+j) c) cur):=by
     rw[YC];refine⟨by rw[f1,Gx];exact kO,λj y hj=>?_⟩;rw[PG _ _ _ (by rw[h1];exact h2)]at hj;rw[f2 j];simp only[k9,oV,aH];rw[h1]at hj;by_cases eE:off<=j/\j<off+size
     ·rw[if_pos eE]at hj;rw[if_pos eE];have:=g2 _ _ hj;simpa [ax,dJ] using this
     ·rw[if_neg eE]at hj;rw[if_neg eE];exact l6 j y hj
    obtain⟨m6,k1,k2⟩:=CU rest pv _ _ oo (by simpa using hl) (λj p q hp hq=>hr (j+1) p q (by simpa using hp) (by simpa using hq)) (λp hp=>hs p (by simp[hp])) lC h;refine⟨m6,?_,k2⟩;simp only[Instr.fill,hp];rw[if_neg ?_]
    ·exact k1
    ·simp[aH,kO];omega
   ·simp at h
def Gt{os:List Ob}{w:World}{Z:Nat->Prop}{blk:fi}(z:List Value):z5 (au os w Z blk) (z.map .lit) z.toArray:=by
 refine⟨Jy,λj x hx=>?_⟩;simp only[cm]at hx;cases hj:z[j]? with
 |none=>simp[hj]at hx
 |some y =>
  simp[hj]at hx;subst hx;simp[dJ,hj];exact .lit y
def Gv{σ:St}{γ:Cx}(h:ba σ γ){a:Act}(ha:γ.tmps=a.tmps)(parts:Array (Nat×Operand)):
  (parts.toList.map λp=>(p.1,ev σ p.2)).length=(parts.map λ(i,x)=>(i,a.eval x)).toList.length /\
  ∀ (j:Nat) (p:Nat×AV) (q:Nat×Value),(parts.toList.map λp=>(p.1,ev σ p.2))[j]?=some p->(parts.map λ(i,x)=>(i,a.eval x)).toList[j]?=some q->p.1=q.1/\au σ.aa γ.w γ.Z γ.blk p.2 q.2:=by
 refine⟨Jy,λj p q hp hq=>?_⟩;simp only[Array.toList_map,cm]at hp hq;cases hj:parts.toList[j]? with
 |none=>simp[hj]at hp
 |some y =>
  simp only[hj,fN,cL.injEq]at hp hq;subst hp;subst hq;exact⟨rfl,mV h ha y.2⟩
def Ya{σ:St}{γ:Cx}(h:ba σ γ){a:Act}(ha:γ.tmps=a.tmps){t:TypeId}{parts:Array (Nat×Operand)}{z:List Value}(hk:(ty P t).kind=3)(hz:(ty P t).zero=some z){cs:List AV}(hf:kh (λi=>((ty P t).aJ[i]?).map λf=>(f.1,f.2.2)) (z.map .lit) (parts.toList.map λp=>(p.1,ev σ p.2))=some cs)(hs:(parts.toList.all λp=>(cellsOf (ev σ p.2)).all ca)=true)(hp:((ty P t).aJ.all λf=>decide (0<f.2.2))=true):
  ∃ cur,(Instr.build t (parts.map λ(i,x)=>(i,a.eval x))).run P γ.w=.ok (.agg cur) γ.w/\au σ.aa γ.w γ.Z γ.blk (.agg cs) (.agg cur):=by
 obtain⟨it,d,hi,hd,_,_,hzero⟩:=qw (P:=P) (t:=t) (by rw[hk];simp);obtain⟨fs,hu,eX⟩:=GG hk;rw[hzero]at hz;cases hv:it.zero with
 |none=>simp[hv]at hz
 |some zv =>
  simp[hv]at hz;have gP:z.toArray=zv.cells:=by rw[<- hz]
  obtain⟨hl,hr⟩:=Gv h ha parts;obtain⟨cur,h1,h2⟩:=CU (σ:=σ) (γ:=γ) _ _ _ _ cs hl hr (λp hp=>by
   simp only[cF]at hp;obtain⟨q,hq,rfl⟩:=hp;rw[eS]at hs;exact hs q hq) (Gt z) hf
  refine⟨cur,run_build γ.w t _ cur ?_,.agg _ _ h2.1 h2.2⟩;unfold Program.built;rw[hi,hu];simp only[hv];have YE:∀ (l:List Field),(∀ f∈l,0<s8 P f.type)->l.mapM (λf=>(P.info? f.type).map λi=>(f.offset,i.size))=some (l.map λf=>(f.offset,s8 P f.type)):=by
   intro l
   induction l with
   |nil=>intro _;simp
   |cons f l ih =>
    intro hl;have h0:=hl f Jy;unfold s8 at h0;cases GR:P.info? f.type with
    |none=>simp[GR]at h0
    |some i =>
     simp only[List.mapM_cons,GR,fN,ih (λg hg=>hl g (by simp[hg]))];simp[s8,GR]
  rw[YE fs.toList (by
   intro f dU;rw[eX]at hp;simp only[List.all_map,eS]at hp;have:=hp f dU;simpa using this)]
  simp only;rw[<- gP];have:(λ(x:Nat)=>((fs.toList.map λf=>(f.offset,s8 P f.type)).toArray[x]?))=(λ(i:Nat)=>((ty P t).aJ[i]?).map λ(f:Nat×Nat×Nat)=>(f.1,f.2.2)):=by
   funext i;rw[eX];simp;cases fs[i]?<;>simp
  rw[this];exact h1
def Yb{σ:St}{γ:Cx}(h:ba σ γ){a:Act}(ha:γ.tmps=a.tmps){t:TypeId}{parts:Array (Nat×Operand)}{z:List Value}(hk:(ty P t).kind=2)(hz:(ty P t).zero=some z){cs:List AV}(hf:kh (λi=>some (i*(ty P (ty P t).elem).size,(ty P (ty P t).elem).size)) (z.map .lit) (parts.toList.map λp=>(p.1,ev σ p.2))=some cs)(hs:(parts.toList.all λp=>(cellsOf (ev σ p.2)).all ca)=true)(dk:(ty P (ty P t).elem).kind≠99):
  ∃ cur,(Instr.build t (parts.map λ(i,x)=>(i,a.eval x))).run P γ.w=.ok (.agg cur) γ.w/\au σ.aa γ.w γ.Z γ.blk (.agg cs) (.agg cur):=by
 obtain⟨it,d,hi,hd,_,_,hzero⟩:=qw (P:=P) (t:=t) (by rw[hk];simp);have hu:=GJ hk;obtain⟨ie,de,YF,_,qv,_,_⟩:=qw dk;rw[hzero]at hz;cases hv:it.zero with
 |none=>simp[hv]at hz
 |some zv =>
  simp[hv]at hz;have gP:z.toArray=zv.cells:=by rw[<- hz]
  obtain⟨hl,hr⟩:=Gv h ha parts;obtain⟨cur,h1,h2⟩:=CU (σ:=σ) (γ:=γ) _ _ _ _ cs hl hr (λp hp=>by
   simp only[cF]at hp;obtain⟨q,hq,rfl⟩:=hp;rw[eS]at hs;exact hs q hq) (Gt z) hf
  refine⟨cur,run_build γ.w t _ cur ?_,.agg _ _ h2.1 h2.2⟩;unfold Program.built;rw[hi,hu];simp only[hv,YF];rw[<- gP,<- qv];exact h1
def Gy(sz:Nat):∀ (n:Nat) (cs:List AV),(ki sz n cs).length=n
 |0,_=>rfl
 |n+1,cs=>by simp[ki,Gy sz n]
def Py(sz:Nat):∀ (n:Nat) (cs:List AV),n*sz<=cs.length->∀ row∈ki sz n cs,row.length=sz
 |0,_,_,row,h=>by simp[ki]at h
 |n+1,cs,hl,row,h=>by
  rw[eB]at hl;simp only[ki,List.mem_cons]at h;rcases h with rfl|h
  ·simp;omega
  ·exact Py sz n (cs.drop sz) aak row h
def Pz(sz:Nat):∀ (n:Nat) (cs:List AV) (r c:Nat) (v:AV),cellAt (ki sz n cs) r c=some v->cs[r*sz+c]?=some v
 |0,_,r,c,v,h=>by simp[ki,cellAt]at h
 |n+1,cs,0,c,v,h=>by
  simp only[ki,cellAt,List.getElem?_cons_zero,Option.bind_some,pS]at h;split at h
  ·simpa using h
  ·simp at h
 |n+1,cs,r+1,c,v,h=>by
  have h':cellAt (ki sz n (cs.drop sz)) r c=some v:=by simpa [ki,cellAt] using h
  have:=Pz sz n (cs.drop sz) r c v h';rw[kE]at this;rw[eB];have e:r*sz+1*sz+c=sz+(r*sz+c):=Bv;rw[e];exact this
def Gw{os:List Ob}{w:World}{Z:Nat->Prop}{blk:fi}(z:List Value)(n m:Nat)(hm:m=n*z.length)(hz:0<z.length):
  z5 (au os w Z blk) ((bp n).flatMap λ_=>z.map .lit) ((Array.range m).map (z.toArray[· % z.toArray.size]!)):=by
 subst hm;have hlen:((bp n).flatMap λ_=>z.map AV.lit).length=n*z.length:=by
  induction n with
  |zero=>simp
  |succ n ih=>rw[sF,sG,aK,ih];simp[eB]
 refine⟨by simp[hlen],λj x hx=>?_⟩;have hj:j<n*z.length:=by rw[<- hlen];exact(aN.1 hx).1
 have key:∀ (n j:Nat),j<n*z.length->((bp n).flatMap λ_=>z.map AV.lit)[j]?=some (.lit (z[j%z.length]'(xe _ hz))):=by
  intro n
  induction n with
  |zero=>intro j hj;simp at hj
  |succ n ih =>
   intro j hj;have rK:((bp n).flatMap λ_=>z.map AV.lit).length=n*z.length:=by
    clear ih hj hx hlen
    induction n with
    |zero=>simp
    |succ n ih=>rw[sF,sG,aK,ih];simp[eB]
   rw[sF,sG];by_cases PQ:j<n*z.length
   ·rw[cG (by rw[rK];exact PQ)];exact ih j PQ
   ·rw[dy (by rw[rK];omega),rK];rw[eB]at hj;have bq:j-n*z.length<z.length:=Bv;have tc:j%z.length=j-n*z.length:=by
     have:j=(j-n*z.length)+n*z.length:=Bv;rw[this,Nat.add_mul_mod_self_right,JE bq];omega
    simp[bq,tc]
 rw[key n j hj]at hx;simp at hx;subst hx;have hm:j%z.length<z.length:=xe _ hz;simp[dJ,hj,hm];exact .lit _
end Go.Am

