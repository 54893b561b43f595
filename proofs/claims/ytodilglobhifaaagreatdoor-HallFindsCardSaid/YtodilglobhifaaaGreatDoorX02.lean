import Derived.Test.YtodilglobhifaaaGreatDoorX01
set_option linter.all false
set_option maxHeartbeats 0
set_option maxRecDepth 20000
open List renaming getElem?_map→dm,mem_of_getElem?→fB,getElem?_eq_some_iff→ba,getElem?_set→cj,range→bD,length_cons→cK,all_eq_true→gN,getElem?_take→oP,getElem?_drop→j8,getElem?_toArray→Dl,getD_eq_getElem?_getD→aw,append_assoc→bN,getElem?_append_left→cr,getElem?_append_right→dS,getElem_mem→nM,mem_of_mem_drop→ue,mem_of_mem_take→qV,eq_nil_of_length_eq_zero→vT,mem_iff_getElem?→Hk,mem_append→bj,size_toArray→xL,length_map→iS,length_nil→g8,length_append→aJ,length_take→j9,length_drop→xK,ext_getElem?→xP,replicate→ax,eq_of_mem_replicate→ui,mem_map→cN,range_succ→ug,flatMap_append→xR
open Option renaming map_eq_some_iff→ud,bind_eq_some_iff→vS,map_some→g9,some→dv
open Array renaming getD_eq_getD_getElem?→dC,length_toList→nL
open Nat renaming mul_le_mul_right→j',add_mul→eI,add_assoc→p6,add_zero→kX,ne_of_lt→jL,lt_or_ge→dD,mul_comm→uh,mod_lt→Az,eq_zero_or_pos→AB,zero_add→gM
namespace Go.Am
variable {P:Program}
def uP(o:Oper)(σ:St)(γ:Cx)(a:Act)(K:St->Prop)(r:Result Next):Prop :=
 ∃ n x w' σ' av,r=.ok n w'/\(n=.value x\/(n=.skip/\x=Go.undef))/\K σ'/\aZ σ' av/\Fr σ.aa γ σ'.aa av/\av.w=w'/\av.tmps=(a.put o.dst x).tmps
def aq.lit{os:List Ob}{w:World}{Z:Nat->Prop}{blk:eW}(v:Value):aq os w Z blk (.lit v) v:=.bO _ _ (.lit v)
def aq.bQ{os:List Ob}{w:World}{Z:Nat->Prop}{blk:eW}{v cv:Value}(h:aq os w Z blk (.lit v) cv):cv=v:=by
 cases h with
 |bO _ _ h=>cases h;rfl
def aq.wu{os:List Ob}{w:World}{Z:Nat->Prop}{blk:eW}{sz:Nat}{rows:List (List AV)}{cv:Value}(h:aq os w Z blk (.tree sz rows) cv):eR w Z (.tree sz rows) cv:=by
 cases h with
 |bO _ _ h=>exact h
def aq.dr{os:List Ob}{w:World}{Z:Nat->Prop}{blk:eW}(v:Value):aq os w Z blk (dr v) v:=by
 unfold Am.dr;split
 ·rename_i cs;refine .agg _ _ Dg (λj x hx=>?_);simp only[dm,Array.getElem?_toList]at hx;cases hj:cs[j]? with
  |none=>simp[hj]at hx
  |some y =>
   simp[hj]at hx;subst hx;simp[hj];exact .lit y
 ·exact .lit v
def mz{σ:St}{γ:Cx}(h:aZ σ γ){a:Act}(ha:γ.tmps=a.tmps)(x:Operand):aq σ.aa γ.w γ.Z γ.blk (ev σ x) (a.eval x):=by
 cases x with
 |tmp t=>have:=h.au t;rw[ha]at this;exact this
 |const v=>exact .dr v
 |global g=>exact h.gl g
 |func f=>exact .fn f [] #[] rfl (λj x hx=>by simp at hx)
def BA{os:List Ob}{w:World}{Z:Nat->Prop}{blk:eW}{v:AV}{cv:Value}(h:aq os w Z blk v cv)(hs:bU v=true):cv.oneCell'=true:=by
 cases h with
 |undef cv=>simp[bU]at hs
 |bO v cv h=>cases h<;>first|rfl|(simpa [bU] using hs)
 |cm=>rfl
 |iz id sz off len cv h h1=>exact h1
 |ki id r c cv h h1=>exact h1
 |ref=>rfl
 |ju=>rfl
 |jV=>rfl
 |kG=>rfl
 |ld=>rfl
 |agg=>simp[bU]at hs
 |bP=>simp[bU]at hs
 |fn=>rfl
 |fj=>rfl
 |dx=>rfl
 |ng id cv h h1=>exact h1
def mA{σ:St}{γ:Cx}(h:aZ σ γ){a:Act}(ha:γ.tmps=a.tmps){dst:Option Tmp}(hd:∀ d,dst=some d->d<a.tmps.size){v:AV}{cv:Value}(hv:aq σ.aa γ.w γ.Z γ.blk v cv):aZ (σ.put dst v) { γ with tmps:=(a.put dst cv).tmps }:=by
 cases dst with
 |none =>
  have:({ γ with tmps:=(a.put none cv).tmps }:Cx)=γ:=by cases γ;simp_all [Act.put]
  rw[this];exact h
 |some d =>
  have:=h.put d (by rw[ha];exact hd d rfl) hv;rw[ha]at this;exact this
def mB(σ:St)(dst:Option Tmp)(v:AV):(σ.put dst v).aa=σ.aa:=by cases dst<;>rfl
def cf{o:Oper}{σ:St}{γ:Cx}{a:Act}{K:St->Prop}(h:aZ σ γ)(ha:γ.tmps=a.tmps)(hd:∀ d,o.dst=some d->d<a.tmps.size){v:AV}{cv:Value}(hv:aq σ.aa γ.w γ.Z γ.blk v cv)(hK:K (σ.put o.dst v)){r:Result Next}(hr:r=.ok (.value cv) γ.w):uP o σ γ a K r :=
 ⟨.value cv,cv,γ.w,σ.put o.dst v,{ γ with tmps:=(a.put o.dst cv).tmps },hr,.inl rfl,hK,mA h ha hd hv,by rw[mB];exact(Fr.refl _ _).put _,rfl,rfl⟩
def wz{o:Oper}{σ σ1:St}{γ γ1:Cx}{a:Act}{K:St->Prop}(hf:Fr σ.aa γ σ1.aa γ1)(h:aZ σ1 γ1)(ha:γ1.tmps=a.tmps)(hd:∀ d,o.dst=some d->d<a.tmps.size){v:AV}{cv:Value}(hv:aq σ1.aa γ1.w γ1.Z γ1.blk v cv)(hK:K (σ1.put o.dst v)){r:Result Next}(hr:r=.ok (.value cv) γ1.w):uP o σ γ a K r :=
 ⟨.value cv,cv,γ1.w,σ1.put o.dst v,{ γ1 with tmps:=(a.put o.dst cv).tmps },hr,.inl rfl,hK,mA h ha hd hv,by rw[mB];exact hf.put _,rfl,rfl⟩
def Ew{o:Oper}{σ σ1:St}{γ γ1:Cx}{a:Act}{K:St->Prop}(hf:Fr σ.aa γ σ1.aa γ1)(h:aZ σ1 γ1)(ha:γ1.tmps=a.tmps)(hd:∀ d,o.dst=some d->d<a.tmps.size)(hK:K (σ1.put o.dst .undef)){r:Result Next}(hr:r=.ok .skip γ1.w):uP o σ γ a K r :=
 ⟨.skip,Go.undef,γ1.w,σ1.put o.dst .undef,{ γ1 with tmps:=(a.put o.dst Go.undef).tmps },hr,.inr ⟨rfl,rfl⟩,hK,mA h ha hd (.undef _),by rw[mB];exact hf.put _,rfl,rfl⟩
def s5{k:IntKind}{n:Int}(h:k.min<=n/\n<=k.max):k.wrap n=n:=by
 cases k<;>simp[IntKind.min,IntKind.max,IntKind.signed,IntKind.bits]at h<;>simp[IntKind.wrap,IntKind.signed,IntKind.bits]<;>omega
def T6{op:BinOp}{k:IntKind}{x y:Int}{K:Value->Prop}(h:eS op k x y K)(t:TypeId)(w:World):
  ∃ v,(binOp op t (.int k x) (.int k y)).run P w=.ok v w/\K v:=by
 cases op<;>simp only[eS]at h
 case add=>exact⟨_,by simp[binOp,Op.intArith,s5 h.1],h.2⟩
 case sub=>exact⟨_,by simp[binOp,Op.intArith,s5 h.1],h.2⟩
 case mul =>
  unfold qo at h;split at h
  ·exact⟨_,by simp[binOp,Op.intArith],h⟩
  ·exact⟨_,by simp[binOp,Op.intArith,s5 h.1],h.2⟩
 case quo =>
  refine⟨_,?_,h.2⟩;obtain⟨h0,hb,hm⟩:=h.1;have hq:x.tdiv y=x/y:=Int.tdiv_eq_ediv_of_nonneg h0;have hle:x/y<=x:=Int.ediv_le_self _ h0;have gU:0<=x/y:=Int.ediv_nonneg h0 Ay;have hw:k.wrap (x/y)=x/y:=s5 ⟨by cases k<;>simp[IntKind.min,IntKind.signed,IntKind.bits]<;>omega,Ay⟩;have bI:¬ y=0:=Ay;simp[binOp,Op.intDiv,bI,hq,hw]
 case rem=>exact⟨_,by simp[binOp,Op.intDiv,h.1],h.2⟩
 case and =>
  exact⟨_,by simp[binOp,Op.intBits,uq],h⟩
 case shr =>
  refine⟨_,?_,h.2⟩;obtain⟨h0,h1⟩:=h.1;have:¬ y<0:=Ay;have e:(2:Int)^y.toNat=((2^y.toNat:Nat):Int):=Dg;simp[binOp,Op.shift,this,Nat.min_eq_left h1];exact Int.fdiv_eq_ediv_of_nonneg _ (by rw[e];exact Int.natCast_nonneg _)
 case eql=>exact⟨_,by simp[binOp,Op.intCmp],h⟩
 case neq=>exact⟨_,by simp[binOp,Op.intCmp],h⟩
 case lss=>exact⟨_,by simp[binOp,Op.intCmp],h⟩
 case leq=>exact⟨_,by simp[binOp,Op.intCmp],h⟩
 case gtr=>exact⟨_,by simp[binOp,Op.intCmp],h⟩
 case geq=>exact⟨_,by simp[binOp,Op.intCmp],h⟩
def K5:∀ {cs:List AV} {as:List Int},lE cs=some as->cs=as.map λa=>aah a
 |[],as,h=>by simp[lE]at h;subst h;rfl
 |c::cs,as,h=>by
  unfold lE at h;split at h
  ·rename_i e;simp at e
  ·rename_i a r e;simp only[List.cons.injEq]at e;obtain⟨rfl,rfl⟩:=e;simp only[ud]at h;obtain⟨ZY,h,rfl⟩:=h;rw[K5 h];rfl
  ·simp at h
def En{os:List Ob}{w:World}{Z:Nat->Prop}{blk:eW}{cs:List AV}{as:List Int}{cv:Value}(h:aq os w Z blk (.agg cs) cv)(hi:lE cs=some as):cv=.agg (as.map (Value.int .i64)).toArray:=by
 have:=K5 hi;subst this;cases h with
 |bO _ _ h=>cases h
 |agg _ aI hs h =>
  congr 1;refine Array.ext (by simpa using hs) (λj h1 h2=>?_);have hj:j<as.length:=by simpa using h2
  have:=(h j (aah as[j]) (by simp[hj])).bQ;rw[dC,Array.getElem?_eq_getElem h1]at this;simpa using this
end Go.Am
namespace Go.Am
variable {P:Program}
def EA{t:TypeId}(h:(ty P t).kind≠99)(w:World):(isAgg t).run P w=.ok (ty P t).isAgg w:=by
 obtain⟨i,d,hi,hd,_⟩:=pq h;simp only[isAgg,Sem.run_bind,run_underlying hd,Result.andThen_ok];have:ty P t=ty P t:=rfl;cases d<;>simp[ty,hi,hd,Ty.isAgg]
def run_sizeOf{t:TypeId}(h:(ty P t).kind≠99)(w:World):(sizeOf t).run P w=.ok (ty P t).size w:=by
 obtain⟨i,d,hi,hd,hs,_⟩:=pq h;simp[sizeOf,typeInfo,hi,hs]
def KX{t:TypeId}{z:List Value}(h:(ty P t).kind≠99)(hz:(ty P t).zero=some z)(w:World):∃v,(zeroValue t).run P w=.ok v w/\v.cells=z.toArray:=by
 obtain⟨i,d,hi,hd,_,_,h3⟩:=pq h;rw[h3]at hz;cases hv:i.zero with
 |none=>simp[hv]at hz
 |some v =>
  simp[hv]at hz;refine⟨v,by simp[zeroValue,typeInfo,hi,hv],?_⟩;rw[<- hz]
def Bn{σ:St}{γ:Cx}(h:aZ σ γ){id r c:Nat}{cv:Value}{row:List AV}(hv:aq σ.aa γ.w γ.Z γ.blk (.ptr id r c) cv)(aP:rowOf σ id r=some row):
  ∃ b base cap cur t o,cv=.pointer (some ⟨b,base+c,none⟩)/\γ.blk id=some (b,o,cap)/\γ.w.heap[b]?=some (.cells cur t (0,0))/\base+row.length<=cur.size /\
   (∀ j v,row[j]?=some v->aq σ.aa γ.w γ.Z γ.blk v (cur.getD (base+j) Go.undef))/\Live σ.aa id /\
   (∀ uU lX,uU.length=row.length->lX.size=cur.size->(∀ j v,uU[j]?=some v->aq σ.aa γ.w γ.Z γ.blk v (lX.getD (base+j) Go.undef))->(∀ k,(k<base\/base+row.length<=k)->lX.getD k Go.undef=cur.getD k Go.undef) ->
    ∃ ob ob',σ.aa[id]?=some ob/\ob≠.gone/\ob.db ob'/\(kZ σ id r uU) = { σ with aa:=σ.aa.set id ob' }/\pg σ.aa γ.w γ.Z γ.blk o cap lX ob'):=by
 unfold rowOf at aP;cases ho:σ.aa[id]? with
 |none=>simp[ho]at aP
 |some ob =>
  have bb:=h.dL id ob ho;cases ob with
  |gone=>simp[ho]at aP
  |mp ag L=>simp[ho]at aP
  |var cells =>
   simp only[ho]at aP;split at aP
   ·rename_i Ug;subst Ug;simp at aP;subst aP;obtain⟨b,cap,cur,t,h1,h2,h3,h4⟩:=bb;have aW:cv=.pointer (some ⟨b,c,none⟩):=by
     cases hv with
     |bO _ _ h=>cases h
     |ki _ _ _ _ h=>rw[ho]at h;simp at h
     |kG _ _ b' cap' cells' h hb=>rw[h1]at hb;simp at hb;simp[hb.1]
     |ld _ _ _ sz b' o' cap' rows h hb=>rw[ho]at h;simp at h
    refine⟨b,0,cap,cur,t,0,by simpa using aW,h1,h2,Ay,λj v hj=>by simpa using h4 j v hj,⟨_,ho,Dg⟩,?_⟩;intro uU lX hl hs jz _;refine⟨.var cells,.var uU,rfl,Dg,by simp[Ob.db,hl],by simp[kZ,ho],rfl,Ay,λc v hc=>by simpa using jz c v hc⟩
   ·simp at aP
  |arr sz rows =>
   simp only[ho]at aP;obtain⟨aE,dH,bb⟩:=bb;have ZZ:row.length=sz:=dH row (fB aP);have Uh:r<rows.length:=(ba.1 aP).1;rcases bb with⟨_,he⟩|⟨b,o,cap,cur,t,h1,h2,h3,h4,h5,h6⟩
   ·subst he;simp at aP
   ·have aW:cv=.pointer (some ⟨b,o+(r*sz+c),none⟩):=by
     cases hv with
     |bO _ _ h=>cases h
     |ki _ _ _ _ h=>rw[ho]at h;simp at h
     |kG _ _ b' cap' cells' h hb=>rw[ho]at h;simp at h
     |ld _ _ _ bV b' o' cap' eV h hb=>rw[ho]at h;simp at h;rw[h1]at hb;simp at hb;simp[hb.1,hb.2.1,h.1]
    have hmul:r*sz+sz<=cap*sz:=by
     have:(r+1)*sz<=cap*sz:=j' _ Ay;rw[eI]at this;omega
    refine⟨b,o+r*sz,cap,cur,t,o,by rw[aW];simp[p6],h1,h2,Ay,?_,⟨_,ho,Dg⟩,?_⟩
    ·intro j v hj;have:=h6 r j v (by simp[cellAt,aP,hj]);simpa [p6] using this
    ·intro uU lX hl hs jz K6;refine⟨.arr sz rows,.arr sz (rows.set r uU),rfl,Dg,by simp[Ob.db],by simp[kZ,ho],aE,?_,Ay,by simp[h4],h5,?_⟩
     ·intro x hx;rcases List.mem_or_eq_of_mem_set hx with hx|rfl
      ·exact dH x hx
      ·omega
     ·intro r' c' v hc;by_cases jW:r=r'
      ·subst jW;simp only[cellAt,cj,if_true,Uh]at hc;simp at hc;have:=jz c' v hc;simpa [p6] using this
      ·simp only[cellAt,cj,if_neg jW]at hc;have hold:=h6 r' c' v hc;have jr:c'<sz:=by
        simp only[vS]at hc;obtain⟨x,hx,oh⟩:=hc;have:=dH x (fB hx);have:=(ba.1 oh).1;omega
       rw[K6 _ ?_]
       ·exact hold
       ·rcases Nat.lt_or_gt_of_ne jW with bw|Z0
        ·right;have:(r+1)*sz<=r'*sz:=j' _ Ay;rw[eI]at this;omega
        ·left;have:(r'+1)*sz<=r*sz:=j' _ Ay;rw[eI]at this;omega
def Addr.nm(b o n:Nat):(⟨b,o,none⟩:Addr).add n=⟨b,o+n,none⟩:=by
 unfold Go.Addr.add;split<;>simp_all
def wv{w:World}{b j:Nat}{cur:Array Value}{t:TypeId}{fr:Nat×Nat}(h:w.heap[b]?=some (.cells cur t fr))(hj:j<cur.size):w.cell? ⟨b,j,none⟩=some (cur.getD j Go.undef):=by
 simp[World.cell?,h,hj,dC]
def BC{w:World}{t:TypeId}(hk:(ty P t).kind≠99)(b o:Nat)(f:Nat->Value)(hc:∀ j,j<(if(ty P t).isAgg then(ty P t).size else 1)->w.cell? ⟨b,o+j,none⟩=some (f j)):
  (loadVar t ⟨b,o,none⟩).run P w=.ok (if(ty P t).isAgg then .agg ((bD (ty P t).size).map f).toArray else f 0) w:=by
 simp only[loadVar,Sem.run_bind,EA hk,Result.andThen_ok];by_cases ha:(ty P t).isAgg=true
 ·simp only[ha,if_true,Sem.run_bind,run_sizeOf hk,Result.andThen_ok];rw[run_loadCells w ⟨b,o,none⟩ _ f (λj hj=>by rw[Addr.nm];exact hc j (by simpa [ha] using hj))];rfl
 ·have iX:=hc 0 (by simp[ha]);simp only[kX]at iX;simp[ha,iX]
end Go.Am
namespace Go.Am
variable {P:Program}
def Eu(cs:List AV):∀ (row:List AV) (c:Nat),(setCells row c cs).length=row.length:=by
 induction cs with
 |nil=>intro row c;rfl
 |cons v vs ih=>intro row c;simp[setCells,ih]
def K7(cs:List AV):∀ (row:List AV) (c:Nat),c+cs.length<=row.length->∀ j,(setCells row c cs)[j]?=if c<=j/\j<c+cs.length then cs[j-c]? else row[j]?:=by
 induction cs with
 |nil=>intro row c _ j;simp[setCells];intro h1 h2;omega
 |cons v vs ih =>
  intro row c hl j;simp only[cK]at hl;simp only[setCells,cK];rw[ih (row.set c v) (c+1) aab j];by_cases h1:c+1<=j/\j<c+1+vs.length
  ·rw[if_pos h1,if_pos Ay];have:j-c=(j-(c+1))+1:=Ay;rw[this];simp
  ·rw[if_neg h1];by_cases h2:j=c
   ·subst h2;rw[if_pos Ay];simp[show j<row.length by omega]
   ·rw[if_neg Ay,List.getElem?_set_ne (Ne.symm h2)]
def Er{os:List Ob}{w:World}{Z:Nat->Prop}{blk:eW}{v:AV}{cv:Value}(h:aq os w Z blk v cv)(hs:(cellsOf v).all bU=true):
  cv.cells.size=(cellsOf v).length/\(∀ j x,(cellsOf v)[j]?=some x->aq os w Z blk x (cv.cells.getD j Go.undef))/\∀ c∈cv.cells,c.oneCell'=true:=by
 by_cases jA :∃cs,v=.agg cs
 ·obtain⟨cs,rfl⟩:=jA;simp only[cellsOf]at hs ⊢;cases h with
  |bO _ _ h=>cases h
  |agg _ aI aE jz =>
   refine⟨aE,jz,?_⟩;intro c hc;simp only[Value.cells]at hc;obtain⟨j,hj,rfl⟩:=Array.mem_iff_getElem.1 hc;have hx:cs[j]?=some cs[j]:=by simp[<- aE,hj]
   have:=jz j _ hx;have hg:aI.getD j Go.undef=aI[j]:=by simp[dC,hj]
   rw[hg]at this;exact BA this (by rw[gN]at hs;exact hs _ (fB hx))
 ·have kI:cellsOf v=[v]:=by
   unfold cellsOf;split
   ·exact absurd ⟨_,rfl⟩ jA
   ·rfl
  rw[kI]at hs ⊢;simp at hs;have ho:=BA h hs;have bJ:cv.cells = #[cv]:=by cases cv<;>first|rfl|simp[Value.oneCell']at ho
  rw[bJ];refine⟨rfl,?_,by simp[ho]⟩;intro j x hx;cases j with
  |zero=>simp at hx;subst hx;simpa using h
  |succ j=>simp at hx
section
variable {o:Oper} {σ:St} {γ:Cx} {a:Act} {K:St->Prop}
def Ef(hs:aZ σ γ){t:TypeId}(hk:(ty P t).kind≠99){id r c:Nat}{cv:Value}(hv:aq σ.aa γ.w γ.Z γ.blk (.ptr id r c) cv){row:List AV}(aP:rowOf σ id r=some row){K:AV->Prop}(h:jM (ty P t) row c K):
  ∃ v lK,(Instr.loadAt t cv).run P γ.w=.ok lK γ.w/\aq σ.aa γ.w γ.Z γ.blk v lK/\K v:=by
 obtain⟨b,base,cap,cur,tt,o,rfl,hb,ic,aE,jz,_,_⟩:=Bn hs hv aP;unfold jM at h;simp only[Instr.loadAt,Instr.sureAddr,Sem.run_bind,Sem.run_pure,Result.andThen_ok];by_cases jA:(ty P t).isAgg=true
 ·rw[if_pos jA]at h;refine⟨_,_,BC hk b (base+c) (λj=>cur.getD (base+c+j) Go.undef) ?_,?_,h.2⟩
  ·intro j hj;rw[if_pos jA]at hj;exact wv ic Ay
  ·rw[if_pos jA];refine .agg _ _ aab (λj x hx=>?_);have hj:j<(ty P t).size:=by have:=(ba.1 hx).1;simp at this;omega
   rw[oP,if_pos hj,j8]at hx;have:=jz _ _ hx;simp[dC,hj];simpa [p6,dC] using this
 ·rw[if_neg jA]at h;cases hc:row[c]? with
  |none=>simp[hc]at h
  |some v =>
   simp only[hc]at h;have cS:=(ba.1 hc).1;refine⟨v,_,BC hk b (base+c) (λj=>cur.getD (base+c+j) Go.undef) ?_,?_,h⟩
   ·intro j hj;rw[if_neg jA]at hj;exact wv ic Ay
   ·rw[if_neg jA];exact jz _ _ hc
def T4(_hs:aZ σ γ){t:TypeId}(hk:(ty P t).kind≠99){cells:List AV}{cv:Value}(hv:aq σ.aa γ.w γ.Z γ.blk (.cm cells) cv){K:AV->Prop}(h:jM (ty P t) cells 0 K):
  ∃ v lK,(Instr.loadAt t cv).run P γ.w=.ok lK γ.w/\aq σ.aa γ.w γ.Z γ.blk v lK/\K v:=by
 cases hv with
 |bO _ _ h=>cases h
 |cm _ b o f hz hc ht =>
 unfold jM at h;simp only[Instr.loadAt,Instr.sureAddr,Sem.run_bind,Sem.run_pure,Result.andThen_ok];by_cases jA:(ty P t).isAgg=true
 ·rw[if_pos jA]at h;have hlen:(ty P t).size<=cells.length:=Ay;refine⟨_,_,BC hk b o f ?_,?_,h.2⟩
  ·intro j hj;rw[if_pos jA]at hj;exact hc j cells[j] Dg
  ·rw[if_pos jA];refine .agg _ _ aab (λj x hx=>?_);have hj:j<(ty P t).size:=by have:=(ba.1 hx).1;simp at this;omega
   rw[oP,if_pos hj,j8]at hx;simp at hx;simp[dC,hj];exact .bO _ _ (ht j x hx)
 ·rw[if_neg jA]at h;cases bJ:cells[0]? with
  |none=>simp[bJ]at h
  |some v =>
   simp only[bJ]at h;refine⟨v,_,BC hk b o f ?_,?_,h⟩
   ·intro j hj;rw[if_neg jA]at hj;have:j=0:=Ay;subst this;exact hc 0 v bJ
   ·rw[if_neg jA];exact .bO _ _ (ht 0 v bJ)
def yI(cur:Array Value)(p:Nat)(vs:List Value)(hp:p+vs.length<=cur.size)(k:Nat):
  ((cur.toList.take p++vs++cur.toList.drop (p+vs.length)).toArray).getD k Go.undef=if p<=k/\k<p+vs.length then vs.getD (k-p) Go.undef else cur.getD k Go.undef:=by
 simp only[dC,Dl,aw];by_cases h1:k<p
 ·rw[if_neg Ay,bN,cr aab,oP,if_pos h1];simp
 ·by_cases h2:k<p+vs.length
  ·rw[if_pos Ay,cr aab,dS aab];simp;congr 3;omega
  ·rw[if_neg Ay,dS aab];simp;congr 3;omega
def setRow_size(w:World)(g:Nat)(cs:Array Value):(w.setRow g cs).heap.size=w.heap.size:=by simp[World.setRow]
def T5(hs:aZ σ γ){t:TypeId}(hk:(ty P t).kind≠99){id r c:Nat}{cv xv:Value}(hv:aq σ.aa γ.w γ.Z γ.blk (.ptr id r c) cv){row:List AV}(aP:rowOf σ id r=some row){v:AV}(hx:aq σ.aa γ.w γ.Z γ.blk v xv)(h:(cellsOf v).length=(ty P t).size/\c+(ty P t).size<=row.length/\(cellsOf v).all bU=true):
  ∃ w',(Instr.storeAt t cv xv).run P γ.w=.ok () w'/\aZ (kZ σ id r (setCells row c (cellsOf v))) { γ with w:=w' }/\Fr σ.aa γ (kZ σ id r (setCells row c (cellsOf v))).aa { γ with w:=w' }:=by
 obtain⟨b,base,cap,cur,tt,o,rfl,hb,ic,aE,jz,jY,mG⟩:=Bn hs hv aP;obtain⟨h1,h2,h3⟩:=h;obtain⟨e1,e2,e3⟩:=Er hx h3;have hlen:xv.cells.toList.length=(ty P t).size:=by simp[e1,h1]
 have dF:(Instr.storeAt t (.pointer (some ⟨b,base+c,none⟩)) xv).run P γ.w=.ok () (γ.w.setRow b (cur.toList.take (base+c)++xv.cells.toList++cur.toList.drop (base+c+xv.cells.toList.length)).toArray):=by
  have eb:=run_storeCells_at P b (base+c) tt xv.cells.toList 0 cur γ.w ic (by rw[hlen];omega) (λx hx=>e3 x (by simpa using hx));simp only[kX]at eb;simp only[Instr.storeAt,Instr.sureAddr,Sem.run_bind,Sem.run_pure,Result.andThen_ok,storeVar,run_sizeOf hk];have:¬ (xv.cells.size≠(ty P t).size):=by rw[e1,h1];simp
  rw[if_neg this];simpa using eb
 obtain⟨ob,ob',g1,g2,g3,g4,g5⟩:=mG (setCells row c (cellsOf v)) (cur.toList.take (base+c)++xv.cells.toList++cur.toList.drop (base+c+xv.cells.toList.length)).toArray
  (Eu _ _ _) (by simp[hlen];omega) (by
   intro j x hj;rw[K7 _ _ _ (by rw[h1];exact h2)]at hj;rw[yI cur (base+c) xv.cells.toList (by rw[hlen];omega),hlen];by_cases eO:c<=j/\j<c+(cellsOf v).length
   ·rw[if_pos eO]at hj;rw[if_pos Ay];have:=e2 _ _ hj;have e:base+j-(base+c)=j-c:=Ay;rw[e];simpa [aw,dC] using this
   ·rw[if_neg eO]at hj;rw[if_neg Ay];exact jz j x hj) (by
   intro k aQ;rw[yI cur (base+c) xv.cells.toList (by rw[hlen];omega),hlen];rw[if_neg Ay])
 refine⟨_,dF,?_,?_⟩
 ·rw[g4];exact hs.write g1 g2 g3 hb (setRow_heap γ.w b cur _ tt _ ic) (λk hk=>setRow_other γ.w b k _ hk) (setRow_size _ _ _) g5
 ·rw[g4];exact Fr.write ob' g1 g2 g3 hb (λk hk=>setRow_other γ.w b k _ hk) (setRow_size _ _ _) rfl rfl rfl
end
end Go.Am
namespace Go.Am
variable {P:Program}
def aZ.uE{σ:St}{γ:Cx}(h:aZ σ γ){sz:Nat}(aE:0<sz):
  aZ { σ with aa:=σ.aa++[.arr sz []] } { γ with blk:=bZ γ.blk σ.aa.length none }:=by
 have hR:∀ v cv,aq σ.aa γ.w γ.Z γ.blk v cv->aq (σ.aa++[.arr sz []]) γ.w γ.Z (bZ γ.blk σ.aa.length none) v cv:=λv cv hv =>
  hv.mono (λb hb=>⟨hb,rfl⟩) (λi o ho=>by
   have hi:i<σ.aa.length:=(ba.1 ho).1;have cz:(σ.aa++[.arr sz []])[i]?=some o:=by rw[cr hi];exact ho
   by_cases bX:o=.gone
   ·subst bX;exact .inl cz
   ·exact .inr ⟨by simp[bZ,jL hi],o,cz,Ob.gV bX⟩)
 have bx:∀ i b,bZ γ.blk σ.aa.length none i=some b->Live (σ.aa++[.arr sz []]) i->Live σ.aa i/\γ.blk i=some b:=by
  rintro i b hb⟨o,ho,bX⟩;simp only[bZ]at hb;split at hb
  ·simp at hb
  ·rename_i bI;have hi:i<σ.aa.length:=by have:=(ba.1 ho).1;simp at this;omega
   rw[cr hi]at ho;exact⟨⟨o,ho,bX⟩,hb⟩
 refine⟨λk=>hR _ _ (h.au k),?_,?_,?_,h.fG,λg=>hR _ _ (h.gl g)⟩
 ·intro i o ho;rcases dD i σ.aa.length with hi|hi
  ·rw[cr hi]at ho;exact(h.dL i o ho).mono hR (by simp[bZ,jL hi]) (λ_ _ _ _=>rfl)
  ·have hi':i=σ.aa.length:=by have:=(ba.1 ho).1;simp at this;omega
   subst hi';simp at ho;subst ho;exact⟨aE,Dg,.inl ⟨by simp[bZ],rfl⟩⟩
 ·intro i j b o c o' c' hi hj e9 fe;obtain⟨EC,iM⟩:=bx i _ e9 hi;obtain⟨pw,mo⟩:=bx j _ fe hj;exact h.inj i j b o c o' c' EC pw iM mo
 ·rintro b ⟨i,o,c,hi,hb⟩;obtain⟨EC,iM⟩:=bx i _ hb hi;exact h.nz b ⟨i,o,c,EC,iM⟩
def Fr.uE(os:List Ob)(γ:Cx)(sz:Nat):Fr os γ (os++[.arr sz []]) { γ with blk:=bZ γ.blk os.length none } where
 jT:=rfl
 tape:=rfl
 output:=rfl
 size:=Nat.le_refl _
 cO:=λ_ _ _=>rfl
 z0:=λ_ h=>h
 z1:=λ_ h=>.inl h
 own:=by
  rintro b⟨i,o,c,⟨x,hx,dY⟩,hb⟩;simp only[bZ]at hb;split at hb
  ·simp at hb
  ·have hi:i<os.length:=by have:=(ba.1 hx).1;simp at this;omega
   rw[cr hi]at hx;exact .inl ⟨i,o,c,⟨x,hx,dY⟩,hb⟩
 len:=Dg
 iH:=by
  rintro i hi⟨x,hx,dY⟩;have hx0:=hx;rw[cr hi]at hx;exact⟨by simp[bZ,jL hi],x,x,hx,hx0,Ob.gV dY⟩
def aZ.yJ{σ:St}{γ:Cx}(h:aZ σ γ){id:Nat}{ob ob':Ob}(ho:σ.aa[id]?=some ob)(hg:ob≠.gone){b o cap o' cap':Nat}(hb:γ.blk id=some (b,o,cap)){w':World}{cur:Array Value}{t:TypeId}(hw:w'.heap[b]?=some (.cells cur t (0,0)))(lh:∀ k,k≠b->w'.heap[k]?=γ.w.heap[k]?)(aE:w'.heap.size=γ.w.heap.size)(bb:pg σ.aa γ.w γ.Z γ.blk o' cap' cur ob'):
  aZ { σ with aa:=σ.aa.set id .gone++[ob'] } { γ with w:=w',blk:=bZ γ.blk σ.aa.length (some (b,o',cap')) }:=by
 have cp:id<σ.aa.length:=(ba.1 ho).1;have jY:Live σ.aa id:=⟨ob,ho,hg⟩;have hR:∀ v cv,aq σ.aa γ.w γ.Z γ.blk v cv->aq (σ.aa.set id .gone++[ob']) w' γ.Z (bZ γ.blk σ.aa.length (some (b,o',cap'))) v cv:=λv cv hv =>
  hv.mono (λz hz=>⟨hz,lh z (λe=>h.nz b ⟨id,o,cap,jY,hb⟩ (e▸hz))⟩) (λi x hx=>by
   have hi:i<σ.aa.length:=(ba.1 hx).1;rw[cr (by simpa using hi),cj];by_cases kl:id=i
   ·left;simp[kl,hi]
   ·rw[if_neg kl];by_cases bX:x=.gone
    ·subst bX;exact .inl hx
    ·exact .inr ⟨by simp[bZ,jL hi],x,hx,Ob.gV bX⟩)
 have bx:∀ i,Live (σ.aa.set id .gone++[ob']) i->i=σ.aa.length\/(i<σ.aa.length/\i≠id/\Live σ.aa i):=by
  rintro i⟨x,hx,dY⟩;rcases dD i σ.aa.length with hi|hi
  ·right;rw[cr (by simpa using hi),cj]at hx;split at hx
   ·simp at hx;exact absurd hx.symm dY
   ·rename_i bI;exact⟨hi,Ne.symm bI,x,hx,dY⟩
  ·left;have:=(ba.1 hx).1;simp at this;omega
 refine⟨λk=>hR _ _ (h.au k),?_,?_,?_,λz hz=>by rw[aE];exact h.fG z hz,λg=>hR _ _ (h.gl g)⟩
 ·intro i x hx;rcases dD i σ.aa.length with hi|hi
  ·rw[cr (by simpa using hi),cj]at hx;split at hx
   ·simp at hx;subst hx;trivial
   ·rename_i bI;by_cases bX:x=.gone
    ·subst bX;trivial
    ·refine(h.dL i x hx).mono hR (by simp[bZ,jL hi]) (λz y c hz=>lh z (λe=>bI ?_));subst e;exact h.inj id i z o cap y c jY ⟨x,hx,bX⟩ hb hz
  ·have hi':i=σ.aa.length:=by have:=(ba.1 hx).1;simp at this;omega
   subst hi';rw[dS Dg]at hx;simp at hx;subst hx;exact bb.ED (b:=b) (cap:=cap') hR (by simp[bZ]) hw
 ·intro i j z y c y' c' hi hj e9 fe;simp only[bZ]at e9 fe;rcases bx i hi with rfl|⟨pd,K8,hi'⟩<;>rcases bx j hj with rfl|⟨gR,Ui,fW⟩
  ·rfl
  ·rw[if_pos rfl]at e9;rw[if_neg (jL gR)]at fe;simp at e9;rw[<- e9.1]at fe;exact absurd (h.inj j id b y' c' o cap fW jY fe hb) Ui
  ·rw[if_pos rfl]at fe;rw[if_neg (jL pd)]at e9;simp at fe;rw[<- fe.1]at e9;exact absurd (h.inj i id b y c o cap hi' jY e9 hb) K8
  ·rw[if_neg (jL pd)]at e9;rw[if_neg (jL gR)]at fe;exact h.inj i j z y c y' c' hi' fW e9 fe
 ·rintro z ⟨i,y,c,hi,hz⟩ iL;simp only[bZ]at hz;rcases bx i hi with rfl|⟨pd,K8,hi'⟩
  ·rw[if_pos rfl]at hz;simp at hz;rw[<- hz.1]at iL;exact h.nz b ⟨id,o,cap,jY,hb⟩ iL
  ·rw[if_neg (jL pd)]at hz;exact h.nz z ⟨i,y,c,hi',hz⟩ iL
def Fr.yJ{σ:St}{γ:Cx}{id:Nat}{ob:Ob}(ob':Ob)(ho:σ.aa[id]?=some ob)(hg:ob≠.gone){b o cap o' cap':Nat}(hb:γ.blk id=some (b,o,cap)){w':World}(lh:∀ k,k≠b->w'.heap[k]?=γ.w.heap[k]?)(aE:w'.heap.size=γ.w.heap.size)(h1:w'.os=γ.w.os)(h2:w'.tape=γ.w.tape)(h3:w'.output=γ.w.output):
  Fr σ.aa γ (σ.aa.set id .gone++[ob']) { γ with w:=w',blk:=bZ γ.blk σ.aa.length (some (b,o',cap')) } where
 jT:=h1
 tape:=h2
 output:=h3
 size:=by simp[aE]
 cO:=λz _ jX=>lh z (λe=>jX ⟨id,o,cap,⟨ob,ho,hg⟩,e▸hb⟩)
 z0:=λ_ h=>h
 z1:=λ_ h=>.inl h
 own:=by
  rintro z⟨i,y,c,⟨x,hx,dY⟩,hz⟩;simp only[bZ]at hz;split at hz
  ·simp at hz;left;exact⟨id,o,cap,⟨ob,ho,hg⟩,by rw[hb,hz.1]⟩
  ·have hi:i<σ.aa.length:=by have:=(ba.1 hx).1;simp at this;omega
   rw[cr (by simpa using hi),cj]at hx;split at hx
   ·split at hx<;>simp at hx;exact absurd hx.symm dY
   ·exact .inl ⟨i,y,c,⟨x,hx,dY⟩,hz⟩
 len:=Dg
 iH:=by
  rintro i hi⟨x,hx,dY⟩;have hx0:=hx;rw[cr (by simpa using hi),cj]at hx;split at hx
  ·split at hx<;>simp at hx;exact absurd hx.symm dY
  ·exact⟨by simp[bZ,jL hi],x,x,hx,hx0,Ob.gV dY⟩
def K9{σ:St}{γ:Cx}(h:aZ σ γ){x:AV}{cv:Value}(hv:aq σ.aa γ.w γ.Z γ.blk x cv){sz:Nat}(aE:0<sz){src:List (List AV)}(hs:k7 σ x=some (sz,src)):
  ∃ ad c,∃ g:Nat->Value,cv=.slice ad src.length c/\(∀ row∈src,row.length=sz)/\(0<src.length->∃ b o,ad=some ⟨b,o,none⟩/\∀ j,j<src.length*sz->γ.w.cell? ⟨b,o+j,none⟩=some (g j)) /\
   ∀ r c v,cellAt src r c=some v->aq σ.aa γ.w γ.Z γ.blk v (g (r*sz+c)):=by
 cases x with
 |tree bV rows =>
  simp[k7]at hs;obtain⟨rfl,rfl⟩:=hs;cases hv.wu with
  |nil _ cap a=>exact⟨a,cap,λ_=>Go.undef,rfl,Dg,Dg,by simp[cellAt]⟩
  |tree _ _ b o cap f hz hr EE hc ht =>
   refine⟨_,cap,λj=>f (j/bV) (j%bV),rfl,hr,λhlen=>⟨b,o,rfl,?_⟩,?_⟩
   ·intro j hj;have h1:j/bV<rows.length:=Nat.div_lt_of_lt_mul (by rw[uh];exact hj);have h2:j%bV<bV:=Az _ aE;have dH:(rows[j/bV]).length=bV:=hr _ (nM h1);have:=hc (j/bV) (j%bV) ((rows[j/bV])[j%bV]' Ay) (by simp[cellAt,h1,h2,dH]);have e:j/bV*bV+j%bV=j:=by rw[uh];exact Nat.div_add_mod j bV
    rw[e]at this;exact this
   ·intro r c v aW;have cS:c<bV:=by
     simp only[cellAt,vS]at aW;obtain⟨y,hy,uV⟩:=aW;have:=hr y (fB hy);have:=(ba.1 uV).1;omega
    have e1:(r*bV+c)/bV=r:=by rw[uh,Nat.mul_add_div aE,Nat.div_eq_of_lt cS];rfl
    have e2:(r*bV+c)%bV=c:=by rw[uh,Nat.mul_add_mod,Nat.mod_eq_of_lt cS]
    simp only[e1,e2];exact .bO _ _ (ht r c v aW)
 |ref id bV off len =>
  simp only[k7]at hs;cases ho:σ.aa[id]? with
  |none=>simp[ho]at hs
  |some ob =>
   have bb:=h.dL id ob ho;cases ob with
   |gone=>simp[ho]at hs
   |mp ag L=>simp[ho]at hs
   |var cells=>simp[ho]at hs
   |arr iI rows =>
    simp only[ho]at hs;split at hs
    ·rename_i he;subst he;simp at hs;obtain⟨rfl,rfl⟩:=hs;obtain⟨_,dH,bb⟩:=bb;cases hv with
     |bO _ _ h=>cases h
     |iz _ _ _ _ _ h=>rw[ho]at h;simp at h
     |ju _ _ h hb =>
      rw[ho]at h;simp at h;subst h;exact⟨none,0,λ_=>Go.undef,rfl,Dg,Dg,by simp[cellAt]⟩
     |jV _ _ _ b x bo eV h hb hl =>
      exact⟨some ⟨b,x,none⟩,0,λ_=>Go.undef,Dg,Dg,Dg,by simp[cellAt]⟩
     |ref _ _ _ _ b o cap cap' eV h hb hl hc dt =>
      rw[ho]at h;simp at h;subst h;rcases bb with⟨h1,_⟩|⟨b',o',yp,cur,t,h1,h2,h3,h4,h5,h6⟩
      ·rw[hb]at h1;simp at h1
      ·rw[hb]at h1;simp at h1;obtain⟨rfl,rfl,rfl⟩:=h1;have hlen:((rows.drop off).take len).length=len:=aab;refine⟨_,cap',λj=>cur.getD (o+off*iI+j) Go.undef,by rw[hlen],?_,λ_=>⟨b,o+off*iI,rfl,?_⟩,?_⟩
       ·intro row aP;exact dH row (ue (qV aP))
       ·intro j hj;rw[hlen]at hj;refine wv h2 ?_;have:(off+len)*iI<=cap*iI:=j' _ Ay;rw[eI]at this;omega
       ·intro r c v aW;simp only[cellAt,oP,j8]at aW;split at aW
        ·have:=h6 (off+r) c v aW;rw[eI]at this;have e:o+(off*iI+r*iI+c)=o+off*iI+(r*iI+c):=Ay;rw[e]at this;exact this
        ·simp at aW
    ·simp at hs
 |_=>simp[k7]at hs
end Go.Am
namespace Go.Am
variable {P:Program}
def yq{rows:List (List AV)}{sz r c:Nat}{v:AV}(hr:∀ row∈rows,row.length=sz)(h:cellAt rows r c=some v):r<rows.length/\c<sz:=by
 simp only[cellAt,vS]at h;obtain⟨y,hy,uV⟩:=h;have h1:=hr y (fB hy);have h2:=(ba.1 uV).1;have h3:=(ba.1 hy).1;omega
def K'{p s:List (List AV)}{r c:Nat}:cellAt (p++s) r c=if r<p.length then cellAt p r c else cellAt s (r-p.length) c:=by
 unfold cellAt;split
 ·rw[cr (by assumption)]
 ·rw[dS Ay]
def uN{r c n sz:Nat}(hr:r<n)(hc:c<sz):r*sz+c<n*sz:=by
 have:(r+1)*sz<=n*sz:=j' _ hr;rw[eI]at this;omega
def Uj{R:AV->Value->Prop}{p s:List (List AV)}{sz:Nat}(hp:∀ row∈p,row.length=sz)(hs:∀ row∈s,row.length=sz){go g:Nat->Value}(h1:∀ r c v,cellAt p r c=some v->R v (go (r*sz+c)))(h2:∀ r c v,cellAt s r c=some v->R v (g (r*sz+c)))(rest:List Value)(r c:Nat)(v:AV)(h:cellAt (p++s) r c=some v):
  R v (((((bD (p.length*sz)).map go)++((bD (s.length*sz)).map g))++rest).toArray.getD (r*sz+c) Go.undef):=by
 rw[K']at h;simp only[dC,Dl];split at h
 ·obtain⟨hr,hc⟩:=yq hp h;have:=uN hr hc;rw[bN,cr (by simpa using this)];simp[this];exact h1 r c v h
 ·rename_i gU;obtain⟨hr,hc⟩:=yq hs h;have hl:=uN hr hc;have e:r*sz+c=p.length*sz+((r-p.length)*sz+c):=by
   have:r=p.length+(r-p.length):=Ay
   conv=>lhs;rw[this,eI]
   omega
  rw[cr aab,dS aab];have e2:r*sz+c-(List.map go (bD (p.length*sz))).length=(r-p.length)*sz+c:=aab;rw[e2];simp[hl];exact h2 _ _ _ h
def Uk {σ:St} {γ:Cx} (h:aZ σ γ) {x:AV} {cv:Value} (hv:aq σ.aa γ.w γ.Z γ.blk x cv) {sz:Nat} {pre:List (List AV)} {σ1:St} (hs:m9 σ sz x=some (pre,σ1)) :
    (aZ σ1 γ/\Fr σ.aa γ σ1.aa γ/\∃ k,σ1.aa.length=k) /\
    ((cv=.slice none 0 0/\pre=[]) \/
     (∃ id b x bo cur t,cv=.slice (some ⟨b,x,none⟩) 0 0/\pre=[]/\Live σ.aa id/\σ1 = { σ with aa:=σ.aa.set id .gone }/\γ.blk id=some (b,bo)/\γ.w.heap[b]?=some (.cells cur t (0,0))) \/
     ∃ id off rows b o cap cap' cur t,σ.aa[id]?=some (.arr sz rows)/\σ1 = { σ with aa:=σ.aa.set id .gone }/\γ.blk id=some (b,o,cap)/\γ.w.heap[b]?=some (.cells cur t (0,0)) /\
      cv=.slice (some ⟨b,o+off * sz,none⟩) pre.length cap'/\pre.length<=cap'/\cap'<=maxLen/\o+off * sz+cap' * sz<=cur.size/\(∀ row∈pre,row.length=sz) /\
      ∀ r c v,cellAt pre r c=some v->aq σ.aa γ.w γ.Z γ.blk v (cur.getD (o+off * sz+(r * sz+c)) Go.undef)):=by
  unfold m9 at hs
  split at hs
  · simp at hs
    obtain ⟨rfl,rfl⟩:=hs
    exact⟨⟨h,Fr.refl _ _,_,rfl⟩,.inl ⟨hv.bQ,rfl⟩⟩
  · rename_i id bV off len
    cases ho:σ.aa[id]? with
    | none=>simp[ho] at hs
    | some ob =>
      have bb:=h.dL id ob ho
      cases ob with
      | gone=>simp[ho] at hs
      | mp ag L=>simp[ho] at hs
      | var cells=>simp[ho] at hs
      | arr iI rows =>
        simp only[ho] at hs
        split at hs
        · rename_i he
          obtain ⟨La,uW⟩:=he
          subst La
          subst uW
          simp at hs
          obtain ⟨rfl,rfl⟩:=hs
          refine⟨⟨h.kill id,Fr.kill _ _ _,_,rfl⟩,?_⟩
          obtain ⟨_,dH,bb⟩:=bb
          cases hv with
          | bO _ _ h=>cases h
          | iz _ _ _ _ _ h=>rw[ho] at h;simp at h
          | ju _ _ h hb=>left;exact⟨rfl,Dg⟩
          | jV _ _ _ b x bo eV h' hb hl =>
            right;left
            rcases bb with ⟨h1,_⟩ | ⟨b',o',yp,cur,t,h1,h2,_⟩
            · rw[hb] at h1;simp at h1
            · rw[hb] at h1;simp at h1
              obtain ⟨rfl,_⟩:=h1
              exact⟨id,b,x,bo,cur,t,rfl,Dg,⟨_,ho,Dg⟩,rfl,hb,h2⟩
          | ref _ _ _ _ b o cap cap' eV h' hb hl hc dt =>
            rw[ho] at h';simp at h'
            subst h'
            rcases bb with ⟨h1,_⟩ | ⟨b',o',yp,cur,t,h1,h2,h3,h4,h5,h6⟩
            · rw[hb] at h1;simp at h1
            · rw[hb] at h1;simp at h1
              obtain ⟨rfl,rfl,rfl⟩:=h1
              right;right
              have hlen:((rows.drop off).take len).length=len:=aab
              refine⟨id,off,rows,b,o,cap,cap',cur,t,ho,rfl,hb,h2,by rw[hlen],Ay,Ay,?_,?_,?_⟩
              · have:(off+cap') * iI<=cap * iI:=j' _ hc
                rw[eI] at this;omega
              · intro row aP
                exact dH row (ue (qV aP))
              · intro r c v aW
                simp only[cellAt,oP,j8] at aW
                split at aW
                · have:=h6 (off+r) c v aW
                  rw[eI] at this
                  have e:o+(off * iI+r * iI+c)=o+off * iI+(r * iI+c):=Ay
                  rw[e] at this
                  exact this
                · simp at aW
        · simp at hs
  · simp at hs
def Ul(w:World)(t Um e:TypeId)(i:TypeInfo)(ht:P.underlying t=some (.slice e))(hi:P.info? e=some i)(g o uX EF:Nat)(cur:Array Value)(tt:TypeId)(hg:w.heap[g]?=some (.cells cur tt (0,0)))(xa:Option Addr)(m c:Nat)(news:List Value)(hl:news.length=m*i.size)(s6:0<m->∃ a,xa=some a/\∀ j u,news[j]?=some u->w.cell? (a.add j)=some u)(h1:∀ u∈news,u.oneCell'=true)(wB:uX+m<=EF)(px:o+uX*i.size+news.length<=cur.size):
  (Builtin.append_ #[t,t] Um #[.slice (some ⟨g,o,none⟩) uX EF,.slice xa m c]).run P w =
   .ok (.slice (some ⟨g,o,none⟩) (uX+m) EF) (w.setRow g (cur.toList.take (o+uX*i.size)++news++cur.toList.drop (o+uX*i.size+news.length)).toArray):=by
 have hf:(Builtin.firstCells i.size m (.slice xa m c)).run P w=.ok news.toArray w:=by
  rcases AB m with h0|hp
  ·subst h0;have hn:news=[]:=vT (by simpa using hl);subst hn;cases xa<;>simp[Builtin.firstCells,loadCells,loadCellsFrom]
  ·obtain⟨a,rfl,hc⟩:=s6 hp;exact run_firstCells_some w i.size m a m c news hl hc
 have eb:=run_storeCells_at P g (o+uX*i.size) tt news 0 cur w hg (by simpa using px) h1;simp only[kX]at eb;simp[Builtin.append_,run_underlying ht,sizeOf,typeInfo,hi,Builtin.lenOf,wB,hf,Addr.nm,eb]
def wC{g:Nat->Value}{n j:Nat}{u:Value}(h:((bD n).map g)[j]?=some u):j<n/\u=g j:=by
 have hj:=(ba.1 h).1;simp at hj;simp[hj]at h;exact⟨hj,h.symm⟩
def Ud{σ σ1:St}{γ:Cx}(h:aZ σ γ){t oty:TypeId}{sz:Nat}{z:List Value}(hk:(ty P t).kind=1)(cL:(ty P (ty P t).elem).kind≠99)(hz:(ty P (ty P t).elem).zero=some z)(aE:sz=(ty P (ty P t).elem).size)(h0:0<sz)(iY:z.length=sz){sD x:AV}{oq yK:Value}(hS:aq σ.aa γ.w γ.Z γ.blk sD oq)(hX:aq σ.aa γ.w γ.Z γ.blk x yK){pre src:List (List AV)}(hd:m9 σ sz sD=some (pre,σ1))(pf:k7 σ x=some (sz,src))(hlen:pre.length+src.length<=549755813888)(yF:(ty P (ty P t).elem).bytes<=128)(ry:(src.all λrow=>row.all bU)=true):
    ∃ lK γ1,(Builtin.append_ #[t,t] oty #[oq,yK]).run P γ.w=.ok lK γ1.w/\γ1.tmps=γ.tmps/\aZ { σ1 with aa:=σ1.aa++[.arr sz (pre++src)] } γ1 /\
      Fr σ.aa γ (σ1.aa++[.arr sz (pre++src)]) γ1/\aq (σ1.aa++[.arr sz (pre++src)]) γ1.w γ1.Z γ1.blk (.ref σ1.aa.length sz 0 (pre.length+src.length)) lK:=by
  obtain⟨i,d,hi,Bt,pk,yG,hzero⟩:=pq cL;have ht:=oe hk;have rA:i.size=sz:=by rw[<- pk,<- aE]
  obtain⟨zv,uS,gg⟩:∃zv,i.zero=some zv/\zv.cells.size=sz:=by
    rw[hzero]at hz;cases hv:i.zero with
    |none=>simp[hv]at hz
    |some v=>simp[hv]at hz;exact⟨v,rfl,by rw[<- iY,<- hz];simp⟩
  obtain⟨ad,c,g,rfl,rB,EG,wD⟩:=K9 h hX h0 pf;obtain⟨⟨mH,hf1,_⟩,Un⟩:=Uk h hS hd
  let news:=(bD (src.length*sz)).map g
  have an:news.length=src.length*i.size:=by simp[news,rA]
  have Uo:∀ u∈news,u.oneCell'=true:=by
    intro u hu;obtain⟨j,hj⟩:=Hk.1 hu;obtain⟨gR,rfl⟩:=wC hj;have h1:j/sz<src.length:=Nat.div_lt_of_lt_mul (by rw[uh];exact gR);have h2:j%sz<sz:=Az _ h0;have dH:(src[j/sz]).length=sz:=rB _ (nM h1);have:=wD (j/sz) (j%sz) ((src[j/sz])[j%sz]' Ay) (by simp[cellAt,h1,h2,dH]);have e:j/sz*sz+j%sz=j:=by rw[uh];exact Nat.div_add_mod j sz
    rw[e]at this;refine BA this ?_;rw[gN]at ry;have:=ry _ (nM h1);rw[gN]at this;exact this _ (nM _)
  have s6:0<src.length->∃ a,ad=some a/\∀ j u,news[j]?=some u->γ.w.cell? (a.add j)=some u:=by
    intro hp;obtain⟨b,o,rfl,hc⟩:=EG hp;refine⟨_,rfl,λj u hu=>?_⟩;obtain⟨gR,rfl⟩:=wC hu;rw[Addr.nm];exact hc j gR
  have s7:pre.length+src.length<=maxLen:=by unfold maxLen;omega
  have mI:(pre.length+src.length)*i.bytes<=140737488355328:=by
    rw[<- yG]
    calc _<=549755813888*128:=Nat.mul_le_mul hlen yF
      _<=_:=Ay
  have fresh:∀ (iH:Nat) (go:Nat->Value),(∀ row∈pre,row.length=sz)->(∀ r c v,cellAt pre r c=some v->aq σ.aa γ.w γ.Z γ.blk v (go (r*sz+c))) ->
      ∀ (w':World) (cap:Nat),pre.length+src.length<=cap->cap<=maxLen ->
        w'=γ.w.drew.alloc (.cells (((bD (pre.length*sz)).map go).toArray++news.toArray++Builtin.zeroCells zv.cells (cap-(pre.length+src.length))) (ty P t).elem) ->
        ∃ γ1:Cx,γ1.w=w'/\γ1.tmps=γ.tmps/\aZ { σ1 with aa:=σ1.aa++[.arr sz (pre++src)] } γ1/\Fr σ.aa γ (σ1.aa++[.arr sz (pre++src)]) γ1 /\
          aq (σ1.aa++[.arr sz (pre++src)]) γ1.w γ1.Z γ1.blk (.ref σ1.aa.length sz 0 (pre.length+src.length)) (.slice (some ⟨γ.w.heap.size,0,none⟩) (pre.length+src.length) cap):=by
    intro iH go lY BD w' cap kI q8 rn;have uY:∀ v cv,aq σ.aa γ.w γ.Z γ.blk v cv->aq σ1.aa γ.w γ.Z γ.blk v cv:=by
      intro v cv hv;refine hv.mono (λb hb=>⟨hb,rfl⟩) (λi o ho=>?_);unfold m9 at hd;split at hd
      · simp at hd
        rw[<- hd.2];by_cases bX:o=.gone
        · subst bX;exact .inl ho
        · exact .inr ⟨rfl,o,ho,Ob.gV bX⟩
      · rename_i id bV off len
        have hi:i<σ.aa.length:=(ba.1 ho).1;split at hd
        · split at hd
          · simp at hd
            rw[<- hd.2];show(σ.aa.set id Ob.gone)[i]?=some Ob.gone\/_;simp only[cj];by_cases kl:id=i
            · left;simp[kl,hi]
            · rw[if_neg kl]
              by_cases bX:o=.gone
              · subst bX;exact .inl ho
              · exact .inr ⟨trivial,o,ho,Ob.gV bX⟩
          · simp at hd
        · simp at hd
      · simp at hd
    let cur:=((bD (pre.length*sz)).map go).toArray++news.toArray++Builtin.zeroCells zv.cells (cap-(pre.length+src.length))
    have bb:pg σ1.aa γ.w γ.Z γ.blk 0 cap cur (.arr sz (pre++src)):=by
      refine⟨h0,?_,?_,by simpa using kI,q8,?_⟩
      · intro row aP
        rcases bj.1 aP with h|h
        · exact lY row h
        · exact rB row h
      · simp only[cur,news,Array.size_append,xL,iS,List.length_range,size_zeroCells,gg,<- eI]
        have:pre.length+src.length+(cap-(pre.length+src.length))=cap:=Ay;rw[this];omega
      · intro r c v hv
        have:=Uj (R:=aq σ1.aa γ.w γ.Z γ.blk) lY rB (λr c v hv=>uY _ _ (BD r c v hv)) (λr c v hv=>uY _ _ (wD r c v hv)) (Builtin.zeroCells zv.cells (cap-(pre.length+src.length))).toList r c v hv;rw[gM];have e:cur=(((bD (pre.length*sz)).map go)++((bD (src.length*sz)).map g)++(Builtin.zeroCells zv.cells (cap-(pre.length+src.length))).toList).toArray:=by
          apply Array.ext';simp[cur,news]
        rw[e];exact this
    refine⟨{ γ with w:=w',blk:=bZ γ.blk σ1.aa.length (some (γ.w.heap.size,0,cap)) },rfl,rfl,?_,?_,?_⟩
    · exact mH.push (t:=(ty P t).elem) (cur:=cur) (by rw[rn];rfl) bb
    · exact hf1.trans (Fr.push (σ:=σ1) (t:=(ty P t).elem) (cur:=cur) _ (by rw[rn];rfl) (by rw[rn];rfl) (by rw[rn];rfl) (by rw[rn];rfl))
    · have:=aq.ref (os:=σ1.aa++[.arr sz (pre++src)]) (w:=w') (Z:=γ.Z) (blk:=bZ γ.blk σ1.aa.length (some (γ.w.heap.size,0,cap))) σ1.aa.length sz 0 (pre.length+src.length) γ.w.heap.size 0 cap cap (pre++src)
        Dg (by simp[bZ]) Dg Ay kI
      simpa using this
  rcases Un with⟨rfl,rfl⟩|⟨id,b,x,bo,cur,tt,rfl,rfl,jY,rfl,hb,ic⟩|⟨id,off,rows,b,o,cap,cap',cur,tt,ho,rfl,hb,ic,rfl,BE,ou,px,lY,BD⟩
  · rcases AB src.length with hm|hp
    ·
      have kj:src=[]:=vT hm;subst kj;refine⟨.slice none 0 0,{ γ with blk:=bZ γ.blk σ1.aa.length none },?_,rfl,mH.uE h0,hf1.trans (Fr.uE _ _ _),?_⟩
      · cases ad<;>simp[Builtin.append_,run_underlying ht,sizeOf,typeInfo,hi,Builtin.lenOf,Builtin.firstCells,loadCells,loadCellsFrom]
      · exact .ju _ _ Dg (by simp[bZ])
    · obtain⟨a,rfl,hc⟩:=s6 hp
      have hr:=run_append_nil (P:=P) γ.w t oty _ i zv ht hi uS a src.length c news an hc hp (by unfold maxLen at s7;simp at s7;omega) (by have hb:=mI;simp only[g8,gM]at hb;omega);have gU:=grownCap_ge γ.w src.length 0 (ty P t).elem;have ou:=grownCap_le_maxLen γ.w src.length 0 (ty P t).elem (by simpa using s7);obtain⟨γ1,e1,e2,e3,e4,e5⟩:=fresh 0 (λ_=>Go.undef) Dg (by simp[cellAt]) _ (grownCap γ.w src.length 0 (ty P t).elem) (by simpa using gU) ou rfl;simp only[g8,Nat.zero_mul,List.range_zero,List.map_nil,gM,Array.empty_append]at e1 e5;refine⟨.slice (some ⟨γ.w.heap.size,0,none⟩) src.length (grownCap γ.w src.length 0 (ty P t).elem),γ1,?_,e2,e3,e4,?_⟩
      · rw[hr,e1]
      · simpa using e5
  · rcases AB src.length with hm|hp
    · have kj:src=[]:=vT hm
      subst kj;obtain⟨ob,ho,hg⟩:=jY;have lh:∀ k,k≠b->γ.w.heap[k]?=γ.w.heap[k]?:=λ_ _=>rfl;have EH:=h.yJ (ob':=.arr sz []) (o':=0) (cap':=0) ho hg (o:=bo.1) (cap:=bo.2) hb ic lh rfl ⟨h0,Dg,Dg,Dg,by simp[maxLen],by simp[cellAt]⟩;have fI:=Fr.yJ (γ:=γ) (o':=0) (cap':=0) (.arr sz []) ho hg (o:=bo.1) (cap:=bo.2) hb (w':=γ.w) lh rfl rfl rfl rfl;refine⟨.slice (some ⟨b,x,none⟩) 0 0,{ γ with w:=γ.w,blk:=bZ γ.blk σ.aa.length (some (b,0,0)) },?_,rfl,by simpa using EH,by simpa using fI,?_⟩
      · cases ad<;>simp[Builtin.append_,run_underlying ht,sizeOf,typeInfo,hi,Builtin.lenOf,Builtin.firstCells,loadCells,loadCellsFrom,storeCells]
      · have:=aq.jV (os:=σ.aa.set id .gone++[.arr sz []]) (w:=γ.w) (Z:=γ.Z) (blk:=bZ γ.blk σ.aa.length (some (b,0,0))) σ.aa.length sz 0 b x (0,0) []
          (by rw[dS Dg];simp) (by simp[bZ]) Dg
        simpa using this
    · obtain⟨a,rfl,hc⟩:=s6 hp
      have hr:=run_append_grow (P:=P) γ.w t oty _ i zv ht hi uS ⟨b,x,none⟩ 0 0 [] Dg Dg a src.length c news an hc Ay (by unfold maxLen at s7;simp at s7;omega) (growslice_fits Ay (by simpa using mI));have gU:=grownCap_ge γ.w (0+src.length) 0 (ty P t).elem;have ou:=grownCap_le_maxLen γ.w (0+src.length) 0 (ty P t).elem (by simpa using s7);obtain⟨γ1,e1,e2,e3,e4,e5⟩:=fresh 0 (λ_=>Go.undef) Dg (by simp[cellAt]) _ (grownCap γ.w (0+src.length) 0 (ty P t).elem) (by simpa using gU) ou rfl;refine⟨.slice (some ⟨γ.w.heap.size,0,none⟩) (0+src.length) (grownCap γ.w (0+src.length) 0 (ty P t).elem),γ1,?_,e2,e3,e4,?_⟩
      · rw[hr,e1];simp
      · simpa using e5
  · by_cases wB:pre.length+src.length<=cap'
    ·
      have hmul:pre.length*sz+src.length*sz<=cap'*sz:=by rw[<- eI];exact j' _ wB
      have BF:news.length=src.length*sz:=by rw[an,rA]
      have hr:=Ul (P:=P) γ.w t oty _ i ht hi b (o+off*sz) pre.length cap' cur tt ic ad src.length c news an s6 Uo wB (by rw[rA,BF];omega);have bb:pg σ.aa γ.w γ.Z γ.blk (o+off*sz) cap' (cur.toList.take (o+off*sz+pre.length*i.size)++news++cur.toList.drop (o+off*sz+pre.length*i.size+news.length)).toArray (.arr sz (pre++src)):=by
        refine⟨h0,?_,?_,by simpa using wB,ou,?_⟩
        · intro row aP
          rcases bj.1 aP with h|h
          · exact lY row h
          · exact rB row h
        · simp only[xL,aJ,j9,xK,nL,rA,BF]
          omega
        · intro r c v hv
          rw[yI cur _ news (by rw[rA,BF];omega),rA,BF];rw[K']at hv;split at hv
          · obtain⟨yL,kI⟩:=yq lY hv
            have:=uN yL kI;rw[if_neg Ay];exact BD r c v hv
          · obtain⟨yL,kI⟩:=yq rB hv
            have hl:=uN yL kI;have e:r*sz+c=pre.length*sz+((r-pre.length)*sz+c):=by
              have:r=pre.length+(r-pre.length):=Ay
              conv=>lhs;rw[this,eI]
              omega
            rw[if_pos Ay];have e2:o+off*sz+(r*sz+c)-(o+off*sz+pre.length*sz)=(r-pre.length)*sz+c:=Ay;rw[e2];simp only[news,aw];simp[hl];exact wD _ _ _ hv
      have EH:=h.yJ ho Dg hb (setRow_heap γ.w b cur _ tt _ ic) (λk hk=>setRow_other γ.w b k _ hk) (setRow_size _ _ _) bb;have fI:=Fr.yJ (γ:=γ) (o':=o+off*sz) (cap':=cap') (.arr sz (pre++src)) ho Dg hb (w':=γ.w.setRow b (cur.toList.take (o+off*sz+pre.length*i.size)++news++cur.toList.drop (o+off*sz+pre.length*i.size+news.length)).toArray) (λk hk=>setRow_other γ.w b k _ hk) (setRow_size _ _ _) rfl rfl rfl;refine⟨_,{ γ with w:=γ.w.setRow b (cur.toList.take (o+off*sz+pre.length*i.size)++news++cur.toList.drop (o+off*sz+pre.length*i.size+news.length)).toArray,blk:=bZ γ.blk σ.aa.length (some (b,o+off*sz,cap')) },hr,rfl,?_,?_,?_⟩
      · simpa using EH
      · simpa using fI
      · have:=aq.ref (os:=σ.aa.set id .gone++[.arr sz (pre++src)]) (w:=γ.w.setRow b (cur.toList.take (o+off*sz+pre.length*i.size)++news++cur.toList.drop (o+off*sz+pre.length*i.size+news.length)).toArray) (Z:=γ.Z)
          (blk:=bZ γ.blk σ.aa.length (some (b,o+off*sz,cap'))) σ.aa.length sz 0 (pre.length+src.length) b (o+off*sz) cap' cap' (pre++src)
          (by rw[dS Dg];simp) (by simp[bZ]) Dg Ay wB
        simpa using this
    ·
      let go:Nat->Value:=λj=>cur.getD (o+off*sz+j) Go.undef
      let BG:=(bD (pre.length*sz)).map go
      have py:BG.length=pre.length*i.size:=by simp[BG,rA]
      have Z1:pre.length*sz<=cap'*sz:=j' _ BE;have holds:∀ j v,BG[j]?=some v->γ.w.cell? ((⟨b,o+off*sz,none⟩:Addr).add j)=some v:=by
        intro j v hj;obtain⟨gR,rfl⟩:=wC hj;rw[Addr.nm];exact wv ic Ay
      have hp:0<src.length:=Ay;obtain⟨a,rfl,hc⟩:=s6 hp;have hr:=run_append_grow (P:=P) γ.w t oty _ i zv ht hi uS ⟨b,o+off*sz,none⟩ pre.length cap' BG py holds a src.length c news an hc Ay (by unfold maxLen at s7;omega) (growslice_fits Ay mI);have gU:=grownCap_ge γ.w (pre.length+src.length) cap' (ty P t).elem;have Uq:=grownCap_le_maxLen γ.w (pre.length+src.length) cap' (ty P t).elem s7;obtain⟨γ1,e1,e2,e3,e4,e5⟩:=fresh 0 go lY BD _ (grownCap γ.w (pre.length+src.length) cap' (ty P t).elem) gU Uq rfl;refine⟨_,γ1,?_,e2,e3,e4,e5⟩;rw[hr,e1]
def Ue{σ:St}{γ:Cx}(h:aZ σ γ){t t' oty:TypeId}{sz:Nat}(hk:(ty P t).kind=1)(cL:(ty P (ty P t).elem).kind≠99)(aE:sz=(ty P (ty P t).elem).size)(h0:0<sz){id off len:Nat}{x:AV}{oq yK:Value}(hS:aq σ.aa γ.w γ.Z γ.blk (.ref id sz off len) oq)(hX:aq σ.aa γ.w γ.Z γ.blk x yK){rows:List (List AV)}(ho:σ.aa[id]?=some (.arr sz rows)){src:List (List AV)}(pf:k7 σ x=some (sz,src))(ry:(src.all λrow=>row.all bU)=true):
  ∃ w',(Builtin.copy_ #[t,t'] oty #[oq,yK]).run P γ.w=.ok (.int .i64 (min src.length len:Nat)) w' /\
   aZ { σ with aa:=σ.aa.set id (.arr sz (rows.take off++src.take (min src.length len)++rows.drop (off+min src.length len))) } { γ with w:=w' } /\
   Fr σ.aa γ (σ.aa.set id (.arr sz (rows.take off++src.take (min src.length len)++rows.drop (off+min src.length len)))) { γ with w:=w' }:=by
 obtain⟨i,d,hi,Bt,pk,yG,hzero⟩:=pq cL;have ht:=oe hk;have rA:i.size=sz:=by rw[<- pk,<- aE]
 obtain⟨ad,c,g,rfl,rB,EG,wD⟩:=K9 h hX h0 pf;have cp:id<σ.aa.length:=(ba.1 ho).1;have zero:∀ (uZ:Option Addr) (cap':Nat),min src.length len=0->oq=.slice uZ len cap'->∃ w',(Builtin.copy_ #[t,t'] oty #[oq,.slice ad src.length c]).run P γ.w=.ok (.int .i64 (min src.length len:Nat)) w' /\
   aZ { σ with aa:=σ.aa.set id (.arr sz (rows.take off++src.take (min src.length len)++rows.drop (off+min src.length len))) } { γ with w:=w' } /\
   Fr σ.aa γ (σ.aa.set id (.arr sz (rows.take off++src.take (min src.length len)++rows.drop (off+min src.length len)))) { γ with w:=w' }:=by
  intro uZ cap' hz aW;have km:σ.aa.set id (.arr sz rows)=σ.aa:=by
   apply xP;intro j;rw[cj];split
   ·rename_i e;subst e;simp[ho]
   ·rfl
  refine⟨γ.w,?_,?_,?_⟩
  ·have hm:Nat.min src.length len=0:=hz;subst aW;cases ad<;>cases uZ<;>simp[Builtin.copy_,run_underlying ht,sizeOf,typeInfo,hi,Builtin.lenOf,Builtin.firstCells,loadCells,loadCellsFrom,storeCells,hm,goInt,hz]
  ·rw[hz];simp[km];exact h
  ·rw[hz];simp[km];exact Fr.refl _ _
 cases hS with
 |bO _ _ h=>cases h
 |iz _ _ _ _ _ h=>rw[ho]at h;simp at h
 |ju _ _ h hb=>exact zero none 0 Dg rfl
 |jV _ _ _ b x bo eV h hb hl=>exact zero _ 0 Dg rfl
 |ref _ _ _ _ b o cap cap' eV h' hb hl hc dt =>
  rw[ho]at h';simp at h';subst h';rcases AB (min src.length len) with hz|hp
  ·exact zero _ _ hz rfl
  obtain⟨_,dH,bb⟩:=h.dL id _ ho;rcases bb with⟨h1,_⟩|⟨b',o',yp,cur,tt,h1,h2,h3,h4,h5,h6⟩
  ·rw[hb]at h1;simp at h1
  rw[hb]at h1;simp at h1;obtain⟨rfl,rfl,rfl⟩:=h1;generalize hn:min src.length len=n at *;have lM:n<=src.length:=Ay;have iV:n<=len:=Ay
  let news:=(bD (n*sz)).map g
  have an:news.length=n*sz:=by simp[news]
  have kJ:∀ u∈news,u.oneCell'=true:=by
   intro u hu;obtain⟨j,hj⟩:=Hk.1 hu;obtain⟨gR,rfl⟩:=wC hj;have k1:j/sz<n:=Nat.div_lt_of_lt_mul (by rw[uh];exact gR);have k2:j%sz<sz:=Az _ h0;have k3:j/sz<src.length:=Ay;have dH:(src[j/sz]).length=sz:=rB _ (nM k3);have:=wD (j/sz) (j%sz) ((src[j/sz])[j%sz]' Ay) (by simp[cellAt,k3,k2,dH]);have e:j/sz*sz+j%sz=j:=by rw[uh];exact Nat.div_add_mod j sz
   rw[e]at this;refine BA this ?_;rw[gN]at ry;have:=ry _ (nM k3);rw[gN]at this;exact this _ (nM _)
  obtain⟨sb,so,rfl,ql⟩:=EG Ay;have hle:n*sz<=src.length*sz:=j' _ lM;have Lb:=run_loadCells_list (P:=P) γ.w ⟨sb,so,none⟩ news (λj v hj=>by
   obtain⟨gR,rfl⟩:=wC hj;rw[Addr.nm];exact ql j Ay)
  have px:(off+n)*sz<=cap*sz:=j' _ Ay;rw[eI]at px;have eb:=run_storeCells_at P b (o+off*sz) tt news 0 cur γ.w h2 (by rw[an];omega) kJ;simp only[kX]at eb;have dF:(Builtin.copy_ #[t,t'] oty #[.slice (some ⟨b,o+off*sz,none⟩) len cap',.slice (some ⟨sb,so,none⟩) src.length c]).run P γ.w=.ok (.int .i64 (n:Nat)) (γ.w.setRow b (cur.toList.take (o+off*sz)++news++cur.toList.drop (o+off*sz+news.length)).toArray):=by
   have hm:Nat.min src.length len=n:=hn;rw[an]at Lb;simp[Builtin.copy_,run_underlying ht,sizeOf,typeInfo,hi,Builtin.lenOf,Builtin.firstCells,hm,rA,Lb,eb,goInt]
  have EI:pg σ.aa γ.w γ.Z γ.blk o cap (cur.toList.take (o+off*sz)++news++cur.toList.drop (o+off*sz+news.length)).toArray (.arr sz (rows.take off++src.take n++rows.drop (off+n))):=by
   refine⟨h0,?_,?_,?_,h5,?_⟩
   ·intro row aP;simp only[bj]at aP;rcases aP with(hr|hr)|hr
    ·exact dH row (qV hr)
    ·exact rB row (qV hr)
    ·exact dH row (ue hr)
   ·simp only[xL,aJ,j9,xK,nL,an];omega
   ·simp;omega
   ·intro r cc v hv;rw[yI cur _ news (by rw[an];omega),an];have bw:cc<sz:=by
     simp only[cellAt,vS]at hv;obtain⟨y,hy,uV⟩:=hv;have hm:=fB hy;have:=(ba.1 uV).1;simp only[bj]at hm;rcases hm with(hr|hr)|hr
     ·have:=dH y (qV hr);omega
     ·have:=rB y (qV hr);omega
     ·have:=dH y (ue hr);omega
    rcases dD r off with k1|k1
    ·have e:cellAt (rows.take off++src.take n++rows.drop (off+n)) r cc=cellAt rows r cc:=by
      simp only[cellAt,bN];rw[cr aab,oP,if_pos k1]
     rw[e]at hv;have hm:(r+1)*sz<=off*sz:=j' _ Ay;rw[eI]at hm;rw[if_neg Ay];exact h6 r cc v hv
    ·rcases dD r (off+n) with k2|k2
     ·have e:cellAt (rows.take off++src.take n++rows.drop (off+n)) r cc=cellAt src (r-off) cc:=by
       simp only[cellAt,bN];rw[dS aab,cr aab,oP,if_pos aab];congr 2;simp;omega
      rw[e]at hv;have e1:r=off+(r-off):=Ay;have e2:r*sz=off*sz+(r-off)*sz:=by rw[<- eI,<- e1]
      have hm:(r-off+1)*sz<=n*sz:=j' _ Ay;rw[eI]at hm;rw[if_pos Ay];have e3:o+(r*sz+cc)-(o+off*sz)=(r-off)*sz+cc:=Ay;rw[e3];have hl:(r-off)*sz+cc<n*sz:=Ay;simp only[news,aw];simp[hl];exact wD _ _ _ hv
     ·have e:cellAt (rows.take off++src.take n++rows.drop (off+n)) r cc=cellAt rows r cc:=by
       simp only[cellAt];rw[dS aab,j8];congr 2;simp;omega
      rw[e]at hv;have hm:(off+n)*sz<=r*sz:=j' _ k2;rw[eI]at hm;rw[if_neg Ay];exact h6 r cc v hv
  refine⟨_,dF,?_,?_⟩
  ·exact h.write ho Dg (by simp[Ob.db];omega) hb (setRow_heap γ.w b cur _ tt _ h2) (λk hk=>setRow_other γ.w b k _ hk) (setRow_size _ _ _) EI
  ·exact Fr.write _ ho Dg (by simp[Ob.db];omega) hb (λk hk=>setRow_other γ.w b k _ hk) (setRow_size _ _ _) rfl rfl rfl
def Uf{σ:St}{γ:Cx}(h:aZ σ γ){t oty:TypeId}{sz:Nat}{z:List Value}(hk:(ty P t).kind=1)(cL:(ty P (ty P t).elem).kind≠99)(iY:z.length=sz)(h0:0<sz)(hz:(ty P (ty P t).elem).zero=some z)(rz:(z.all λu=>u.oneCell')=true){id off len:Nat}{oq:Value}(hS:aq σ.aa γ.w γ.Z γ.blk (.ref id sz off len) oq){rows:List (List AV)}(ho:σ.aa[id]?=some (.arr sz rows)):
  ∃ w',(Builtin.clear_ #[t] oty #[oq]).run P γ.w=.ok (.tuple #[]) w' /\
   aZ { σ with aa:=σ.aa.set id (.arr sz (rows.take off++ax len (z.map AV.lit)++rows.drop (off+len))) } { γ with w:=w' } /\
   Fr σ.aa γ (σ.aa.set id (.arr sz (rows.take off++ax len (z.map AV.lit)++rows.drop (off+len)))) { γ with w:=w' }:=by
 obtain⟨i,d,hi,Bt,pk,yG,hzero⟩:=pq cL;have ht:=oe hk;rw[hz]at hzero;obtain⟨zv,uS,gg⟩:=ud.1 hzero.symm;have EJ:zv.cells.size=sz:=by rw[<- iY,<- gg];simp
 have cp:id<σ.aa.length:=(ba.1 ho).1;have zero:∀ (uZ:Option Addr) (cap':Nat),len=0->oq=.slice uZ len cap'->∃ w',(Builtin.clear_ #[t] oty #[oq]).run P γ.w=.ok (.tuple #[]) w' /\
   aZ { σ with aa:=σ.aa.set id (.arr sz (rows.take off++ax len (z.map AV.lit)++rows.drop (off+len))) } { γ with w:=w' } /\
   Fr σ.aa γ (σ.aa.set id (.arr sz (rows.take off++ax len (z.map AV.lit)++rows.drop (off+len)))) { γ with w:=w' }:=by
  intro uZ cap' yM aW;have km:σ.aa.set id (.arr sz rows)=σ.aa:=by
   apply xP;intro j;rw[cj];split
   ·rename_i e;subst e;simp[ho]
   ·rfl
  refine⟨γ.w,?_,?_,?_⟩
  ·subst aW;subst yM;cases uZ<;>simp[Builtin.clear_,run_underlying ht]
  ·subst yM;simp[km];exact h
  ·subst yM;simp[km];exact Fr.refl _ _
 cases hS with
 |bO _ _ h=>cases h
 |iz _ _ _ _ _ h=>rw[ho]at h;simp at h
 |ju _ _ h hb=>exact zero none 0 rfl rfl
 |jV _ _ _ b x bo eV h hb hl=>exact zero _ 0 rfl rfl
 |ref _ _ _ _ b o cap cap' eV h' hb hl hc dt =>
  rw[ho]at h';simp at h';subst h';rcases AB len with yM|hp
  ·exact zero _ _ yM rfl
  obtain⟨_,dH,bb⟩:=h.dL id _ ho;rcases bb with⟨h1,_⟩|⟨b',o',yp,cur,tt,h1,h2,h3,h4,h5,h6⟩
  ·rw[hb]at h1;simp at h1
  rw[hb]at h1;simp at h1;obtain⟨rfl,rfl,rfl⟩:=h1
  let g:Nat->Value:=λi=>zv.cells[i%zv.cells.size]!
  let news:=(bD (len*sz)).map g
  have s6:(Builtin.zeroCells zv.cells len).toList=news:=by
   simp[Builtin.zeroCells,news,g,EJ]
  have an:news.length=len*sz:=by simp[news]
  have Le:∀ i,i<sz->∃ u,z[i]?=some u/\zv.cells[i]! = u:=by
   intro i hi';have:i<zv.cells.size:=Ay;refine⟨zv.cells[i],?_,?_⟩
   ·rw[<- gg];simp[this]
   ·simp[this]
  have kJ:∀ u∈news,u.oneCell'=true:=by
   intro u hu;obtain⟨j,hj⟩:=Hk.1 hu;obtain⟨gR,rfl⟩:=wC hj;obtain⟨u,k1,k2⟩:=Le (j%sz) (Az _ h0);show(zv.cells[j%zv.cells.size]!).oneCell'=true;rw[EJ,k2];rw[gN]at rz;exact rz _ (fB k1)
  have px:(off+len)*sz<=cap*sz:=j' _ Ay;rw[eI]at px;have eb:=run_storeCells_at P b (o+off*sz) tt news 0 cur γ.w h2 (by rw[an];omega) kJ;simp only[kX]at eb;have dF:(Builtin.clear_ #[t] oty #[.slice (some ⟨b,o+off*sz,none⟩) len cap']).run P γ.w=.ok (.tuple #[]) (γ.w.setRow b (cur.toList.take (o+off*sz)++news++cur.toList.drop (o+off*sz+news.length)).toArray):=by
   obtain⟨Z2,rfl⟩:∃k,len=k+1:=⟨len-1,Ay⟩;simp[Builtin.clear_,run_underlying ht,zeroValue,typeInfo,hi,uS,s6,eb]
  have EI:pg σ.aa γ.w γ.Z γ.blk o cap (cur.toList.take (o+off*sz)++news++cur.toList.drop (o+off*sz+news.length)).toArray (.arr sz (rows.take off++ax len (z.map AV.lit)++rows.drop (off+len))):=by
   refine⟨h0,?_,?_,?_,h5,?_⟩
   ·intro row aP;simp only[bj]at aP;rcases aP with(hr|hr)|hr
    ·exact dH row (qV hr)
    ·rw[ui hr,iS];exact iY
    ·exact dH row (ue hr)
   ·simp only[xL,aJ,j9,xK,nL,an];omega
   ·simp;omega
   ·intro r cc v hv;rw[yI cur _ news (by rw[an];omega),an];have bw:cc<sz:=by
     simp only[cellAt,vS]at hv;obtain⟨y,hy,uV⟩:=hv;have hm:=fB hy;have:=(ba.1 uV).1;simp only[bj]at hm;rcases hm with(hr|hr)|hr
     ·have:=dH y (qV hr);omega
     ·have Ur:=ui hr;rw[Ur,iS]at this;omega
     ·have:=dH y (ue hr);omega
    rcases dD r off with k1|k1
    ·have e:cellAt (rows.take off++ax len (z.map AV.lit)++rows.drop (off+len)) r cc=cellAt rows r cc:=by
      simp only[cellAt,bN];rw[cr aab,oP,if_pos k1]
     rw[e]at hv;have hm:(r+1)*sz<=off*sz:=j' _ Ay;rw[eI]at hm;rw[if_neg Ay];exact h6 r cc v hv
    ·rcases dD r (off+len) with k2|k2
     ·have e:cellAt (rows.take off++ax len (z.map AV.lit)++rows.drop (off+len)) r cc=(z.map AV.lit)[cc]?:=by
       simp only[cellAt,bN];rw[dS aab,cr aab,List.getElem?_replicate,if_pos aab];rfl
      rw[e,dm]at hv;obtain⟨u,k3,k4⟩:=Le cc bw;rw[k3]at hv;simp only[g9,dv.injEq]at hv;subst hv;have e1:r=off+(r-off):=Ay;have e2:r*sz=off*sz+(r-off)*sz:=by rw[<- eI,<- e1]
      have hm:(r-off+1)*sz<=len*sz:=j' _ Ay;rw[eI]at hm;rw[if_pos Ay];have e3:o+(r*sz+cc)-(o+off*sz)=(r-off)*sz+cc:=Ay;rw[e3];have hl:(r-off)*sz+cc<len*sz:=Ay;have e4:news.getD ((r-off)*sz+cc) Go.undef=u:=by
       simp only[news,aw];rw[dm,List.getElem?_range hl];show zv.cells[((r-off)*sz+cc)%zv.cells.size]! = u;rw[EJ,uh,Nat.mul_add_mod,Nat.mod_eq_of_lt bw,k4]
      first
       | (rw[e4];exact .lit _)
       | (simp only[aw]at e4 ⊢;rw[e4];exact .lit _)
     ·have e:cellAt (rows.take off++ax len (z.map AV.lit)++rows.drop (off+len)) r cc=cellAt rows r cc:=by
       simp only[cellAt];rw[dS aab,j8];congr 2;simp;omega
      rw[e]at hv;have hm:(off+len)*sz<=r*sz:=j' _ k2;rw[eI]at hm;rw[if_neg Ay];exact h6 r cc v hv
  refine⟨_,dF,?_,?_⟩
  ·exact h.write ho Dg (by simp[Ob.db];omega) hb (setRow_heap γ.w b cur _ tt _ h2) (λk hk=>setRow_other γ.w b k _ hk) (setRow_size _ _ _) EI
  ·exact Fr.write _ ho Dg (by simp[Ob.db];omega) hb (λk hk=>setRow_other γ.w b k _ hk) (setRow_size _ _ _) rfl rfl rfl
end Go.Am
namespace Go.Am
variable {P:Program}
def Us(l:List Value):∀ (j off:Nat) (cells:Array Value),off+j+l.length<=cells.size ->
  ((l.zipIdx j).foldl (λcs (x:Value×Nat)=>cs.setIfInBounds (off+x.2) x.1) cells).size=cells.size /\
  ∀ k,((l.zipIdx j).foldl (λcs (x:Value×Nat)=>cs.setIfInBounds (off+x.2) x.1) cells).getD k Go.undef=if off+j<=k/\k<off+j+l.length then l.getD (k-(off+j)) Go.undef else cells.getD k Go.undef:=by
 induction l with
 |nil=>intro j off cells _;simp;intro k h1 h2;omega
 |cons v l ih =>
  intro j off cells hl;simp only[cK]at hl;simp only[List.zipIdx_cons,List.foldl_cons];obtain⟨h1,h2⟩:=ih (j+1) off (cells.setIfInBounds (off+j) v) aab;refine⟨by rw[h1];simp,λk=>?_⟩;rw[h2 k];simp only[cK];by_cases c1:off+(j+1)<=k/\k<off+(j+1)+l.length
  ·rw[if_pos c1,if_pos Ay];have:k-(off+j)=(k-(off+(j+1)))+1:=Ay;rw[this];simp
  ·rw[if_neg c1];by_cases c2:k=off+j
   ·subst c2;rw[if_pos Ay];simp[dC,show off+j<cells.size by omega]
   ·rw[if_neg Ay];simp[dC,Array.getElem?_setIfInBounds_ne (Ne.symm c2)]
def Ut(v:Value)(off:Nat)(cells:Array Value):
  (v.cells.zipIdx.foldl (λcs (c,j)=>cs.setIfInBounds (off+j) c) cells)=((v.cells.toList.zipIdx 0).foldl (λcs (x:Value×Nat)=>cs.setIfInBounds (off+x.2) x.1) cells):=by
 rw[<- Array.foldl_toList];simp
def yN(R:AV->Value->Prop)(cs:List AV)(cur:Array Value):Prop:=cur.size=cs.length/\∀ j x,cs[j]?=some x->R x (cur.getD j Go.undef)
def Bv{σ:St}{γ:Cx}{place:Nat->Option (Nat×Nat)}:∀ (parts:List (Nat×AV)) (pv:List (Nat×Value)) (cs:List AV) (cur:Array Value) (nh:List AV),
  parts.length=pv.length->(∀ (j:Nat) (p:Nat×AV) (q:Nat×Value),parts[j]?=some p->pv[j]?=some q->p.1=q.1/\aq σ.aa γ.w γ.Z γ.blk p.2 q.2)->(∀ p∈parts,(cellsOf p.2).all bU=true) ->
  yN (aq σ.aa γ.w γ.Z γ.blk) cs cur->jN place cs parts=some nh->∃ lX,Instr.fill place cur pv=some lX/\yN (aq σ.aa γ.w γ.Z γ.blk) nh lX
 |[],pv,cs,cur,nh,hl,_,_,hc,h=>by
  have:pv=[]:=vT hl.symm;subst this;simp[jN]at h;subst h;exact⟨cur,by simp[Instr.fill],hc⟩
 | (i,v)::rest,[],cs,cur,nh,hl,_,_,_,_=>by simp at hl
 | (i,v)::rest,(i',x)::pv,cs,cur,nh,hl,hr,hs,hc,h=>by
  obtain⟨e1,e2⟩:=hr 0 (i,v) (i',x) rfl rfl;simp only at e1 e2;subst e1;simp only[jN]at h;cases hp:place i with
  |none=>simp[hp]at h
  |some os =>
   obtain⟨off,size⟩:=os;simp only[hp]at h;split at h
   ·rename_i Uu;obtain⟨h1,h2⟩:=Uu;obtain⟨g1,g2,g3⟩:=Er e2 (hs (i,v) Dg);have aE:x.cells.size=size:=by rw[g1,h1]
    obtain⟨kg,iU⟩:=hc;have px:off+0+x.cells.toList.length<=cur.size:=by simp[aE,kg];omega
    obtain⟨f1,f2⟩:=Us x.cells.toList 0 off cur px;have kK:yN (aq σ.aa γ.w γ.Z γ.blk) (setCells cs off (cellsOf v)) (x.cells.zipIdx.foldl (λcs (c,j)=>cs.setIfInBounds (off+j) c) cur):=by
     rw[Ut];refine⟨by rw[f1,Eu];exact kg,λj y hj=>?_⟩;rw[K7 _ _ _ (by rw[h1];exact h2)]at hj;rw[f2 j];simp only[kX,nL,aE];rw[h1]at hj;by_cases eO:off<=j/\j<off+size
     ·rw[if_pos eO]at hj;rw[if_pos eO];have:=g2 _ _ hj;simpa [aw,dC] using this
     ·rw[if_neg eO]at hj;rw[if_neg eO];exact iU j y hj
    obtain⟨lX,k1,k2⟩:=Bv rest pv _ _ nh (by simpa using hl) (λj p q hp hq=>hr (j+1) p q (by simpa using hp) (by simpa using hq)) (λp hp=>hs p (by simp[hp])) kK h;refine⟨lX,?_,k2⟩;simp only[Instr.fill,hp];rw[if_neg ?_]
    ·exact k1
    ·simp[aE,kg];omega
   ·simp at h
def Ep{os:List Ob}{w:World}{Z:Nat->Prop}{blk:eW}(z:List Value):yN (aq os w Z blk) (z.map .lit) z.toArray:=by
 refine⟨Dg,λj x hx=>?_⟩;simp only[dm]at hx;cases hj:z[j]? with
 |none=>simp[hj]at hx
 |some y =>
  simp[hj]at hx;subst hx;simp[dC,hj];exact .lit y
def Es{σ:St}{γ:Cx}(h:aZ σ γ){a:Act}(ha:γ.tmps=a.tmps)(parts:Array (Nat×Operand)):
  (parts.toList.map λp=>(p.1,ev σ p.2)).length=(parts.map λ(i,x)=>(i,a.eval x)).toList.length /\
  ∀ (j:Nat) (p:Nat×AV) (q:Nat×Value),(parts.toList.map λp=>(p.1,ev σ p.2))[j]?=some p->(parts.map λ(i,x)=>(i,a.eval x)).toList[j]?=some q->p.1=q.1/\aq σ.aa γ.w γ.Z γ.blk p.2 q.2:=by
 refine⟨Dg,λj p q hp hq=>?_⟩;simp only[Array.toList_map,dm]at hp hq;cases hj:parts.toList[j]? with
 |none=>simp[hj]at hp
 |some y =>
  simp only[hj,g9,dv.injEq]at hp hq;subst hp;subst hq;exact⟨rfl,mz h ha y.2⟩
def TZ{σ:St}{γ:Cx}(h:aZ σ γ){a:Act}(ha:γ.tmps=a.tmps){t:TypeId}{parts:Array (Nat×Operand)}{z:List Value}(hk:(ty P t).kind=3)(hz:(ty P t).zero=some z){cs:List AV}(hf:jN (λi=>((ty P t).aF[i]?).map λf=>(f.1,f.2.2)) (z.map .lit) (parts.toList.map λp=>(p.1,ev σ p.2))=some cs)(hs:(parts.toList.all λp=>(cellsOf (ev σ p.2)).all bU)=true)(hp:((ty P t).aF.all λf=>decide (0<f.2.2))=true):
  ∃ cur,(Instr.build t (parts.map λ(i,x)=>(i,a.eval x))).run P γ.w=.ok (.agg cur) γ.w/\aq σ.aa γ.w γ.Z γ.blk (.agg cs) (.agg cur):=by
 obtain⟨it,d,hi,hd,_,_,hzero⟩:=pq (P:=P) (t:=t) (by rw[hk];simp);obtain⟨fs,hu,fV⟩:=Ez hk;rw[hzero]at hz;cases hv:it.zero with
 |none=>simp[hv]at hz
 |some zv =>
  simp[hv]at hz;have gg:z.toArray=zv.cells:=by rw[<- hz]
  obtain⟨hl,hr⟩:=Es h ha parts;obtain⟨cur,h1,h2⟩:=Bv (σ:=σ) (γ:=γ) _ _ _ _ cs hl hr (λp hp=>by
   simp only[cN]at hp;obtain⟨q,hq,rfl⟩:=hp;rw[gN]at hs;exact hs q hq) (Ep z) hf
  refine⟨cur,run_build γ.w t _ cur ?_,.agg _ _ h2.1 h2.2⟩;unfold Program.built;rw[hi,hu];simp only[hv];have Uv:∀ (l:List Field),(∀ f∈l,0<rv P f.type)->l.mapM (λf=>(P.info? f.type).map λi=>(f.offset,i.size))=some (l.map λf=>(f.offset,rv P f.type)):=by
   intro l
   induction l with
   |nil=>intro _;simp
   |cons f l ih =>
    intro hl;have h0:=hl f Dg;unfold rv at h0;cases EK:P.info? f.type with
    |none=>simp[EK]at h0
    |some i =>
     simp only[List.mapM_cons,EK,g9,ih (λg hg=>hl g (by simp[hg]))];simp[rv,EK]
  rw[Uv fs.toList (by
   intro f eB;rw[fV]at hp;simp only[List.all_map,gN]at hp;have:=hp f eB;simpa using this)]
  simp only;rw[<- gg];have:(λ(x:Nat)=>((fs.toList.map λf=>(f.offset,rv P f.type)).toArray[x]?))=(λ(i:Nat)=>((ty P t).aF[i]?).map λ(f:Nat×Nat×Nat)=>(f.1,f.2.2)):=by
   funext i;rw[fV];simp;cases fs[i]?<;>simp
  rw[this];exact h1
def T1{σ:St}{γ:Cx}(h:aZ σ γ){a:Act}(ha:γ.tmps=a.tmps){t:TypeId}{parts:Array (Nat×Operand)}{z:List Value}(hk:(ty P t).kind=2)(hz:(ty P t).zero=some z){cs:List AV}(hf:jN (λi=>some (i*(ty P (ty P t).elem).size,(ty P (ty P t).elem).size)) (z.map .lit) (parts.toList.map λp=>(p.1,ev σ p.2))=some cs)(hs:(parts.toList.all λp=>(cellsOf (ev σ p.2)).all bU)=true)(cL:(ty P (ty P t).elem).kind≠99):
  ∃ cur,(Instr.build t (parts.map λ(i,x)=>(i,a.eval x))).run P γ.w=.ok (.agg cur) γ.w/\aq σ.aa γ.w γ.Z γ.blk (.agg cs) (.agg cur):=by
 obtain⟨it,d,hi,hd,_,_,hzero⟩:=pq (P:=P) (t:=t) (by rw[hk];simp);have hu:=EB hk;obtain⟨ie,de,Ux,_,pk,_,_⟩:=pq cL;rw[hzero]at hz;cases hv:it.zero with
 |none=>simp[hv]at hz
 |some zv =>
  simp[hv]at hz;have gg:z.toArray=zv.cells:=by rw[<- hz]
  obtain⟨hl,hr⟩:=Es h ha parts;obtain⟨cur,h1,h2⟩:=Bv (σ:=σ) (γ:=γ) _ _ _ _ cs hl hr (λp hp=>by
   simp only[cN]at hp;obtain⟨q,hq,rfl⟩:=hp;rw[gN]at hs;exact hs q hq) (Ep z) hf
  refine⟨cur,run_build γ.w t _ cur ?_,.agg _ _ h2.1 h2.2⟩;unfold Program.built;rw[hi,hu];simp only[hv,Ux];rw[<- gg,<- pk];exact h1
def Ev(sz:Nat):∀ (n:Nat) (cs:List AV),(jO sz n cs).length=n
 |0,_=>rfl
 |n+1,cs=>by simp[jO,Ev sz n]
def KY(sz:Nat):∀ (n:Nat) (cs:List AV),n*sz<=cs.length->∀ row∈jO sz n cs,row.length=sz
 |0,_,_,row,h=>by simp[jO]at h
 |n+1,cs,hl,row,h=>by
  rw[eI]at hl;simp only[jO,List.mem_cons]at h;rcases h with rfl|h
  ·simp;omega
  ·exact KY sz n (cs.drop sz) aab row h
def KZ(sz:Nat):∀ (n:Nat) (cs:List AV) (r c:Nat) (v:AV),cellAt (jO sz n cs) r c=some v->cs[r*sz+c]?=some v
 |0,_,r,c,v,h=>by simp[jO,cellAt]at h
 |n+1,cs,0,c,v,h=>by
  simp only[jO,cellAt,List.getElem?_cons_zero,Option.bind_some,oP]at h;split at h
  ·simpa using h
  ·simp at h
 |n+1,cs,r+1,c,v,h=>by
  have h':cellAt (jO sz n (cs.drop sz)) r c=some v:=by simpa [jO,cellAt] using h
  have:=KZ sz n (cs.drop sz) r c v h';rw[j8]at this;rw[eI];have e:r*sz+1*sz+c=sz+(r*sz+c):=Ay;rw[e];exact this
def Et{os:List Ob}{w:World}{Z:Nat->Prop}{blk:eW}(z:List Value)(n m:Nat)(hm:m=n*z.length)(hz:0<z.length):
  yN (aq os w Z blk) ((bD n).flatMap λ_=>z.map .lit) ((Array.range m).map (z.toArray[· % z.toArray.size]!)):=by
 subst hm;have hlen:((bD n).flatMap λ_=>z.map AV.lit).length=n*z.length:=by
  induction n with
  |zero=>simp
  |succ n ih=>rw[ug,xR,aJ,ih];simp[eI]
 refine⟨by simp[hlen],λj x hx=>?_⟩;have hj:j<n*z.length:=by rw[<- hlen];exact(ba.1 hx).1
 have key:∀ (n j:Nat),j<n*z.length->((bD n).flatMap λ_=>z.map AV.lit)[j]?=some (.lit (z[j%z.length]'(Az _ hz))):=by
  intro n
  induction n with
  |zero=>intro j hj;simp at hj
  |succ n ih =>
   intro j hj;have EL:((bD n).flatMap λ_=>z.map AV.lit).length=n*z.length:=by
    clear ih hj hx hlen
    induction n with
    |zero=>simp
    |succ n ih=>rw[ug,xR,aJ,ih];simp[eI]
   rw[ug,xR];by_cases Lf:j<n*z.length
   ·rw[cr (by rw[EL];exact Lf)];exact ih j Lf
   ·rw[dS (by rw[EL];omega),EL];rw[eI]at hj;have bw:j-n*z.length<z.length:=Ay;have s8:j%z.length=j-n*z.length:=by
     have:j=(j-n*z.length)+n*z.length:=Ay;rw[this,Nat.add_mul_mod_self_right,Nat.mod_eq_of_lt bw];omega
    simp[bw,s8]
 rw[key n j hj]at hx;simp at hx;subst hx;have hm:j%z.length<z.length:=Az _ hz;simp[dC,hj,hm];exact .lit _
end Go.Am

