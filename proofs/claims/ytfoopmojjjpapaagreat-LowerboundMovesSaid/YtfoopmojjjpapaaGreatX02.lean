import Derived.Test.YtfoopmojjjpapaaGreatX01
set_option linter.all false
set_option maxHeartbeats 0
set_option maxRecDepth 20000
open Array renaming getD_eq_getD_getElem?→ek
open List renaming mem_of_getElem?→gk,getElem?_eq_some_iff→aR,getElem?_set→bY,length_cons→dt,getElem?_take→uZ,getElem?_drop→mI,getD_eq_getElem?_getD→aB,getElem?_append_left→eB,getElem?_append_right→gX
open Nat renaming mul_le_mul_right→mJ,add_mul→fN,add_assoc→wB,add_zero→iq,ne_of_lt→ns,lt_or_ge→dE,mul_comm→rX
open Option renaming bind_eq_some_iff→Cl
namespace Go.Am
variable {P:Program}
def zm(o:Oper)(σ:St)(γ:Cx)(a:Act)(K:St->Prop)(r:Result Next):Prop :=
 ∃ n x w' σ' az,r=.ok n w'/\(n=.value x\/(n=.skip/\x=Go.undef))/\K σ'/\bg σ' az/\Fr σ.aa γ σ'.aa az/\az.w=w'/\az.tmps=(a.put o.dst x).tmps
def aw.lit{os:List Ob}{w:World}{Z:Nat->Prop}{blk:fX}(v:Value):aw os w Z blk (.lit v) v:=.cG _ _ (.lit v)
def aw.cz{os:List Ob}{w:World}{Z:Nat->Prop}{blk:fX}{v cv:Value}(h:aw os w Z blk (.lit v) cv):cv=v:=by
 cases h with
 |cG _ _ h=>cases h;rfl
def aw.zf{os:List Ob}{w:World}{Z:Nat->Prop}{blk:fX}{sz:Nat}{rows:List (List AV)}{cv:Value}(h:aw os w Z blk (.tree sz rows) cv):gx w Z (.tree sz rows) cv:=by
 cases h with
 |cG _ _ h=>exact h
def aw.ef{os:List Ob}{w:World}{Z:Nat->Prop}{blk:fX}(v:Value):aw os w Z blk (ef v) v:=by
 unfold Am.ef;split
 ·rename_i cs;refine .agg _ _ Iy (λj x hx=>?_);simp only[List.getElem?_map,Array.getElem?_toList]at hx;cases hj:cs[j]? with
  |none=>simp[hj]at hx
  |some y =>
   simp[hj]at hx;subst hx;simp[hj];exact .lit y
 ·exact .lit v
def sv{σ:St}{γ:Cx}(h:bg σ γ){a:Act}(ha:γ.tmps=a.tmps)(x:Operand):aw σ.aa γ.w γ.Z γ.blk (ev σ x) (a.eval x):=by
 cases x with
 |tmp t=>have:=h.an t;rw[ha]at this;exact this
 |const v=>exact .ef v
 |global g=>exact h.gl g
 |func f=>exact .fn f [] #[] rfl (λj x hx=>by simp at hx)
def FL{os:List Ob}{w:World}{Z:Nat->Prop}{blk:fX}{v:AV}{cv:Value}(h:aw os w Z blk v cv)(hs:cV v=true):cv.oneCell'=true:=by
 cases h with
 |undef cv=>simp[cV]at hs
 |cG v cv h=>cases h<;>first|rfl|(simpa [cV] using hs)
 |cd=>rfl
 |kk id sz off len cv h h1=>exact h1
 |mP id r c cv h h1=>exact h1
 |ref=>rfl
 |lR=>rfl
 |mo=>rfl
 |nA=>rfl
 |n9=>rfl
 |agg=>simp[cV]at hs
 |bu=>simp[cV]at hs
 |fn=>rfl
 |gZ=>rfl
 |du=>rfl
 |p' id cv h h1=>exact h1
def q6{σ:St}{γ:Cx}(h:bg σ γ){a:Act}(ha:γ.tmps=a.tmps){dst:Option Tmp}(hd:∀ d,dst=some d->d<a.tmps.size){v:AV}{cv:Value}(hv:aw σ.aa γ.w γ.Z γ.blk v cv):bg (σ.put dst v) { γ with tmps:=(a.put dst cv).tmps }:=by
 cases dst with
 |none =>
  have:({ γ with tmps:=(a.put none cv).tmps }:Cx)=γ:=by cases γ;simp_all [Act.put]
  rw[this];exact h
 |some d =>
  have:=h.put d (by rw[ha];exact hd d rfl) hv;rw[ha]at this;exact this
def p6(σ:St)(dst:Option Tmp)(v:AV):(σ.put dst v).aa=σ.aa:=by cases dst<;>rfl
def dj{o:Oper}{σ:St}{γ:Cx}{a:Act}{K:St->Prop}(h:bg σ γ)(ha:γ.tmps=a.tmps)(hd:∀ d,o.dst=some d->d<a.tmps.size){v:AV}{cv:Value}(hv:aw σ.aa γ.w γ.Z γ.blk v cv)(hK:K (σ.put o.dst v)){r:Result Next}(hr:r=.ok (.value cv) γ.w):zm o σ γ a K r :=
 ⟨.value cv,cv,γ.w,σ.put o.dst v,{ γ with tmps:=(a.put o.dst cv).tmps },hr,.inl rfl,hK,q6 h ha hd hv,by rw[p6];exact(Fr.refl _ _).put _,rfl,rfl⟩
def Bf{o:Oper}{σ σ1:St}{γ γ1:Cx}{a:Act}{K:St->Prop}(hf:Fr σ.aa γ σ1.aa γ1)(h:bg σ1 γ1)(ha:γ1.tmps=a.tmps)(hd:∀ d,o.dst=some d->d<a.tmps.size){v:AV}{cv:Value}(hv:aw σ1.aa γ1.w γ1.Z γ1.blk v cv)(hK:K (σ1.put o.dst v)){r:Result Next}(hr:r=.ok (.value cv) γ1.w):zm o σ γ a K r :=
 ⟨.value cv,cv,γ1.w,σ1.put o.dst v,{ γ1 with tmps:=(a.put o.dst cv).tmps },hr,.inl rfl,hK,q6 h ha hd hv,by rw[p6];exact hf.put _,rfl,rfl⟩
def JG{o:Oper}{σ σ1:St}{γ γ1:Cx}{a:Act}{K:St->Prop}(hf:Fr σ.aa γ σ1.aa γ1)(h:bg σ1 γ1)(ha:γ1.tmps=a.tmps)(hd:∀ d,o.dst=some d->d<a.tmps.size)(hK:K (σ1.put o.dst .undef)){r:Result Next}(hr:r=.ok .skip γ1.w):zm o σ γ a K r :=
 ⟨.skip,Go.undef,γ1.w,σ1.put o.dst .undef,{ γ1 with tmps:=(a.put o.dst Go.undef).tmps },hr,.inr ⟨rfl,rfl⟩,hK,q6 h ha hd (.undef _),by rw[p6];exact hf.put _,rfl,rfl⟩
def x7{k:IntKind}{n:Int}(h:k.min<=n/\n<=k.max):k.wrap n=n:=by
 cases k<;>simp[IntKind.min,IntKind.max,IntKind.signed,IntKind.bits]at h<;>simp[IntKind.wrap,IntKind.signed,IntKind.bits]<;>omega
def ads{op:BinOp}{k:IntKind}{x y:Int}{K:Value->Prop}(h:gy op k x y K)(t:TypeId)(w:World):
  ∃ v,(binOp op t (.int k x) (.int k y)).run P w=.ok v w/\K v:=by
 cases op<;>simp only[gy]at h
 case add=>exact⟨_,by simp[binOp,Op.intArith,x7 h.1],h.2⟩
 case sub=>exact⟨_,by simp[binOp,Op.intArith,x7 h.1],h.2⟩
 case mul =>
  unfold vq at h;split at h
  ·exact⟨_,by simp[binOp,Op.intArith],h⟩
  ·exact⟨_,by simp[binOp,Op.intArith,x7 h.1],h.2⟩
 case quo =>
  refine⟨_,?_,h.2⟩;obtain⟨h0,hb,hm⟩:=h.1;have hq:x.tdiv y=x/y:=Int.tdiv_eq_ediv_of_nonneg h0;have hle:x/y<=x:=Int.ediv_le_self _ h0;have gd:0<=x/y:=Int.ediv_nonneg h0 Ix;have hw:k.wrap (x/y)=x/y:=x7 ⟨by cases k<;>simp[IntKind.min,IntKind.signed,IntKind.bits]<;>omega,Ix⟩;have cA:¬ y=0:=Ix;simp[binOp,Op.intDiv,cA,hq,hw]
 case rem=>exact⟨_,by simp[binOp,Op.intDiv,h.1],h.2⟩
 case and =>
  exact⟨_,by simp[binOp,Op.intBits,Bm],h⟩
 case shr =>
  refine⟨_,?_,h.2⟩;obtain⟨h0,h1⟩:=h.1;have:¬ y<0:=Ix;have e:(2:Int)^y.toNat=((2^y.toNat:Nat):Int):=Iy;simp[binOp,Op.shift,this,Nat.min_eq_left h1];exact Int.fdiv_eq_ediv_of_nonneg _ (by rw[e];exact Int.natCast_nonneg _)
 case eql=>exact⟨_,by simp[binOp,Op.intCmp],h⟩
 case neq=>exact⟨_,by simp[binOp,Op.intCmp],h⟩
 case lss=>exact⟨_,by simp[binOp,Op.intCmp],h⟩
 case leq=>exact⟨_,by simp[binOp,Op.intCmp],h⟩
 case gtr=>exact⟨_,by simp[binOp,Op.intCmp],h⟩
 case geq=>exact⟨_,by simp[binOp,Op.intCmp],h⟩
def Qm:∀ {cs:List AV} {as:List Int},oY cs=some as->cs=as.map λa=>N0 a
 |[],as,h=>by simp[oY]at h;subst h;rfl
 |c::cs,as,h=>by
  unfold oY at h;split at h
  ·rename_i e;simp at e
  ·rename_i a r e;simp only[List.cons.injEq]at e;obtain⟨rfl,rfl⟩:=e;simp only[Option.map_eq_some_iff]at h;obtain⟨as',h,rfl⟩:=h;rw[Qm h];rfl
  ·simp at h
def Jy{os:List Ob}{w:World}{Z:Nat->Prop}{blk:fX}{cs:List AV}{as:List Int}{cv:Value}(h:aw os w Z blk (.agg cs) cv)(hi:oY cs=some as):cv=.agg (as.map (Value.int .i64)).toArray:=by
 have:=Qm hi;subst this;cases h with
 |cG _ _ h=>cases h
 |agg _ a7 hs h =>
  congr 1;refine Array.ext (by simpa using hs) (λj h1 h2=>?_);have hj:j<as.length:=by simpa using h2
  have:=(h j (N0 as[j]) (by simp[hj])).cz;rw[ek,Array.getElem?_eq_getElem h1]at this;simpa using this
end Go.Am
namespace Go.Am
variable {P:Program}
def JK{t:TypeId}(h:(ty P t).kind≠99)(w:World):(isAgg t).run P w=.ok (ty P t).isAgg w:=by
 obtain⟨i,d,hi,hd,_⟩:=uf h;simp only[isAgg,Sem.run_bind,run_underlying hd,Result.andThen_ok];have:ty P t=ty P t:=rfl;cases d<;>simp[ty,hi,hd,Ty.isAgg]
def run_sizeOf{t:TypeId}(h:(ty P t).kind≠99)(w:World):(sizeOf t).run P w=.ok (ty P t).size w:=by
 obtain⟨i,d,hi,hd,hs,_⟩:=uf h;simp[sizeOf,typeInfo,hi,hs]
def P8{t:TypeId}{z:List Value}(h:(ty P t).kind≠99)(hz:(ty P t).zero=some z)(w:World):∃v,(zeroValue t).run P w=.ok v w/\v.cells=z.toArray:=by
 obtain⟨i,d,hi,hd,_,_,h3⟩:=uf h;rw[h3]at hz;cases hv:i.zero with
 |none=>simp[hv]at hz
 |some v =>
  simp[hv]at hz;refine⟨v,by simp[zeroValue,typeInfo,hi,hv],?_⟩;rw[<- hz]
def Fx{σ:St}{γ:Cx}(h:bg σ γ){id r c:Nat}{cv:Value}{row:List AV}(hv:aw σ.aa γ.w γ.Z γ.blk (.ptr id r c) cv)(bN:rowOf σ id r=some row):
  ∃ b base cap cur t o,cv=.pointer (some ⟨b,base+c,none⟩)/\γ.blk id=some (b,o,cap)/\γ.w.heap[b]?=some (.cells cur t (0,0))/\base+row.length<=cur.size /\
   (∀ j v,row[j]?=some v->aw σ.aa γ.w γ.Z γ.blk v (cur.getD (base+j) Go.undef))/\Live σ.aa id /\
   (∀ zw kO,zw.length=row.length->kO.size=cur.size->(∀ j v,zw[j]?=some v->aw σ.aa γ.w γ.Z γ.blk v (kO.getD (base+j) Go.undef))->(∀ k,(k<base\/base+row.length<=k)->kO.getD k Go.undef=cur.getD k Go.undef) ->
    ∃ ob ob',σ.aa[id]?=some ob/\ob≠.gone/\ob.dT ob'/\(nV σ id r zw) = { σ with aa:=σ.aa.set id ob' }/\sF σ.aa γ.w γ.Z γ.blk o cap kO ob'):=by
 unfold rowOf at bN;cases ho:σ.aa[id]? with
 |none=>simp[ho]at bN
 |some ob =>
  have bI:=h.dF id ob ho;cases ob with
  |gone=>simp[ho]at bN
  |mp ag L=>simp[ho]at bN
  |var cells =>
   simp only[ho]at bN;split at bN
   ·rename_i wV;subst wV;simp at bN;subst bN;obtain⟨b,cap,cur,t,h1,h2,h3,h4⟩:=bI;have aP:cv=.pointer (some ⟨b,c,none⟩):=by
     cases hv with
     |cG _ _ h=>cases h
     |mP _ _ _ _ h=>rw[ho]at h;simp at h
     |nA _ _ b' cap' cells' h hb=>rw[h1]at hb;simp at hb;simp[hb.1]
     |n9 _ _ _ sz b' o' cap' rows h hb=>rw[ho]at h;simp at h
    refine⟨b,0,cap,cur,t,0,by simpa using aP,h1,h2,Ix,λj v hj=>by simpa using h4 j v hj,⟨_,ho,Iy⟩,?_⟩;intro zw kO hl hs lU _;refine⟨.var cells,.var zw,rfl,Iy,by simp[Ob.dT,hl],by simp[nV,ho],rfl,Ix,λc v hc=>by simpa using lU c v hc⟩
   ·simp at bN
  |arr sz rows =>
   simp only[ho]at bN;obtain⟨aN,cI,bI⟩:=bI;have alU:row.length=sz:=cI row (gk bN);have adO:r<rows.length:=(aR.1 bN).1;rcases bI with⟨_,he⟩|⟨b,o,cap,cur,t,h1,h2,h3,h4,h5,h6⟩
   ·subst he;simp at bN
   ·have aP:cv=.pointer (some ⟨b,o+(r*sz+c),none⟩):=by
     cases hv with
     |cG _ _ h=>cases h
     |mP _ _ _ _ h=>rw[ho]at h;simp at h
     |nA _ _ b' cap' cells' h hb=>rw[ho]at h;simp at h
     |n9 _ _ _ cX b' o' cap' gz h hb=>rw[ho]at h;simp at h;rw[h1]at hb;simp at hb;simp[hb.1,hb.2.1,h.1]
    have hmul:r*sz+sz<=cap*sz:=by
     have:(r+1)*sz<=cap*sz:=mJ _ Ix;rw[fN]at this;omega
    refine⟨b,o+r*sz,cap,cur,t,o,by rw[aP];simp[wB],h1,h2,Ix,?_,⟨_,ho,Iy⟩,?_⟩
    ·intro j v hj;have:=h6 r j v (by simp[cellAt,bN,hj]);simpa [wB] using this
    ·intro zw kO hl hs lU adP;refine⟨.arr sz rows,.arr sz (rows.set r zw),rfl,Iy,by simp[Ob.dT],by simp[nV,ho],aN,?_,Ix,by simp[h4],h5,?_⟩
     ·intro x hx;rcases List.mem_or_eq_of_mem_set hx with hx|rfl
      ·exact cI x hx
      ·omega
     ·intro r' c' v hc;by_cases gq:r=r'
      ·subst gq;simp only[cellAt,bY,if_true,adO]at hc;simp at hc;have:=lU c' v hc;simpa [wB] using this
      ·simp only[cellAt,bY,if_neg gq]at hc;have hold:=h6 r' c' v hc;have fD:c'<sz:=by
        simp only[Cl]at hc;obtain⟨x,hx,ui⟩:=hc;have:=cI x (gk hx);have:=(aR.1 ui).1;omega
       rw[adP _ ?_]
       ·exact hold
       ·rcases Nat.lt_or_gt_of_ne gq with a6|zx
        ·right;have:(r+1)*sz<=r'*sz:=mJ _ Ix;rw[fN]at this;omega
        ·left;have:(r'+1)*sz<=r*sz:=mJ _ Ix;rw[fN]at this;omega
def Addr.rh(b o n:Nat):(⟨b,o,none⟩:Addr).add n=⟨b,o+n,none⟩:=by
 unfold Go.Addr.add;split<;>simp_all
def zh{w:World}{b j:Nat}{cur:Array Value}{t:TypeId}{fr:Nat×Nat}(h:w.heap[b]?=some (.cells cur t fr))(hj:j<cur.size):w.cell? ⟨b,j,none⟩=some (cur.getD j Go.undef):=by
 simp[World.cell?,h,hj,ek]
def FT{w:World}{t:TypeId}(hk:(ty P t).kind≠99)(b o:Nat)(f:Nat->Value)(hc:∀ j,j<(if(ty P t).isAgg then(ty P t).size else 1)->w.cell? ⟨b,o+j,none⟩=some (f j)):
  (loadVar t ⟨b,o,none⟩).run P w=.ok (if(ty P t).isAgg then .agg ((List.range (ty P t).size).map f).toArray else f 0) w:=by
 simp only[loadVar,Sem.run_bind,JK hk,Result.andThen_ok];by_cases ha:(ty P t).isAgg=true
 ·simp only[ha,if_true,Sem.run_bind,run_sizeOf hk,Result.andThen_ok];rw[run_loadCells w ⟨b,o,none⟩ _ f (λj hj=>by rw[Addr.rh];exact hc j (by simpa [ha] using hj))];rfl
 ·have mR:=hc 0 (by simp[ha]);simp only[iq]at mR;simp[ha,mR]
end Go.Am
namespace Go.Am
variable {P:Program}
def JE(cs:List AV):∀ (row:List AV) (c:Nat),(setCells row c cs).length=row.length:=by
 induction cs with
 |nil=>intro row c;rfl
 |cons v vs ih=>intro row c;simp[setCells,ih]
def Qj(cs:List AV):∀ (row:List AV) (c:Nat),c+cs.length<=row.length->∀ j,(setCells row c cs)[j]?=if c<=j/\j<c+cs.length then cs[j-c]? else row[j]?:=by
 induction cs with
 |nil=>intro row c _ j;simp[setCells];intro h1 h2;omega
 |cons v vs ih =>
  intro row c hl j;simp only[dt]at hl;simp only[setCells,dt];rw[ih (row.set c v) (c+1) NS j];by_cases h1:c+1<=j/\j<c+1+vs.length
  ·rw[if_pos h1,if_pos Ix];have:j-c=(j-(c+1))+1:=Ix;rw[this];simp
  ·rw[if_neg h1];by_cases h2:j=c
   ·subst h2;rw[if_pos Ix];simp[show j<row.length by omega]
   ·rw[if_neg Ix,List.getElem?_set_ne (Ne.symm h2)]
def JB{os:List Ob}{w:World}{Z:Nat->Prop}{blk:fX}{v:AV}{cv:Value}(h:aw os w Z blk v cv)(hs:(cellsOf v).all cV=true):
  cv.cells.size=(cellsOf v).length/\(∀ j x,(cellsOf v)[j]?=some x->aw os w Z blk x (cv.cells.getD j Go.undef))/\∀ c∈cv.cells,c.oneCell'=true:=by
 by_cases lV :∃cs,v=.agg cs
 ·obtain⟨cs,rfl⟩:=lV;simp only[cellsOf]at hs ⊢;cases h with
  |cG _ _ h=>cases h
  |agg _ a7 aN lU =>
   refine⟨aN,lU,?_⟩;intro c hc;simp only[Value.cells]at hc;obtain⟨j,hj,rfl⟩:=Array.mem_iff_getElem.1 hc;have hx:cs[j]?=some cs[j]:=by simp[<- aN,hj]
   have:=lU j _ hx;have hg:a7.getD j Go.undef=a7[j]:=by simp[ek,hj]
   rw[hg]at this;exact FL this (by rw[List.all_eq_true]at hs;exact hs _ (gk hx))
 ·have lj:cellsOf v=[v]:=by
   unfold cellsOf;split
   ·exact absurd ⟨_,rfl⟩ lV
   ·rfl
  rw[lj]at hs ⊢;simp at hs;have ho:=FL h hs;have bc:cv.cells = #[cv]:=by cases cv<;>first|rfl|simp[Value.oneCell']at ho
  rw[bc];refine⟨rfl,?_,by simp[ho]⟩;intro j x hx;cases j with
  |zero=>simp at hx;subst hx;simpa using h
  |succ j=>simp at hx
section
variable {o:Oper} {σ:St} {γ:Cx} {a:Act} {K:St->Prop}
def Jm(hs:bg σ γ){t:TypeId}(hk:(ty P t).kind≠99){id r c:Nat}{cv:Value}(hv:aw σ.aa γ.w γ.Z γ.blk (.ptr id r c) cv){row:List AV}(bN:rowOf σ id r=some row){K:AV->Prop}(h:ml (ty P t) row c K):
  ∃ v pf,(Instr.loadAt t cv).run P γ.w=.ok pf γ.w/\aw σ.aa γ.w γ.Z γ.blk v pf/\K v:=by
 obtain⟨b,base,cap,cur,tt,o,rfl,hb,iK,aN,lU,_,_⟩:=Fx hs hv bN;unfold ml at h;simp only[Instr.loadAt,Instr.sureAddr,Sem.run_bind,Sem.run_pure,Result.andThen_ok];by_cases lV:(ty P t).isAgg=true
 ·rw[if_pos lV]at h;refine⟨_,_,FT hk b (base+c) (λj=>cur.getD (base+c+j) Go.undef) ?_,?_,h.2⟩
  ·intro j hj;rw[if_pos lV]at hj;exact zh iK Ix
  ·rw[if_pos lV];refine .agg _ _ NS (λj x hx=>?_);have hj:j<(ty P t).size:=by have:=(aR.1 hx).1;simp at this;omega
   rw[uZ,if_pos hj,mI]at hx;have:=lU _ _ hx;simp[ek,hj];simpa [wB,ek] using this
 ·rw[if_neg lV]at h;cases hc:row[c]? with
  |none=>simp[hc]at h
  |some v =>
   simp only[hc]at h;have bG:=(aR.1 hc).1;refine⟨v,_,FT hk b (base+c) (λj=>cur.getD (base+c+j) Go.undef) ?_,?_,h⟩
   ·intro j hj;rw[if_neg lV]at hj;exact zh iK Ix
   ·rw[if_neg lV];exact lU _ _ hc
def adq(_hs:bg σ γ){t:TypeId}(hk:(ty P t).kind≠99){cells:List AV}{cv:Value}(hv:aw σ.aa γ.w γ.Z γ.blk (.cd cells) cv){K:AV->Prop}(h:ml (ty P t) cells 0 K):
  ∃ v pf,(Instr.loadAt t cv).run P γ.w=.ok pf γ.w/\aw σ.aa γ.w γ.Z γ.blk v pf/\K v:=by
 cases hv with
 |cG _ _ h=>cases h
 |cd _ b o f hz hc ht =>
 unfold ml at h;simp only[Instr.loadAt,Instr.sureAddr,Sem.run_bind,Sem.run_pure,Result.andThen_ok];by_cases lV:(ty P t).isAgg=true
 ·rw[if_pos lV]at h;have hlen:(ty P t).size<=cells.length:=Ix;refine⟨_,_,FT hk b o f ?_,?_,h.2⟩
  ·intro j hj;rw[if_pos lV]at hj;exact hc j cells[j] Iy
  ·rw[if_pos lV];refine .agg _ _ NS (λj x hx=>?_);have hj:j<(ty P t).size:=by have:=(aR.1 hx).1;simp at this;omega
   rw[uZ,if_pos hj,mI]at hx;simp at hx;simp[ek,hj];exact .cG _ _ (ht j x hx)
 ·rw[if_neg lV]at h;cases bc:cells[0]? with
  |none=>simp[bc]at h
  |some v =>
   simp only[bc]at h;refine⟨v,_,FT hk b o f ?_,?_,h⟩
   ·intro j hj;rw[if_neg lV]at hj;have:j=0:=Ix;subst this;exact hc 0 v bc
   ·rw[if_neg lV];exact .cG _ _ (ht 0 v bc)
def C0(cur:Array Value)(p:Nat)(vs:List Value)(hp:p+vs.length<=cur.size)(k:Nat):
  ((cur.toList.take p++vs++cur.toList.drop (p+vs.length)).toArray).getD k Go.undef=if p<=k/\k<p+vs.length then vs.getD (k-p) Go.undef else cur.getD k Go.undef:=by
 simp only[ek,List.getElem?_toArray,aB];by_cases h1:k<p
 ·rw[if_neg Ix,List.append_assoc,eB NS,uZ,if_pos h1];simp
 ·by_cases h2:k<p+vs.length
  ·rw[if_pos Ix,eB NS,gX NS];simp;congr 3;omega
  ·rw[if_neg Ix,gX NS];simp;congr 3;omega
def setRow_size(w:World)(g:Nat)(cs:Array Value):(w.setRow g cs).heap.size=w.heap.size:=by simp[World.setRow]
def adr(hs:bg σ γ){t:TypeId}(hk:(ty P t).kind≠99){id r c:Nat}{cv xv:Value}(hv:aw σ.aa γ.w γ.Z γ.blk (.ptr id r c) cv){row:List AV}(bN:rowOf σ id r=some row){v:AV}(hx:aw σ.aa γ.w γ.Z γ.blk v xv)(h:(cellsOf v).length=(ty P t).size/\c+(ty P t).size<=row.length/\(cellsOf v).all cV=true):
  ∃ w',(Instr.storeAt t cv xv).run P γ.w=.ok () w'/\bg (nV σ id r (setCells row c (cellsOf v))) { γ with w:=w' }/\Fr σ.aa γ (nV σ id r (setCells row c (cellsOf v))).aa { γ with w:=w' }:=by
 obtain⟨b,base,cap,cur,tt,o,rfl,hb,iK,aN,lU,j3,adQ⟩:=Fx hs hv bN;obtain⟨h1,h2,h3⟩:=h;obtain⟨e1,e2,e3⟩:=JB hx h3;have hlen:xv.cells.toList.length=(ty P t).size:=by simp[e1,h1]
 have eG:(Instr.storeAt t (.pointer (some ⟨b,base+c,none⟩)) xv).run P γ.w=.ok () (γ.w.setRow b (cur.toList.take (base+c)++xv.cells.toList++cur.toList.drop (base+c+xv.cells.toList.length)).toArray):=by
  have dU:=run_storeCells_at P b (base+c) tt xv.cells.toList 0 cur γ.w iK (by rw[hlen];omega) (λx hx=>e3 x (by simpa using hx));simp only[iq]at dU;simp only[Instr.storeAt,Instr.sureAddr,Sem.run_bind,Sem.run_pure,Result.andThen_ok,storeVar,run_sizeOf hk];have:¬ (xv.cells.size≠(ty P t).size):=by rw[e1,h1];simp
  rw[if_neg this];simpa using dU
 obtain⟨ob,ob',g1,g2,g3,g4,g5⟩:=adQ (setCells row c (cellsOf v)) (cur.toList.take (base+c)++xv.cells.toList++cur.toList.drop (base+c+xv.cells.toList.length)).toArray
  (JE _ _ _) (by simp[hlen];omega) (by
   intro j x hj;rw[Qj _ _ _ (by rw[h1];exact h2)]at hj;rw[C0 cur (base+c) xv.cells.toList (by rw[hlen];omega),hlen];by_cases eP:c<=j/\j<c+(cellsOf v).length
   ·rw[if_pos eP]at hj;rw[if_pos Ix];have:=e2 _ _ hj;have e:base+j-(base+c)=j-c:=Ix;rw[e];simpa [aB,ek] using this
   ·rw[if_neg eP]at hj;rw[if_neg Ix];exact lU j x hj) (by
   intro k ba;rw[C0 cur (base+c) xv.cells.toList (by rw[hlen];omega),hlen];rw[if_neg Ix])
 refine⟨_,eG,?_,?_⟩
 ·rw[g4];exact hs.write g1 g2 g3 hb (setRow_heap γ.w b cur _ tt _ iK) (λk hk=>setRow_other γ.w b k _ hk) (setRow_size _ _ _) g5
 ·rw[g4];exact Fr.write ob' g1 g2 g3 hb (λk hk=>setRow_other γ.w b k _ hk) (setRow_size _ _ _) rfl rfl rfl
end
end Go.Am
namespace Go.Am
variable {P:Program}
def bg.zl{σ:St}{γ:Cx}(h:bg σ γ){sz:Nat}(aN:0<sz):
  bg { σ with aa:=σ.aa++[.arr sz []] } { γ with blk:=c6 γ.blk σ.aa.length none }:=by
 have hR:∀ v cv,aw σ.aa γ.w γ.Z γ.blk v cv->aw (σ.aa++[.arr sz []]) γ.w γ.Z (c6 γ.blk σ.aa.length none) v cv:=λv cv hv =>
  hv.mono (λb hb=>⟨hb,rfl⟩) (λi o ho=>by
   have hi:i<σ.aa.length:=(aR.1 ho).1;have cE:(σ.aa++[.arr sz []])[i]?=some o:=by rw[eB hi];exact ho
   by_cases cD:o=.gone
   ·subst cD;exact .inl cE
   ·exact .inr ⟨by simp[c6,ns hi],o,cE,Ob.jg cD⟩)
 have bL:∀ i b,c6 γ.blk σ.aa.length none i=some b->Live (σ.aa++[.arr sz []]) i->Live σ.aa i/\γ.blk i=some b:=by
  rintro i b hb⟨o,ho,cD⟩;simp only[c6]at hb;split at hb
  ·simp at hb
  ·rename_i cA;have hi:i<σ.aa.length:=by have:=(aR.1 ho).1;simp at this;omega
   rw[eB hi]at ho;exact⟨⟨o,ho,cD⟩,hb⟩
 refine⟨λk=>hR _ _ (h.an k),?_,?_,?_,h.fZ,λg=>hR _ _ (h.gl g)⟩
 ·intro i o ho;rcases dE i σ.aa.length with hi|hi
  ·rw[eB hi]at ho;exact(h.dF i o ho).mono hR (by simp[c6,ns hi]) (λ_ _ _ _=>rfl)
  ·have aq:i=σ.aa.length:=by have:=(aR.1 ho).1;simp at this;omega
   subst aq;simp at ho;subst ho;exact⟨aN,Iy,.inl ⟨by simp[c6],rfl⟩⟩
 ·intro i j b o c o' c' hi hj fY gM;obtain⟨FU,ph⟩:=bL i _ fY hi;obtain⟨hj1,zy⟩:=bL j _ gM hj;exact h.inj i j b o c o' c' FU hj1 ph zy
 ·rintro b ⟨i,o,c,hi,hb⟩;obtain⟨FU,ph⟩:=bL i _ hb hi;exact h.nz b ⟨i,o,c,FU,ph⟩
def Fr.zl(os:List Ob)(γ:Cx)(sz:Nat):Fr os γ (os++[.arr sz []]) { γ with blk:=c6 γ.blk os.length none } where
 kJ:=rfl
 tape:=rfl
 output:=rfl
 size:=Nat.le_refl _
 dV:=λ_ _ _=>rfl
 z0:=λ_ h=>h
 z1:=λ_ h=>.inl h
 own:=by
  rintro b⟨i,o,c,⟨x,hx,eF⟩,hb⟩;simp only[c6]at hb;split at hb
  ·simp at hb
  ·have hi:i<os.length:=by have:=(aR.1 hx).1;simp at this;omega
   rw[eB hi]at hx;exact .inl ⟨i,o,c,⟨x,hx,eF⟩,hb⟩
 len:=Iy
 dY:=by
  rintro i hi⟨x,hx,eF⟩;have hx0:=hx;rw[eB hi]at hx;exact⟨by simp[c6,ns hi],x,x,hx,hx0,Ob.jg eF⟩
def bg.CZ{σ:St}{γ:Cx}(h:bg σ γ){id:Nat}{ob ob':Ob}(ho:σ.aa[id]?=some ob)(hg:ob≠.gone){b o cap o' cap':Nat}(hb:γ.blk id=some (b,o,cap)){w':World}{cur:Array Value}{t:TypeId}(hw:w'.heap[b]?=some (.cells cur t (0,0)))(mu:∀ k,k≠b->w'.heap[k]?=γ.w.heap[k]?)(aN:w'.heap.size=γ.w.heap.size)(bI:sF σ.aa γ.w γ.Z γ.blk o' cap' cur ob'):
  bg { σ with aa:=σ.aa.set id .gone++[ob'] } { γ with w:=w',blk:=c6 γ.blk σ.aa.length (some (b,o',cap')) }:=by
 have bO:id<σ.aa.length:=(aR.1 ho).1;have j3:Live σ.aa id:=⟨ob,ho,hg⟩;have hR:∀ v cv,aw σ.aa γ.w γ.Z γ.blk v cv->aw (σ.aa.set id .gone++[ob']) w' γ.Z (c6 γ.blk σ.aa.length (some (b,o',cap'))) v cv:=λv cv hv =>
  hv.mono (λz hz=>⟨hz,mu z (λe=>h.nz b ⟨id,o,cap,j3,hb⟩ (e▸hz))⟩) (λi x hx=>by
   have hi:i<σ.aa.length:=(aR.1 hx).1;rw[eB (by simpa using hi),bY];by_cases mS:id=i
   ·left;simp[mS,hi]
   ·rw[if_neg mS];by_cases cD:x=.gone
    ·subst cD;exact .inl hx
    ·exact .inr ⟨by simp[c6,ns hi],x,hx,Ob.jg cD⟩)
 have bL:∀ i,Live (σ.aa.set id .gone++[ob']) i->i=σ.aa.length\/(i<σ.aa.length/\i≠id/\Live σ.aa i):=by
  rintro i⟨x,hx,eF⟩;rcases dE i σ.aa.length with hi|hi
  ·right;rw[eB (by simpa using hi),bY]at hx;split at hx
   ·simp at hx;exact absurd hx.symm eF
   ·rename_i cA;exact⟨hi,Ne.symm cA,x,hx,eF⟩
  ·left;have:=(aR.1 hx).1;simp at this;omega
 refine⟨λk=>hR _ _ (h.an k),?_,?_,?_,λz hz=>by rw[aN];exact h.fZ z hz,λg=>hR _ _ (h.gl g)⟩
 ·intro i x hx;rcases dE i σ.aa.length with hi|hi
  ·rw[eB (by simpa using hi),bY]at hx;split at hx
   ·simp at hx;subst hx;trivial
   ·rename_i cA;by_cases cD:x=.gone
    ·subst cD;trivial
    ·refine(h.dF i x hx).mono hR (by simp[c6,ns hi]) (λz y c hz=>mu z (λe=>cA ?_));subst e;exact h.inj id i z o cap y c j3 ⟨x,hx,cD⟩ hb hz
  ·have aq:i=σ.aa.length:=by have:=(aR.1 hx).1;simp at this;omega
   subst aq;rw[gX Iy]at hx;simp at hx;subst hx;exact bI.JS (b:=b) (cap:=cap') hR (by simp[c6]) hw
 ·intro i j z y c y' c' hi hj fY gM;simp only[c6]at fY gM;rcases bL i hi with rfl|⟨wQ,Qn,aq⟩<;>rcases bL j hj with rfl|⟨gA,adS,fe⟩
  ·rfl
  ·rw[if_pos rfl]at fY;rw[if_neg (ns gA)]at gM;simp at fY;rw[<- fY.1]at gM;exact absurd (h.inj j id b y' c' o cap fe j3 gM hb) adS
  ·rw[if_pos rfl]at gM;rw[if_neg (ns wQ)]at fY;simp at gM;rw[<- gM.1]at fY;exact absurd (h.inj i id b y c o cap aq j3 fY hb) Qn
  ·rw[if_neg (ns wQ)]at fY;rw[if_neg (ns gA)]at gM;exact h.inj i j z y c y' c' aq fe fY gM
 ·rintro z ⟨i,y,c,hi,hz⟩ nE;simp only[c6]at hz;rcases bL i hi with rfl|⟨wQ,Qn,aq⟩
  ·rw[if_pos rfl]at hz;simp at hz;rw[<- hz.1]at nE;exact h.nz b ⟨id,o,cap,j3,hb⟩ nE
  ·rw[if_neg (ns wQ)]at hz;exact h.nz z ⟨i,y,c,aq,hz⟩ nE
theorem Fr.CZ{σ:St}{γ:Cx}{id:Nat}{ob:Ob}(ob':Ob)(ho:σ.aa[id]?=some ob)(hg:ob≠.gone){b o cap o' cap':Nat}(hb:γ.blk id=some (b,o,cap)){w':World}(mu:∀ k,k≠b->w'.heap[k]?=γ.w.heap[k]?)(aN:w'.heap.size=γ.w.heap.size)(h1:w'.os=γ.w.os)(h2:w'.tape=γ.w.tape)(h3:w'.output=γ.w.output)(h4:γ.w.drawn<=w'.drawn:=by first|exact Nat.le_refl _|(simp;done)|omega):
  Fr σ.aa γ (σ.aa.set id .gone++[ob']) { γ with w:=w',blk:=c6 γ.blk σ.aa.length (some (b,o',cap')) } where
 kJ:=h1
 tape:=h2
 output:=h3
 drawn:=h4
 size:=by simp[aN]
 dV:=fun z _ qf=>mu z (fun e=>qf ⟨id,o,cap,⟨ob,ho,hg⟩,e▸hb⟩)
 z0:=fun _ h=>h
 z1:=fun _ h=>.inl h
 own:=by
  rintro z⟨i,y,c,⟨x,hx,eF⟩,hz⟩;simp only[c6]at hz;split at hz
  ·simp at hz;left;exact⟨id,o,cap,⟨ob,ho,hg⟩,by rw[hb,hz.1]⟩
  ·have hi:i<σ.aa.length:=by have:=(List.getElem?_eq_some_iff.1 hx).1;simp at this;omega
   rw[List.getElem?_append_left (by simpa using hi),List.getElem?_set]at hx;split at hx
   ·split at hx<;>simp at hx;exact absurd hx.symm eF
   ·exact .inl ⟨i,y,c,⟨x,hx,eF⟩,hz⟩
 len:=by simp
 dY:=by
  rintro i hi⟨x,hx,eF⟩;have hx0:=hx;rw[List.getElem?_append_left (by simpa using hi),List.getElem?_set]at hx;split at hx
  ·split at hx<;>simp at hx;exact absurd hx.symm eF
  ·exact⟨by simp[c6,Nat.ne_of_lt hi],x,x,hx,hx0,Ob.jg eF⟩
def Qg{σ:St}{γ:Cx}(h:bg σ γ){x:AV}{cv:Value}(hv:aw σ.aa γ.w γ.Z γ.blk x cv){sz:Nat}(aN:0<sz){src:List (List AV)}(hs:nw σ x=some (sz,src)):
  ∃ ad c,∃ g:Nat->Value,cv=.slice ad src.length c/\(∀ row∈src,row.length=sz)/\(0<src.length->∃ b o,ad=some ⟨b,o,none⟩/\∀ j,j<src.length*sz->γ.w.cell? ⟨b,o+j,none⟩=some (g j)) /\
   ∀ r c v,cellAt src r c=some v->aw σ.aa γ.w γ.Z γ.blk v (g (r*sz+c)):=by
 cases x with
 |tree cX rows =>
  simp[nw]at hs;obtain⟨rfl,rfl⟩:=hs;cases hv.zf with
  |nil _ cap a=>exact⟨a,cap,λ_=>Go.undef,rfl,Iy,Iy,by simp[cellAt]⟩
  |tree _ _ b o cap f hz hr C3 hc ht =>
   refine⟨_,cap,λj=>f (j/cX) (j%cX),rfl,hr,λhlen=>⟨b,o,rfl,?_⟩,?_⟩
   ·intro j hj;have h1:j/cX<rows.length:=Nat.div_lt_of_lt_mul (by rw[rX];exact hj);have h2:j%cX<cX:=Nat.mod_lt _ aN;have cI:(rows[j/cX]).length=cX:=hr _ (List.getElem_mem h1);have:=hc (j/cX) (j%cX) ((rows[j/cX])[j%cX]' Ix) (by simp[cellAt,h1,h2,cI]);have e:j/cX*cX+j%cX=j:=by rw[rX];exact Nat.div_add_mod j cX
    rw[e]at this;exact this
   ·intro r c v aP;have bG:c<cX:=by
     simp only[cellAt,Cl]at aP;obtain⟨y,hy,qo⟩:=aP;have:=hr y (gk hy);have:=(aR.1 qo).1;omega
    have e1:(r*cX+c)/cX=r:=by rw[rX,Nat.mul_add_div aN,Nat.div_eq_of_lt bG];rfl
    have e2:(r*cX+c)%cX=c:=by rw[rX,Nat.mul_add_mod,Nat.mod_eq_of_lt bG]
    simp only[e1,e2];exact .cG _ _ (ht r c v aP)
 |ref id cX off len =>
  simp only[nw]at hs;cases ho:σ.aa[id]? with
  |none=>simp[ho]at hs
  |some ob =>
   have bI:=h.dF id ob ho;cases ob with
   |gone=>simp[ho]at hs
   |mp ag L=>simp[ho]at hs
   |var cells=>simp[ho]at hs
   |arr kK rows =>
    simp only[ho]at hs;split at hs
    ·rename_i he;subst he;simp at hs;obtain⟨rfl,rfl⟩:=hs;obtain⟨_,cI,bI⟩:=bI;cases hv with
     |cG _ _ h=>cases h
     |kk _ _ _ _ _ h=>rw[ho]at h;simp at h
     |lR _ _ h hb =>
      rw[ho]at h;simp at h;subst h;exact⟨none,0,λ_=>Go.undef,rfl,Iy,Iy,by simp[cellAt]⟩
     |mo _ _ _ b x bo gz h hb hl =>
      exact⟨some ⟨b,x,none⟩,0,λ_=>Go.undef,Iy,Iy,Iy,by simp[cellAt]⟩
     |ref _ _ _ _ b o cap cap' gz h hb hl hc jt =>
      rw[ho]at h;simp at h;subst h;rcases bI with⟨h1,_⟩|⟨b',o',CJ,cur,t,h1,h2,h3,h4,h5,h6⟩
      ·rw[hb]at h1;simp at h1
      ·rw[hb]at h1;simp at h1;obtain⟨rfl,rfl,rfl⟩:=h1;have hlen:((rows.drop off).take len).length=len:=NS;refine⟨_,cap',λj=>cur.getD (o+off*kK+j) Go.undef,by rw[hlen],?_,λ_=>⟨b,o+off*kK,rfl,?_⟩,?_⟩
       ·intro row bN;exact cI row (List.mem_of_mem_drop (List.mem_of_mem_take bN))
       ·intro j hj;rw[hlen]at hj;refine zh h2 ?_;have:(off+len)*kK<=cap*kK:=mJ _ Ix;rw[fN]at this;omega
       ·intro r c v aP;simp only[cellAt,uZ,mI]at aP;split at aP
        ·have:=h6 (off+r) c v aP;rw[fN]at this;have e:o+(off*kK+r*kK+c)=o+off*kK+(r*kK+c):=Ix;rw[e]at this;exact this
        ·simp at aP
    ·simp at hs
 |_=>simp[nw]at hs
end Go.Am

