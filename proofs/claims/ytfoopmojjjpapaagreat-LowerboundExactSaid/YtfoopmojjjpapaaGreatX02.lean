import Derived.Test.YtfoopmojjjpapaaGreatX01
set_option linter.all false
set_option maxHeartbeats 0
set_option maxRecDepth 20000
open List renaming getElem?_map→bV,mem_of_getElem?→gY,getElem?_eq_some_iff→aR,getElem?_set→bP,range→bk,length_cons→cX,all_eq_true→gd,getElem?_take→uY,getElem?_drop→nW,getElem?_toArray→IJ,getD_eq_getElem?_getD→ax,append_assoc→bz,getElem?_append_left→eL,getElem?_append_right→gZ,getElem_mem→oV,mem_of_mem_drop→xL,mem_of_mem_take→q8,eq_nil_of_length_eq_zero→AS,mem_iff_getElem?→N7,mem_append→cT,size_toArray→CB,length_map→fF,length_nil→kx,length_append→bL,length_take→fe,length_drop→yZ,ext_getElem?→pZ,replicate→aO,eq_of_mem_replicate→E2,mem_map→bS,range_succ→tR,flatMap_append→tS
open Option renaming map_eq_some_iff→uV,bind_eq_some_iff→AR,map_some→gF,some→cy
open Array renaming getD_eq_getD_getElem?→eA,length_toList→tN
open Nat renaming mul_le_mul_right→l8,add_mul→fh,add_assoc→tU,add_zero→iw,ne_of_lt→nw,lt_or_ge→du,mul_comm→sq,mod_lt→wo,div_add_mod→Oe,mul_add_mod→Og,mod_eq_of_lt→E1,eq_zero_or_pos→q9,zero_add→fc
namespace Go.Am
variable {P:Program}
def zz(o:Oper)(σ:St)(γ:Cx)(a:Act)(K:St->Prop)(r:Result Next):Prop :=
 ∃ n x w' σ' az,r=.ok n w'/\(n=.value x\/(n=.skip/\x=Go.undef))/\K σ'/\bh σ' az/\Fr σ.aa γ σ'.aa az/\az.w=w'/\az.tmps=(a.put o.dst x).tmps
def aw.lit{os:List Ob}{w:World}{Z:Nat->Prop}{blk:fR}(v:Value):aw os w Z blk (.lit v) v:=.cC _ _ (.lit v)
def aw.cD{os:List Ob}{w:World}{Z:Nat->Prop}{blk:fR}{v cv:Value}(h:aw os w Z blk (.lit v) cv):cv=v:=by
 cases h with
 |cC _ _ h=>cases h;rfl
def aw.zr{os:List Ob}{w:World}{Z:Nat->Prop}{blk:fR}{sz:Nat}{rows:List (List AV)}{cv:Value}(h:aw os w Z blk (.tree sz rows) cv):hJ w Z (.tree sz rows) cv:=by
 cases h with
 |cC _ _ h=>exact h
def aw.eh{os:List Ob}{w:World}{Z:Nat->Prop}{blk:fR}(v:Value):aw os w Z blk (eh v) v:=by
 unfold Am.eh;split
 ·rename_i cs;refine .agg _ _ IM (λj x hx=>?_);simp only[bV,Array.getElem?_toList]at hx;cases hj:cs[j]? with
  |none=>simp[hj]at hx
  |some y =>
   simp[hj]at hx;subst hx;simp[hj];exact .lit y
 ·exact .lit v
def sN{σ:St}{γ:Cx}(h:bh σ γ){a:Act}(ha:γ.tmps=a.tmps)(x:Operand):aw σ.aa γ.w γ.Z γ.blk (ev σ x) (a.eval x):=by
 cases x with
 |tmp t=>have:=h.ao t;rw[ha]at this;exact this
 |const v=>exact .eh v
 |global g=>exact h.gl g
 |func f=>exact .fn f [] #[] rfl (λj x hx=>by simp at hx)
def FK{os:List Ob}{w:World}{Z:Nat->Prop}{blk:fR}{v:AV}{cv:Value}(h:aw os w Z blk v cv)(hs:cR v=true):cv.oneCell'=true:=by
 cases h with
 |undef cv=>simp[cR]at hs
 |cC v cv h=>cases h<;>first|rfl|(simpa [cR] using hs)
 |bY=>rfl
 |ki id sz off len cv h h1=>exact h1
 |mN id r c cv h h1=>exact h1
 |ref=>rfl
 |lJ=>rfl
 |mg=>rfl
 |nF=>rfl
 |oc=>rfl
 |agg=>simp[cR]at hs
 |bu=>simp[cR]at hs
 |fn=>rfl
 |hZ=>rfl
 |c9=>rfl
 |qm id cv h h1=>exact h1
def rm{σ:St}{γ:Cx}(h:bh σ γ){a:Act}(ha:γ.tmps=a.tmps){dst:Option Tmp}(hd:∀ d,dst=some d->d<a.tmps.size){v:AV}{cv:Value}(hv:aw σ.aa γ.w γ.Z γ.blk v cv):bh (σ.put dst v) { γ with tmps:=(a.put dst cv).tmps }:=by
 cases dst with
 |none =>
  have:({ γ with tmps:=(a.put none cv).tmps }:Cx)=γ:=by cases γ;simp_all [Act.put]
  rw[this];exact h
 |some d =>
  have:=h.put d (by rw[ha];exact hd d rfl) hv;rw[ha]at this;exact this
def qh(σ:St)(dst:Option Tmp)(v:AV):(σ.put dst v).aa=σ.aa:=by cases dst<;>rfl
def da{o:Oper}{σ:St}{γ:Cx}{a:Act}{K:St->Prop}(h:bh σ γ)(ha:γ.tmps=a.tmps)(hd:∀ d,o.dst=some d->d<a.tmps.size){v:AV}{cv:Value}(hv:aw σ.aa γ.w γ.Z γ.blk v cv)(hK:K (σ.put o.dst v)){r:Result Next}(hr:r=.ok (.value cv) γ.w):zz o σ γ a K r :=
 ⟨.value cv,cv,γ.w,σ.put o.dst v,{ γ with tmps:=(a.put o.dst cv).tmps },hr,.inl rfl,hK,rm h ha hd hv,by rw[qh];exact(Fr.refl _ _).put _,rfl,rfl⟩
def Bj{o:Oper}{σ σ1:St}{γ γ1:Cx}{a:Act}{K:St->Prop}(hf:Fr σ.aa γ σ1.aa γ1)(h:bh σ1 γ1)(ha:γ1.tmps=a.tmps)(hd:∀ d,o.dst=some d->d<a.tmps.size){v:AV}{cv:Value}(hv:aw σ1.aa γ1.w γ1.Z γ1.blk v cv)(hK:K (σ1.put o.dst v)){r:Result Next}(hr:r=.ok (.value cv) γ1.w):zz o σ γ a K r :=
 ⟨.value cv,cv,γ1.w,σ1.put o.dst v,{ γ1 with tmps:=(a.put o.dst cv).tmps },hr,.inl rfl,hK,rm h ha hd hv,by rw[qh];exact hf.put _,rfl,rfl⟩
def JT{o:Oper}{σ σ1:St}{γ γ1:Cx}{a:Act}{K:St->Prop}(hf:Fr σ.aa γ σ1.aa γ1)(h:bh σ1 γ1)(ha:γ1.tmps=a.tmps)(hd:∀ d,o.dst=some d->d<a.tmps.size)(hK:K (σ1.put o.dst .undef)){r:Result Next}(hr:r=.ok .skip γ1.w):zz o σ γ a K r :=
 ⟨.skip,Go.undef,γ1.w,σ1.put o.dst .undef,{ γ1 with tmps:=(a.put o.dst Go.undef).tmps },hr,.inr ⟨rfl,rfl⟩,hK,rm h ha hd (.undef _),by rw[qh];exact hf.put _,rfl,rfl⟩
def wG{k:IntKind}{n:Int}(h:k.min<=n/\n<=k.max):k.wrap n=n:=by
 cases k<;>simp[IntKind.min,IntKind.max,IntKind.signed,IntKind.bits]at h<;>simp[IntKind.wrap,IntKind.signed,IntKind.bits]<;>omega
def adv{op:BinOp}{k:IntKind}{x y:Int}{K:Value->Prop}(h:gw op k x y K)(t:TypeId)(w:World):
  ∃ v,(binOp op t (.int k x) (.int k y)).run P w=.ok v w/\K v:=by
 cases op<;>simp only[gw]at h
 case add=>exact⟨_,by simp[binOp,Op.intArith,wG h.1],h.2⟩
 case sub=>exact⟨_,by simp[binOp,Op.intArith,wG h.1],h.2⟩
 case mul =>
  unfold vj at h;split at h
  ·exact⟨_,by simp[binOp,Op.intArith],h⟩
  ·exact⟨_,by simp[binOp,Op.intArith,wG h.1],h.2⟩
 case quo =>
  refine⟨_,?_,h.2⟩;obtain⟨h0,hb,hm⟩:=h.1;have hq:x.tdiv y=x/y:=Int.tdiv_eq_ediv_of_nonneg h0;have hle:x/y<=x:=Int.ediv_le_self _ h0;have gM:0<=x/y:=Int.ediv_nonneg h0 AT;have hw:k.wrap (x/y)=x/y:=wG ⟨by cases k<;>simp[IntKind.min,IntKind.signed,IntKind.bits]<;>omega,AT⟩;have bZ:¬ y=0:=AT;simp[binOp,Op.intDiv,bZ,hq,hw]
 case rem=>exact⟨_,by simp[binOp,Op.intDiv,h.1],h.2⟩
 case and =>
  exact⟨_,by simp[binOp,Op.intBits,Bm],h⟩
 case shr =>
  refine⟨_,?_,h.2⟩;obtain⟨h0,h1⟩:=h.1;have:¬ y<0:=AT;have e:(2:Int)^y.toNat=((2^y.toNat:Nat):Int):=IM;simp[binOp,Op.shift,this,Nat.min_eq_left h1];exact Int.fdiv_eq_ediv_of_nonneg _ (by rw[e];exact Int.natCast_nonneg _)
 case eql=>exact⟨_,by simp[binOp,Op.intCmp],h⟩
 case neq=>exact⟨_,by simp[binOp,Op.intCmp],h⟩
 case lss=>exact⟨_,by simp[binOp,Op.intCmp],h⟩
 case leq=>exact⟨_,by simp[binOp,Op.intCmp],h⟩
 case gtr=>exact⟨_,by simp[binOp,Op.intCmp],h⟩
 case geq=>exact⟨_,by simp[binOp,Op.intCmp],h⟩
def QD:∀ {cs:List AV} {as:List Int},o8 cs=some as->cs=as.map λa=>Oi a
 |[],as,h=>by simp[o8]at h;subst h;rfl
 |c::cs,as,h=>by
  unfold o8 at h;split at h
  ·rename_i e;simp at e
  ·rename_i a r e;simp only[List.cons.injEq]at e;obtain⟨rfl,rfl⟩:=e;simp only[uV]at h;obtain⟨as',h,rfl⟩:=h;rw[QD h];rfl
  ·simp at h
def JL{os:List Ob}{w:World}{Z:Nat->Prop}{blk:fR}{cs:List AV}{as:List Int}{cv:Value}(h:aw os w Z blk (.agg cs) cv)(hi:o8 cs=some as):cv=.agg (as.map (Value.int .i64)).toArray:=by
 have:=QD hi;subst this;cases h with
 |cC _ _ h=>cases h
 |agg _ bd hs h =>
  congr 1;refine Array.ext (by simpa using hs) (λj h1 h2=>?_);have hj:j<as.length:=by simpa using h2
  have:=(h j (Oi as[j]) (by simp[hj])).cD;rw[eA,Array.getElem?_eq_getElem h1]at this;simpa using this
end Go.Am
namespace Go.Am
variable {P:Program}
def JX{t:TypeId}(h:(ty P t).kind≠99)(w:World):(isAgg t).run P w=.ok (ty P t).isAgg w:=by
 obtain⟨i,d,hi,hd,_⟩:=ui h;simp only[isAgg,Sem.run_bind,run_underlying hd,Result.andThen_ok];have:ty P t=ty P t:=rfl;cases d<;>simp[ty,hi,hd,Ty.isAgg]
def run_sizeOf{t:TypeId}(h:(ty P t).kind≠99)(w:World):(sizeOf t).run P w=.ok (ty P t).size w:=by
 obtain⟨i,d,hi,hd,hs,_⟩:=ui h;simp[sizeOf,typeInfo,hi,hs]
def Qz{t:TypeId}{z:List Value}(h:(ty P t).kind≠99)(hz:(ty P t).zero=some z)(w:World):∃v,(zeroValue t).run P w=.ok v w/\v.cells=z.toArray:=by
 obtain⟨i,d,hi,hd,_,_,h3⟩:=ui h;rw[h3]at hz;cases hv:i.zero with
 |none=>simp[hv]at hz
 |some v =>
  simp[hv]at hz;refine⟨v,by simp[zeroValue,typeInfo,hi,hv],?_⟩;rw[<- hz]
def Fx{σ:St}{γ:Cx}(h:bh σ γ){id r c:Nat}{cv:Value}{row:List AV}(hv:aw σ.aa γ.w γ.Z γ.blk (.ptr id r c) cv)(bE:rowOf σ id r=some row):
  ∃ b base cap cur t o,cv=.pointer (some ⟨b,base+c,none⟩)/\γ.blk id=some (b,o,cap)/\γ.w.heap[b]?=some (.cells cur t (0,0))/\base+row.length<=cur.size /\
   (∀ j v,row[j]?=some v->aw σ.aa γ.w γ.Z γ.blk v (cur.getD (base+j) Go.undef))/\Live σ.aa id /\
   (∀ zE kG,zE.length=row.length->kG.size=cur.size->(∀ j v,zE[j]?=some v->aw σ.aa γ.w γ.Z γ.blk v (kG.getD (base+j) Go.undef))->(∀ k,(k<base\/base+row.length<=k)->kG.getD k Go.undef=cur.getD k Go.undef) ->
    ∃ ob ob',σ.aa[id]?=some ob/\ob≠.gone/\ob.dI ob'/\(nX σ id r zE) = { σ with aa:=σ.aa.set id ob' }/\sR σ.aa γ.w γ.Z γ.blk o cap kG ob'):=by
 unfold rowOf at bE;cases ho:σ.aa[id]? with
 |none=>simp[ho]at bE
 |some ob =>
  have bI:=h.dx id ob ho;cases ob with
  |gone=>simp[ho]at bE
  |mp ag L=>simp[ho]at bE
  |var cells =>
   simp only[ho]at bE;split at bE
   ·rename_i rG;subst rG;simp at bE;subst bE;obtain⟨b,cap,cur,t,h1,h2,h3,h4⟩:=bI;have aQ:cv=.pointer (some ⟨b,c,none⟩):=by
     cases hv with
     |cC _ _ h=>cases h
     |mN _ _ _ _ h=>rw[ho]at h;simp at h
     |nF _ _ b' cap' cells' h hb=>rw[h1]at hb;simp at hb;simp[hb.1]
     |oc _ _ _ sz b' o' cap' rows h hb=>rw[ho]at h;simp at h
    refine⟨b,0,cap,cur,t,0,by simpa using aQ,h1,h2,AT,λj v hj=>by simpa using h4 j v hj,⟨_,ho,IM⟩,?_⟩;intro zE kG hl hs lK _;refine⟨.var cells,.var zE,rfl,IM,by simp[Ob.dI,hl],by simp[nX,ho],rfl,AT,λc v hc=>by simpa using lK c v hc⟩
   ·simp at bE
  |arr sz rows =>
   simp only[ho]at bE;obtain⟨aJ,cF,bI⟩:=bI;have amq:row.length=sz:=cF row (gY bE);have adF:r<rows.length:=(aR.1 bE).1;rcases bI with⟨_,he⟩|⟨b,o,cap,cur,t,h1,h2,h3,h4,h5,h6⟩
   ·subst he;simp at bE
   ·have aQ:cv=.pointer (some ⟨b,o+(r*sz+c),none⟩):=by
     cases hv with
     |cC _ _ h=>cases h
     |mN _ _ _ _ h=>rw[ho]at h;simp at h
     |nF _ _ b' cap' cells' h hb=>rw[ho]at h;simp at h
     |oc _ _ _ cU b' o' cap' gx h hb=>rw[ho]at h;simp at h;rw[h1]at hb;simp at hb;simp[hb.1,hb.2.1,h.1]
    have hmul:r*sz+sz<=cap*sz:=by
     have:(r+1)*sz<=cap*sz:=l8 _ AT;rw[fh]at this;omega
    refine⟨b,o+r*sz,cap,cur,t,o,by rw[aQ];simp[tU],h1,h2,AT,?_,⟨_,ho,IM⟩,?_⟩
    ·intro j v hj;have:=h6 r j v (by simp[cellAt,bE,hj]);simpa [tU] using this
    ·intro zE kG hl hs lK adG;refine⟨.arr sz rows,.arr sz (rows.set r zE),rfl,IM,by simp[Ob.dI],by simp[nX,ho],aJ,?_,AT,by simp[h4],h5,?_⟩
     ·intro x hx;rcases List.mem_or_eq_of_mem_set hx with hx|rfl
      ·exact cF x hx
      ·omega
     ·intro r' c' v hc;by_cases dU:r=r'
      ·subst dU;simp only[cellAt,bP,if_true,adF]at hc;simp at hc;have:=lK c' v hc;simpa [tU] using this
      ·simp only[cellAt,bP,if_neg dU]at hc;have hold:=h6 r' c' v hc;have iK:c'<sz:=by
        simp only[AR]at hc;obtain⟨x,hx,uk⟩:=hc;have:=cF x (gY hx);have:=(aR.1 uk).1;omega
       rw[adG _ ?_]
       ·exact hold
       ·rcases Nat.lt_or_gt_of_ne dU with aS|zF
        ·right;have:(r+1)*sz<=r'*sz:=l8 _ AT;rw[fh]at this;omega
        ·left;have:(r'+1)*sz<=r*sz:=l8 _ AT;rw[fh]at this;omega
def Addr.rF(b o n:Nat):(⟨b,o,none⟩:Addr).add n=⟨b,o+n,none⟩:=by
 unfold Go.Addr.add;split<;>simp_all
def zt{w:World}{b j:Nat}{cur:Array Value}{t:TypeId}{fr:Nat×Nat}(h:w.heap[b]?=some (.cells cur t fr))(hj:j<cur.size):w.cell? ⟨b,j,none⟩=some (cur.getD j Go.undef):=by
 simp[World.cell?,h,hj,eA]
def FL{w:World}{t:TypeId}(hk:(ty P t).kind≠99)(b o:Nat)(f:Nat->Value)(hc:∀ j,j<(if(ty P t).isAgg then(ty P t).size else 1)->w.cell? ⟨b,o+j,none⟩=some (f j)):
  (loadVar t ⟨b,o,none⟩).run P w=.ok (if(ty P t).isAgg then .agg ((bk (ty P t).size).map f).toArray else f 0) w:=by
 simp only[loadVar,Sem.run_bind,JX hk,Result.andThen_ok];by_cases ha:(ty P t).isAgg=true
 ·simp only[ha,if_true,Sem.run_bind,run_sizeOf hk,Result.andThen_ok];rw[run_loadCells w ⟨b,o,none⟩ _ f (λj hj=>by rw[Addr.rF];exact hc j (by simpa [ha] using hj))];rfl
 ·have mj:=hc 0 (by simp[ha]);simp only[iw]at mj;simp[ha,mj]
end Go.Am
namespace Go.Am
variable {P:Program}
def JR(cs:List AV):∀ (row:List AV) (c:Nat),(setCells row c cs).length=row.length:=by
 induction cs with
 |nil=>intro row c;rfl
 |cons v vs ih=>intro row c;simp[setCells,ih]
def QF(cs:List AV):∀ (row:List AV) (c:Nat),c+cs.length<=row.length->∀ j,(setCells row c cs)[j]?=if c<=j/\j<c+cs.length then cs[j-c]? else row[j]?:=by
 induction cs with
 |nil=>intro row c _ j;simp[setCells];intro h1 h2;omega
 |cons v vs ih =>
  intro row c hl j;simp only[cX]at hl;simp only[setCells,cX];rw[ih (row.set c v) (c+1) N0 j];by_cases h1:c+1<=j/\j<c+1+vs.length
  ·rw[if_pos h1,if_pos AT];have:j-c=(j-(c+1))+1:=AT;rw[this];simp
  ·rw[if_neg h1];by_cases h2:j=c
   ·subst h2;rw[if_pos AT];simp[show j<row.length by omega]
   ·rw[if_neg AT,List.getElem?_set_ne (Ne.symm h2)]
def JO{os:List Ob}{w:World}{Z:Nat->Prop}{blk:fR}{v:AV}{cv:Value}(h:aw os w Z blk v cv)(hs:(cellsOf v).all cR=true):
  cv.cells.size=(cellsOf v).length/\(∀ j x,(cellsOf v)[j]?=some x->aw os w Z blk x (cv.cells.getD j Go.undef))/\∀ c∈cv.cells,c.oneCell'=true:=by
 by_cases lN :∃cs,v=.agg cs
 ·obtain⟨cs,rfl⟩:=lN;simp only[cellsOf]at hs ⊢;cases h with
  |cC _ _ h=>cases h
  |agg _ bd aJ lK =>
   refine⟨aJ,lK,?_⟩;intro c hc;simp only[Value.cells]at hc;obtain⟨j,hj,rfl⟩:=Array.mem_iff_getElem.1 hc;have hx:cs[j]?=some cs[j]:=by simp[<- aJ,hj]
   have:=lK j _ hx;have hg:bd.getD j Go.undef=bd[j]:=by simp[eA,hj]
   rw[hg]at this;exact FK this (by rw[gd]at hs;exact hs _ (gY hx))
 ·have kH:cellsOf v=[v]:=by
   unfold cellsOf;split
   ·exact absurd ⟨_,rfl⟩ lN
   ·rfl
  rw[kH]at hs ⊢;simp at hs;have ho:=FK h hs;have bc:cv.cells = #[cv]:=by cases cv<;>first|rfl|simp[Value.oneCell']at ho
  rw[bc];refine⟨rfl,?_,by simp[ho]⟩;intro j x hx;cases j with
  |zero=>simp at hx;subst hx;simpa using h
  |succ j=>simp at hx
section
variable {o:Oper} {σ:St} {γ:Cx} {a:Act} {K:St->Prop}
def JA(hs:bh σ γ){t:TypeId}(hk:(ty P t).kind≠99){id r c:Nat}{cv:Value}(hv:aw σ.aa γ.w γ.Z γ.blk (.ptr id r c) cv){row:List AV}(bE:rowOf σ id r=some row){K:AV->Prop}(h:ma (ty P t) row c K):
  ∃ v pj,(Instr.loadAt t cv).run P γ.w=.ok pj γ.w/\aw σ.aa γ.w γ.Z γ.blk v pj/\K v:=by
 obtain⟨b,base,cap,cur,tt,o,rfl,hb,iL,aJ,lK,_,_⟩:=Fx hs hv bE;unfold ma at h;simp only[Instr.loadAt,Instr.sureAddr,Sem.run_bind,Sem.run_pure,Result.andThen_ok];by_cases lN:(ty P t).isAgg=true
 ·rw[if_pos lN]at h;refine⟨_,_,FL hk b (base+c) (λj=>cur.getD (base+c+j) Go.undef) ?_,?_,h.2⟩
  ·intro j hj;rw[if_pos lN]at hj;exact zt iL AT
  ·rw[if_pos lN];refine .agg _ _ N0 (λj x hx=>?_);have hj:j<(ty P t).size:=by have:=(aR.1 hx).1;simp at this;omega
   rw[uY,if_pos hj,nW]at hx;have:=lK _ _ hx;simp[eA,hj];simpa [tU,eA] using this
 ·rw[if_neg lN]at h;cases hc:row[c]? with
  |none=>simp[hc]at h
  |some v =>
   simp only[hc]at h;have bn:=(aR.1 hc).1;refine⟨v,_,FL hk b (base+c) (λj=>cur.getD (base+c+j) Go.undef) ?_,?_,h⟩
   ·intro j hj;rw[if_neg lN]at hj;exact zt iL AT
   ·rw[if_neg lN];exact lK _ _ hc
def adt(_hs:bh σ γ){t:TypeId}(hk:(ty P t).kind≠99){cells:List AV}{cv:Value}(hv:aw σ.aa γ.w γ.Z γ.blk (.bY cells) cv){K:AV->Prop}(h:ma (ty P t) cells 0 K):
  ∃ v pj,(Instr.loadAt t cv).run P γ.w=.ok pj γ.w/\aw σ.aa γ.w γ.Z γ.blk v pj/\K v:=by
 cases hv with
 |cC _ _ h=>cases h
 |bY _ b o f hz hc ht =>
 unfold ma at h;simp only[Instr.loadAt,Instr.sureAddr,Sem.run_bind,Sem.run_pure,Result.andThen_ok];by_cases lN:(ty P t).isAgg=true
 ·rw[if_pos lN]at h;have hlen:(ty P t).size<=cells.length:=AT;refine⟨_,_,FL hk b o f ?_,?_,h.2⟩
  ·intro j hj;rw[if_pos lN]at hj;exact hc j cells[j] IM
  ·rw[if_pos lN];refine .agg _ _ N0 (λj x hx=>?_);have hj:j<(ty P t).size:=by have:=(aR.1 hx).1;simp at this;omega
   rw[uY,if_pos hj,nW]at hx;simp at hx;simp[eA,hj];exact .cC _ _ (ht j x hx)
 ·rw[if_neg lN]at h;cases bc:cells[0]? with
  |none=>simp[bc]at h
  |some v =>
   simp only[bc]at h;refine⟨v,_,FL hk b o f ?_,?_,h⟩
   ·intro j hj;rw[if_neg lN]at hj;have:j=0:=AT;subst this;exact hc 0 v bc
   ·rw[if_neg lN];exact .cC _ _ (ht 0 v bc)
def Dc(cur:Array Value)(p:Nat)(vs:List Value)(hp:p+vs.length<=cur.size)(k:Nat):
  ((cur.toList.take p++vs++cur.toList.drop (p+vs.length)).toArray).getD k Go.undef=if p<=k/\k<p+vs.length then vs.getD (k-p) Go.undef else cur.getD k Go.undef:=by
 simp only[eA,IJ,ax];by_cases h1:k<p
 ·rw[if_neg AT,bz,eL N0,uY,if_pos h1];simp
 ·by_cases h2:k<p+vs.length
  ·rw[if_pos AT,eL N0,gZ N0];simp;congr 3;omega
  ·rw[if_neg AT,gZ N0];simp;congr 3;omega
def setRow_size(w:World)(g:Nat)(cs:Array Value):(w.setRow g cs).heap.size=w.heap.size:=by simp[World.setRow]
def adu(hs:bh σ γ){t:TypeId}(hk:(ty P t).kind≠99){id r c:Nat}{cv xv:Value}(hv:aw σ.aa γ.w γ.Z γ.blk (.ptr id r c) cv){row:List AV}(bE:rowOf σ id r=some row){v:AV}(hx:aw σ.aa γ.w γ.Z γ.blk v xv)(h:(cellsOf v).length=(ty P t).size/\c+(ty P t).size<=row.length/\(cellsOf v).all cR=true):
  ∃ w',(Instr.storeAt t cv xv).run P γ.w=.ok () w'/\bh (nX σ id r (setCells row c (cellsOf v))) { γ with w:=w' }/\Fr σ.aa γ (nX σ id r (setCells row c (cellsOf v))).aa { γ with w:=w' }:=by
 obtain⟨b,base,cap,cur,tt,o,rfl,hb,iL,aJ,lK,j6,adH⟩:=Fx hs hv bE;obtain⟨h1,h2,h3⟩:=h;obtain⟨e1,e2,e3⟩:=JO hx h3;have hlen:xv.cells.toList.length=(ty P t).size:=by simp[e1,h1]
 have eF:(Instr.storeAt t (.pointer (some ⟨b,base+c,none⟩)) xv).run P γ.w=.ok () (γ.w.setRow b (cur.toList.take (base+c)++xv.cells.toList++cur.toList.drop (base+c+xv.cells.toList.length)).toArray):=by
  have dm:=run_storeCells_at P b (base+c) tt xv.cells.toList 0 cur γ.w iL (by rw[hlen];omega) (λx hx=>e3 x (by simpa using hx));simp only[iw]at dm;simp only[Instr.storeAt,Instr.sureAddr,Sem.run_bind,Sem.run_pure,Result.andThen_ok,storeVar,run_sizeOf hk];have:¬ (xv.cells.size≠(ty P t).size):=by rw[e1,h1];simp
  rw[if_neg this];simpa using dm
 obtain⟨ob,ob',g1,g2,g3,g4,g5⟩:=adH (setCells row c (cellsOf v)) (cur.toList.take (base+c)++xv.cells.toList++cur.toList.drop (base+c+xv.cells.toList.length)).toArray
  (JR _ _ _) (by simp[hlen];omega) (by
   intro j x hj;rw[QF _ _ _ (by rw[h1];exact h2)]at hj;rw[Dc cur (base+c) xv.cells.toList (by rw[hlen];omega),hlen];by_cases bR:c<=j/\j<c+(cellsOf v).length
   ·rw[if_pos bR]at hj;rw[if_pos AT];have:=e2 _ _ hj;have e:base+j-(base+c)=j-c:=AT;rw[e];simpa [ax,eA] using this
   ·rw[if_neg bR]at hj;rw[if_neg AT];exact lK j x hj) (by
   intro k bf;rw[Dc cur (base+c) xv.cells.toList (by rw[hlen];omega),hlen];rw[if_neg AT])
 refine⟨_,eF,?_,?_⟩
 ·rw[g4];exact hs.write g1 g2 g3 hb (setRow_heap γ.w b cur _ tt _ iL) (λk hk=>setRow_other γ.w b k _ hk) (setRow_size _ _ _) g5
 ·rw[g4];exact Fr.write ob' g1 g2 g3 hb (λk hk=>setRow_other γ.w b k _ hk) (setRow_size _ _ _) rfl rfl rfl
end
end Go.Am
namespace Go.Am
variable {P:Program}
def bh.zx{σ:St}{γ:Cx}(h:bh σ γ){sz:Nat}(aJ:0<sz):
  bh { σ with aa:=σ.aa++[.arr sz []] } { γ with blk:=cW γ.blk σ.aa.length none }:=by
 have hR:∀ v cv,aw σ.aa γ.w γ.Z γ.blk v cv->aw (σ.aa++[.arr sz []]) γ.w γ.Z (cW γ.blk σ.aa.length none) v cv:=λv cv hv =>
  hv.mono (λb hb=>⟨hb,rfl⟩) (λi o ho=>by
   have hi:i<σ.aa.length:=(aR.1 ho).1;have cJ:(σ.aa++[.arr sz []])[i]?=some o:=by rw[eL hi];exact ho
   by_cases cG:o=.gone
   ·subst cG;exact .inl cJ
   ·exact .inr ⟨by simp[cW,nw hi],o,cJ,Ob.jh cG⟩)
 have bN:∀ i b,cW γ.blk σ.aa.length none i=some b->Live (σ.aa++[.arr sz []]) i->Live σ.aa i/\γ.blk i=some b:=by
  rintro i b hb⟨o,ho,cG⟩;simp only[cW]at hb;split at hb
  ·simp at hb
  ·rename_i bZ;have hi:i<σ.aa.length:=by have:=(aR.1 ho).1;simp at this;omega
   rw[eL hi]at ho;exact⟨⟨o,ho,cG⟩,hb⟩
 refine⟨λk=>hR _ _ (h.ao k),?_,?_,?_,h.fV,λg=>hR _ _ (h.gl g)⟩
 ·intro i o ho;rcases du i σ.aa.length with hi|hi
  ·rw[eL hi]at ho;exact(h.dx i o ho).mono hR (by simp[cW,nw hi]) (λ_ _ _ _=>rfl)
  ·have ar:i=σ.aa.length:=by have:=(aR.1 ho).1;simp at this;omega
   subst ar;simp at ho;subst ho;exact⟨aJ,IM,.inl ⟨by simp[cW],rfl⟩⟩
 ·intro i j b o c o' c' hi hj ep gJ;obtain⟨JZ,pk⟩:=bN i _ ep hi;obtain⟨hj1,FM⟩:=bN j _ gJ hj;exact h.inj i j b o c o' c' JZ hj1 pk FM
 ·rintro b ⟨i,o,c,hi,hb⟩;obtain⟨JZ,pk⟩:=bN i _ hb hi;exact h.nz b ⟨i,o,c,JZ,pk⟩
def Fr.zx(os:List Ob)(γ:Cx)(sz:Nat):Fr os γ (os++[.arr sz []]) { γ with blk:=cW γ.blk os.length none } where
 kD:=rfl
 tape:=rfl
 output:=rfl
 size:=Nat.le_refl _
 dN:=λ_ _ _=>rfl
 z0:=λ_ h=>h
 z1:=λ_ h=>.inl h
 own:=by
  rintro b⟨i,o,c,⟨x,hx,eC⟩,hb⟩;simp only[cW]at hb;split at hb
  ·simp at hb
  ·have hi:i<os.length:=by have:=(aR.1 hx).1;simp at this;omega
   rw[eL hi]at hx;exact .inl ⟨i,o,c,⟨x,hx,eC⟩,hb⟩
 len:=IM
 dV:=by
  rintro i hi⟨x,hx,eC⟩;have hx0:=hx;rw[eL hi]at hx;exact⟨by simp[cW,nw hi],x,x,hx,hx0,Ob.jh eC⟩
def bh.Dd{σ:St}{γ:Cx}(h:bh σ γ){id:Nat}{ob ob':Ob}(ho:σ.aa[id]?=some ob)(hg:ob≠.gone){b o cap o' cap':Nat}(hb:γ.blk id=some (b,o,cap)){w':World}{cur:Array Value}{t:TypeId}(hw:w'.heap[b]?=some (.cells cur t (0,0)))(ml:∀ k,k≠b->w'.heap[k]?=γ.w.heap[k]?)(aJ:w'.heap.size=γ.w.heap.size)(bI:sR σ.aa γ.w γ.Z γ.blk o' cap' cur ob'):
  bh { σ with aa:=σ.aa.set id .gone++[ob'] } { γ with w:=w',blk:=cW γ.blk σ.aa.length (some (b,o',cap')) }:=by
 have b9:id<σ.aa.length:=(aR.1 ho).1;have j6:Live σ.aa id:=⟨ob,ho,hg⟩;have hR:∀ v cv,aw σ.aa γ.w γ.Z γ.blk v cv->aw (σ.aa.set id .gone++[ob']) w' γ.Z (cW γ.blk σ.aa.length (some (b,o',cap'))) v cv:=λv cv hv =>
  hv.mono (λz hz=>⟨hz,ml z (λe=>h.nz b ⟨id,o,cap,j6,hb⟩ (e▸hz))⟩) (λi x hx=>by
   have hi:i<σ.aa.length:=(aR.1 hx).1;rw[eL (by simpa using hi),bP];by_cases mQ:id=i
   ·left;simp[mQ,hi]
   ·rw[if_neg mQ];by_cases cG:x=.gone
    ·subst cG;exact .inl hx
    ·exact .inr ⟨by simp[cW,nw hi],x,hx,Ob.jh cG⟩)
 have bN:∀ i,Live (σ.aa.set id .gone++[ob']) i->i=σ.aa.length\/(i<σ.aa.length/\i≠id/\Live σ.aa i):=by
  rintro i⟨x,hx,eC⟩;rcases du i σ.aa.length with hi|hi
  ·right;rw[eL (by simpa using hi),bP]at hx;split at hx
   ·simp at hx;exact absurd hx.symm eC
   ·rename_i bZ;exact⟨hi,Ne.symm bZ,x,hx,eC⟩
  ·left;have:=(aR.1 hx).1;simp at this;omega
 refine⟨λk=>hR _ _ (h.ao k),?_,?_,?_,λz hz=>by rw[aJ];exact h.fV z hz,λg=>hR _ _ (h.gl g)⟩
 ·intro i x hx;rcases du i σ.aa.length with hi|hi
  ·rw[eL (by simpa using hi),bP]at hx;split at hx
   ·simp at hx;subst hx;trivial
   ·rename_i bZ;by_cases cG:x=.gone
    ·subst cG;trivial
    ·refine(h.dx i x hx).mono hR (by simp[cW,nw hi]) (λz y c hz=>ml z (λe=>bZ ?_));subst e;exact h.inj id i z o cap y c j6 ⟨x,hx,cG⟩ hb hz
  ·have ar:i=σ.aa.length:=by have:=(aR.1 hx).1;simp at this;omega
   subst ar;rw[gZ IM]at hx;simp at hx;subst hx;exact bI.J0 (b:=b) (cap:=cap') hR (by simp[cW]) hw
 ·intro i j z y c y' c' hi hj ep gJ;simp only[cW]at ep gJ;rcases bN i hi with rfl|⟨mO,QG,ar⟩<;>rcases bN j hj with rfl|⟨gy,adJ,fJ⟩
  ·rfl
  ·rw[if_pos rfl]at ep;rw[if_neg (nw gy)]at gJ;simp at ep;rw[<- ep.1]at gJ;exact absurd (h.inj j id b y' c' o cap fJ j6 gJ hb) adJ
  ·rw[if_pos rfl]at gJ;rw[if_neg (nw mO)]at ep;simp at gJ;rw[<- gJ.1]at ep;exact absurd (h.inj i id b y c o cap ar j6 ep hb) QG
  ·rw[if_neg (nw mO)]at ep;rw[if_neg (nw gy)]at gJ;exact h.inj i j z y c y' c' ar fJ ep gJ
 ·rintro z ⟨i,y,c,hi,hz⟩ nK;simp only[cW]at hz;rcases bN i hi with rfl|⟨mO,QG,ar⟩
  ·rw[if_pos rfl]at hz;simp at hz;rw[<- hz.1]at nK;exact h.nz b ⟨id,o,cap,j6,hb⟩ nK
  ·rw[if_neg (nw mO)]at hz;exact h.nz z ⟨i,y,c,ar,hz⟩ nK
theorem Fr.Dd{σ:St}{γ:Cx}{id:Nat}{ob:Ob}(ob':Ob)(ho:σ.aa[id]?=some ob)(hg:ob≠.gone){b o cap o' cap':Nat}(hb:γ.blk id=some (b,o,cap)){w':World}(ml:∀ k,k≠b->w'.heap[k]?=γ.w.heap[k]?)(aJ:w'.heap.size=γ.w.heap.size)(h1:w'.os=γ.w.os)(h2:w'.tape=γ.w.tape)(h3:w'.output=γ.w.output)(h4:γ.w.drawn<=w'.drawn:=by first|exact Nat.le_refl _|(simp;done)|omega):
  Fr σ.aa γ (σ.aa.set id .gone++[ob']) { γ with w:=w',blk:=cW γ.blk σ.aa.length (some (b,o',cap')) } where
 kD:=h1
 tape:=h2
 output:=h3
 drawn:=h4
 size:=by simp[aJ]
 dN:=fun z _ qo=>ml z (fun e=>qo ⟨id,o,cap,⟨ob,ho,hg⟩,e▸hb⟩)
 z0:=fun _ h=>h
 z1:=fun _ h=>.inl h
 own:=by
  rintro z⟨i,y,c,⟨x,hx,eC⟩,hz⟩;simp only[cW]at hz;split at hz
  ·simp at hz;left;exact⟨id,o,cap,⟨ob,ho,hg⟩,by rw[hb,hz.1]⟩
  ·have hi:i<σ.aa.length:=by have:=(List.getElem?_eq_some_iff.1 hx).1;simp at this;omega
   rw[List.getElem?_append_left (by simpa using hi),List.getElem?_set]at hx;split at hx
   ·split at hx<;>simp at hx;exact absurd hx.symm eC
   ·exact .inl ⟨i,y,c,⟨x,hx,eC⟩,hz⟩
 len:=by simp
 dV:=by
  rintro i hi⟨x,hx,eC⟩;have hx0:=hx;rw[List.getElem?_append_left (by simpa using hi),List.getElem?_set]at hx;split at hx
  ·split at hx<;>simp at hx;exact absurd hx.symm eC
  ·exact⟨by simp[cW,Nat.ne_of_lt hi],x,x,hx,hx0,Ob.jh eC⟩
def QH{σ:St}{γ:Cx}(h:bh σ γ){x:AV}{cv:Value}(hv:aw σ.aa γ.w γ.Z γ.blk x cv){sz:Nat}(aJ:0<sz){src:List (List AV)}(hs:nC σ x=some (sz,src)):
  ∃ ad c,∃ g:Nat->Value,cv=.slice ad src.length c/\(∀ row∈src,row.length=sz)/\(0<src.length->∃ b o,ad=some ⟨b,o,none⟩/\∀ j,j<src.length*sz->γ.w.cell? ⟨b,o+j,none⟩=some (g j)) /\
   ∀ r c v,cellAt src r c=some v->aw σ.aa γ.w γ.Z γ.blk v (g (r*sz+c)):=by
 cases x with
 |tree cU rows =>
  simp[nC]at hs;obtain⟨rfl,rfl⟩:=hs;cases hv.zr with
  |nil _ cap a=>exact⟨a,cap,λ_=>Go.undef,rfl,IM,IM,by simp[cellAt]⟩
  |tree _ _ b o cap f hz hr De hc ht =>
   refine⟨_,cap,λj=>f (j/cU) (j%cU),rfl,hr,λhlen=>⟨b,o,rfl,?_⟩,?_⟩
   ·intro j hj;have h1:j/cU<rows.length:=Nat.div_lt_of_lt_mul (by rw[sq];exact hj);have h2:j%cU<cU:=wo _ aJ;have cF:(rows[j/cU]).length=cU:=hr _ (oV h1);have:=hc (j/cU) (j%cU) ((rows[j/cU])[j%cU]' AT) (by simp[cellAt,h1,h2,cF]);have e:j/cU*cU+j%cU=j:=by rw[sq];exact Oe j cU
    rw[e]at this;exact this
   ·intro r c v aQ;have bn:c<cU:=by
     simp only[cellAt,AR]at aQ;obtain⟨y,hy,qz⟩:=aQ;have:=hr y (gY hy);have:=(aR.1 qz).1;omega
    have e1:(r*cU+c)/cU=r:=by rw[sq,Nat.mul_add_div aJ,Nat.div_eq_of_lt bn];rfl
    have e2:(r*cU+c)%cU=c:=by rw[sq,Og,E1 bn]
    simp only[e1,e2];exact .cC _ _ (ht r c v aQ)
 |ref id cU off len =>
  simp only[nC]at hs;cases ho:σ.aa[id]? with
  |none=>simp[ho]at hs
  |some ob =>
   have bI:=h.dx id ob ho;cases ob with
   |gone=>simp[ho]at hs
   |mp ag L=>simp[ho]at hs
   |var cells=>simp[ho]at hs
   |arr kE rows =>
    simp only[ho]at hs;split at hs
    ·rename_i he;subst he;simp at hs;obtain⟨rfl,rfl⟩:=hs;obtain⟨_,cF,bI⟩:=bI;cases hv with
     |cC _ _ h=>cases h
     |ki _ _ _ _ _ h=>rw[ho]at h;simp at h
     |lJ _ _ h hb =>
      rw[ho]at h;simp at h;subst h;exact⟨none,0,λ_=>Go.undef,rfl,IM,IM,by simp[cellAt]⟩
     |mg _ _ _ b x bo gx h hb hl =>
      exact⟨some ⟨b,x,none⟩,0,λ_=>Go.undef,IM,IM,IM,by simp[cellAt]⟩
     |ref _ _ _ _ b o cap cap' gx h hb hl hc jy =>
      rw[ho]at h;simp at h;subst h;rcases bI with⟨h1,_⟩|⟨b',o',CY,cur,t,h1,h2,h3,h4,h5,h6⟩
      ·rw[hb]at h1;simp at h1
      ·rw[hb]at h1;simp at h1;obtain⟨rfl,rfl,rfl⟩:=h1;have hlen:((rows.drop off).take len).length=len:=N0;refine⟨_,cap',λj=>cur.getD (o+off*kE+j) Go.undef,by rw[hlen],?_,λ_=>⟨b,o+off*kE,rfl,?_⟩,?_⟩
       ·intro row bE;exact cF row (xL (q8 bE))
       ·intro j hj;rw[hlen]at hj;refine zt h2 ?_;have:(off+len)*kE<=cap*kE:=l8 _ AT;rw[fh]at this;omega
       ·intro r c v aQ;simp only[cellAt,uY,nW]at aQ;split at aQ
        ·have:=h6 (off+r) c v aQ;rw[fh]at this;have e:o+(off*kE+r*kE+c)=o+off*kE+(r*kE+c):=AT;rw[e]at this;exact this
        ·simp at aQ
    ·simp at hs
 |_=>simp[nC]at hs
end Go.Am
namespace Go.Am
variable {P:Program}
def CZ{rows:List (List AV)}{sz r c:Nat}{v:AV}(hr:∀ row∈rows,row.length=sz)(h:cellAt rows r c=some v):r<rows.length/\c<sz:=by
 simp only[cellAt,AR]at h;obtain⟨y,hy,qz⟩:=h;have h1:=hr y (gY hy);have h2:=(aR.1 qz).1;have h3:=(aR.1 hy).1;omega
def QI{p s:List (List AV)}{r c:Nat}:cellAt (p++s) r c=if r<p.length then cellAt p r c else cellAt s (r-p.length) c:=by
 unfold cellAt;split
 ·rw[eL (by assumption)]
 ·rw[gZ AT]
def zs{r c n sz:Nat}(hr:r<n)(hc:c<sz):r*sz+c<n*sz:=by
 have:(r+1)*sz<=n*sz:=l8 _ hr;rw[fh]at this;omega
def adK{R:AV->Value->Prop}{p s:List (List AV)}{sz:Nat}(hp:∀ row∈p,row.length=sz)(hs:∀ row∈s,row.length=sz){go g:Nat->Value}(h1:∀ r c v,cellAt p r c=some v->R v (go (r*sz+c)))(h2:∀ r c v,cellAt s r c=some v->R v (g (r*sz+c)))(rest:List Value)(r c:Nat)(v:AV)(h:cellAt (p++s) r c=some v):
  R v (((((bk (p.length*sz)).map go)++((bk (s.length*sz)).map g))++rest).toArray.getD (r*sz+c) Go.undef):=by
 rw[QI]at h;simp only[eA,IJ];split at h
 ·obtain⟨hr,hc⟩:=CZ hp h;have:=zs hr hc;rw[bz,eL (by simpa using this)];simp[this];exact h1 r c v h
 ·rename_i gM;obtain⟨hr,hc⟩:=CZ hs h;have hl:=zs hr hc;have e:r*sz+c=p.length*sz+((r-p.length)*sz+c):=by
   have:r=p.length+(r-p.length):=AT
   conv=>lhs;rw[this,fh]
   omega
  rw[eL N0,gZ N0];have e2:r*sz+c-(List.map go (bk (p.length*sz))).length=(r-p.length)*sz+c:=N0;rw[e2];simp[hl];exact h2 _ _ _ h
def adL {σ:St} {γ:Cx} (h:bh σ γ) {x:AV} {cv:Value} (hv:aw σ.aa γ.w γ.Z γ.blk x cv) {sz:Nat} {pre:List (List AV)} {σ1:St} (hs:kZ σ sz x=some (pre,σ1)) :
    (bh σ1 γ/\Fr σ.aa γ σ1.aa γ/\∃ k,σ1.aa.length=k) /\
    ((cv=.slice none 0 0/\pre=[]) \/
     (∃ id b x bo cur t,cv=.slice (some ⟨b,x,none⟩) 0 0/\pre=[]/\Live σ.aa id/\σ1 = { σ with aa:=σ.aa.set id .gone }/\γ.blk id=some (b,bo)/\γ.w.heap[b]?=some (.cells cur t (0,0))) \/
     ∃ id off rows b o cap cap' cur t,σ.aa[id]?=some (.arr sz rows)/\σ1 = { σ with aa:=σ.aa.set id .gone }/\γ.blk id=some (b,o,cap)/\γ.w.heap[b]?=some (.cells cur t (0,0)) /\
      cv=.slice (some ⟨b,o+off * sz,none⟩) pre.length cap'/\pre.length<=cap'/\cap'<=maxLen/\o+off * sz+cap' * sz<=cur.size/\(∀ row∈pre,row.length=sz) /\
      ∀ r c v,cellAt pre r c=some v->aw σ.aa γ.w γ.Z γ.blk v (cur.getD (o+off * sz+(r * sz+c)) Go.undef)):=by
  unfold kZ at hs
  split at hs
  · simp at hs
    obtain ⟨rfl,rfl⟩:=hs
    exact⟨⟨h,Fr.refl _ _,_,rfl⟩,.inl ⟨hv.cD,rfl⟩⟩
  · rename_i id cU off len
    cases ho:σ.aa[id]? with
    | none=>simp[ho] at hs
    | some ob =>
      have bI:=h.dx id ob ho
      cases ob with
      | gone=>simp[ho] at hs
      | mp ag L=>simp[ho] at hs
      | var cells=>simp[ho] at hs
      | arr kE rows =>
        simp only[ho] at hs
        split at hs
        · rename_i he
          obtain ⟨vn,mU⟩:=he
          subst vn
          subst mU
          simp at hs
          obtain ⟨rfl,rfl⟩:=hs
          refine⟨⟨h.kill id,Fr.kill _ _ _,_,rfl⟩,?_⟩
          obtain ⟨_,cF,bI⟩:=bI
          cases hv with
          | cC _ _ h=>cases h
          | ki _ _ _ _ _ h=>rw[ho] at h;simp at h
          | lJ _ _ h hb=>left;exact⟨rfl,IM⟩
          | mg _ _ _ b x bo gx h' hb hl =>
            right;left
            rcases bI with ⟨h1,_⟩ | ⟨b',o',CY,cur,t,h1,h2,_⟩
            · rw[hb] at h1;simp at h1
            · rw[hb] at h1;simp at h1
              obtain ⟨rfl,_⟩:=h1
              exact⟨id,b,x,bo,cur,t,rfl,IM,⟨_,ho,IM⟩,rfl,hb,h2⟩
          | ref _ _ _ _ b o cap cap' gx h' hb hl hc jy =>
            rw[ho] at h';simp at h'
            subst h'
            rcases bI with ⟨h1,_⟩ | ⟨b',o',CY,cur,t,h1,h2,h3,h4,h5,h6⟩
            · rw[hb] at h1;simp at h1
            · rw[hb] at h1;simp at h1
              obtain ⟨rfl,rfl,rfl⟩:=h1
              right;right
              have hlen:((rows.drop off).take len).length=len:=N0
              refine⟨id,off,rows,b,o,cap,cap',cur,t,ho,rfl,hb,h2,by rw[hlen],AT,AT,?_,?_,?_⟩
              · have:(off+cap') * kE<=cap * kE:=l8 _ hc
                rw[fh] at this;omega
              · intro row bE
                exact cF row (xL (q8 bE))
              · intro r c v aQ
                simp only[cellAt,uY,nW] at aQ
                split at aQ
                · have:=h6 (off+r) c v aQ
                  rw[fh] at this
                  have e:o+(off * kE+r * kE+c)=o+off * kE+(r * kE+c):=AT
                  rw[e] at this
                  exact this
                · simp at aQ
        · simp at hs
  · simp at hs
def adM(w:World)(t ty' e:TypeId)(i:TypeInfo)(ht:P.underlying t=some (.slice e))(hi:P.info? e=some i)(g o zG J1:Nat)(cur:Array Value)(tt:TypeId)(hg:w.heap[g]?=some (.cells cur tt (0,0)))(xa:Option Addr)(m c:Nat)(news:List Value)(hl:news.length=m*i.size)(yc:0<m->∃ a,xa=some a/\∀ j u,news[j]?=some u->w.cell? (a.add j)=some u)(h1:∀ u∈news,u.oneCell'=true)(Bn:zG+m<=J1)(nL:o+zG*i.size+news.length<=cur.size):
  (Builtin.append_ #[t,t] ty' #[.slice (some ⟨g,o,none⟩) zG J1,.slice xa m c]).run P w =
   .ok (.slice (some ⟨g,o,none⟩) (zG+m) J1) (w.setRow g (cur.toList.take (o+zG*i.size)++news++cur.toList.drop (o+zG*i.size+news.length)).toArray):=by
 have hf:(Builtin.firstCells i.size m (.slice xa m c)).run P w=.ok news.toArray w:=by
  rcases q9 m with h0|hp
  ·subst h0;have hn:news=[]:=AS (by simpa using hl);subst hn;cases xa<;>simp[Builtin.firstCells,loadCells,loadCellsFrom]
  ·obtain⟨a,rfl,hc⟩:=yc hp;exact run_firstCells_some w i.size m a m c news hl hc
 have dm:=run_storeCells_at P g (o+zG*i.size) tt news 0 cur w hg (by simpa using nL) h1;simp only[iw]at dm;simp[Builtin.append_,run_underlying ht,sizeOf,typeInfo,hi,Builtin.lenOf,Bn,hf,Addr.rF,dm]
def Bo{g:Nat->Value}{n j:Nat}{u:Value}(h:((bk n).map g)[j]?=some u):j<n/\u=g j:=by
 have hj:=(aR.1 h).1;simp at hj;simp[hj]at h;exact⟨hj,h.symm⟩
def adC{σ σ1:St}{γ:Cx}(h:bh σ γ){t oty:TypeId}{sz:Nat}{z:List Value}(hk:(ty P t).kind=1)(dP:(ty P (ty P t).elem).kind≠99)(hz:(ty P (ty P t).elem).zero=some z)(aJ:sz=(ty P (ty P t).elem).size)(h0:0<sz)(mR:z.length=sz){sD x:AV}{sU Df:Value}(hS:aw σ.aa γ.w γ.Z γ.blk sD sU)(hX:aw σ.aa γ.w γ.Z γ.blk x Df){pre src:List (List AV)}(hd:kZ σ sz sD=some (pre,σ1))(qw:nC σ x=some (sz,src))(hlen:pre.length+src.length<=549755813888)(C':(ty P (ty P t).elem).bytes<=128)(mT:(src.all λrow=>row.all cR)=true):
    ∃ pj γ1,(Builtin.append_ #[t,t] oty #[sU,Df]).run P γ.w=.ok pj γ1.w/\γ1.tmps=γ.tmps/\bh { σ1 with aa:=σ1.aa++[.arr sz (pre++src)] } γ1 /\
      Fr σ.aa γ (σ1.aa++[.arr sz (pre++src)]) γ1/\aw (σ1.aa++[.arr sz (pre++src)]) γ1.w γ1.Z γ1.blk (.ref σ1.aa.length sz 0 (pre.length+src.length)) pj:=by
  obtain⟨i,d,hi,FD,uh,Da,hzero⟩:=ui dP;have ht:=ug hk;have wJ:i.size=sz:=by rw[<- uh,<- aJ]
  obtain⟨zv,zD,jf⟩:∃zv,i.zero=some zv/\zv.cells.size=sz:=by
    rw[hzero]at hz;cases hv:i.zero with
    |none=>simp[hv]at hz
    |some v=>simp[hv]at hz;exact⟨v,rfl,by rw[<- mR,<- hz];simp⟩
  obtain⟨ad,c,g,rfl,ot,J2,Bp⟩:=QH h hX h0 qw;obtain⟨⟨jx,Br,_⟩,adO⟩:=adL h hS hd
  let news:=(bk (src.length*sz)).map g
  have ak:news.length=src.length*i.size:=by simp[news,wJ]
  have adP:∀ u∈news,u.oneCell'=true:=by
    intro u hu;obtain⟨j,hj⟩:=N7.1 hu;obtain⟨gy,rfl⟩:=Bo hj;have h1:j/sz<src.length:=Nat.div_lt_of_lt_mul (by rw[sq];exact gy);have h2:j%sz<sz:=wo _ h0;have cF:(src[j/sz]).length=sz:=ot _ (oV h1);have:=Bp (j/sz) (j%sz) ((src[j/sz])[j%sz]' AT) (by simp[cellAt,h1,h2,cF]);have e:j/sz*sz+j%sz=j:=by rw[sq];exact Oe j sz
    rw[e]at this;refine FK this ?_;rw[gd]at mT;have:=mT _ (oV h1);rw[gd]at this;exact this _ (oV _)
  have yc:0<src.length->∃ a,ad=some a/\∀ j u,news[j]?=some u->γ.w.cell? (a.add j)=some u:=by
    intro hp;obtain⟨b,o,rfl,hc⟩:=J2 hp;refine⟨_,rfl,λj u hu=>?_⟩;obtain⟨gy,rfl⟩:=Bo hu;rw[Addr.rF];exact hc j gy
  have yd:pre.length+src.length<=maxLen:=by unfold maxLen;omega
  have mV:(pre.length+src.length)*i.bytes<=140737488355328:=by
    rw[<- Da]
    calc _<=549755813888*128:=Nat.mul_le_mul hlen C'
      _<=_:=AT
  have fresh:∀ (dV:Nat) (go:Nat->Value),(∀ row∈pre,row.length=sz)->(∀ r c v,cellAt pre r c=some v->aw σ.aa γ.w γ.Z γ.blk v (go (r*sz+c))) ->
      ∀ (w':World) (cap:Nat),pre.length+src.length<=cap->cap<=maxLen ->
        w'=γ.w.drew.alloc (.cells (((bk (pre.length*sz)).map go).toArray++news.toArray++Builtin.zeroCells zv.cells (cap-(pre.length+src.length))) (ty P t).elem) ->
        ∃ γ1:Cx,γ1.w=w'/\γ1.tmps=γ.tmps/\bh { σ1 with aa:=σ1.aa++[.arr sz (pre++src)] } γ1/\Fr σ.aa γ (σ1.aa++[.arr sz (pre++src)]) γ1 /\
          aw (σ1.aa++[.arr sz (pre++src)]) γ1.w γ1.Z γ1.blk (.ref σ1.aa.length sz 0 (pre.length+src.length)) (.slice (some ⟨γ.w.heap.size,0,none⟩) (pre.length+src.length) cap):=by
    intro dV go eG FN w' cap kH zH qq;have FO:∀ v cv,aw σ.aa γ.w γ.Z γ.blk v cv->aw σ1.aa γ.w γ.Z γ.blk v cv:=by
      intro v cv hv;refine hv.mono (λb hb=>⟨hb,rfl⟩) (λi o ho=>?_);unfold kZ at hd;split at hd
      · simp at hd
        rw[<- hd.2];by_cases cG:o=.gone
        · subst cG;exact .inl ho
        · exact .inr ⟨rfl,o,ho,Ob.jh cG⟩
      · rename_i id cU off len
        have hi:i<σ.aa.length:=(aR.1 ho).1;split at hd
        · split at hd
          · simp at hd
            rw[<- hd.2];show(σ.aa.set id Ob.gone)[i]?=some Ob.gone\/_;simp only[bP];by_cases mQ:id=i
            · left;simp[mQ,hi]
            · rw[if_neg mQ]
              by_cases cG:o=.gone
              · subst cG;exact .inl ho
              · exact .inr ⟨trivial,o,ho,Ob.jh cG⟩
          · simp at hd
        · simp at hd
      · simp at hd
    let cur:=((bk (pre.length*sz)).map go).toArray++news.toArray++Builtin.zeroCells zv.cells (cap-(pre.length+src.length))
    have bI:sR σ1.aa γ.w γ.Z γ.blk 0 cap cur (.arr sz (pre++src)):=by
      refine⟨h0,?_,?_,by simpa using kH,zH,?_⟩
      · intro row bE
        rcases cT.1 bE with h|h
        · exact eG row h
        · exact ot row h
      · simp only[cur,news,Array.size_append,CB,fF,List.length_range,size_zeroCells,jf,<- fh]
        have:pre.length+src.length+(cap-(pre.length+src.length))=cap:=AT;rw[this];omega
      · intro r c v hv
        have:=adK (R:=aw σ1.aa γ.w γ.Z γ.blk) eG ot (λr c v hv=>FO _ _ (FN r c v hv)) (λr c v hv=>FO _ _ (Bp r c v hv)) (Builtin.zeroCells zv.cells (cap-(pre.length+src.length))).toList r c v hv;rw[fc];have e:cur=(((bk (pre.length*sz)).map go)++((bk (src.length*sz)).map g)++(Builtin.zeroCells zv.cells (cap-(pre.length+src.length))).toList).toArray:=by
          apply Array.ext';simp[cur,news]
        rw[e];exact this
    refine⟨{ γ with w:=w',blk:=cW γ.blk σ1.aa.length (some (γ.w.heap.size,0,cap)) },rfl,rfl,?_,?_,?_⟩
    · exact jx.push (t:=(ty P t).elem) (cur:=cur) (by rw[qq];rfl) bI
    · exact Br.trans (Fr.push (σ:=σ1) (t:=(ty P t).elem) (cur:=cur) _ (by rw[qq];rfl) (by rw[qq];rfl) (by rw[qq];rfl) (by rw[qq];rfl) (by rw[qq];exact Nat.le_succ _))
    · have:=aw.ref (os:=σ1.aa++[.arr sz (pre++src)]) (w:=w') (Z:=γ.Z) (blk:=cW γ.blk σ1.aa.length (some (γ.w.heap.size,0,cap))) σ1.aa.length sz 0 (pre.length+src.length) γ.w.heap.size 0 cap cap (pre++src)
        IM (by simp[cW]) IM AT kH
      simpa using this
  rcases adO with⟨rfl,rfl⟩|⟨id,b,x,bo,cur,tt,rfl,rfl,j6,rfl,hb,iL⟩|⟨id,off,rows,b,o,cap,cap',cur,tt,ho,rfl,hb,iL,rfl,QJ,jk,nL,eG,FN⟩
  · rcases q9 src.length with hm|hp
    ·
      have er:src=[]:=AS hm;subst er;refine⟨.slice none 0 0,{ γ with blk:=cW γ.blk σ1.aa.length none },?_,rfl,jx.zx h0,Br.trans (Fr.zx _ _ _),?_⟩
      · cases ad<;>simp[Builtin.append_,run_underlying ht,sizeOf,typeInfo,hi,Builtin.lenOf,Builtin.firstCells,loadCells,loadCellsFrom]
      · exact .lJ _ _ IM (by simp[cW])
    · obtain⟨a,rfl,hc⟩:=yc hp
      have hr:=run_append_nil (P:=P) γ.w t oty _ i zv ht hi zD a src.length c news ak hc hp (by unfold maxLen at yd;simp at yd;omega) (by have hb:=mV;simp only[kx,fc]at hb;omega);have gM:=grownCap_ge γ.w src.length 0 (ty P t).elem;have jk:=grownCap_le_maxLen γ.w src.length 0 (ty P t).elem (by simpa using yd);obtain⟨γ1,e1,e2,e3,e4,e5⟩:=fresh 0 (λ_=>Go.undef) IM (by simp[cellAt]) _ (grownCap γ.w src.length 0 (ty P t).elem) (by simpa using gM) jk rfl;simp only[kx,Nat.zero_mul,List.range_zero,List.map_nil,fc,Array.empty_append]at e1 e5;refine⟨.slice (some ⟨γ.w.heap.size,0,none⟩) src.length (grownCap γ.w src.length 0 (ty P t).elem),γ1,?_,e2,e3,e4,?_⟩
      · rw[hr,e1]
      · simpa using e5
  · rcases q9 src.length with hm|hp
    · have er:src=[]:=AS hm
      subst er;obtain⟨ob,ho,hg⟩:=j6;have ml:∀ k,k≠b->γ.w.heap[k]?=γ.w.heap[k]?:=λ_ _=>rfl;have J3:=h.Dd (ob':=.arr sz []) (o':=0) (cap':=0) ho hg (o:=bo.1) (cap:=bo.2) hb iL ml rfl ⟨h0,IM,IM,IM,by simp[maxLen],by simp[cellAt]⟩;have ef:=Fr.Dd (γ:=γ) (o':=0) (cap':=0) (.arr sz []) ho hg (o:=bo.1) (cap:=bo.2) hb (w':=γ.w) ml rfl rfl rfl rfl;refine⟨.slice (some ⟨b,x,none⟩) 0 0,{ γ with w:=γ.w,blk:=cW γ.blk σ.aa.length (some (b,0,0)) },?_,rfl,by simpa using J3,by simpa using ef,?_⟩
      · cases ad<;>simp[Builtin.append_,run_underlying ht,sizeOf,typeInfo,hi,Builtin.lenOf,Builtin.firstCells,loadCells,loadCellsFrom,storeCells]
      · have:=aw.mg (os:=σ.aa.set id .gone++[.arr sz []]) (w:=γ.w) (Z:=γ.Z) (blk:=cW γ.blk σ.aa.length (some (b,0,0))) σ.aa.length sz 0 b x (0,0) []
          (by rw[gZ IM];simp) (by simp[cW]) IM
        simpa using this
    · obtain⟨a,rfl,hc⟩:=yc hp
      have hr:=run_append_grow (P:=P) γ.w t oty _ i zv ht hi zD ⟨b,x,none⟩ 0 0 [] IM IM a src.length c news ak hc AT (by unfold maxLen at yd;simp at yd;omega) (growslice_fits AT (by simpa using mV));have gM:=grownCap_ge γ.w (0+src.length) 0 (ty P t).elem;have jk:=grownCap_le_maxLen γ.w (0+src.length) 0 (ty P t).elem (by simpa using yd);obtain⟨γ1,e1,e2,e3,e4,e5⟩:=fresh 0 (λ_=>Go.undef) IM (by simp[cellAt]) _ (grownCap γ.w (0+src.length) 0 (ty P t).elem) (by simpa using gM) jk rfl;refine⟨.slice (some ⟨γ.w.heap.size,0,none⟩) (0+src.length) (grownCap γ.w (0+src.length) 0 (ty P t).elem),γ1,?_,e2,e3,e4,?_⟩
      · rw[hr,e1];simp
      · simpa using e5
  · by_cases Bn:pre.length+src.length<=cap'
    ·
      have hmul:pre.length*sz+src.length*sz<=cap'*sz:=by rw[<- fh];exact l8 _ Bn
      have FQ:news.length=src.length*sz:=by rw[ak,wJ]
      have hr:=adM (P:=P) γ.w t oty _ i ht hi b (o+off*sz) pre.length cap' cur tt iL ad src.length c news ak yc adP Bn (by rw[wJ,FQ];omega);have bI:sR σ.aa γ.w γ.Z γ.blk (o+off*sz) cap' (cur.toList.take (o+off*sz+pre.length*i.size)++news++cur.toList.drop (o+off*sz+pre.length*i.size+news.length)).toArray (.arr sz (pre++src)):=by
        refine⟨h0,?_,?_,by simpa using Bn,jk,?_⟩
        · intro row bE
          rcases cT.1 bE with h|h
          · exact eG row h
          · exact ot row h
        · simp only[CB,bL,fe,yZ,tN,wJ,FQ]
          omega
        · intro r c v hv
          rw[Dc cur _ news (by rw[wJ,FQ];omega),wJ,FQ];rw[QI]at hv;split at hv
          · obtain⟨j7,kH⟩:=CZ eG hv
            have:=zs j7 kH;rw[if_neg AT];exact FN r c v hv
          · obtain⟨j7,kH⟩:=CZ ot hv
            have hl:=zs j7 kH;have e:r*sz+c=pre.length*sz+((r-pre.length)*sz+c):=by
              have:r=pre.length+(r-pre.length):=AT
              conv=>lhs;rw[this,fh]
              omega
            rw[if_pos AT];have e2:o+off*sz+(r*sz+c)-(o+off*sz+pre.length*sz)=(r-pre.length)*sz+c:=AT;rw[e2];simp only[news,ax];simp[hl];exact Bp _ _ _ hv
      have J3:=h.Dd ho IM hb (setRow_heap γ.w b cur _ tt _ iL) (λk hk=>setRow_other γ.w b k _ hk) (setRow_size _ _ _) bI;have ef:=Fr.Dd (γ:=γ) (o':=o+off*sz) (cap':=cap') (.arr sz (pre++src)) ho IM hb (w':=γ.w.setRow b (cur.toList.take (o+off*sz+pre.length*i.size)++news++cur.toList.drop (o+off*sz+pre.length*i.size+news.length)).toArray) (λk hk=>setRow_other γ.w b k _ hk) (setRow_size _ _ _) rfl rfl rfl;refine⟨_,{ γ with w:=γ.w.setRow b (cur.toList.take (o+off*sz+pre.length*i.size)++news++cur.toList.drop (o+off*sz+pre.length*i.size+news.length)).toArray,blk:=cW γ.blk σ.aa.length (some (b,o+off*sz,cap')) },hr,rfl,?_,?_,?_⟩
      · simpa using J3
      · simpa using ef
      · have:=aw.ref (os:=σ.aa.set id .gone++[.arr sz (pre++src)]) (w:=γ.w.setRow b (cur.toList.take (o+off*sz+pre.length*i.size)++news++cur.toList.drop (o+off*sz+pre.length*i.size+news.length)).toArray) (Z:=γ.Z)
          (blk:=cW γ.blk σ.aa.length (some (b,o+off*sz,cap'))) σ.aa.length sz 0 (pre.length+src.length) b (o+off*sz) cap' cap' (pre++src)
          (by rw[gZ IM];simp) (by simp[cW]) IM AT Bn
        simpa using this
    ·
      let go:Nat->Value:=λj=>cur.getD (o+off*sz+j) Go.undef
      let FR:=(bk (pre.length*sz)).map go
      have nM:FR.length=pre.length*i.size:=by simp[FR,wJ]
      have amr:pre.length*sz<=cap'*sz:=l8 _ QJ;have holds:∀ j v,FR[j]?=some v->γ.w.cell? ((⟨b,o+off*sz,none⟩:Addr).add j)=some v:=by
        intro j v hj;obtain⟨gy,rfl⟩:=Bo hj;rw[Addr.rF];exact zt iL AT
      have hp:0<src.length:=AT;obtain⟨a,rfl,hc⟩:=yc hp;have hr:=run_append_grow (P:=P) γ.w t oty _ i zv ht hi zD ⟨b,o+off*sz,none⟩ pre.length cap' FR nM holds a src.length c news ak hc AT (by unfold maxLen at yd;omega) (growslice_fits AT mV);have gM:=grownCap_ge γ.w (pre.length+src.length) cap' (ty P t).elem;have adQ:=grownCap_le_maxLen γ.w (pre.length+src.length) cap' (ty P t).elem yd;obtain⟨γ1,e1,e2,e3,e4,e5⟩:=fresh 0 go eG FN _ (grownCap γ.w (pre.length+src.length) cap' (ty P t).elem) gM adQ rfl;refine⟨_,γ1,?_,e2,e3,e4,e5⟩;rw[hr,e1]
def adD{σ:St}{γ:Cx}(h:bh σ γ){t t' oty:TypeId}{sz:Nat}(hk:(ty P t).kind=1)(dP:(ty P (ty P t).elem).kind≠99)(aJ:sz=(ty P (ty P t).elem).size)(h0:0<sz){id off len:Nat}{x:AV}{sU Df:Value}(hS:aw σ.aa γ.w γ.Z γ.blk (.ref id sz off len) sU)(hX:aw σ.aa γ.w γ.Z γ.blk x Df){rows:List (List AV)}(ho:σ.aa[id]?=some (.arr sz rows)){src:List (List AV)}(qw:nC σ x=some (sz,src))(mT:(src.all λrow=>row.all cR)=true):
  ∃ w',(Builtin.copy_ #[t,t'] oty #[sU,Df]).run P γ.w=.ok (.int .i64 (min src.length len:Nat)) w' /\
   bh { σ with aa:=σ.aa.set id (.arr sz (rows.take off++src.take (min src.length len)++rows.drop (off+min src.length len))) } { γ with w:=w' } /\
   Fr σ.aa γ (σ.aa.set id (.arr sz (rows.take off++src.take (min src.length len)++rows.drop (off+min src.length len)))) { γ with w:=w' }:=by
 obtain⟨i,d,hi,FD,uh,Da,hzero⟩:=ui dP;have ht:=ug hk;have wJ:i.size=sz:=by rw[<- uh,<- aJ]
 obtain⟨ad,c,g,rfl,ot,J2,Bp⟩:=QH h hX h0 qw;have b9:id<σ.aa.length:=(aR.1 ho).1;have zero:∀ (zI:Option Addr) (cap':Nat),min src.length len=0->sU=.slice zI len cap'->∃ w',(Builtin.copy_ #[t,t'] oty #[sU,.slice ad src.length c]).run P γ.w=.ok (.int .i64 (min src.length len:Nat)) w' /\
   bh { σ with aa:=σ.aa.set id (.arr sz (rows.take off++src.take (min src.length len)++rows.drop (off+min src.length len))) } { γ with w:=w' } /\
   Fr σ.aa γ (σ.aa.set id (.arr sz (rows.take off++src.take (min src.length len)++rows.drop (off+min src.length len)))) { γ with w:=w' }:=by
  intro zI cap' hz aQ;have gQ:σ.aa.set id (.arr sz rows)=σ.aa:=by
   apply pZ;intro j;rw[bP];split
   ·rename_i e;subst e;simp[ho]
   ·rfl
  refine⟨γ.w,?_,?_,?_⟩
  ·have hm:Nat.min src.length len=0:=hz;subst aQ;cases ad<;>cases zI<;>simp[Builtin.copy_,run_underlying ht,sizeOf,typeInfo,hi,Builtin.lenOf,Builtin.firstCells,loadCells,loadCellsFrom,storeCells,hm,goInt,hz]
  ·rw[hz];simp[gQ];exact h
  ·rw[hz];simp[gQ];exact Fr.refl _ _
 cases hS with
 |cC _ _ h=>cases h
 |ki _ _ _ _ _ h=>rw[ho]at h;simp at h
 |lJ _ _ h hb=>exact zero none 0 IM rfl
 |mg _ _ _ b x bo gx h hb hl=>exact zero _ 0 IM rfl
 |ref _ _ _ _ b o cap cap' gx h' hb hl hc jy =>
  rw[ho]at h';simp at h';subst h';rcases q9 (min src.length len) with hz|hp
  ·exact zero _ _ hz rfl
  obtain⟨_,cF,bI⟩:=h.dx id _ ho;rcases bI with⟨h1,_⟩|⟨b',o',CY,cur,tt,h1,h2,h3,h4,h5,h6⟩
  ·rw[hb]at h1;simp at h1
  rw[hb]at h1;simp at h1;obtain⟨rfl,rfl,rfl⟩:=h1;generalize hn:min src.length len=n at *;have k9:n<=src.length:=AT;have nI:n<=len:=AT
  let news:=(bk (n*sz)).map g
  have ak:news.length=n*sz:=by simp[news]
  have qA:∀ u∈news,u.oneCell'=true:=by
   intro u hu;obtain⟨j,hj⟩:=N7.1 hu;obtain⟨gy,rfl⟩:=Bo hj;have k1:j/sz<n:=Nat.div_lt_of_lt_mul (by rw[sq];exact gy);have k2:j%sz<sz:=wo _ h0;have k3:j/sz<src.length:=AT;have cF:(src[j/sz]).length=sz:=ot _ (oV k3);have:=Bp (j/sz) (j%sz) ((src[j/sz])[j%sz]' AT) (by simp[cellAt,k3,k2,cF]);have e:j/sz*sz+j%sz=j:=by rw[sq];exact Oe j sz
   rw[e]at this;refine FK this ?_;rw[gd]at mT;have:=mT _ (oV k3);rw[gd]at this;exact this _ (oV _)
  obtain⟨sb,so,rfl,ri⟩:=J2 AT;have hle:n*sz<=src.length*sz:=l8 _ k9;have Dg:=run_loadCells_list (P:=P) γ.w ⟨sb,so,none⟩ news (λj v hj=>by
   obtain⟨gy,rfl⟩:=Bo hj;rw[Addr.rF];exact ri j AT)
  have nL:(off+n)*sz<=cap*sz:=l8 _ AT;rw[fh]at nL;have dm:=run_storeCells_at P b (o+off*sz) tt news 0 cur γ.w h2 (by rw[ak];omega) qA;simp only[iw]at dm;have eF:(Builtin.copy_ #[t,t'] oty #[.slice (some ⟨b,o+off*sz,none⟩) len cap',.slice (some ⟨sb,so,none⟩) src.length c]).run P γ.w=.ok (.int .i64 (n:Nat)) (γ.w.setRow b (cur.toList.take (o+off*sz)++news++cur.toList.drop (o+off*sz+news.length)).toArray):=by
   have hm:Nat.min src.length len=n:=hn;rw[ak]at Dg;simp[Builtin.copy_,run_underlying ht,sizeOf,typeInfo,hi,Builtin.lenOf,Builtin.firstCells,hm,wJ,Dg,dm,goInt]
  have J4:sR σ.aa γ.w γ.Z γ.blk o cap (cur.toList.take (o+off*sz)++news++cur.toList.drop (o+off*sz+news.length)).toArray (.arr sz (rows.take off++src.take n++rows.drop (off+n))):=by
   refine⟨h0,?_,?_,?_,h5,?_⟩
   ·intro row bE;simp only[cT]at bE;rcases bE with(hr|hr)|hr
    ·exact cF row (q8 hr)
    ·exact ot row (q8 hr)
    ·exact cF row (xL hr)
   ·simp only[CB,bL,fe,yZ,tN,ak];omega
   ·simp;omega
   ·intro r cc v hv;rw[Dc cur _ news (by rw[ak];omega),ak];have aS:cc<sz:=by
     simp only[cellAt,AR]at hv;obtain⟨y,hy,qz⟩:=hv;have hm:=gY hy;have:=(aR.1 qz).1;simp only[cT]at hm;rcases hm with(hr|hr)|hr
     ·have:=cF y (q8 hr);omega
     ·have:=ot y (q8 hr);omega
     ·have:=cF y (xL hr);omega
    rcases du r off with k1|k1
    ·have e:cellAt (rows.take off++src.take n++rows.drop (off+n)) r cc=cellAt rows r cc:=by
      simp only[cellAt,bz];rw[eL N0,uY,if_pos k1]
     rw[e]at hv;have hm:(r+1)*sz<=off*sz:=l8 _ AT;rw[fh]at hm;rw[if_neg AT];exact h6 r cc v hv
    ·rcases du r (off+n) with k2|k2
     ·have e:cellAt (rows.take off++src.take n++rows.drop (off+n)) r cc=cellAt src (r-off) cc:=by
       simp only[cellAt,bz];rw[gZ N0,eL N0,uY,if_pos N0];congr 2;simp;omega
      rw[e]at hv;have e1:r=off+(r-off):=AT;have e2:r*sz=off*sz+(r-off)*sz:=by rw[<- fh,<- e1]
      have hm:(r-off+1)*sz<=n*sz:=l8 _ AT;rw[fh]at hm;rw[if_pos AT];have e3:o+(r*sz+cc)-(o+off*sz)=(r-off)*sz+cc:=AT;rw[e3];have hl:(r-off)*sz+cc<n*sz:=AT;simp only[news,ax];simp[hl];exact Bp _ _ _ hv
     ·have e:cellAt (rows.take off++src.take n++rows.drop (off+n)) r cc=cellAt rows r cc:=by
       simp only[cellAt];rw[gZ N0,nW];congr 2;simp;omega
      rw[e]at hv;have hm:(off+n)*sz<=r*sz:=l8 _ k2;rw[fh]at hm;rw[if_neg AT];exact h6 r cc v hv
  refine⟨_,eF,?_,?_⟩
  ·exact h.write ho IM (by simp[Ob.dI];omega) hb (setRow_heap γ.w b cur _ tt _ h2) (λk hk=>setRow_other γ.w b k _ hk) (setRow_size _ _ _) J4
  ·exact Fr.write _ ho IM (by simp[Ob.dI];omega) hb (λk hk=>setRow_other γ.w b k _ hk) (setRow_size _ _ _) rfl rfl rfl
def adE{σ:St}{γ:Cx}(h:bh σ γ){t oty:TypeId}{sz:Nat}{z:List Value}(hk:(ty P t).kind=1)(dP:(ty P (ty P t).elem).kind≠99)(mR:z.length=sz)(h0:0<sz)(hz:(ty P (ty P t).elem).zero=some z)(wI:(z.all λu=>u.oneCell')=true){id off len:Nat}{sU:Value}(hS:aw σ.aa γ.w γ.Z γ.blk (.ref id sz off len) sU){rows:List (List AV)}(ho:σ.aa[id]?=some (.arr sz rows)):
  ∃ w',(Builtin.clear_ #[t] oty #[sU]).run P γ.w=.ok (.tuple #[]) w' /\
   bh { σ with aa:=σ.aa.set id (.arr sz (rows.take off++aO len (z.map AV.lit)++rows.drop (off+len))) } { γ with w:=w' } /\
   Fr σ.aa γ (σ.aa.set id (.arr sz (rows.take off++aO len (z.map AV.lit)++rows.drop (off+len)))) { γ with w:=w' }:=by
 obtain⟨i,d,hi,FD,uh,Da,hzero⟩:=ui dP;have ht:=ug hk;rw[hz]at hzero;obtain⟨zv,zD,jf⟩:=uV.1 hzero.symm;have J5:zv.cells.size=sz:=by rw[<- mR,<- jf];simp
 have b9:id<σ.aa.length:=(aR.1 ho).1;have zero:∀ (zI:Option Addr) (cap':Nat),len=0->sU=.slice zI len cap'->∃ w',(Builtin.clear_ #[t] oty #[sU]).run P γ.w=.ok (.tuple #[]) w' /\
   bh { σ with aa:=σ.aa.set id (.arr sz (rows.take off++aO len (z.map AV.lit)++rows.drop (off+len))) } { γ with w:=w' } /\
   Fr σ.aa γ (σ.aa.set id (.arr sz (rows.take off++aO len (z.map AV.lit)++rows.drop (off+len)))) { γ with w:=w' }:=by
  intro zI cap' Bs aQ;have gQ:σ.aa.set id (.arr sz rows)=σ.aa:=by
   apply pZ;intro j;rw[bP];split
   ·rename_i e;subst e;simp[ho]
   ·rfl
  refine⟨γ.w,?_,?_,?_⟩
  ·subst aQ;subst Bs;cases zI<;>simp[Builtin.clear_,run_underlying ht]
  ·subst Bs;simp[gQ];exact h
  ·subst Bs;simp[gQ];exact Fr.refl _ _
 cases hS with
 |cC _ _ h=>cases h
 |ki _ _ _ _ _ h=>rw[ho]at h;simp at h
 |lJ _ _ h hb=>exact zero none 0 rfl rfl
 |mg _ _ _ b x bo gx h hb hl=>exact zero _ 0 rfl rfl
 |ref _ _ _ _ b o cap cap' gx h' hb hl hc jy =>
  rw[ho]at h';simp at h';subst h';rcases q9 len with Bs|hp
  ·exact zero _ _ Bs rfl
  obtain⟨_,cF,bI⟩:=h.dx id _ ho;rcases bI with⟨h1,_⟩|⟨b',o',CY,cur,tt,h1,h2,h3,h4,h5,h6⟩
  ·rw[hb]at h1;simp at h1
  rw[hb]at h1;simp at h1;obtain⟨rfl,rfl,rfl⟩:=h1
  let g:Nat->Value:=λi=>zv.cells[i%zv.cells.size]!
  let news:=(bk (len*sz)).map g
  have yc:(Builtin.zeroCells zv.cells len).toList=news:=by
   simp[Builtin.zeroCells,news,g,J5]
  have ak:news.length=len*sz:=by simp[news]
  have QK:∀ i,i<sz->∃ u,z[i]?=some u/\zv.cells[i]! = u:=by
   intro i ar;have:i<zv.cells.size:=AT;refine⟨zv.cells[i],?_,?_⟩
   ·rw[<- jf];simp[this]
   ·simp[this]
  have qA:∀ u∈news,u.oneCell'=true:=by
   intro u hu;obtain⟨j,hj⟩:=N7.1 hu;obtain⟨gy,rfl⟩:=Bo hj;obtain⟨u,k1,k2⟩:=QK (j%sz) (wo _ h0);show(zv.cells[j%zv.cells.size]!).oneCell'=true;rw[J5,k2];rw[gd]at wI;exact wI _ (gY k1)
  have nL:(off+len)*sz<=cap*sz:=l8 _ AT;rw[fh]at nL;have dm:=run_storeCells_at P b (o+off*sz) tt news 0 cur γ.w h2 (by rw[ak];omega) qA;simp only[iw]at dm;have eF:(Builtin.clear_ #[t] oty #[.slice (some ⟨b,o+off*sz,none⟩) len cap']).run P γ.w=.ok (.tuple #[]) (γ.w.setRow b (cur.toList.take (o+off*sz)++news++cur.toList.drop (o+off*sz+news.length)).toArray):=by
   obtain⟨ams,rfl⟩:∃k,len=k+1:=⟨len-1,AT⟩;simp[Builtin.clear_,run_underlying ht,zeroValue,typeInfo,hi,zD,yc,dm]
  have J4:sR σ.aa γ.w γ.Z γ.blk o cap (cur.toList.take (o+off*sz)++news++cur.toList.drop (o+off*sz+news.length)).toArray (.arr sz (rows.take off++aO len (z.map AV.lit)++rows.drop (off+len))):=by
   refine⟨h0,?_,?_,?_,h5,?_⟩
   ·intro row bE;simp only[cT]at bE;rcases bE with(hr|hr)|hr
    ·exact cF row (q8 hr)
    ·rw[E2 hr,fF];exact mR
    ·exact cF row (xL hr)
   ·simp only[CB,bL,fe,yZ,tN,ak];omega
   ·simp;omega
   ·intro r cc v hv;rw[Dc cur _ news (by rw[ak];omega),ak];have aS:cc<sz:=by
     simp only[cellAt,AR]at hv;obtain⟨y,hy,qz⟩:=hv;have hm:=gY hy;have:=(aR.1 qz).1;simp only[cT]at hm;rcases hm with(hr|hr)|hr
     ·have:=cF y (q8 hr);omega
     ·have FT:=E2 hr;rw[FT,fF]at this;omega
     ·have:=cF y (xL hr);omega
    rcases du r off with k1|k1
    ·have e:cellAt (rows.take off++aO len (z.map AV.lit)++rows.drop (off+len)) r cc=cellAt rows r cc:=by
      simp only[cellAt,bz];rw[eL N0,uY,if_pos k1]
     rw[e]at hv;have hm:(r+1)*sz<=off*sz:=l8 _ AT;rw[fh]at hm;rw[if_neg AT];exact h6 r cc v hv
    ·rcases du r (off+len) with k2|k2
     ·have e:cellAt (rows.take off++aO len (z.map AV.lit)++rows.drop (off+len)) r cc=(z.map AV.lit)[cc]?:=by
       simp only[cellAt,bz];rw[gZ N0,eL N0,List.getElem?_replicate,if_pos N0];rfl
      rw[e,bV]at hv;obtain⟨u,k3,k4⟩:=QK cc aS;rw[k3]at hv;simp only[gF,cy.injEq]at hv;subst hv;have e1:r=off+(r-off):=AT;have e2:r*sz=off*sz+(r-off)*sz:=by rw[<- fh,<- e1]
      have hm:(r-off+1)*sz<=len*sz:=l8 _ AT;rw[fh]at hm;rw[if_pos AT];have e3:o+(r*sz+cc)-(o+off*sz)=(r-off)*sz+cc:=AT;rw[e3];have hl:(r-off)*sz+cc<len*sz:=AT;have e4:news.getD ((r-off)*sz+cc) Go.undef=u:=by
       simp only[news,ax];rw[bV,List.getElem?_range hl];show zv.cells[((r-off)*sz+cc)%zv.cells.size]! = u;rw[J5,sq,Og,E1 aS,k4]
      first
       | (rw[e4];exact .lit _)
       | (simp only[ax]at e4 ⊢;rw[e4];exact .lit _)
     ·have e:cellAt (rows.take off++aO len (z.map AV.lit)++rows.drop (off+len)) r cc=cellAt rows r cc:=by
       simp only[cellAt];rw[gZ N0,nW];congr 2;simp;omega
      rw[e]at hv;have hm:(off+len)*sz<=r*sz:=l8 _ k2;rw[fh]at hm;rw[if_neg AT];exact h6 r cc v hv
  refine⟨_,eF,?_,?_⟩
  ·exact h.write ho IM (by simp[Ob.dI];omega) hb (setRow_heap γ.w b cur _ tt _ h2) (λk hk=>setRow_other γ.w b k _ hk) (setRow_size _ _ _) J4
  ·exact Fr.write _ ho IM (by simp[Ob.dI];omega) hb (λk hk=>setRow_other γ.w b k _ hk) (setRow_size _ _ _) rfl rfl rfl
end Go.Am
namespace Go.Am
variable {P:Program}
def adR(l:List Value):∀ (j off:Nat) (cells:Array Value),off+j+l.length<=cells.size ->
  ((l.zipIdx j).foldl (λcs (x:Value×Nat)=>cs.setIfInBounds (off+x.2) x.1) cells).size=cells.size /\
  ∀ k,((l.zipIdx j).foldl (λcs (x:Value×Nat)=>cs.setIfInBounds (off+x.2) x.1) cells).getD k Go.undef=if off+j<=k/\k<off+j+l.length then l.getD (k-(off+j)) Go.undef else cells.getD k Go.undef:=by
 induction l with
 |nil=>intro j off cells _;simp;intro k h1 h2;omega
 |cons v l ih =>
  intro j off cells hl;simp only[cX]at hl;simp only[List.zipIdx_cons,List.foldl_cons];obtain⟨h1,h2⟩:=ih (j+1) off (cells.setIfInBounds (off+j) v) N0;refine⟨by rw[h1];simp,λk=>?_⟩;rw[h2 k];simp only[cX];by_cases c1:off+(j+1)<=k/\k<off+(j+1)+l.length
  ·rw[if_pos c1,if_pos AT];have:k-(off+j)=(k-(off+(j+1)))+1:=AT;rw[this];simp
  ·rw[if_neg c1];by_cases c2:k=off+j
   ·subst c2;rw[if_pos AT];simp[eA,show off+j<cells.size by omega]
   ·rw[if_neg AT];simp[eA,Array.getElem?_setIfInBounds_ne (Ne.symm c2)]
def adS(v:Value)(off:Nat)(cells:Array Value):
  (v.cells.zipIdx.foldl (λcs (c,j)=>cs.setIfInBounds (off+j) c) cells)=((v.cells.toList.zipIdx 0).foldl (λcs (x:Value×Nat)=>cs.setIfInBounds (off+x.2) x.1) cells):=by
 rw[<- Array.foldl_toList];simp
def Dh(R:AV->Value->Prop)(cs:List AV)(cur:Array Value):Prop:=cur.size=cs.length/\∀ j x,cs[j]?=some x->R x (cur.getD j Go.undef)
def FF{σ:St}{γ:Cx}{place:Nat->Option (Nat×Nat)}:∀ (parts:List (Nat×AV)) (pv:List (Nat×Value)) (cs:List AV) (cur:Array Value) (rp:List AV),
  parts.length=pv.length->(∀ (j:Nat) (p:Nat×AV) (q:Nat×Value),parts[j]?=some p->pv[j]?=some q->p.1=q.1/\aw σ.aa γ.w γ.Z γ.blk p.2 q.2)->(∀ p∈parts,(cellsOf p.2).all cR=true) ->
  Dh (aw σ.aa γ.w γ.Z γ.blk) cs cur->l9 place cs parts=some rp->∃ kG,Instr.fill place cur pv=some kG/\Dh (aw σ.aa γ.w γ.Z γ.blk) rp kG
 |[],pv,cs,cur,rp,hl,_,_,hc,h=>by
  have:pv=[]:=AS hl.symm;subst this;simp[l9]at h;subst h;exact⟨cur,by simp[Instr.fill],hc⟩
 | (i,v)::rest,[],cs,cur,rp,hl,_,_,_,_=>by simp at hl
 | (i,v)::rest,(i',x)::pv,cs,cur,rp,hl,hr,hs,hc,h=>by
  obtain⟨e1,e2⟩:=hr 0 (i,v) (i',x) rfl rfl;simp only at e1 e2;subst e1;simp only[l9]at h;cases hp:place i with
  |none=>simp[hp]at h
  |some os =>
   obtain⟨off,size⟩:=os;simp only[hp]at h;split at h
   ·rename_i adT;obtain⟨h1,h2⟩:=adT;obtain⟨g1,g2,g3⟩:=JO e2 (hs (i,v) IM);have aJ:x.cells.size=size:=by rw[g1,h1]
    obtain⟨gG,rB⟩:=hc;have nL:off+0+x.cells.toList.length<=cur.size:=by simp[aJ,gG];omega
    obtain⟨f1,f2⟩:=adR x.cells.toList 0 off cur nL;have zJ:Dh (aw σ.aa γ.w γ.Z γ.blk) (setCells cs off (cellsOf v)) (x.cells.zipIdx.foldl (λcs (c,j)=>cs.setIfInBounds (off+j) c) cur):=by
     rw[adS];refine⟨by rw[f1,JR];exact gG,λj y hj=>?_⟩;rw[QF _ _ _ (by rw[h1];exact h2)]at hj;rw[f2 j];simp only[iw,tN,aJ];rw[h1]at hj;by_cases bR:off<=j/\j<off+size
     ·rw[if_pos bR]at hj;rw[if_pos bR];have:=g2 _ _ hj;simpa [ax,eA] using this
     ·rw[if_neg bR]at hj;rw[if_neg bR];exact rB j y hj
    obtain⟨kG,k1,k2⟩:=FF rest pv _ _ rp (by simpa using hl) (λj p q hp hq=>hr (j+1) p q (by simpa using hp) (by simpa using hq)) (λp hp=>hs p (by simp[hp])) zJ h;refine⟨kG,?_,k2⟩;simp only[Instr.fill,hp];rw[if_neg ?_]
    ·exact k1
    ·simp[aJ,gG];omega
   ·simp at h
def JN{os:List Ob}{w:World}{Z:Nat->Prop}{blk:fR}(z:List Value):Dh (aw os w Z blk) (z.map .lit) z.toArray:=by
 refine⟨IM,λj x hx=>?_⟩;simp only[bV]at hx;cases hj:z[j]? with
 |none=>simp[hj]at hx
 |some y =>
  simp[hj]at hx;subst hx;simp[eA,hj];exact .lit y
def JP{σ:St}{γ:Cx}(h:bh σ γ){a:Act}(ha:γ.tmps=a.tmps)(parts:Array (Nat×Operand)):
  (parts.toList.map λp=>(p.1,ev σ p.2)).length=(parts.map λ(i,x)=>(i,a.eval x)).toList.length /\
  ∀ (j:Nat) (p:Nat×AV) (q:Nat×Value),(parts.toList.map λp=>(p.1,ev σ p.2))[j]?=some p->(parts.map λ(i,x)=>(i,a.eval x)).toList[j]?=some q->p.1=q.1/\aw σ.aa γ.w γ.Z γ.blk p.2 q.2:=by
 refine⟨IM,λj p q hp hq=>?_⟩;simp only[Array.toList_map,bV]at hp hq;cases hj:parts.toList[j]? with
 |none=>simp[hj]at hp
 |some y =>
  simp only[hj,gF,cy.injEq]at hp hq;subst hp;subst hq;exact⟨rfl,sN h ha y.2⟩
def adp{σ:St}{γ:Cx}(h:bh σ γ){a:Act}(ha:γ.tmps=a.tmps){t:TypeId}{parts:Array (Nat×Operand)}{z:List Value}(hk:(ty P t).kind=3)(hz:(ty P t).zero=some z){cs:List AV}(hf:l9 (λi=>((ty P t).aL[i]?).map λf=>(f.1,f.2.2)) (z.map .lit) (parts.toList.map λp=>(p.1,ev σ p.2))=some cs)(hs:(parts.toList.all λp=>(cellsOf (ev σ p.2)).all cR)=true)(hp:((ty P t).aL.all λf=>decide (0<f.2.2))=true):
  ∃ cur,(Instr.build t (parts.map λ(i,x)=>(i,a.eval x))).run P γ.w=.ok (.agg cur) γ.w/\aw σ.aa γ.w γ.Z γ.blk (.agg cs) (.agg cur):=by
 obtain⟨it,d,hi,hd,_,_,hzero⟩:=ui (P:=P) (t:=t) (by rw[hk];simp);obtain⟨fs,hu,gK⟩:=JW hk;rw[hzero]at hz;cases hv:it.zero with
 |none=>simp[hv]at hz
 |some zv =>
  simp[hv]at hz;have jf:z.toArray=zv.cells:=by rw[<- hz]
  obtain⟨hl,hr⟩:=JP h ha parts;obtain⟨cur,h1,h2⟩:=FF (σ:=σ) (γ:=γ) _ _ _ _ cs hl hr (λp hp=>by
   simp only[bS]at hp;obtain⟨q,hq,rfl⟩:=hp;rw[gd]at hs;exact hs q hq) (JN z) hf
  refine⟨cur,run_build γ.w t _ cur ?_,.agg _ _ h2.1 h2.2⟩;unfold Program.built;rw[hi,hu];simp only[hv];have adU:∀ (l:List Field),(∀ f∈l,0<wH P f.type)->l.mapM (λf=>(P.info? f.type).map λi=>(f.offset,i.size))=some (l.map λf=>(f.offset,wH P f.type)):=by
   intro l
   induction l with
   |nil=>intro _;simp
   |cons f l ih =>
    intro hl;have h0:=hl f IM;unfold wH at h0;cases J6:P.info? f.type with
    |none=>simp[J6]at h0
    |some i =>
     simp only[List.mapM_cons,J6,gF,ih (λg hg=>hl g (by simp[hg]))];simp[wH,J6]
  rw[adU fs.toList (by
   intro f eR;rw[gK]at hp;simp only[List.all_map,gd]at hp;have:=hp f eR;simpa using this)]
  simp only;rw[<- jf];have:(λ(x:Nat)=>((fs.toList.map λf=>(f.offset,wH P f.type)).toArray[x]?))=(λ(i:Nat)=>((ty P t).aL[i]?).map λ(f:Nat×Nat×Nat)=>(f.1,f.2.2)):=by
   funext i;rw[gK];simp;cases fs[i]?<;>simp
  rw[this];exact h1
def adq{σ:St}{γ:Cx}(h:bh σ γ){a:Act}(ha:γ.tmps=a.tmps){t:TypeId}{parts:Array (Nat×Operand)}{z:List Value}(hk:(ty P t).kind=2)(hz:(ty P t).zero=some z){cs:List AV}(hf:l9 (λi=>some (i*(ty P (ty P t).elem).size,(ty P (ty P t).elem).size)) (z.map .lit) (parts.toList.map λp=>(p.1,ev σ p.2))=some cs)(hs:(parts.toList.all λp=>(cellsOf (ev σ p.2)).all cR)=true)(dP:(ty P (ty P t).elem).kind≠99):
  ∃ cur,(Instr.build t (parts.map λ(i,x)=>(i,a.eval x))).run P γ.w=.ok (.agg cur) γ.w/\aw σ.aa γ.w γ.Z γ.blk (.agg cs) (.agg cur):=by
 obtain⟨it,d,hi,hd,_,_,hzero⟩:=ui (P:=P) (t:=t) (by rw[hk];simp);have hu:=JY hk;obtain⟨ie,de,hie,_,uh,_,_⟩:=ui dP;rw[hzero]at hz;cases hv:it.zero with
 |none=>simp[hv]at hz
 |some zv =>
  simp[hv]at hz;have jf:z.toArray=zv.cells:=by rw[<- hz]
  obtain⟨hl,hr⟩:=JP h ha parts;obtain⟨cur,h1,h2⟩:=FF (σ:=σ) (γ:=γ) _ _ _ _ cs hl hr (λp hp=>by
   simp only[bS]at hp;obtain⟨q,hq,rfl⟩:=hp;rw[gd]at hs;exact hs q hq) (JN z) hf
  refine⟨cur,run_build γ.w t _ cur ?_,.agg _ _ h2.1 h2.2⟩;unfold Program.built;rw[hi,hu];simp only[hv,hie];rw[<- jf,<- uh];exact h1
def JS(sz:Nat):∀ (n:Nat) (cs:List AV),(l' sz n cs).length=n
 |0,_=>rfl
 |n+1,cs=>by simp[l',JS sz n]
def QA(sz:Nat):∀ (n:Nat) (cs:List AV),n*sz<=cs.length->∀ row∈l' sz n cs,row.length=sz
 |0,_,_,row,h=>by simp[l']at h
 |n+1,cs,hl,row,h=>by
  rw[fh]at hl;simp only[l',List.mem_cons]at h;rcases h with rfl|h
  ·simp;omega
  ·exact QA sz n (cs.drop sz) N0 row h
def QB(sz:Nat):∀ (n:Nat) (cs:List AV) (r c:Nat) (v:AV),cellAt (l' sz n cs) r c=some v->cs[r*sz+c]?=some v
 |0,_,r,c,v,h=>by simp[l',cellAt]at h
 |n+1,cs,0,c,v,h=>by
  simp only[l',cellAt,List.getElem?_cons_zero,Option.bind_some,uY]at h;split at h
  ·simpa using h
  ·simp at h
 |n+1,cs,r+1,c,v,h=>by
  have h':cellAt (l' sz n (cs.drop sz)) r c=some v:=by simpa [l',cellAt] using h
  have:=QB sz n (cs.drop sz) r c v h';rw[nW]at this;rw[fh];have e:r*sz+1*sz+c=sz+(r*sz+c):=AT;rw[e];exact this
def JQ{os:List Ob}{w:World}{Z:Nat->Prop}{blk:fR}(z:List Value)(n m:Nat)(hm:m=n*z.length)(hz:0<z.length):
  Dh (aw os w Z blk) ((bk n).flatMap λ_=>z.map .lit) ((Array.range m).map (z.toArray[· % z.toArray.size]!)):=by
 subst hm;have hlen:((bk n).flatMap λ_=>z.map AV.lit).length=n*z.length:=by
  induction n with
  |zero=>simp
  |succ n ih=>rw[tR,tS,bL,ih];simp[fh]
 refine⟨by simp[hlen],λj x hx=>?_⟩;have hj:j<n*z.length:=by rw[<- hlen];exact(aR.1 hx).1
 have key:∀ (n j:Nat),j<n*z.length->((bk n).flatMap λ_=>z.map AV.lit)[j]?=some (.lit (z[j%z.length]'(wo _ hz))):=by
  intro n
  induction n with
  |zero=>intro j hj;simp at hj
  |succ n ih =>
   intro j hj;have jl:((bk n).flatMap λ_=>z.map AV.lit).length=n*z.length:=by
    clear ih hj hx hlen
    induction n with
    |zero=>simp
    |succ n ih=>rw[tR,tS,bL,ih];simp[fh]
   rw[tR,tS];by_cases QL:j<n*z.length
   ·rw[eL (by rw[jl];exact QL)];exact ih j QL
   ·rw[gZ (by rw[jl];omega),jl];rw[fh]at hj;have aS:j-n*z.length<z.length:=AT;have Di:j%z.length=j-n*z.length:=by
     have:j=(j-n*z.length)+n*z.length:=AT;rw[this,Nat.add_mul_mod_self_right,E1 aS];omega
    simp[aS,Di]
 rw[key n j hj]at hx;simp at hx;subst hx;have hm:j%z.length<z.length:=wo _ hz;simp[eA,hj,hm];exact .lit _
end Go.Am

