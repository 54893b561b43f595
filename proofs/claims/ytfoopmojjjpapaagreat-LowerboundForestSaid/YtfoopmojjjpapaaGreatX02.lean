import Derived.Test.YtfoopmojjjpapaaGreatX01
set_option linter.all false
set_option maxHeartbeats 0
set_option maxRecDepth 20000
open List renaming getElem?_map→bY,mem_of_getElem?→ik,getElem?_eq_some_iff→aT,getElem?_set→bU,range→aY,length_cons→cV,all_eq_true→e8,getElem?_take→uY,getElem?_drop→nM,getElem?_toArray→Jd,getD_eq_getElem?_getD→az,append_assoc→bw,getElem?_append_left→er,getElem?_append_right→gN,getElem_mem→rS,mem_of_mem_drop→AT,mem_of_mem_take→qY,eq_nil_of_length_eq_zero→AS,mem_iff_getElem?→OQ,mem_append→da,size_toArray→CP,length_map→eu,length_nil→nr,length_append→bI,length_take→fZ,length_drop→yW,ext_getElem?→pR,replicate→aI,eq_of_mem_replicate→Ft,mem_map→b6,range_succ→tM,flatMap_append→tN
open Option renaming map_eq_some_iff→uT,bind_eq_some_iff→AR,map_some→im,some→cy
open Array renaming getD_eq_getD_getElem?→ep,length_toList→tH
open Nat renaming mul_le_mul_right→lh,add_mul→eT,add_assoc→uZ,add_zero→il,ne_of_lt→ns,lt_or_ge→dw,div_lt_of_lt_mul→OV,mul_comm→pT,mod_lt→u3,div_add_mod→Jj,mul_add_mod→OX,mod_eq_of_lt→CV,eq_zero_or_pos→pU,zero_add→gq
namespace Go.Am
variable {P:Program}
def zt(o:Oper)(σ:St)(γ:Cx)(a:Act)(K:St->Prop)(r:Result Next):Prop :=
 ∃ n x w' σ' aB,r=.ok n w'/\(n=.value x\/(n=.skip/\x=Go.undef))/\K σ'/\bk σ' aB/\Fr σ.aa γ σ'.aa aB/\aB.w=w'/\aB.tmps=(a.put o.dst x).tmps
def aw.lit{os:List Ob}{w:World}{Z:Nat->Prop}{blk:gd}(v:Value):aw os w Z blk (.lit v) v:=.cJ _ _ (.lit v)
def aw.cz{os:List Ob}{w:World}{Z:Nat->Prop}{blk:gd}{v cv:Value}(h:aw os w Z blk (.lit v) cv):cv=v:=by
 cases h with
 |cJ _ _ h=>cases h;rfl
def aw.zm{os:List Ob}{w:World}{Z:Nat->Prop}{blk:gd}{sz:Nat}{rows:List (List AV)}{cv:Value}(h:aw os w Z blk (.tree sz rows) cv):iu w Z (.tree sz rows) cv:=by
 cases h with
 |cJ _ _ h=>exact h
def aw.eh{os:List Ob}{w:World}{Z:Nat->Prop}{blk:gd}(v:Value):aw os w Z blk (eh v) v:=by
 unfold Am.eh;split
 ·rename_i cs;refine .agg _ _ Fl (λj x hx=>?_);simp only[bY,Array.getElem?_toList]at hx;cases hj:cs[j]? with
  |none=>simp[hj]at hx
  |some y =>
   simp[hj]at hx;subst hx;simp[hj];exact .lit y
 ·exact .lit v
def sF{σ:St}{γ:Cx}(h:bk σ γ){a:Act}(ha:γ.tmps=a.tmps)(x:Operand):aw σ.aa γ.w γ.Z γ.blk (ev σ x) (a.eval x):=by
 cases x with
 |tmp t=>have:=h.ar t;rw[ha]at this;exact this
 |const v=>exact .eh v
 |global g=>exact h.gl g
 |func f=>exact .fn f [] #[] rfl (λj x hx=>by simp at hx)
def Gf{os:List Ob}{w:World}{Z:Nat->Prop}{blk:gd}{v:AV}{cv:Value}(h:aw os w Z blk v cv)(hs:cQ v=true):cv.oneCell'=true:=by
 cases h with
 |undef cv=>simp[cQ]at hs
 |cJ v cv h=>cases h<;>first|rfl|(simpa [cQ] using hs)
 |cj=>rfl
 |ku id sz off len cv h h1=>exact h1
 |mR id r c cv h h1=>exact h1
 |ref=>rfl
 |lL=>rfl
 |mo=>rfl
 |nx=>rfl
 |oa=>rfl
 |agg=>simp[cQ]at hs
 |bx=>simp[cQ]at hs
 |fn=>rfl
 |iv=>rfl
 |db=>rfl
 |qc id cv h h1=>exact h1
def q6{σ:St}{γ:Cx}(h:bk σ γ){a:Act}(ha:γ.tmps=a.tmps){dst:Option Tmp}(hd:∀ d,dst=some d->d<a.tmps.size){v:AV}{cv:Value}(hv:aw σ.aa γ.w γ.Z γ.blk v cv):bk (σ.put dst v) { γ with tmps:=(a.put dst cv).tmps }:=by
 cases dst with
 |none =>
  have:({ γ with tmps:=(a.put none cv).tmps }:Cx)=γ:=by cases γ;simp_all [Act.put]
  rw[this];exact h
 |some d =>
  have:=h.put d (by rw[ha];exact hd d rfl) hv;rw[ha]at this;exact this
def p6(σ:St)(dst:Option Tmp)(v:AV):(σ.put dst v).aa=σ.aa:=by cases dst<;>rfl
def c8{o:Oper}{σ:St}{γ:Cx}{a:Act}{K:St->Prop}(h:bk σ γ)(ha:γ.tmps=a.tmps)(hd:∀ d,o.dst=some d->d<a.tmps.size){v:AV}{cv:Value}(hv:aw σ.aa γ.w γ.Z γ.blk v cv)(hK:K (σ.put o.dst v)){r:Result Next}(hr:r=.ok (.value cv) γ.w):zt o σ γ a K r :=
 ⟨.value cv,cv,γ.w,σ.put o.dst v,{ γ with tmps:=(a.put o.dst cv).tmps },hr,.inl rfl,hK,q6 h ha hd hv,by rw[p6];exact(Fr.refl _ _).put _,rfl,rfl⟩
def Bl{o:Oper}{σ σ1:St}{γ γ1:Cx}{a:Act}{K:St->Prop}(hf:Fr σ.aa γ σ1.aa γ1)(h:bk σ1 γ1)(ha:γ1.tmps=a.tmps)(hd:∀ d,o.dst=some d->d<a.tmps.size){v:AV}{cv:Value}(hv:aw σ1.aa γ1.w γ1.Z γ1.blk v cv)(hK:K (σ1.put o.dst v)){r:Result Next}(hr:r=.ok (.value cv) γ1.w):zt o σ γ a K r :=
 ⟨.value cv,cv,γ1.w,σ1.put o.dst v,{ γ1 with tmps:=(a.put o.dst cv).tmps },hr,.inl rfl,hK,q6 h ha hd hv,by rw[p6];exact hf.put _,rfl,rfl⟩
def Kt{o:Oper}{σ σ1:St}{γ γ1:Cx}{a:Act}{K:St->Prop}(hf:Fr σ.aa γ σ1.aa γ1)(h:bk σ1 γ1)(ha:γ1.tmps=a.tmps)(hd:∀ d,o.dst=some d->d<a.tmps.size)(hK:K (σ1.put o.dst .undef)){r:Result Next}(hr:r=.ok .skip γ1.w):zt o σ γ a K r :=
 ⟨.skip,Go.undef,γ1.w,σ1.put o.dst .undef,{ γ1 with tmps:=(a.put o.dst Go.undef).tmps },hr,.inr ⟨rfl,rfl⟩,hK,q6 h ha hd (.undef _),by rw[p6];exact hf.put _,rfl,rfl⟩
def wQ{k:IntKind}{n:Int}(h:k.min<=n/\n<=k.max):k.wrap n=n:=by
 cases k<;>simp[IntKind.min,IntKind.max,IntKind.signed,IntKind.bits]at h<;>simp[IntKind.wrap,IntKind.signed,IntKind.bits]<;>omega
def aeR{op:BinOp}{k:IntKind}{x y:Int}{K:Value->Prop}(h:gB op k x y K)(t:TypeId)(w:World):
  ∃ v,(binOp op t (.int k x) (.int k y)).run P w=.ok v w/\K v:=by
 cases op<;>simp only[gB]at h
 case add=>exact⟨_,by simp[binOp,Op.intArith,wQ h.1],h.2⟩
 case sub=>exact⟨_,by simp[binOp,Op.intArith,wQ h.1],h.2⟩
 case mul =>
  unfold vu at h;split at h
  ·exact⟨_,by simp[binOp,Op.intArith],h⟩
  ·exact⟨_,by simp[binOp,Op.intArith,wQ h.1],h.2⟩
 case quo =>
  refine⟨_,?_,h.2⟩;obtain⟨h0,hb,hm⟩:=h.1;have hq:x.tdiv y=x/y:=Int.tdiv_eq_ediv_of_nonneg h0;have hle:x/y<=x:=Int.ediv_le_self _ h0;have iy:0<=x/y:=Int.ediv_nonneg h0 CZ;have hw:k.wrap (x/y)=x/y:=wQ ⟨by cases k<;>simp[IntKind.min,IntKind.signed,IntKind.bits]<;>omega,CZ⟩;have bX:¬ y=0:=CZ;simp[binOp,Op.intDiv,bX,hq,hw]
 case rem=>exact⟨_,by simp[binOp,Op.intDiv,h.1],h.2⟩
 case and =>
  exact⟨_,by simp[binOp,Op.intBits,Bo],h⟩
 case shr =>
  refine⟨_,?_,h.2⟩;obtain⟨h0,h1⟩:=h.1;have:¬ y<0:=CZ;have e:(2:Int)^y.toNat=((2^y.toNat:Nat):Int):=Fl;simp[binOp,Op.shift,this,Nat.min_eq_left h1];exact Int.fdiv_eq_ediv_of_nonneg _ (by rw[e];exact Int.natCast_nonneg _)
 case eql=>exact⟨_,by simp[binOp,Op.intCmp],h⟩
 case neq=>exact⟨_,by simp[binOp,Op.intCmp],h⟩
 case lss=>exact⟨_,by simp[binOp,Op.intCmp],h⟩
 case leq=>exact⟨_,by simp[binOp,Op.intCmp],h⟩
 case gtr=>exact⟨_,by simp[binOp,Op.intCmp],h⟩
 case geq=>exact⟨_,by simp[binOp,Op.intCmp],h⟩
def Rn:∀ {cs:List AV} {as:List Int},oX cs=some as->cs=as.map λa=>OJ a
 |[],as,h=>by simp[oX]at h;subst h;rfl
 |c::cs,as,h=>by
  unfold oX at h;split at h
  ·rename_i e;simp at e
  ·rename_i a r e;simp only[List.cons.injEq]at e;obtain⟨rfl,rfl⟩:=e;simp only[uT]at h;obtain⟨as',h,rfl⟩:=h;rw[Rn h];rfl
  ·simp at h
def Kk{os:List Ob}{w:World}{Z:Nat->Prop}{blk:gd}{cs:List AV}{as:List Int}{cv:Value}(h:aw os w Z blk (.agg cs) cv)(hi:oX cs=some as):cv=.agg (as.map (Value.int .i64)).toArray:=by
 have:=Rn hi;subst this;cases h with
 |cJ _ _ h=>cases h
 |agg _ bg hs h =>
  congr 1;refine Array.ext (by simpa using hs) (λj h1 h2=>?_);have hj:j<as.length:=by simpa using h2
  have:=(h j (OJ as[j]) (by simp[hj])).cz;rw[ep,Array.getElem?_eq_getElem h1]at this;simpa using this
end Go.Am
namespace Go.Am
variable {P:Program}
def Ky{t:TypeId}(h:(ty P t).kind≠99)(w:World):(isAgg t).run P w=.ok (ty P t).isAgg w:=by
 obtain⟨i,d,hi,hd,_⟩:=ui h;simp only[isAgg,Sem.run_bind,run_underlying hd,Result.andThen_ok];have:ty P t=ty P t:=rfl;cases d<;>simp[ty,hi,hd,Ty.isAgg]
def run_sizeOf{t:TypeId}(h:(ty P t).kind≠99)(w:World):(sizeOf t).run P w=.ok (ty P t).size w:=by
 obtain⟨i,d,hi,hd,hs,_⟩:=ui h;simp[sizeOf,typeInfo,hi,hs]
def Ri{t:TypeId}{z:List Value}(h:(ty P t).kind≠99)(hz:(ty P t).zero=some z)(w:World):∃v,(zeroValue t).run P w=.ok v w/\v.cells=z.toArray:=by
 obtain⟨i,d,hi,hd,_,_,h3⟩:=ui h;rw[h3]at hz;cases hv:i.zero with
 |none=>simp[hv]at hz
 |some v =>
  simp[hv]at hz;refine⟨v,by simp[zeroValue,typeInfo,hi,hv],?_⟩;rw[<- hz]
def F1{σ:St}{γ:Cx}(h:bk σ γ){id r c:Nat}{cv:Value}{row:List AV}(hv:aw σ.aa γ.w γ.Z γ.blk (.ptr id r c) cv)(bR:rowOf σ id r=some row):
  ∃ b base cap cur t o,cv=.pointer (some ⟨b,base+c,none⟩)/\γ.blk id=some (b,o,cap)/\γ.w.heap[b]?=some (.cells cur t (0,0))/\base+row.length<=cur.size /\
   (∀ j v,row[j]?=some v->aw σ.aa γ.w γ.Z γ.blk v (cur.getD (base+j) Go.undef))/\Live σ.aa id /\
   (∀ zz kP,zz.length=row.length->kP.size=cur.size->(∀ j v,zz[j]?=some v->aw σ.aa γ.w γ.Z γ.blk v (kP.getD (base+j) Go.undef))->(∀ k,(k<base\/base+row.length<=k)->kP.getD k Go.undef=cur.getD k Go.undef) ->
    ∃ ob ob',σ.aa[id]?=some ob/\ob≠.gone/\ob.dO ob'/\(nQ σ id r zz) = { σ with aa:=σ.aa.set id ob' }/\sJ σ.aa γ.w γ.Z γ.blk o cap kP ob'):=by
 unfold rowOf at bR;cases ho:σ.aa[id]? with
 |none=>simp[ho]at bR
 |some ob =>
  have bK:=h.dz id ob ho;cases ob with
  |gone=>simp[ho]at bR
  |mp ag L=>simp[ho]at bR
  |var cells =>
   simp only[ho]at bR;split at bR
   ·rename_i wT;subst wT;simp at bR;subst bR;obtain⟨b,cap,cur,t,h1,h2,h3,h4⟩:=bK;have aR:cv=.pointer (some ⟨b,c,none⟩):=by
     cases hv with
     |cJ _ _ h=>cases h
     |mR _ _ _ _ h=>rw[ho]at h;simp at h
     |nx _ _ b' cap' cells' h hb=>rw[h1]at hb;simp at hb;simp[hb.1]
     |oa _ _ _ sz b' o' cap' rows h hb=>rw[ho]at h;simp at h
    refine⟨b,0,cap,cur,t,0,by simpa using aR,h1,h2,CZ,λj v hj=>by simpa using h4 j v hj,⟨_,ho,Fl⟩,?_⟩;intro zz kP hl hs lN _;refine⟨.var cells,.var zz,rfl,Fl,by simp[Ob.dO,hl],by simp[nQ,ho],rfl,CZ,λc v hc=>by simpa using lN c v hc⟩
   ·simp at bR
  |arr sz rows =>
   simp only[ho]at bR;obtain⟨aO,cr,bK⟩:=bK;have ano:row.length=sz:=cr row (ik bR);have ae0:r<rows.length:=(aT.1 bR).1;rcases bK with⟨_,he⟩|⟨b,o,cap,cur,t,h1,h2,h3,h4,h5,h6⟩
   ·subst he;simp at bR
   ·have aR:cv=.pointer (some ⟨b,o+(r*sz+c),none⟩):=by
     cases hv with
     |cJ _ _ h=>cases h
     |mR _ _ _ _ h=>rw[ho]at h;simp at h
     |nx _ _ b' cap' cells' h hb=>rw[ho]at h;simp at h
     |oa _ _ _ cR b' o' cap' gD h hb=>rw[ho]at h;simp at h;rw[h1]at hb;simp at hb;simp[hb.1,hb.2.1,h.1]
    have hmul:r*sz+sz<=cap*sz:=by
     have:(r+1)*sz<=cap*sz:=lh _ CZ;rw[eT]at this;omega
    refine⟨b,o+r*sz,cap,cur,t,o,by rw[aR];simp[uZ],h1,h2,CZ,?_,⟨_,ho,Fl⟩,?_⟩
    ·intro j v hj;have:=h6 r j v (by simp[cellAt,bR,hj]);simpa [uZ] using this
    ·intro zz kP hl hs lN ae1;refine⟨.arr sz rows,.arr sz (rows.set r zz),rfl,Fl,by simp[Ob.dO],by simp[nQ,ho],aO,?_,CZ,by simp[h4],h5,?_⟩
     ·intro x hx;rcases List.mem_or_eq_of_mem_set hx with hx|rfl
      ·exact cr x hx
      ·omega
     ·intro r' c' v hc;by_cases gU:r=r'
      ·subst gU;simp only[cellAt,bU,if_true,ae0]at hc;simp at hc;have:=lN c' v hc;simpa [uZ] using this
      ·simp only[cellAt,bU,if_neg gU]at hc;have hold:=h6 r' c' v hc;have fI:c'<sz:=by
        simp only[AR]at hc;obtain⟨x,hx,uk⟩:=hc;have:=cr x (ik hx);have:=(aT.1 uk).1;omega
       rw[ae1 _ ?_]
       ·exact hold
       ·rcases Nat.lt_or_gt_of_ne gU with ba|zA
        ·right;have:(r+1)*sz<=r'*sz:=lh _ CZ;rw[eT]at this;omega
        ·left;have:(r'+1)*sz<=r*sz:=lh _ CZ;rw[eT]at this;omega
def Addr.rj(b o n:Nat):(⟨b,o,none⟩:Addr).add n=⟨b,o+n,none⟩:=by
 unfold Go.Addr.add;split<;>simp_all
def zo{w:World}{b j:Nat}{cur:Array Value}{t:TypeId}{fr:Nat×Nat}(h:w.heap[b]?=some (.cells cur t fr))(hj:j<cur.size):w.cell? ⟨b,j,none⟩=some (cur.getD j Go.undef):=by
 simp[World.cell?,h,hj,ep]
def Gg{w:World}{t:TypeId}(hk:(ty P t).kind≠99)(b o:Nat)(f:Nat->Value)(hc:∀ j,j<(if(ty P t).isAgg then(ty P t).size else 1)->w.cell? ⟨b,o+j,none⟩=some (f j)):
  (loadVar t ⟨b,o,none⟩).run P w=.ok (if(ty P t).isAgg then .agg ((aY (ty P t).size).map f).toArray else f 0) w:=by
 simp only[loadVar,Sem.run_bind,Ky hk,Result.andThen_ok];by_cases ha:(ty P t).isAgg=true
 ·simp only[ha,if_true,Sem.run_bind,run_sizeOf hk,Result.andThen_ok];rw[run_loadCells w ⟨b,o,none⟩ _ f (λj hj=>by rw[Addr.rj];exact hc j (by simpa [ha] using hj))];rfl
 ·have qn:=hc 0 (by simp[ha]);simp only[il]at qn;simp[ha,qn]
end Go.Am
namespace Go.Am
variable {P:Program}
def Kr(cs:List AV):∀ (row:List AV) (c:Nat),(setCells row c cs).length=row.length:=by
 induction cs with
 |nil=>intro row c;rfl
 |cons v vs ih=>intro row c;simp[setCells,ih]
def Ro(cs:List AV):∀ (row:List AV) (c:Nat),c+cs.length<=row.length->∀ j,(setCells row c cs)[j]?=if c<=j/\j<c+cs.length then cs[j-c]? else row[j]?:=by
 induction cs with
 |nil=>intro row c _ j;simp[setCells];intro h1 h2;omega
 |cons v vs ih =>
  intro row c hl j;simp only[cV]at hl;simp only[setCells,cV];rw[ih (row.set c v) (c+1) Jo j];by_cases h1:c+1<=j/\j<c+1+vs.length
  ·rw[if_pos h1,if_pos CZ];have:j-c=(j-(c+1))+1:=CZ;rw[this];simp
  ·rw[if_neg h1];by_cases h2:j=c
   ·subst h2;rw[if_pos CZ];simp[show j<row.length by omega]
   ·rw[if_neg CZ,List.getElem?_set_ne (Ne.symm h2)]
def Kn{os:List Ob}{w:World}{Z:Nat->Prop}{blk:gd}{v:AV}{cv:Value}(h:aw os w Z blk v cv)(hs:(cellsOf v).all cQ=true):
  cv.cells.size=(cellsOf v).length/\(∀ j x,(cellsOf v)[j]?=some x->aw os w Z blk x (cv.cells.getD j Go.undef))/\∀ c∈cv.cells,c.oneCell'=true:=by
 by_cases lP :∃cs,v=.agg cs
 ·obtain⟨cs,rfl⟩:=lP;simp only[cellsOf]at hs ⊢;cases h with
  |cJ _ _ h=>cases h
  |agg _ bg aO lN =>
   refine⟨aO,lN,?_⟩;intro c hc;simp only[Value.cells]at hc;obtain⟨j,hj,rfl⟩:=Array.mem_iff_getElem.1 hc;have hx:cs[j]?=some cs[j]:=by simp[<- aO,hj]
   have:=lN j _ hx;have hg:bg.getD j Go.undef=bg[j]:=by simp[ep,hj]
   rw[hg]at this;exact Gf this (by rw[e8]at hs;exact hs _ (ik hx))
 ·have nD:cellsOf v=[v]:=by
   unfold cellsOf;split
   ·exact absurd ⟨_,rfl⟩ lP
   ·rfl
  rw[nD]at hs ⊢;simp at hs;have ho:=Gf h hs;have bf:cv.cells = #[cv]:=by cases cv<;>first|rfl|simp[Value.oneCell']at ho
  rw[bf];refine⟨rfl,?_,by simp[ho]⟩;intro j x hx;cases j with
  |zero=>simp at hx;subst hx;simpa using h
  |succ j=>simp at hx
section
variable {o:Oper} {σ:St} {γ:Cx} {a:Act} {K:St->Prop}
def J8(hs:bk σ γ){t:TypeId}(hk:(ty P t).kind≠99){id r c:Nat}{cv:Value}(hv:aw σ.aa γ.w γ.Z γ.blk (.ptr id r c) cv){row:List AV}(bR:rowOf σ id r=some row){K:AV->Prop}(h:ml (ty P t) row c K):
  ∃ v pd,(Instr.loadAt t cv).run P γ.w=.ok pd γ.w/\aw σ.aa γ.w γ.Z γ.blk v pd/\K v:=by
 obtain⟨b,base,cap,cur,tt,o,rfl,hb,iS,aO,lN,_,_⟩:=F1 hs hv bR;unfold ml at h;simp only[Instr.loadAt,Instr.sureAddr,Sem.run_bind,Sem.run_pure,Result.andThen_ok];by_cases lP:(ty P t).isAgg=true
 ·rw[if_pos lP]at h;refine⟨_,_,Gg hk b (base+c) (λj=>cur.getD (base+c+j) Go.undef) ?_,?_,h.2⟩
  ·intro j hj;rw[if_pos lP]at hj;exact zo iS CZ
  ·rw[if_pos lP];refine .agg _ _ Jo (λj x hx=>?_);have hj:j<(ty P t).size:=by have:=(aT.1 hx).1;simp at this;omega
   rw[uY,if_pos hj,nM]at hx;have:=lN _ _ hx;simp[ep,hj];simpa [uZ,ep] using this
 ·rw[if_neg lP]at h;cases hc:row[c]? with
  |none=>simp[hc]at h
  |some v =>
   simp only[hc]at h;have bz:=(aT.1 hc).1;refine⟨v,_,Gg hk b (base+c) (λj=>cur.getD (base+c+j) Go.undef) ?_,?_,h⟩
   ·intro j hj;rw[if_neg lP]at hj;exact zo iS CZ
   ·rw[if_neg lP];exact lN _ _ hc
def aeP(_hs:bk σ γ){t:TypeId}(hk:(ty P t).kind≠99){cells:List AV}{cv:Value}(hv:aw σ.aa γ.w γ.Z γ.blk (.cj cells) cv){K:AV->Prop}(h:ml (ty P t) cells 0 K):
  ∃ v pd,(Instr.loadAt t cv).run P γ.w=.ok pd γ.w/\aw σ.aa γ.w γ.Z γ.blk v pd/\K v:=by
 cases hv with
 |cJ _ _ h=>cases h
 |cj _ b o f hz hc ht =>
 unfold ml at h;simp only[Instr.loadAt,Instr.sureAddr,Sem.run_bind,Sem.run_pure,Result.andThen_ok];by_cases lP:(ty P t).isAgg=true
 ·rw[if_pos lP]at h;have hlen:(ty P t).size<=cells.length:=CZ;refine⟨_,_,Gg hk b o f ?_,?_,h.2⟩
  ·intro j hj;rw[if_pos lP]at hj;exact hc j cells[j] Fl
  ·rw[if_pos lP];refine .agg _ _ Jo (λj x hx=>?_);have hj:j<(ty P t).size:=by have:=(aT.1 hx).1;simp at this;omega
   rw[uY,if_pos hj,nM]at hx;simp at hx;simp[ep,hj];exact .cJ _ _ (ht j x hx)
 ·rw[if_neg lP]at h;cases bf:cells[0]? with
  |none=>simp[bf]at h
  |some v =>
   simp only[bf]at h;refine⟨v,_,Gg hk b o f ?_,?_,h⟩
   ·intro j hj;rw[if_neg lP]at hj;have:j=0:=CZ;subst this;exact hc 0 v bf
   ·rw[if_neg lP];exact .cJ _ _ (ht 0 v bf)
def Dt(cur:Array Value)(p:Nat)(vs:List Value)(hp:p+vs.length<=cur.size)(k:Nat):
  ((cur.toList.take p++vs++cur.toList.drop (p+vs.length)).toArray).getD k Go.undef=if p<=k/\k<p+vs.length then vs.getD (k-p) Go.undef else cur.getD k Go.undef:=by
 simp only[ep,Jd,az];by_cases h1:k<p
 ·rw[if_neg CZ,bw,er Jo,uY,if_pos h1];simp
 ·by_cases h2:k<p+vs.length
  ·rw[if_pos CZ,er Jo,gN Jo];simp;congr 3;omega
  ·rw[if_neg CZ,gN Jo];simp;congr 3;omega
def setRow_size(w:World)(g:Nat)(cs:Array Value):(w.setRow g cs).heap.size=w.heap.size:=by simp[World.setRow]
def aeQ(hs:bk σ γ){t:TypeId}(hk:(ty P t).kind≠99){id r c:Nat}{cv xv:Value}(hv:aw σ.aa γ.w γ.Z γ.blk (.ptr id r c) cv){row:List AV}(bR:rowOf σ id r=some row){v:AV}(hx:aw σ.aa γ.w γ.Z γ.blk v xv)(h:(cellsOf v).length=(ty P t).size/\c+(ty P t).size<=row.length/\(cellsOf v).all cQ=true):
  ∃ w',(Instr.storeAt t cv xv).run P γ.w=.ok () w'/\bk (nQ σ id r (setCells row c (cellsOf v))) { γ with w:=w' }/\Fr σ.aa γ (nQ σ id r (setCells row c (cellsOf v))).aa { γ with w:=w' }:=by
 obtain⟨b,base,cap,cur,tt,o,rfl,hb,iS,aO,lN,ke,ae2⟩:=F1 hs hv bR;obtain⟨h1,h2,h3⟩:=h;obtain⟨e1,e2,e3⟩:=Kn hx h3;have hlen:xv.cells.toList.length=(ty P t).size:=by simp[e1,h1]
 have eG:(Instr.storeAt t (.pointer (some ⟨b,base+c,none⟩)) xv).run P γ.w=.ok () (γ.w.setRow b (cur.toList.take (base+c)++xv.cells.toList++cur.toList.drop (base+c+xv.cells.toList.length)).toArray):=by
  have dh:=run_storeCells_at P b (base+c) tt xv.cells.toList 0 cur γ.w iS (by rw[hlen];omega) (λx hx=>e3 x (by simpa using hx));simp only[il]at dh;simp only[Instr.storeAt,Instr.sureAddr,Sem.run_bind,Sem.run_pure,Result.andThen_ok,storeVar,run_sizeOf hk];have:¬ (xv.cells.size≠(ty P t).size):=by rw[e1,h1];simp
  rw[if_neg this];simpa using dh
 obtain⟨ob,ob',g1,g2,g3,g4,g5⟩:=ae2 (setCells row c (cellsOf v)) (cur.toList.take (base+c)++xv.cells.toList++cur.toList.drop (base+c+xv.cells.toList.length)).toArray
  (Kr _ _ _) (by simp[hlen];omega) (by
   intro j x hj;rw[Ro _ _ _ (by rw[h1];exact h2)]at hj;rw[Dt cur (base+c) xv.cells.toList (by rw[hlen];omega),hlen];by_cases dP:c<=j/\j<c+(cellsOf v).length
   ·rw[if_pos dP]at hj;rw[if_pos CZ];have:=e2 _ _ hj;have e:base+j-(base+c)=j-c:=CZ;rw[e];simpa [az,ep] using this
   ·rw[if_neg dP]at hj;rw[if_neg CZ];exact lN j x hj) (by
   intro k bc;rw[Dt cur (base+c) xv.cells.toList (by rw[hlen];omega),hlen];rw[if_neg CZ])
 refine⟨_,eG,?_,?_⟩
 ·rw[g4];exact hs.write g1 g2 g3 hb (setRow_heap γ.w b cur _ tt _ iS) (λk hk=>setRow_other γ.w b k _ hk) (setRow_size _ _ _) g5
 ·rw[g4];exact Fr.write ob' g1 g2 g3 hb (λk hk=>setRow_other γ.w b k _ hk) (setRow_size _ _ _) rfl rfl rfl
end
end Go.Am
namespace Go.Am
variable {P:Program}
def bk.zs{σ:St}{γ:Cx}(h:bk σ γ){sz:Nat}(aO:0<sz):
  bk { σ with aa:=σ.aa++[.arr sz []] } { γ with blk:=cT γ.blk σ.aa.length none }:=by
 have hR:∀ v cv,aw σ.aa γ.w γ.Z γ.blk v cv->aw (σ.aa++[.arr sz []]) γ.w γ.Z (cT γ.blk σ.aa.length none) v cv:=λv cv hv =>
  hv.mono (λb hb=>⟨hb,rfl⟩) (λi o ho=>by
   have hi:i<σ.aa.length:=(aT.1 ho).1;have cH:(σ.aa++[.arr sz []])[i]?=some o:=by rw[er hi];exact ho
   by_cases cG:o=.gone
   ·subst cG;exact .inl cH
   ·exact .inr ⟨by simp[cT,ns hi],o,cH,Ob.jr cG⟩)
 have bO:∀ i b,cT γ.blk σ.aa.length none i=some b->Live (σ.aa++[.arr sz []]) i->Live σ.aa i/\γ.blk i=some b:=by
  rintro i b hb⟨o,ho,cG⟩;simp only[cT]at hb;split at hb
  ·simp at hb
  ·rename_i bX;have hi:i<σ.aa.length:=by have:=(aT.1 ho).1;simp at this;omega
   rw[er hi]at ho;exact⟨⟨o,ho,cG⟩,hb⟩
 refine⟨λk=>hR _ _ (h.ar k),?_,?_,?_,h.gk,λg=>hR _ _ (h.gl g)⟩
 ·intro i o ho;rcases dw i σ.aa.length with hi|hi
  ·rw[er hi]at ho;exact(h.dz i o ho).mono hR (by simp[cT,ns hi]) (λ_ _ _ _=>rfl)
  ·have aq:i=σ.aa.length:=by have:=(aT.1 ho).1;simp at this;omega
   subst aq;simp at ho;subst ho;exact⟨aO,Fl,.inl ⟨by simp[cT],rfl⟩⟩
 ·intro i j b o c o' c' hi hj fh gV;obtain⟨Gi,mW⟩:=bO i _ fh hi;obtain⟨hj1,zB⟩:=bO j _ gV hj;exact h.inj i j b o c o' c' Gi hj1 mW zB
 ·rintro b ⟨i,o,c,hi,hb⟩;obtain⟨Gi,mW⟩:=bO i _ hb hi;exact h.nz b ⟨i,o,c,Gi,mW⟩
def Fr.zs(os:List Ob)(γ:Cx)(sz:Nat):Fr os γ (os++[.arr sz []]) { γ with blk:=cT γ.blk os.length none } where
 kM:=rfl
 tape:=rfl
 output:=rfl
 size:=Nat.le_refl _
 dS:=λ_ _ _=>rfl
 z0:=λ_ h=>h
 z1:=λ_ h=>.inl h
 own:=by
  rintro b⟨i,o,c,⟨x,hx,eF⟩,hb⟩;simp only[cT]at hb;split at hb
  ·simp at hb
  ·have hi:i<os.length:=by have:=(aT.1 hx).1;simp at this;omega
   rw[er hi]at hx;exact .inl ⟨i,o,c,⟨x,hx,eF⟩,hb⟩
 len:=Fl
 dV:=by
  rintro i hi⟨x,hx,eF⟩;have hx0:=hx;rw[er hi]at hx;exact⟨by simp[cT,ns hi],x,x,hx,hx0,Ob.jr eF⟩
def bk.Du{σ:St}{γ:Cx}(h:bk σ γ){id:Nat}{ob ob':Ob}(ho:σ.aa[id]?=some ob)(hg:ob≠.gone){b o cap o' cap':Nat}(hb:γ.blk id=some (b,o,cap)){w':World}{cur:Array Value}{t:TypeId}(hw:w'.heap[b]?=some (.cells cur t (0,0)))(mw:∀ k,k≠b->w'.heap[k]?=γ.w.heap[k]?)(aO:w'.heap.size=γ.w.heap.size)(bK:sJ σ.aa γ.w γ.Z γ.blk o' cap' cur ob'):
  bk { σ with aa:=σ.aa.set id .gone++[ob'] } { γ with w:=w',blk:=cT γ.blk σ.aa.length (some (b,o',cap')) }:=by
 have bV:id<σ.aa.length:=(aT.1 ho).1;have ke:Live σ.aa id:=⟨ob,ho,hg⟩;have hR:∀ v cv,aw σ.aa γ.w γ.Z γ.blk v cv->aw (σ.aa.set id .gone++[ob']) w' γ.Z (cT γ.blk σ.aa.length (some (b,o',cap'))) v cv:=λv cv hv =>
  hv.mono (λz hz=>⟨hz,mw z (λe=>h.nz b ⟨id,o,cap,ke,hb⟩ (e▸hz))⟩) (λi x hx=>by
   have hi:i<σ.aa.length:=(aT.1 hx).1;rw[er (by simpa using hi),bU];by_cases mT:id=i
   ·left;simp[mT,hi]
   ·rw[if_neg mT];by_cases cG:x=.gone
    ·subst cG;exact .inl hx
    ·exact .inr ⟨by simp[cT,ns hi],x,hx,Ob.jr cG⟩)
 have bO:∀ i,Live (σ.aa.set id .gone++[ob']) i->i=σ.aa.length\/(i<σ.aa.length/\i≠id/\Live σ.aa i):=by
  rintro i⟨x,hx,eF⟩;rcases dw i σ.aa.length with hi|hi
  ·right;rw[er (by simpa using hi),bU]at hx;split at hx
   ·simp at hx;exact absurd hx.symm eF
   ·rename_i bX;exact⟨hi,Ne.symm bX,x,hx,eF⟩
  ·left;have:=(aT.1 hx).1;simp at this;omega
 refine⟨λk=>hR _ _ (h.ar k),?_,?_,?_,λz hz=>by rw[aO];exact h.gk z hz,λg=>hR _ _ (h.gl g)⟩
 ·intro i x hx;rcases dw i σ.aa.length with hi|hi
  ·rw[er (by simpa using hi),bU]at hx;split at hx
   ·simp at hx;subst hx;trivial
   ·rename_i bX;by_cases cG:x=.gone
    ·subst cG;trivial
    ·refine(h.dz i x hx).mono hR (by simp[cT,ns hi]) (λz y c hz=>mw z (λe=>bX ?_));subst e;exact h.inj id i z o cap y c ke ⟨x,hx,cG⟩ hb hz
  ·have aq:i=σ.aa.length:=by have:=(aT.1 hx).1;simp at this;omega
   subst aq;rw[gN Fl]at hx;simp at hx;subst hx;exact bK.KA (b:=b) (cap:=cap') hR (by simp[cT]) hw
 ·intro i j z y c y' c' hi hj fh gV;simp only[cT]at fh gV;rcases bO i hi with rfl|⟨wO,Rp,aq⟩<;>rcases bO j hj with rfl|⟨gF,ae4,gx⟩
  ·rfl
  ·rw[if_pos rfl]at fh;rw[if_neg (ns gF)]at gV;simp at fh;rw[<- fh.1]at gV;exact absurd (h.inj j id b y' c' o cap gx ke gV hb) ae4
  ·rw[if_pos rfl]at gV;rw[if_neg (ns wO)]at fh;simp at gV;rw[<- gV.1]at fh;exact absurd (h.inj i id b y c o cap aq ke fh hb) Rp
  ·rw[if_neg (ns wO)]at fh;rw[if_neg (ns gF)]at gV;exact h.inj i j z y c y' c' aq gx fh gV
 ·rintro z ⟨i,y,c,hi,hz⟩ nC;simp only[cT]at hz;rcases bO i hi with rfl|⟨wO,Rp,aq⟩
  ·rw[if_pos rfl]at hz;simp at hz;rw[<- hz.1]at nC;exact h.nz b ⟨id,o,cap,ke,hb⟩ nC
  ·rw[if_neg (ns wO)]at hz;exact h.nz z ⟨i,y,c,aq,hz⟩ nC
theorem Fr.Du{σ:St}{γ:Cx}{id:Nat}{ob:Ob}(ob':Ob)(ho:σ.aa[id]?=some ob)(hg:ob≠.gone){b o cap o' cap':Nat}(hb:γ.blk id=some (b,o,cap)){w':World}(mw:∀ k,k≠b->w'.heap[k]?=γ.w.heap[k]?)(aO:w'.heap.size=γ.w.heap.size)(h1:w'.os=γ.w.os)(h2:w'.tape=γ.w.tape)(h3:w'.output=γ.w.output)(h4:γ.w.drawn<=w'.drawn:=by first|exact Nat.le_refl _|(simp;done)|omega):
  Fr σ.aa γ (σ.aa.set id .gone++[ob']) { γ with w:=w',blk:=cT γ.blk σ.aa.length (some (b,o',cap')) } where
 kM:=h1
 tape:=h2
 output:=h3
 drawn:=h4
 size:=by simp[aO]
 dS:=fun z _ qg=>mw z (fun e=>qg ⟨id,o,cap,⟨ob,ho,hg⟩,e▸hb⟩)
 z0:=fun _ h=>h
 z1:=fun _ h=>.inl h
 own:=by
  rintro z⟨i,y,c,⟨x,hx,eF⟩,hz⟩;simp only[cT]at hz;split at hz
  ·simp at hz;left;exact⟨id,o,cap,⟨ob,ho,hg⟩,by rw[hb,hz.1]⟩
  ·have hi:i<σ.aa.length:=by have:=(List.getElem?_eq_some_iff.1 hx).1;simp at this;omega
   rw[List.getElem?_append_left (by simpa using hi),List.getElem?_set]at hx;split at hx
   ·split at hx<;>simp at hx;exact absurd hx.symm eF
   ·exact .inl ⟨i,y,c,⟨x,hx,eF⟩,hz⟩
 len:=by simp
 dV:=by
  rintro i hi⟨x,hx,eF⟩;have hx0:=hx;rw[List.getElem?_append_left (by simpa using hi),List.getElem?_set]at hx;split at hx
  ·split at hx<;>simp at hx;exact absurd hx.symm eF
  ·exact⟨by simp[cT,Nat.ne_of_lt hi],x,x,hx,hx0,Ob.jr eF⟩
def Rq{σ:St}{γ:Cx}(h:bk σ γ){x:AV}{cv:Value}(hv:aw σ.aa γ.w γ.Z γ.blk x cv){sz:Nat}(aO:0<sz){src:List (List AV)}(hs:nu σ x=some (sz,src)):
  ∃ ad c,∃ g:Nat->Value,cv=.slice ad src.length c/\(∀ row∈src,row.length=sz)/\(0<src.length->∃ b o,ad=some ⟨b,o,none⟩/\∀ j,j<src.length*sz->γ.w.cell? ⟨b,o+j,none⟩=some (g j)) /\
   ∀ r c v,cellAt src r c=some v->aw σ.aa γ.w γ.Z γ.blk v (g (r*sz+c)):=by
 cases x with
 |tree cR rows =>
  simp[nu]at hs;obtain⟨rfl,rfl⟩:=hs;cases hv.zm with
  |nil _ cap a=>exact⟨a,cap,λ_=>Go.undef,rfl,Fl,Fl,by simp[cellAt]⟩
  |tree _ _ b o cap f hz hr Dv hc ht =>
   refine⟨_,cap,λj=>f (j/cR) (j%cR),rfl,hr,λhlen=>⟨b,o,rfl,?_⟩,?_⟩
   ·intro j hj;have h1:j/cR<rows.length:=OV (by rw[pT];exact hj);have h2:j%cR<cR:=u3 _ aO;have cr:(rows[j/cR]).length=cR:=hr _ (rS h1);have:=hc (j/cR) (j%cR) ((rows[j/cR])[j%cR]' CZ) (by simp[cellAt,h1,h2,cr]);have e:j/cR*cR+j%cR=j:=by rw[pT];exact Jj j cR
    rw[e]at this;exact this
   ·intro r c v aR;have bz:c<cR:=by
     simp only[cellAt,AR]at aR;obtain⟨y,hy,qq⟩:=aR;have:=hr y (ik hy);have:=(aT.1 qq).1;omega
    have e1:(r*cR+c)/cR=r:=by rw[pT,Nat.mul_add_div aO,Nat.div_eq_of_lt bz];rfl
    have e2:(r*cR+c)%cR=c:=by rw[pT,OX,CV bz]
    simp only[e1,e2];exact .cJ _ _ (ht r c v aR)
 |ref id cR off len =>
  simp only[nu]at hs;cases ho:σ.aa[id]? with
  |none=>simp[ho]at hs
  |some ob =>
   have bK:=h.dz id ob ho;cases ob with
   |gone=>simp[ho]at hs
   |mp ag L=>simp[ho]at hs
   |var cells=>simp[ho]at hs
   |arr kN rows =>
    simp only[ho]at hs;split at hs
    ·rename_i he;subst he;simp at hs;obtain⟨rfl,rfl⟩:=hs;obtain⟨_,cr,bK⟩:=bK;cases hv with
     |cJ _ _ h=>cases h
     |ku _ _ _ _ _ h=>rw[ho]at h;simp at h
     |lL _ _ h hb =>
      rw[ho]at h;simp at h;subst h;exact⟨none,0,λ_=>Go.undef,rfl,Fl,Fl,by simp[cellAt]⟩
     |mo _ _ _ b x bo gD h hb hl =>
      exact⟨some ⟨b,x,none⟩,0,λ_=>Go.undef,Fl,Fl,Fl,by simp[cellAt]⟩
     |ref _ _ _ _ b o cap cap' gD h hb hl hc jC =>
      rw[ho]at h;simp at h;subst h;rcases bK with⟨h1,_⟩|⟨b',o',Db,cur,t,h1,h2,h3,h4,h5,h6⟩
      ·rw[hb]at h1;simp at h1
      ·rw[hb]at h1;simp at h1;obtain⟨rfl,rfl,rfl⟩:=h1;have hlen:((rows.drop off).take len).length=len:=Jo;refine⟨_,cap',λj=>cur.getD (o+off*kN+j) Go.undef,by rw[hlen],?_,λ_=>⟨b,o+off*kN,rfl,?_⟩,?_⟩
       ·intro row bR;exact cr row (AT (qY bR))
       ·intro j hj;rw[hlen]at hj;refine zo h2 ?_;have:(off+len)*kN<=cap*kN:=lh _ CZ;rw[eT]at this;omega
       ·intro r c v aR;simp only[cellAt,uY,nM]at aR;split at aR
        ·have:=h6 (off+r) c v aR;rw[eT]at this;have e:o+(off*kN+r*kN+c)=o+off*kN+(r*kN+c):=CZ;rw[e]at this;exact this
        ·simp at aR
    ·simp at hs
 |_=>simp[nu]at hs
end Go.Am
namespace Go.Am
variable {P:Program}
def Dc{rows:List (List AV)}{sz r c:Nat}{v:AV}(hr:∀ row∈rows,row.length=sz)(h:cellAt rows r c=some v):r<rows.length/\c<sz:=by
 simp only[cellAt,AR]at h;obtain⟨y,hy,qq⟩:=h;have h1:=hr y (ik hy);have h2:=(aT.1 qq).1;have h3:=(aT.1 hy).1;omega
def Rr{p s:List (List AV)}{r c:Nat}:cellAt (p++s) r c=if r<p.length then cellAt p r c else cellAt s (r-p.length) c:=by
 unfold cellAt;split
 ·rw[er (by assumption)]
 ·rw[gN CZ]
def zn{r c n sz:Nat}(hr:r<n)(hc:c<sz):r*sz+c<n*sz:=by
 have:(r+1)*sz<=n*sz:=lh _ hr;rw[eT]at this;omega
def ae5{R:AV->Value->Prop}{p s:List (List AV)}{sz:Nat}(hp:∀ row∈p,row.length=sz)(hs:∀ row∈s,row.length=sz){go g:Nat->Value}(h1:∀ r c v,cellAt p r c=some v->R v (go (r*sz+c)))(h2:∀ r c v,cellAt s r c=some v->R v (g (r*sz+c)))(rest:List Value)(r c:Nat)(v:AV)(h:cellAt (p++s) r c=some v):
  R v (((((aY (p.length*sz)).map go)++((aY (s.length*sz)).map g))++rest).toArray.getD (r*sz+c) Go.undef):=by
 rw[Rr]at h;simp only[ep,Jd];split at h
 ·obtain⟨hr,hc⟩:=Dc hp h;have:=zn hr hc;rw[bw,er (by simpa using this)];simp[this];exact h1 r c v h
 ·rename_i iy;obtain⟨hr,hc⟩:=Dc hs h;have hl:=zn hr hc;have e:r*sz+c=p.length*sz+((r-p.length)*sz+c):=by
   have:r=p.length+(r-p.length):=CZ
   conv=>lhs;rw[this,eT]
   omega
  rw[er Jo,gN Jo];have e2:r*sz+c-(List.map go (aY (p.length*sz))).length=(r-p.length)*sz+c:=Jo;rw[e2];simp[hl];exact h2 _ _ _ h
def ae6 {σ:St} {γ:Cx} (h:bk σ γ) {x:AV} {cv:Value} (hv:aw σ.aa γ.w γ.Z γ.blk x cv) {sz:Nat} {pre:List (List AV)} {σ1:St} (hs:lj σ sz x=some (pre,σ1)) :
    (bk σ1 γ/\Fr σ.aa γ σ1.aa γ/\∃ k,σ1.aa.length=k) /\
    ((cv=.slice none 0 0/\pre=[]) \/
     (∃ id b x bo cur t,cv=.slice (some ⟨b,x,none⟩) 0 0/\pre=[]/\Live σ.aa id/\σ1 = { σ with aa:=σ.aa.set id .gone }/\γ.blk id=some (b,bo)/\γ.w.heap[b]?=some (.cells cur t (0,0))) \/
     ∃ id off rows b o cap cap' cur t,σ.aa[id]?=some (.arr sz rows)/\σ1 = { σ with aa:=σ.aa.set id .gone }/\γ.blk id=some (b,o,cap)/\γ.w.heap[b]?=some (.cells cur t (0,0)) /\
      cv=.slice (some ⟨b,o+off * sz,none⟩) pre.length cap'/\pre.length<=cap'/\cap'<=maxLen/\o+off * sz+cap' * sz<=cur.size/\(∀ row∈pre,row.length=sz) /\
      ∀ r c v,cellAt pre r c=some v->aw σ.aa γ.w γ.Z γ.blk v (cur.getD (o+off * sz+(r * sz+c)) Go.undef)):=by
  unfold lj at hs
  split at hs
  · simp at hs
    obtain ⟨rfl,rfl⟩:=hs
    exact⟨⟨h,Fr.refl _ _,_,rfl⟩,.inl ⟨hv.cz,rfl⟩⟩
  · rename_i id cR off len
    cases ho:σ.aa[id]? with
    | none=>simp[ho] at hs
    | some ob =>
      have bK:=h.dz id ob ho
      cases ob with
      | gone=>simp[ho] at hs
      | mp ag L=>simp[ho] at hs
      | var cells=>simp[ho] at hs
      | arr kN rows =>
        simp only[ho] at hs
        split at hs
        · rename_i he
          obtain ⟨vv,qt⟩:=he
          subst vv
          subst qt
          simp at hs
          obtain ⟨rfl,rfl⟩:=hs
          refine⟨⟨h.kill id,Fr.kill _ _ _,_,rfl⟩,?_⟩
          obtain ⟨_,cr,bK⟩:=bK
          cases hv with
          | cJ _ _ h=>cases h
          | ku _ _ _ _ _ h=>rw[ho] at h;simp at h
          | lL _ _ h hb=>left;exact⟨rfl,Fl⟩
          | mo _ _ _ b x bo gD h' hb hl =>
            right;left
            rcases bK with ⟨h1,_⟩ | ⟨b',o',Db,cur,t,h1,h2,_⟩
            · rw[hb] at h1;simp at h1
            · rw[hb] at h1;simp at h1
              obtain ⟨rfl,_⟩:=h1
              exact⟨id,b,x,bo,cur,t,rfl,Fl,⟨_,ho,Fl⟩,rfl,hb,h2⟩
          | ref _ _ _ _ b o cap cap' gD h' hb hl hc jC =>
            rw[ho] at h';simp at h'
            subst h'
            rcases bK with ⟨h1,_⟩ | ⟨b',o',Db,cur,t,h1,h2,h3,h4,h5,h6⟩
            · rw[hb] at h1;simp at h1
            · rw[hb] at h1;simp at h1
              obtain ⟨rfl,rfl,rfl⟩:=h1
              right;right
              have hlen:((rows.drop off).take len).length=len:=Jo
              refine⟨id,off,rows,b,o,cap,cap',cur,t,ho,rfl,hb,h2,by rw[hlen],CZ,CZ,?_,?_,?_⟩
              · have:(off+cap') * kN<=cap * kN:=lh _ hc
                rw[eT] at this;omega
              · intro row bR
                exact cr row (AT (qY bR))
              · intro r c v aR
                simp only[cellAt,uY,nM] at aR
                split at aR
                · have:=h6 (off+r) c v aR
                  rw[eT] at this
                  have e:o+(off * kN+r * kN+c)=o+off * kN+(r * kN+c):=CZ
                  rw[e] at this
                  exact this
                · simp at aR
        · simp at hs
  · simp at hs
def ae7(w:World)(t ty' e:TypeId)(i:TypeInfo)(ht:P.underlying t=some (.slice e))(hi:P.info? e=some i)(g o zC KB:Nat)(cur:Array Value)(tt:TypeId)(hg:w.heap[g]?=some (.cells cur tt (0,0)))(xa:Option Addr)(m c:Nat)(news:List Value)(hl:news.length=m*i.size)(yb:0<m->∃ a,xa=some a/\∀ j u,news[j]?=some u->w.cell? (a.add j)=some u)(h1:∀ u∈news,u.oneCell'=true)(Bp:zC+m<=KB)(pj:o+zC*i.size+news.length<=cur.size):
  (Builtin.append_ #[t,t] ty' #[.slice (some ⟨g,o,none⟩) zC KB,.slice xa m c]).run P w =
   .ok (.slice (some ⟨g,o,none⟩) (zC+m) KB) (w.setRow g (cur.toList.take (o+zC*i.size)++news++cur.toList.drop (o+zC*i.size+news.length)).toArray):=by
 have hf:(Builtin.firstCells i.size m (.slice xa m c)).run P w=.ok news.toArray w:=by
  rcases pU m with h0|hp
  ·subst h0;have hn:news=[]:=AS (by simpa using hl);subst hn;cases xa<;>simp[Builtin.firstCells,loadCells,loadCellsFrom]
  ·obtain⟨a,rfl,hc⟩:=yb hp;exact run_firstCells_some w i.size m a m c news hl hc
 have dh:=run_storeCells_at P g (o+zC*i.size) tt news 0 cur w hg (by simpa using pj) h1;simp only[il]at dh;simp[Builtin.append_,run_underlying ht,sizeOf,typeInfo,hi,Builtin.lenOf,Bp,hf,Addr.rj,dh]
def Br{g:Nat->Value}{n j:Nat}{u:Value}(h:((aY n).map g)[j]?=some u):j<n/\u=g j:=by
 have hj:=(aT.1 h).1;simp at hj;simp[hj]at h;exact⟨hj,h.symm⟩
def aeX{σ σ1:St}{γ:Cx}(h:bk σ γ){t oty:TypeId}{sz:Nat}{z:List Value}(hk:(ty P t).kind=1)(c7:(ty P (ty P t).elem).kind≠99)(hz:(ty P (ty P t).elem).zero=some z)(aO:sz=(ty P (ty P t).elem).size)(h0:0<sz)(mU:z.length=sz){sD x:AV}{sL Dw:Value}(hS:aw σ.aa γ.w γ.Z γ.blk sD sL)(hX:aw σ.aa γ.w γ.Z γ.blk x Dw){pre src:List (List AV)}(hd:lj σ sz sD=some (pre,σ1))(qm:nu σ x=some (sz,src))(hlen:pre.length+src.length<=549755813888)(Dq:(ty P (ty P t).elem).bytes<=128)(rm:(src.all λrow=>row.all cQ)=true):
    ∃ pd γ1,(Builtin.append_ #[t,t] oty #[sL,Dw]).run P γ.w=.ok pd γ1.w/\γ1.tmps=γ.tmps/\bk { σ1 with aa:=σ1.aa++[.arr sz (pre++src)] } γ1 /\
      Fr σ.aa γ (σ1.aa++[.arr sz (pre++src)]) γ1/\aw (σ1.aa++[.arr sz (pre++src)]) γ1.w γ1.Z γ1.blk (.ref σ1.aa.length sz 0 (pre.length+src.length)) pd:=by
  obtain⟨i,d,hi,F8,uh,Dr,hzero⟩:=ui c7;have ht:=ug hk;have wU:i.size=sz:=by rw[<- uh,<- aO]
  obtain⟨zv,zy,jo⟩:∃zv,i.zero=some zv/\zv.cells.size=sz:=by
    rw[hzero]at hz;cases hv:i.zero with
    |none=>simp[hv]at hz
    |some v=>simp[hv]at hz;exact⟨v,rfl,by rw[<- mU,<- hz];simp⟩
  obtain⟨ad,c,g,rfl,ot,KC,Bs⟩:=Rq h hX h0 qm;obtain⟨⟨ka,Bt,_⟩,ae9⟩:=ae6 h hS hd
  let news:=(aY (src.length*sz)).map g
  have ao:news.length=src.length*i.size:=by simp[news,wU]
  have ae':∀ u∈news,u.oneCell'=true:=by
    intro u hu;obtain⟨j,hj⟩:=OQ.1 hu;obtain⟨gF,rfl⟩:=Br hj;have h1:j/sz<src.length:=OV (by rw[pT];exact gF);have h2:j%sz<sz:=u3 _ h0;have cr:(src[j/sz]).length=sz:=ot _ (rS h1);have:=Bs (j/sz) (j%sz) ((src[j/sz])[j%sz]' CZ) (by simp[cellAt,h1,h2,cr]);have e:j/sz*sz+j%sz=j:=by rw[pT];exact Jj j sz
    rw[e]at this;refine Gf this ?_;rw[e8]at rm;have:=rm _ (rS h1);rw[e8]at this;exact this _ (rS _)
  have yb:0<src.length->∃ a,ad=some a/\∀ j u,news[j]?=some u->γ.w.cell? (a.add j)=some u:=by
    intro hp;obtain⟨b,o,rfl,hc⟩:=KC hp;refine⟨_,rfl,λj u hu=>?_⟩;obtain⟨gF,rfl⟩:=Br hu;rw[Addr.rj];exact hc j gF
  have yc:pre.length+src.length<=maxLen:=by unfold maxLen;omega
  have ov:(pre.length+src.length)*i.bytes<=140737488355328:=by
    rw[<- Dr]
    calc _<=549755813888*128:=Nat.mul_le_mul hlen Dq
      _<=_:=CZ
  have fresh:∀ (dV:Nat) (go:Nat->Value),(∀ row∈pre,row.length=sz)->(∀ r c v,cellAt pre r c=some v->aw σ.aa γ.w γ.Z γ.blk v (go (r*sz+c))) ->
      ∀ (w':World) (cap:Nat),pre.length+src.length<=cap->cap<=maxLen ->
        w'=γ.w.drew.alloc (.cells (((aY (pre.length*sz)).map go).toArray++news.toArray++Builtin.zeroCells zv.cells (cap-(pre.length+src.length))) (ty P t).elem) ->
        ∃ γ1:Cx,γ1.w=w'/\γ1.tmps=γ.tmps/\bk { σ1 with aa:=σ1.aa++[.arr sz (pre++src)] } γ1/\Fr σ.aa γ (σ1.aa++[.arr sz (pre++src)]) γ1 /\
          aw (σ1.aa++[.arr sz (pre++src)]) γ1.w γ1.Z γ1.blk (.ref σ1.aa.length sz 0 (pre.length+src.length)) (.slice (some ⟨γ.w.heap.size,0,none⟩) (pre.length+src.length) cap):=by
    intro dV go cM Gj w' cap nD um qh;have Rs:∀ v cv,aw σ.aa γ.w γ.Z γ.blk v cv->aw σ1.aa γ.w γ.Z γ.blk v cv:=by
      intro v cv hv;refine hv.mono (λb hb=>⟨hb,rfl⟩) (λi o ho=>?_);unfold lj at hd;split at hd
      · simp at hd
        rw[<- hd.2];by_cases cG:o=.gone
        · subst cG;exact .inl ho
        · exact .inr ⟨rfl,o,ho,Ob.jr cG⟩
      · rename_i id cR off len
        have hi:i<σ.aa.length:=(aT.1 ho).1;split at hd
        · split at hd
          · simp at hd
            rw[<- hd.2];show(σ.aa.set id Ob.gone)[i]?=some Ob.gone\/_;simp only[bU];by_cases mT:id=i
            · left;simp[mT,hi]
            · rw[if_neg mT]
              by_cases cG:o=.gone
              · subst cG;exact .inl ho
              · exact .inr ⟨trivial,o,ho,Ob.jr cG⟩
          · simp at hd
        · simp at hd
      · simp at hd
    let cur:=((aY (pre.length*sz)).map go).toArray++news.toArray++Builtin.zeroCells zv.cells (cap-(pre.length+src.length))
    have bK:sJ σ1.aa γ.w γ.Z γ.blk 0 cap cur (.arr sz (pre++src)):=by
      refine⟨h0,?_,?_,by simpa using nD,um,?_⟩
      · intro row bR
        rcases da.1 bR with h|h
        · exact cM row h
        · exact ot row h
      · simp only[cur,news,Array.size_append,CP,eu,List.length_range,size_zeroCells,jo,<- eT]
        have:pre.length+src.length+(cap-(pre.length+src.length))=cap:=CZ;rw[this];omega
      · intro r c v hv
        have:=ae5 (R:=aw σ1.aa γ.w γ.Z γ.blk) cM ot (λr c v hv=>Rs _ _ (Gj r c v hv)) (λr c v hv=>Rs _ _ (Bs r c v hv)) (Builtin.zeroCells zv.cells (cap-(pre.length+src.length))).toList r c v hv;rw[gq];have e:cur=(((aY (pre.length*sz)).map go)++((aY (src.length*sz)).map g)++(Builtin.zeroCells zv.cells (cap-(pre.length+src.length))).toList).toArray:=by
          apply Array.ext';simp[cur,news]
        rw[e];exact this
    refine⟨{ γ with w:=w',blk:=cT γ.blk σ1.aa.length (some (γ.w.heap.size,0,cap)) },rfl,rfl,?_,?_,?_⟩
    · exact ka.push (t:=(ty P t).elem) (cur:=cur) (by rw[qh];rfl) bK
    · exact Bt.trans (Fr.push (σ:=σ1) (t:=(ty P t).elem) (cur:=cur) _ (by rw[qh];rfl) (by rw[qh];rfl) (by rw[qh];rfl) (by rw[qh];rfl) (by rw[qh];exact Nat.le_succ _))
    · have:=aw.ref (os:=σ1.aa++[.arr sz (pre++src)]) (w:=w') (Z:=γ.Z) (blk:=cT γ.blk σ1.aa.length (some (γ.w.heap.size,0,cap))) σ1.aa.length sz 0 (pre.length+src.length) γ.w.heap.size 0 cap cap (pre++src)
        Fl (by simp[cT]) Fl CZ nD
      simpa using this
  rcases ae9 with⟨rfl,rfl⟩|⟨id,b,x,bo,cur,tt,rfl,rfl,ke,rfl,hb,iS⟩|⟨id,off,rows,b,o,cap,cap',cur,tt,ho,rfl,hb,iS,rfl,Rt,jT,pj,cM,Gj⟩
  · rcases pU src.length with hm|hp
    ·
      have eN:src=[]:=AS hm;subst eN;refine⟨.slice none 0 0,{ γ with blk:=cT γ.blk σ1.aa.length none },?_,rfl,ka.zs h0,Bt.trans (Fr.zs _ _ _),?_⟩
      · cases ad<;>simp[Builtin.append_,run_underlying ht,sizeOf,typeInfo,hi,Builtin.lenOf,Builtin.firstCells,loadCells,loadCellsFrom]
      · exact .lL _ _ Fl (by simp[cT])
    · obtain⟨a,rfl,hc⟩:=yb hp
      have hr:=run_append_nil (P:=P) γ.w t oty _ i zv ht hi zy a src.length c news ao hc hp (by unfold maxLen at yc;simp at yc;omega) (by have hb:=ov;simp only[nr,gq]at hb;omega);have iy:=grownCap_ge γ.w src.length 0 (ty P t).elem;have jT:=grownCap_le_maxLen γ.w src.length 0 (ty P t).elem (by simpa using yc);obtain⟨γ1,e1,e2,e3,e4,e5⟩:=fresh 0 (λ_=>Go.undef) Fl (by simp[cellAt]) _ (grownCap γ.w src.length 0 (ty P t).elem) (by simpa using iy) jT rfl;simp only[nr,Nat.zero_mul,List.range_zero,List.map_nil,gq,Array.empty_append]at e1 e5;refine⟨.slice (some ⟨γ.w.heap.size,0,none⟩) src.length (grownCap γ.w src.length 0 (ty P t).elem),γ1,?_,e2,e3,e4,?_⟩
      · rw[hr,e1]
      · simpa using e5
  · rcases pU src.length with hm|hp
    · have eN:src=[]:=AS hm
      subst eN;obtain⟨ob,ho,hg⟩:=ke;have mw:∀ k,k≠b->γ.w.heap[k]?=γ.w.heap[k]?:=λ_ _=>rfl;have KD:=h.Du (ob':=.arr sz []) (o':=0) (cap':=0) ho hg (o:=bo.1) (cap:=bo.2) hb iS mw rfl ⟨h0,Fl,Fl,Fl,by simp[maxLen],by simp[cellAt]⟩;have cX:=Fr.Du (γ:=γ) (o':=0) (cap':=0) (.arr sz []) ho hg (o:=bo.1) (cap:=bo.2) hb (w':=γ.w) mw rfl rfl rfl rfl;refine⟨.slice (some ⟨b,x,none⟩) 0 0,{ γ with w:=γ.w,blk:=cT γ.blk σ.aa.length (some (b,0,0)) },?_,rfl,by simpa using KD,by simpa using cX,?_⟩
      · cases ad<;>simp[Builtin.append_,run_underlying ht,sizeOf,typeInfo,hi,Builtin.lenOf,Builtin.firstCells,loadCells,loadCellsFrom,storeCells]
      · have:=aw.mo (os:=σ.aa.set id .gone++[.arr sz []]) (w:=γ.w) (Z:=γ.Z) (blk:=cT γ.blk σ.aa.length (some (b,0,0))) σ.aa.length sz 0 b x (0,0) []
          (by rw[gN Fl];simp) (by simp[cT]) Fl
        simpa using this
    · obtain⟨a,rfl,hc⟩:=yb hp
      have hr:=run_append_grow (P:=P) γ.w t oty _ i zv ht hi zy ⟨b,x,none⟩ 0 0 [] Fl Fl a src.length c news ao hc CZ (by unfold maxLen at yc;simp at yc;omega) (growslice_fits CZ (by simpa using ov));have iy:=grownCap_ge γ.w (0+src.length) 0 (ty P t).elem;have jT:=grownCap_le_maxLen γ.w (0+src.length) 0 (ty P t).elem (by simpa using yc);obtain⟨γ1,e1,e2,e3,e4,e5⟩:=fresh 0 (λ_=>Go.undef) Fl (by simp[cellAt]) _ (grownCap γ.w (0+src.length) 0 (ty P t).elem) (by simpa using iy) jT rfl;refine⟨.slice (some ⟨γ.w.heap.size,0,none⟩) (0+src.length) (grownCap γ.w (0+src.length) 0 (ty P t).elem),γ1,?_,e2,e3,e4,?_⟩
      · rw[hr,e1];simp
      · simpa using e5
  · by_cases Bp:pre.length+src.length<=cap'
    ·
      have hmul:pre.length*sz+src.length*sz<=cap'*sz:=by rw[<- eT];exact lh _ Bp
      have Bu:news.length=src.length*sz:=by rw[ao,wU]
      have hr:=ae7 (P:=P) γ.w t oty _ i ht hi b (o+off*sz) pre.length cap' cur tt iS ad src.length c news ao yb ae' Bp (by rw[wU,Bu];omega);have bK:sJ σ.aa γ.w γ.Z γ.blk (o+off*sz) cap' (cur.toList.take (o+off*sz+pre.length*i.size)++news++cur.toList.drop (o+off*sz+pre.length*i.size+news.length)).toArray (.arr sz (pre++src)):=by
        refine⟨h0,?_,?_,by simpa using Bp,jT,?_⟩
        · intro row bR
          rcases da.1 bR with h|h
          · exact cM row h
          · exact ot row h
        · simp only[CP,bI,fZ,yW,tH,wU,Bu]
          omega
        · intro r c v hv
          rw[Dt cur _ news (by rw[wU,Bu];omega),wU,Bu];rw[Rr]at hv;split at hv
          · obtain⟨jG,nD⟩:=Dc cM hv
            have:=zn jG nD;rw[if_neg CZ];exact Gj r c v hv
          · obtain⟨jG,nD⟩:=Dc ot hv
            have hl:=zn jG nD;have e:r*sz+c=pre.length*sz+((r-pre.length)*sz+c):=by
              have:r=pre.length+(r-pre.length):=CZ
              conv=>lhs;rw[this,eT]
              omega
            rw[if_pos CZ];have e2:o+off*sz+(r*sz+c)-(o+off*sz+pre.length*sz)=(r-pre.length)*sz+c:=CZ;rw[e2];simp only[news,az];simp[hl];exact Bs _ _ _ hv
      have KD:=h.Du ho Fl hb (setRow_heap γ.w b cur _ tt _ iS) (λk hk=>setRow_other γ.w b k _ hk) (setRow_size _ _ _) bK;have cX:=Fr.Du (γ:=γ) (o':=o+off*sz) (cap':=cap') (.arr sz (pre++src)) ho Fl hb (w':=γ.w.setRow b (cur.toList.take (o+off*sz+pre.length*i.size)++news++cur.toList.drop (o+off*sz+pre.length*i.size+news.length)).toArray) (λk hk=>setRow_other γ.w b k _ hk) (setRow_size _ _ _) rfl rfl rfl;refine⟨_,{ γ with w:=γ.w.setRow b (cur.toList.take (o+off*sz+pre.length*i.size)++news++cur.toList.drop (o+off*sz+pre.length*i.size+news.length)).toArray,blk:=cT γ.blk σ.aa.length (some (b,o+off*sz,cap')) },hr,rfl,?_,?_,?_⟩
      · simpa using KD
      · simpa using cX
      · have:=aw.ref (os:=σ.aa.set id .gone++[.arr sz (pre++src)]) (w:=γ.w.setRow b (cur.toList.take (o+off*sz+pre.length*i.size)++news++cur.toList.drop (o+off*sz+pre.length*i.size+news.length)).toArray) (Z:=γ.Z)
          (blk:=cT γ.blk σ.aa.length (some (b,o+off*sz,cap'))) σ.aa.length sz 0 (pre.length+src.length) b (o+off*sz) cap' cap' (pre++src)
          (by rw[gN Fl];simp) (by simp[cT]) Fl CZ Bp
        simpa using this
    ·
      let go:Nat->Value:=λj=>cur.getD (o+off*sz+j) Go.undef
      let Gk:=(aY (pre.length*sz)).map go
      have nE:Gk.length=pre.length*i.size:=by simp[Gk,wU]
      have anp:pre.length*sz<=cap'*sz:=lh _ Rt;have holds:∀ j v,Gk[j]?=some v->γ.w.cell? ((⟨b,o+off*sz,none⟩:Addr).add j)=some v:=by
        intro j v hj;obtain⟨gF,rfl⟩:=Br hj;rw[Addr.rj];exact zo iS CZ
      have hp:0<src.length:=CZ;obtain⟨a,rfl,hc⟩:=yb hp;have hr:=run_append_grow (P:=P) γ.w t oty _ i zv ht hi zy ⟨b,o+off*sz,none⟩ pre.length cap' Gk nE holds a src.length c news ao hc CZ (by unfold maxLen at yc;omega) (growslice_fits CZ ov);have iy:=grownCap_ge γ.w (pre.length+src.length) cap' (ty P t).elem;have afa:=grownCap_le_maxLen γ.w (pre.length+src.length) cap' (ty P t).elem yc;obtain⟨γ1,e1,e2,e3,e4,e5⟩:=fresh 0 go cM Gj _ (grownCap γ.w (pre.length+src.length) cap' (ty P t).elem) iy afa rfl;refine⟨_,γ1,?_,e2,e3,e4,e5⟩;rw[hr,e1]
def aeY{σ:St}{γ:Cx}(h:bk σ γ){t t' oty:TypeId}{sz:Nat}(hk:(ty P t).kind=1)(c7:(ty P (ty P t).elem).kind≠99)(aO:sz=(ty P (ty P t).elem).size)(h0:0<sz){id off len:Nat}{x:AV}{sL Dw:Value}(hS:aw σ.aa γ.w γ.Z γ.blk (.ref id sz off len) sL)(hX:aw σ.aa γ.w γ.Z γ.blk x Dw){rows:List (List AV)}(ho:σ.aa[id]?=some (.arr sz rows)){src:List (List AV)}(qm:nu σ x=some (sz,src))(rm:(src.all λrow=>row.all cQ)=true):
  ∃ w',(Builtin.copy_ #[t,t'] oty #[sL,Dw]).run P γ.w=.ok (.int .i64 (min src.length len:Nat)) w' /\
   bk { σ with aa:=σ.aa.set id (.arr sz (rows.take off++src.take (min src.length len)++rows.drop (off+min src.length len))) } { γ with w:=w' } /\
   Fr σ.aa γ (σ.aa.set id (.arr sz (rows.take off++src.take (min src.length len)++rows.drop (off+min src.length len)))) { γ with w:=w' }:=by
 obtain⟨i,d,hi,F8,uh,Dr,hzero⟩:=ui c7;have ht:=ug hk;have wU:i.size=sz:=by rw[<- uh,<- aO]
 obtain⟨ad,c,g,rfl,ot,KC,Bs⟩:=Rq h hX h0 qm;have bV:id<σ.aa.length:=(aT.1 ho).1;have zero:∀ (zD:Option Addr) (cap':Nat),min src.length len=0->sL=.slice zD len cap'->∃ w',(Builtin.copy_ #[t,t'] oty #[sL,.slice ad src.length c]).run P γ.w=.ok (.int .i64 (min src.length len:Nat)) w' /\
   bk { σ with aa:=σ.aa.set id (.arr sz (rows.take off++src.take (min src.length len)++rows.drop (off+min src.length len))) } { γ with w:=w' } /\
   Fr σ.aa γ (σ.aa.set id (.arr sz (rows.take off++src.take (min src.length len)++rows.drop (off+min src.length len)))) { γ with w:=w' }:=by
  intro zD cap' hz aR;have iT:σ.aa.set id (.arr sz rows)=σ.aa:=by
   apply pR;intro j;rw[bU];split
   ·rename_i e;subst e;simp[ho]
   ·rfl
  refine⟨γ.w,?_,?_,?_⟩
  ·have hm:Nat.min src.length len=0:=hz;subst aR;cases ad<;>cases zD<;>simp[Builtin.copy_,run_underlying ht,sizeOf,typeInfo,hi,Builtin.lenOf,Builtin.firstCells,loadCells,loadCellsFrom,storeCells,hm,goInt,hz]
  ·rw[hz];simp[iT];exact h
  ·rw[hz];simp[iT];exact Fr.refl _ _
 cases hS with
 |cJ _ _ h=>cases h
 |ku _ _ _ _ _ h=>rw[ho]at h;simp at h
 |lL _ _ h hb=>exact zero none 0 Fl rfl
 |mo _ _ _ b x bo gD h hb hl=>exact zero _ 0 Fl rfl
 |ref _ _ _ _ b o cap cap' gD h' hb hl hc jC =>
  rw[ho]at h';simp at h';subst h';rcases pU (min src.length len) with hz|hp
  ·exact zero _ _ hz rfl
  obtain⟨_,cr,bK⟩:=h.dz id _ ho;rcases bK with⟨h1,_⟩|⟨b',o',Db,cur,tt,h1,h2,h3,h4,h5,h6⟩
  ·rw[hb]at h1;simp at h1
  rw[hb]at h1;simp at h1;obtain⟨rfl,rfl,rfl⟩:=h1;generalize hn:min src.length len=n at *;have o8:n<=src.length:=CZ;have og:n<=len:=CZ
  let news:=(aY (n*sz)).map g
  have ao:news.length=n*sz:=by simp[news]
  have qu:∀ u∈news,u.oneCell'=true:=by
   intro u hu;obtain⟨j,hj⟩:=OQ.1 hu;obtain⟨gF,rfl⟩:=Br hj;have k1:j/sz<n:=OV (by rw[pT];exact gF);have k2:j%sz<sz:=u3 _ h0;have k3:j/sz<src.length:=CZ;have cr:(src[j/sz]).length=sz:=ot _ (rS k3);have:=Bs (j/sz) (j%sz) ((src[j/sz])[j%sz]' CZ) (by simp[cellAt,k3,k2,cr]);have e:j/sz*sz+j%sz=j:=by rw[pT];exact Jj j sz
   rw[e]at this;refine Gf this ?_;rw[e8]at rm;have:=rm _ (rS k3);rw[e8]at this;exact this _ (rS _)
  obtain⟨sb,so,rfl,vc⟩:=KC CZ;have hle:n*sz<=src.length*sz:=lh _ o8;have Dx:=run_loadCells_list (P:=P) γ.w ⟨sb,so,none⟩ news (λj v hj=>by
   obtain⟨gF,rfl⟩:=Br hj;rw[Addr.rj];exact vc j CZ)
  have pj:(off+n)*sz<=cap*sz:=lh _ CZ;rw[eT]at pj;have dh:=run_storeCells_at P b (o+off*sz) tt news 0 cur γ.w h2 (by rw[ao];omega) qu;simp only[il]at dh;have eG:(Builtin.copy_ #[t,t'] oty #[.slice (some ⟨b,o+off*sz,none⟩) len cap',.slice (some ⟨sb,so,none⟩) src.length c]).run P γ.w=.ok (.int .i64 (n:Nat)) (γ.w.setRow b (cur.toList.take (o+off*sz)++news++cur.toList.drop (o+off*sz+news.length)).toArray):=by
   have hm:Nat.min src.length len=n:=hn;rw[ao]at Dx;simp[Builtin.copy_,run_underlying ht,sizeOf,typeInfo,hi,Builtin.lenOf,Builtin.firstCells,hm,wU,Dx,dh,goInt]
  have KE:sJ σ.aa γ.w γ.Z γ.blk o cap (cur.toList.take (o+off*sz)++news++cur.toList.drop (o+off*sz+news.length)).toArray (.arr sz (rows.take off++src.take n++rows.drop (off+n))):=by
   refine⟨h0,?_,?_,?_,h5,?_⟩
   ·intro row bR;simp only[da]at bR;rcases bR with(hr|hr)|hr
    ·exact cr row (qY hr)
    ·exact ot row (qY hr)
    ·exact cr row (AT hr)
   ·simp only[CP,bI,fZ,yW,tH,ao];omega
   ·simp;omega
   ·intro r cc v hv;rw[Dt cur _ news (by rw[ao];omega),ao];have ba:cc<sz:=by
     simp only[cellAt,AR]at hv;obtain⟨y,hy,qq⟩:=hv;have hm:=ik hy;have:=(aT.1 qq).1;simp only[da]at hm;rcases hm with(hr|hr)|hr
     ·have:=cr y (qY hr);omega
     ·have:=ot y (qY hr);omega
     ·have:=cr y (AT hr);omega
    rcases dw r off with k1|k1
    ·have e:cellAt (rows.take off++src.take n++rows.drop (off+n)) r cc=cellAt rows r cc:=by
      simp only[cellAt,bw];rw[er Jo,uY,if_pos k1]
     rw[e]at hv;have hm:(r+1)*sz<=off*sz:=lh _ CZ;rw[eT]at hm;rw[if_neg CZ];exact h6 r cc v hv
    ·rcases dw r (off+n) with k2|k2
     ·have e:cellAt (rows.take off++src.take n++rows.drop (off+n)) r cc=cellAt src (r-off) cc:=by
       simp only[cellAt,bw];rw[gN Jo,er Jo,uY,if_pos Jo];congr 2;simp;omega
      rw[e]at hv;have e1:r=off+(r-off):=CZ;have e2:r*sz=off*sz+(r-off)*sz:=by rw[<- eT,<- e1]
      have hm:(r-off+1)*sz<=n*sz:=lh _ CZ;rw[eT]at hm;rw[if_pos CZ];have e3:o+(r*sz+cc)-(o+off*sz)=(r-off)*sz+cc:=CZ;rw[e3];have hl:(r-off)*sz+cc<n*sz:=CZ;simp only[news,az];simp[hl];exact Bs _ _ _ hv
     ·have e:cellAt (rows.take off++src.take n++rows.drop (off+n)) r cc=cellAt rows r cc:=by
       simp only[cellAt];rw[gN Jo,nM];congr 2;simp;omega
      rw[e]at hv;have hm:(off+n)*sz<=r*sz:=lh _ k2;rw[eT]at hm;rw[if_neg CZ];exact h6 r cc v hv
  refine⟨_,eG,?_,?_⟩
  ·exact h.write ho Fl (by simp[Ob.dO];omega) hb (setRow_heap γ.w b cur _ tt _ h2) (λk hk=>setRow_other γ.w b k _ hk) (setRow_size _ _ _) KE
  ·exact Fr.write _ ho Fl (by simp[Ob.dO];omega) hb (λk hk=>setRow_other γ.w b k _ hk) (setRow_size _ _ _) rfl rfl rfl
def aeZ{σ:St}{γ:Cx}(h:bk σ γ){t oty:TypeId}{sz:Nat}{z:List Value}(hk:(ty P t).kind=1)(c7:(ty P (ty P t).elem).kind≠99)(mU:z.length=sz)(h0:0<sz)(hz:(ty P (ty P t).elem).zero=some z)(wS:(z.all λu=>u.oneCell')=true){id off len:Nat}{sL:Value}(hS:aw σ.aa γ.w γ.Z γ.blk (.ref id sz off len) sL){rows:List (List AV)}(ho:σ.aa[id]?=some (.arr sz rows)):
  ∃ w',(Builtin.clear_ #[t] oty #[sL]).run P γ.w=.ok (.tuple #[]) w' /\
   bk { σ with aa:=σ.aa.set id (.arr sz (rows.take off++aI len (z.map AV.lit)++rows.drop (off+len))) } { γ with w:=w' } /\
   Fr σ.aa γ (σ.aa.set id (.arr sz (rows.take off++aI len (z.map AV.lit)++rows.drop (off+len)))) { γ with w:=w' }:=by
 obtain⟨i,d,hi,F8,uh,Dr,hzero⟩:=ui c7;have ht:=ug hk;rw[hz]at hzero;obtain⟨zv,zy,jo⟩:=uT.1 hzero.symm;have KF:zv.cells.size=sz:=by rw[<- mU,<- jo];simp
 have bV:id<σ.aa.length:=(aT.1 ho).1;have zero:∀ (zD:Option Addr) (cap':Nat),len=0->sL=.slice zD len cap'->∃ w',(Builtin.clear_ #[t] oty #[sL]).run P γ.w=.ok (.tuple #[]) w' /\
   bk { σ with aa:=σ.aa.set id (.arr sz (rows.take off++aI len (z.map AV.lit)++rows.drop (off+len))) } { γ with w:=w' } /\
   Fr σ.aa γ (σ.aa.set id (.arr sz (rows.take off++aI len (z.map AV.lit)++rows.drop (off+len)))) { γ with w:=w' }:=by
  intro zD cap' wV aR;have iT:σ.aa.set id (.arr sz rows)=σ.aa:=by
   apply pR;intro j;rw[bU];split
   ·rename_i e;subst e;simp[ho]
   ·rfl
  refine⟨γ.w,?_,?_,?_⟩
  ·subst aR;subst wV;cases zD<;>simp[Builtin.clear_,run_underlying ht]
  ·subst wV;simp[iT];exact h
  ·subst wV;simp[iT];exact Fr.refl _ _
 cases hS with
 |cJ _ _ h=>cases h
 |ku _ _ _ _ _ h=>rw[ho]at h;simp at h
 |lL _ _ h hb=>exact zero none 0 rfl rfl
 |mo _ _ _ b x bo gD h hb hl=>exact zero _ 0 rfl rfl
 |ref _ _ _ _ b o cap cap' gD h' hb hl hc jC =>
  rw[ho]at h';simp at h';subst h';rcases pU len with wV|hp
  ·exact zero _ _ wV rfl
  obtain⟨_,cr,bK⟩:=h.dz id _ ho;rcases bK with⟨h1,_⟩|⟨b',o',Db,cur,tt,h1,h2,h3,h4,h5,h6⟩
  ·rw[hb]at h1;simp at h1
  rw[hb]at h1;simp at h1;obtain⟨rfl,rfl,rfl⟩:=h1
  let g:Nat->Value:=λi=>zv.cells[i%zv.cells.size]!
  let news:=(aY (len*sz)).map g
  have yb:(Builtin.zeroCells zv.cells len).toList=news:=by
   simp[Builtin.zeroCells,news,g,KF]
  have ao:news.length=len*sz:=by simp[news]
  have Ru:∀ i,i<sz->∃ u,z[i]?=some u/\zv.cells[i]! = u:=by
   intro i aq;have:i<zv.cells.size:=CZ;refine⟨zv.cells[i],?_,?_⟩
   ·rw[<- jo];simp[this]
   ·simp[this]
  have qu:∀ u∈news,u.oneCell'=true:=by
   intro u hu;obtain⟨j,hj⟩:=OQ.1 hu;obtain⟨gF,rfl⟩:=Br hj;obtain⟨u,k1,k2⟩:=Ru (j%sz) (u3 _ h0);show(zv.cells[j%zv.cells.size]!).oneCell'=true;rw[KF,k2];rw[e8]at wS;exact wS _ (ik k1)
  have pj:(off+len)*sz<=cap*sz:=lh _ CZ;rw[eT]at pj;have dh:=run_storeCells_at P b (o+off*sz) tt news 0 cur γ.w h2 (by rw[ao];omega) qu;simp only[il]at dh;have eG:(Builtin.clear_ #[t] oty #[.slice (some ⟨b,o+off*sz,none⟩) len cap']).run P γ.w=.ok (.tuple #[]) (γ.w.setRow b (cur.toList.take (o+off*sz)++news++cur.toList.drop (o+off*sz+news.length)).toArray):=by
   obtain⟨anq,rfl⟩:∃k,len=k+1:=⟨len-1,CZ⟩;simp[Builtin.clear_,run_underlying ht,zeroValue,typeInfo,hi,zy,yb,dh]
  have KE:sJ σ.aa γ.w γ.Z γ.blk o cap (cur.toList.take (o+off*sz)++news++cur.toList.drop (o+off*sz+news.length)).toArray (.arr sz (rows.take off++aI len (z.map AV.lit)++rows.drop (off+len))):=by
   refine⟨h0,?_,?_,?_,h5,?_⟩
   ·intro row bR;simp only[da]at bR;rcases bR with(hr|hr)|hr
    ·exact cr row (qY hr)
    ·rw[Ft hr,eu];exact mU
    ·exact cr row (AT hr)
   ·simp only[CP,bI,fZ,yW,tH,ao];omega
   ·simp;omega
   ·intro r cc v hv;rw[Dt cur _ news (by rw[ao];omega),ao];have ba:cc<sz:=by
     simp only[cellAt,AR]at hv;obtain⟨y,hy,qq⟩:=hv;have hm:=ik hy;have:=(aT.1 qq).1;simp only[da]at hm;rcases hm with(hr|hr)|hr
     ·have:=cr y (qY hr);omega
     ·have Gl:=Ft hr;rw[Gl,eu]at this;omega
     ·have:=cr y (AT hr);omega
    rcases dw r off with k1|k1
    ·have e:cellAt (rows.take off++aI len (z.map AV.lit)++rows.drop (off+len)) r cc=cellAt rows r cc:=by
      simp only[cellAt,bw];rw[er Jo,uY,if_pos k1]
     rw[e]at hv;have hm:(r+1)*sz<=off*sz:=lh _ CZ;rw[eT]at hm;rw[if_neg CZ];exact h6 r cc v hv
    ·rcases dw r (off+len) with k2|k2
     ·have e:cellAt (rows.take off++aI len (z.map AV.lit)++rows.drop (off+len)) r cc=(z.map AV.lit)[cc]?:=by
       simp only[cellAt,bw];rw[gN Jo,er Jo,List.getElem?_replicate,if_pos Jo];rfl
      rw[e,bY]at hv;obtain⟨u,k3,k4⟩:=Ru cc ba;rw[k3]at hv;simp only[im,cy.injEq]at hv;subst hv;have e1:r=off+(r-off):=CZ;have e2:r*sz=off*sz+(r-off)*sz:=by rw[<- eT,<- e1]
      have hm:(r-off+1)*sz<=len*sz:=lh _ CZ;rw[eT]at hm;rw[if_pos CZ];have e3:o+(r*sz+cc)-(o+off*sz)=(r-off)*sz+cc:=CZ;rw[e3];have hl:(r-off)*sz+cc<len*sz:=CZ;have e4:news.getD ((r-off)*sz+cc) Go.undef=u:=by
       simp only[news,az];rw[bY,List.getElem?_range hl];show zv.cells[((r-off)*sz+cc)%zv.cells.size]! = u;rw[KF,pT,OX,CV ba,k4]
      first
       | (rw[e4];exact .lit _)
       | (simp only[az]at e4 ⊢;rw[e4];exact .lit _)
     ·have e:cellAt (rows.take off++aI len (z.map AV.lit)++rows.drop (off+len)) r cc=cellAt rows r cc:=by
       simp only[cellAt];rw[gN Jo,nM];congr 2;simp;omega
      rw[e]at hv;have hm:(off+len)*sz<=r*sz:=lh _ k2;rw[eT]at hm;rw[if_neg CZ];exact h6 r cc v hv
  refine⟨_,eG,?_,?_⟩
  ·exact h.write ho Fl (by simp[Ob.dO];omega) hb (setRow_heap γ.w b cur _ tt _ h2) (λk hk=>setRow_other γ.w b k _ hk) (setRow_size _ _ _) KE
  ·exact Fr.write _ ho Fl (by simp[Ob.dO];omega) hb (λk hk=>setRow_other γ.w b k _ hk) (setRow_size _ _ _) rfl rfl rfl
end Go.Am
namespace Go.Am
variable {P:Program}
def afb(l:List Value):∀ (j off:Nat) (cells:Array Value),off+j+l.length<=cells.size ->
  ((l.zipIdx j).foldl (λcs (x:Value×Nat)=>cs.setIfInBounds (off+x.2) x.1) cells).size=cells.size /\
  ∀ k,((l.zipIdx j).foldl (λcs (x:Value×Nat)=>cs.setIfInBounds (off+x.2) x.1) cells).getD k Go.undef=if off+j<=k/\k<off+j+l.length then l.getD (k-(off+j)) Go.undef else cells.getD k Go.undef:=by
 induction l with
 |nil=>intro j off cells _;simp;intro k h1 h2;omega
 |cons v l ih =>
  intro j off cells hl;simp only[cV]at hl;simp only[List.zipIdx_cons,List.foldl_cons];obtain⟨h1,h2⟩:=ih (j+1) off (cells.setIfInBounds (off+j) v) Jo;refine⟨by rw[h1];simp,λk=>?_⟩;rw[h2 k];simp only[cV];by_cases c1:off+(j+1)<=k/\k<off+(j+1)+l.length
  ·rw[if_pos c1,if_pos CZ];have:k-(off+j)=(k-(off+(j+1)))+1:=CZ;rw[this];simp
  ·rw[if_neg c1];by_cases c2:k=off+j
   ·subst c2;rw[if_pos CZ];simp[ep,show off+j<cells.size by omega]
   ·rw[if_neg CZ];simp[ep,Array.getElem?_setIfInBounds_ne (Ne.symm c2)]
def afc(v:Value)(off:Nat)(cells:Array Value):
  (v.cells.zipIdx.foldl (λcs (c,j)=>cs.setIfInBounds (off+j) c) cells)=((v.cells.toList.zipIdx 0).foldl (λcs (x:Value×Nat)=>cs.setIfInBounds (off+x.2) x.1) cells):=by
 rw[<- Array.foldl_toList];simp
def Dy(R:AV->Value->Prop)(cs:List AV)(cur:Array Value):Prop:=cur.size=cs.length/\∀ j x,cs[j]?=some x->R x (cur.getD j Go.undef)
def Ga{σ:St}{γ:Cx}{place:Nat->Option (Nat×Nat)}:∀ (parts:List (Nat×AV)) (pv:List (Nat×Value)) (cs:List AV) (cur:Array Value) (q9:List AV),
  parts.length=pv.length->(∀ (j:Nat) (p:Nat×AV) (q:Nat×Value),parts[j]?=some p->pv[j]?=some q->p.1=q.1/\aw σ.aa γ.w γ.Z γ.blk p.2 q.2)->(∀ p∈parts,(cellsOf p.2).all cQ=true) ->
  Dy (aw σ.aa γ.w γ.Z γ.blk) cs cur->mh place cs parts=some q9->∃ kP,Instr.fill place cur pv=some kP/\Dy (aw σ.aa γ.w γ.Z γ.blk) q9 kP
 |[],pv,cs,cur,q9,hl,_,_,hc,h=>by
  have:pv=[]:=AS hl.symm;subst this;simp[mh]at h;subst h;exact⟨cur,by simp[Instr.fill],hc⟩
 | (i,v)::rest,[],cs,cur,q9,hl,_,_,_,_=>by simp at hl
 | (i,v)::rest,(i',x)::pv,cs,cur,q9,hl,hr,hs,hc,h=>by
  obtain⟨e1,e2⟩:=hr 0 (i,v) (i',x) rfl rfl;simp only at e1 e2;subst e1;simp only[mh]at h;cases hp:place i with
  |none=>simp[hp]at h
  |some os =>
   obtain⟨off,size⟩:=os;simp only[hp]at h;split at h
   ·rename_i afd;obtain⟨h1,h2⟩:=afd;obtain⟨g1,g2,g3⟩:=Kn e2 (hs (i,v) Fl);have aO:x.cells.size=size:=by rw[g1,h1]
    obtain⟨jD,vt⟩:=hc;have pj:off+0+x.cells.toList.length<=cur.size:=by simp[aO,jD];omega
    obtain⟨f1,f2⟩:=afb x.cells.toList 0 off cur pj;have zE:Dy (aw σ.aa γ.w γ.Z γ.blk) (setCells cs off (cellsOf v)) (x.cells.zipIdx.foldl (λcs (c,j)=>cs.setIfInBounds (off+j) c) cur):=by
     rw[afc];refine⟨by rw[f1,Kr];exact jD,λj y hj=>?_⟩;rw[Ro _ _ _ (by rw[h1];exact h2)]at hj;rw[f2 j];simp only[il,tH,aO];rw[h1]at hj;by_cases dP:off<=j/\j<off+size
     ·rw[if_pos dP]at hj;rw[if_pos dP];have:=g2 _ _ hj;simpa [az,ep] using this
     ·rw[if_neg dP]at hj;rw[if_neg dP];exact vt j y hj
    obtain⟨kP,k1,k2⟩:=Ga rest pv _ _ q9 (by simpa using hl) (λj p q hp hq=>hr (j+1) p q (by simpa using hp) (by simpa using hq)) (λp hp=>hs p (by simp[hp])) zE h;refine⟨kP,?_,k2⟩;simp only[Instr.fill,hp];rw[if_neg ?_]
    ·exact k1
    ·simp[aO,jD];omega
   ·simp at h
def Km{os:List Ob}{w:World}{Z:Nat->Prop}{blk:gd}(z:List Value):Dy (aw os w Z blk) (z.map .lit) z.toArray:=by
 refine⟨Fl,λj x hx=>?_⟩;simp only[bY]at hx;cases hj:z[j]? with
 |none=>simp[hj]at hx
 |some y =>
  simp[hj]at hx;subst hx;simp[ep,hj];exact .lit y
def Ko{σ:St}{γ:Cx}(h:bk σ γ){a:Act}(ha:γ.tmps=a.tmps)(parts:Array (Nat×Operand)):
  (parts.toList.map λp=>(p.1,ev σ p.2)).length=(parts.map λ(i,x)=>(i,a.eval x)).toList.length /\
  ∀ (j:Nat) (p:Nat×AV) (q:Nat×Value),(parts.toList.map λp=>(p.1,ev σ p.2))[j]?=some p->(parts.map λ(i,x)=>(i,a.eval x)).toList[j]?=some q->p.1=q.1/\aw σ.aa γ.w γ.Z γ.blk p.2 q.2:=by
 refine⟨Fl,λj p q hp hq=>?_⟩;simp only[Array.toList_map,bY]at hp hq;cases hj:parts.toList[j]? with
 |none=>simp[hj]at hp
 |some y =>
  simp only[hj,im,cy.injEq]at hp hq;subst hp;subst hq;exact⟨rfl,sF h ha y.2⟩
def aeL{σ:St}{γ:Cx}(h:bk σ γ){a:Act}(ha:γ.tmps=a.tmps){t:TypeId}{parts:Array (Nat×Operand)}{z:List Value}(hk:(ty P t).kind=3)(hz:(ty P t).zero=some z){cs:List AV}(hf:mh (λi=>((ty P t).aN[i]?).map λf=>(f.1,f.2.2)) (z.map .lit) (parts.toList.map λp=>(p.1,ev σ p.2))=some cs)(hs:(parts.toList.all λp=>(cellsOf (ev σ p.2)).all cQ)=true)(hp:((ty P t).aN.all λf=>decide (0<f.2.2))=true):
  ∃ cur,(Instr.build t (parts.map λ(i,x)=>(i,a.eval x))).run P γ.w=.ok (.agg cur) γ.w/\aw σ.aa γ.w γ.Z γ.blk (.agg cs) (.agg cur):=by
 obtain⟨it,d,hi,hd,_,_,hzero⟩:=ui (P:=P) (t:=t) (by rw[hk];simp);obtain⟨fs,hu,iL⟩:=Kw hk;rw[hzero]at hz;cases hv:it.zero with
 |none=>simp[hv]at hz
 |some zv =>
  simp[hv]at hz;have jo:z.toArray=zv.cells:=by rw[<- hz]
  obtain⟨hl,hr⟩:=Ko h ha parts;obtain⟨cur,h1,h2⟩:=Ga (σ:=σ) (γ:=γ) _ _ _ _ cs hl hr (λp hp=>by
   simp only[b6]at hp;obtain⟨q,hq,rfl⟩:=hp;rw[e8]at hs;exact hs q hq) (Km z) hf
  refine⟨cur,run_build γ.w t _ cur ?_,.agg _ _ h2.1 h2.2⟩;unfold Program.built;rw[hi,hu];simp only[hv];have afe:∀ (l:List Field),(∀ f∈l,0<wR P f.type)->l.mapM (λf=>(P.info? f.type).map λi=>(f.offset,i.size))=some (l.map λf=>(f.offset,wR P f.type)):=by
   intro l
   induction l with
   |nil=>intro _;simp
   |cons f l ih =>
    intro hl;have h0:=hl f Fl;unfold wR at h0;cases KG:P.info? f.type with
    |none=>simp[KG]at h0
    |some i =>
     simp only[List.mapM_cons,KG,im,ih (λg hg=>hl g (by simp[hg]))];simp[wR,KG]
  rw[afe fs.toList (by
   intro f eV;rw[iL]at hp;simp only[List.all_map,e8]at hp;have:=hp f eV;simpa using this)]
  simp only;rw[<- jo];have:(λ(x:Nat)=>((fs.toList.map λf=>(f.offset,wR P f.type)).toArray[x]?))=(λ(i:Nat)=>((ty P t).aN[i]?).map λ(f:Nat×Nat×Nat)=>(f.1,f.2.2)):=by
   funext i;rw[iL];simp;cases fs[i]?<;>simp
  rw[this];exact h1
def aeM{σ:St}{γ:Cx}(h:bk σ γ){a:Act}(ha:γ.tmps=a.tmps){t:TypeId}{parts:Array (Nat×Operand)}{z:List Value}(hk:(ty P t).kind=2)(hz:(ty P t).zero=some z){cs:List AV}(hf:mh (λi=>some (i*(ty P (ty P t).elem).size,(ty P (ty P t).elem).size)) (z.map .lit) (parts.toList.map λp=>(p.1,ev σ p.2))=some cs)(hs:(parts.toList.all λp=>(cellsOf (ev σ p.2)).all cQ)=true)(c7:(ty P (ty P t).elem).kind≠99):
  ∃ cur,(Instr.build t (parts.map λ(i,x)=>(i,a.eval x))).run P γ.w=.ok (.agg cur) γ.w/\aw σ.aa γ.w γ.Z γ.blk (.agg cs) (.agg cur):=by
 obtain⟨it,d,hi,hd,_,_,hzero⟩:=ui (P:=P) (t:=t) (by rw[hk];simp);have hu:=Kz hk;obtain⟨ie,de,hie,_,uh,_,_⟩:=ui c7;rw[hzero]at hz;cases hv:it.zero with
 |none=>simp[hv]at hz
 |some zv =>
  simp[hv]at hz;have jo:z.toArray=zv.cells:=by rw[<- hz]
  obtain⟨hl,hr⟩:=Ko h ha parts;obtain⟨cur,h1,h2⟩:=Ga (σ:=σ) (γ:=γ) _ _ _ _ cs hl hr (λp hp=>by
   simp only[b6]at hp;obtain⟨q,hq,rfl⟩:=hp;rw[e8]at hs;exact hs q hq) (Km z) hf
  refine⟨cur,run_build γ.w t _ cur ?_,.agg _ _ h2.1 h2.2⟩;unfold Program.built;rw[hi,hu];simp only[hv,hie];rw[<- jo,<- uh];exact h1
def Ks(sz:Nat):∀ (n:Nat) (cs:List AV),(mj sz n cs).length=n
 |0,_=>rfl
 |n+1,cs=>by simp[mj,Ks sz n]
def Rj(sz:Nat):∀ (n:Nat) (cs:List AV),n*sz<=cs.length->∀ row∈mj sz n cs,row.length=sz
 |0,_,_,row,h=>by simp[mj]at h
 |n+1,cs,hl,row,h=>by
  rw[eT]at hl;simp only[mj,List.mem_cons]at h;rcases h with rfl|h
  ·simp;omega
  ·exact Rj sz n (cs.drop sz) Jo row h
def Rk(sz:Nat):∀ (n:Nat) (cs:List AV) (r c:Nat) (v:AV),cellAt (mj sz n cs) r c=some v->cs[r*sz+c]?=some v
 |0,_,r,c,v,h=>by simp[mj,cellAt]at h
 |n+1,cs,0,c,v,h=>by
  simp only[mj,cellAt,List.getElem?_cons_zero,Option.bind_some,uY]at h;split at h
  ·simpa using h
  ·simp at h
 |n+1,cs,r+1,c,v,h=>by
  have h':cellAt (mj sz n (cs.drop sz)) r c=some v:=by simpa [mj,cellAt] using h
  have:=Rk sz n (cs.drop sz) r c v h';rw[nM]at this;rw[eT];have e:r*sz+1*sz+c=sz+(r*sz+c):=CZ;rw[e];exact this
def Kq{os:List Ob}{w:World}{Z:Nat->Prop}{blk:gd}(z:List Value)(n m:Nat)(hm:m=n*z.length)(hz:0<z.length):
  Dy (aw os w Z blk) ((aY n).flatMap λ_=>z.map .lit) ((Array.range m).map (z.toArray[· % z.toArray.size]!)):=by
 subst hm;have hlen:((aY n).flatMap λ_=>z.map AV.lit).length=n*z.length:=by
  induction n with
  |zero=>simp
  |succ n ih=>rw[tM,tN,bI,ih];simp[eT]
 refine⟨by simp[hlen],λj x hx=>?_⟩;have hj:j<n*z.length:=by rw[<- hlen];exact(aT.1 hx).1
 have key:∀ (n j:Nat),j<n*z.length->((aY n).flatMap λ_=>z.map AV.lit)[j]?=some (.lit (z[j%z.length]'(u3 _ hz))):=by
  intro n
  induction n with
  |zero=>intro j hj;simp at hj
  |succ n ih =>
   intro j hj;have lq:((aY n).flatMap λ_=>z.map AV.lit).length=n*z.length:=by
    clear ih hj hx hlen
    induction n with
    |zero=>simp
    |succ n ih=>rw[tM,tN,bI,ih];simp[eT]
   rw[tM,tN];by_cases Rv:j<n*z.length
   ·rw[er (by rw[lq];exact Rv)];exact ih j Rv
   ·rw[gN (by rw[lq];omega),lq];rw[eT]at hj;have ba:j-n*z.length<z.length:=CZ;have Bv:j%z.length=j-n*z.length:=by
     have:j=(j-n*z.length)+n*z.length:=CZ;rw[this,Nat.add_mul_mod_self_right,CV ba];omega
    simp[ba,Bv]
 rw[key n j hj]at hx;simp at hx;subst hx;have hm:j%z.length<z.length:=u3 _ hz;simp[ep,hj,hm];exact .lit _
end Go.Am

