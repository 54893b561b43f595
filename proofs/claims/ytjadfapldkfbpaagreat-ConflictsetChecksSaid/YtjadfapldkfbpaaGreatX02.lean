import Derived.Test.YtjadfapldkfbpaaGreatX01
set_option linter.all false
set_option maxHeartbeats 0
set_option maxRecDepth 20000
open List renaming getElem?_map→b6,mem_of_getElem?→gY,getElem?_eq_some_iff→aY,getElem?_set→cm,range→aZ,length_cons→eu,all_eq_true→gV,getElem?_take→vS,getElem?_drop→oL,getElem?_toArray→Kn,getD_eq_getElem?_getD→aG,append_assoc→cY,getElem?_append_left→dg,getElem?_append_right→fO,getElem_mem→xl,mem_of_mem_drop→vT,mem_of_mem_take→sG,eq_nil_of_length_eq_zero→sF,mem_iff_getElem?→PQ,mem_append→cz,size_toArray→DI,length_map→eO,length_nil→k8,length_append→bQ,length_take→fy,length_drop→xq,ext_getElem?→jR,replicate→bG,eq_of_mem_replicate→BU,mem_map→cC,range_succ→xu,flatMap_append→rn
open Option renaming map_eq_some_iff→yK,bind_eq_some_iff→yM,map_some→fE,some→dD
open Array renaming getD_eq_getD_getElem?→fU,length_toList→vN
open Nat renaming mul_le_mul_right→nm,add_mul→gj,add_assoc→xw,add_zero→iY,ne_of_lt→oO,lt_or_ge→fN,mul_comm→uJ,mod_lt→z7,div_add_mod→PU,mod_eq_of_lt→Kr,eq_zero_or_pos→n7,zero_add→gf
namespace Go.Am
variable {P:Program}
def Ax(o:Oper)(σ:St)(γ:Cx)(a:Act)(K:St->Prop)(r:Result Next):Prop :=
 ∃ n x w' σ' aP,r=.ok n w'/\(n=.value x\/(n=.skip/\x=Go.undef))/\K σ'/\bC σ' aP/\Fr σ.aa γ σ'.aa aP/\aP.w=w'/\aP.tmps=(a.put o.dst x).tmps
def aA.lit{os:List Ob}{w:World}{Z:Nat->Prop}{blk:ij}(v:Value):aA os w Z blk (.lit v) v:=.cp _ _ (.lit v)
def aA.dm{os:List Ob}{w:World}{Z:Nat->Prop}{blk:ij}{v cv:Value}(h:aA os w Z blk (.lit v) cv):cv=v:=by
 cases h with
 |cp _ _ h=>cases h;rfl
def aA.Aq{os:List Ob}{w:World}{Z:Nat->Prop}{blk:ij}{sz:Nat}{rows:List (List AV)}{cv:Value}(h:aA os w Z blk (.tree sz rows) cv):gk w Z (.tree sz rows) cv:=by
 cases h with
 |cp _ _ h=>exact h
def aA.fc{os:List Ob}{w:World}{Z:Nat->Prop}{blk:ij}(v:Value):aA os w Z blk (fc v) v:=by
 unfold Am.fc;split
 ·rename_i cs;refine .agg _ _ G9 (λj x hx=>?_);simp only[b6,Array.getElem?_toList]at hx;cases hj:cs[j]? with
  |none=>simp[hj]at hx
  |some y =>
   simp[hj]at hx;subst hx;simp[hj];exact .lit y
 ·exact .lit v
def tK{σ:St}{γ:Cx}(h:bC σ γ){a:Act}(ha:γ.tmps=a.tmps)(x:Operand):aA σ.aa γ.w γ.Z γ.blk (ev σ x) (a.eval x):=by
 cases x with
 |tmp t=>have:=h.au t;rw[ha]at this;exact this
 |const v=>exact .fc v
 |global g=>exact h.gl g
 |func f=>exact .fn f [] #[] rfl (λj x hx=>by simp at hx)
def HU{os:List Ob}{w:World}{Z:Nat->Prop}{blk:ij}{v:AV}{cv:Value}(h:aA os w Z blk v cv)(hs:cJ v=true):cv.oneCell'=true:=by
 cases h with
 |undef cv=>simp[cJ]at hs
 |cp v cv h=>cases h<;>first|rfl|(simpa [cJ] using hs)
 |bm=>rfl
 |lV id sz off len cv h h1=>exact h1
 |od id r c cv h h1=>exact h1
 |ref=>rfl
 |nA=>rfl
 |oe=>rfl
 |oS=>rfl
 |pM=>rfl
 |agg=>simp[cJ]at hs
 |bH=>simp[cJ]at hs
 |fn=>rfl
 |ja=>rfl
 |g6=>rfl
 |rG id cv h h1=>exact h1
def sJ{σ:St}{γ:Cx}(h:bC σ γ){a:Act}(ha:γ.tmps=a.tmps){dst:Option Tmp}(hd:∀ d,dst=some d->d<a.tmps.size){v:AV}{cv:Value}(hv:aA σ.aa γ.w γ.Z γ.blk v cv):bC (σ.put dst v) { γ with tmps:=(a.put dst cv).tmps }:=by
 cases dst with
 |none =>
  have:({ γ with tmps:=(a.put none cv).tmps }:Cx)=γ:=by cases γ;simp_all [Act.put]
  rw[this];exact h
 |some d =>
  have:=h.put d (by rw[ha];exact hd d rfl) hv;rw[ha]at this;exact this
def rB(σ:St)(dst:Option Tmp)(v:AV):(σ.put dst v).aa=σ.aa:=by cases dst<;>rfl
def dW{o:Oper}{σ:St}{γ:Cx}{a:Act}{K:St->Prop}(h:bC σ γ)(ha:γ.tmps=a.tmps)(hd:∀ d,o.dst=some d->d<a.tmps.size){v:AV}{cv:Value}(hv:aA σ.aa γ.w γ.Z γ.blk v cv)(hK:K (σ.put o.dst v)){r:Result Next}(hr:r=.ok (.value cv) γ.w):Ax o σ γ a K r :=
 ⟨.value cv,cv,γ.w,σ.put o.dst v,{ γ with tmps:=(a.put o.dst cv).tmps },hr,.inl rfl,hK,sJ h ha hd hv,by rw[rB];exact(Fr.refl _ _).put _,rfl,rfl⟩
def Ch{o:Oper}{σ σ1:St}{γ γ1:Cx}{a:Act}{K:St->Prop}(hf:Fr σ.aa γ σ1.aa γ1)(h:bC σ1 γ1)(ha:γ1.tmps=a.tmps)(hd:∀ d,o.dst=some d->d<a.tmps.size){v:AV}{cv:Value}(hv:aA σ1.aa γ1.w γ1.Z γ1.blk v cv)(hK:K (σ1.put o.dst v)){r:Result Next}(hr:r=.ok (.value cv) γ1.w):Ax o σ γ a K r :=
 ⟨.value cv,cv,γ1.w,σ1.put o.dst v,{ γ1 with tmps:=(a.put o.dst cv).tmps },hr,.inl rfl,hK,sJ h ha hd hv,by rw[rB];exact hf.put _,rfl,rfl⟩
def LI{o:Oper}{σ σ1:St}{γ γ1:Cx}{a:Act}{K:St->Prop}(hf:Fr σ.aa γ σ1.aa γ1)(h:bC σ1 γ1)(ha:γ1.tmps=a.tmps)(hd:∀ d,o.dst=some d->d<a.tmps.size)(hK:K (σ1.put o.dst .undef)){r:Result Next}(hr:r=.ok .skip γ1.w):Ax o σ γ a K r :=
 ⟨.skip,Go.undef,γ1.w,σ1.put o.dst .undef,{ γ1 with tmps:=(a.put o.dst Go.undef).tmps },hr,.inr ⟨rfl,rfl⟩,hK,sJ h ha hd (.undef _),by rw[rB];exact hf.put _,rfl,rfl⟩
def y6{k:IntKind}{n:Int}(h:k.min<=n/\n<=k.max):k.wrap n=n:=by
 cases k<;>simp[IntKind.min,IntKind.max,IntKind.signed,IntKind.bits]at h<;>simp[IntKind.wrap,IntKind.signed,IntKind.bits]<;>omega
def aeN{op:BinOp}{k:IntKind}{x y:Int}{K:Value->Prop}(h:iC op k x y K)(t:TypeId)(w:World):
  ∃ v,(binOp op t (.int k x) (.int k y)).run P w=.ok v w/\K v:=by
 cases op<;>simp only[iC]at h
 case add=>exact⟨_,by simp[binOp,Op.intArith,y6 h.1],h.2⟩
 case sub=>exact⟨_,by simp[binOp,Op.intArith,y6 h.1],h.2⟩
 case mul =>
  unfold wi at h;split at h
  ·exact⟨_,by simp[binOp,Op.intArith],h⟩
  ·exact⟨_,by simp[binOp,Op.intArith,y6 h.1],h.2⟩
 case quo =>
  refine⟨_,?_,h.2⟩;obtain⟨h0,hb,hm⟩:=h.1;have hq:x.tdiv y=x/y:=Int.tdiv_eq_ediv_of_nonneg h0;have hle:x/y<=x:=Int.ediv_le_self _ h0;have og:0<=x/y:=Int.ediv_nonneg h0 G3;have hw:k.wrap (x/y)=x/y:=y6 ⟨by cases k<;>simp[IntKind.min,IntKind.signed,IntKind.bits]<;>omega,G3⟩;have ew:¬ y=0:=G3;simp[binOp,Op.intDiv,ew,hq,hw]
 case rem=>exact⟨_,by simp[binOp,Op.intDiv,h.1],h.2⟩
 case and =>
  exact⟨_,by simp[binOp,Op.intBits,Ck],h⟩
 case shr =>
  refine⟨_,?_,h.2⟩;obtain⟨h0,h1⟩:=h.1;have:¬ y<0:=G3;have e:(2:Int)^y.toNat=((2^y.toNat:Nat):Int):=G9;simp[binOp,Op.shift,this,Nat.min_eq_left h1];exact Int.fdiv_eq_ediv_of_nonneg _ (by rw[e];exact Int.natCast_nonneg _)
 case eql=>exact⟨_,by simp[binOp,Op.intCmp],h⟩
 case neq=>exact⟨_,by simp[binOp,Op.intCmp],h⟩
 case lss=>exact⟨_,by simp[binOp,Op.intCmp],h⟩
 case leq=>exact⟨_,by simp[binOp,Op.intCmp],h⟩
 case gtr=>exact⟨_,by simp[binOp,Op.intCmp],h⟩
 case geq=>exact⟨_,by simp[binOp,Op.intCmp],h⟩
def R4:∀ {cs:List AV} {as:List Int},qm cs=some as->cs=as.map λa=>aaa a
 |[],as,h=>by simp[qm]at h;subst h;rfl
 |c::cs,as,h=>by
  unfold qm at h;split at h
  ·rename_i e;simp at e
  ·rename_i a r e;simp only[List.cons.injEq]at e;obtain⟨rfl,rfl⟩:=e;simp only[yK]at h;obtain⟨as',h,rfl⟩:=h;rw[R4 h];rfl
  ·simp at h
def Ly{os:List Ob}{w:World}{Z:Nat->Prop}{blk:ij}{cs:List AV}{as:List Int}{cv:Value}(h:aA os w Z blk (.agg cs) cv)(hi:qm cs=some as):cv=.agg (as.map (Value.int .i64)).toArray:=by
 have:=R4 hi;subst this;cases h with
 |cp _ _ h=>cases h
 |agg _ bz hs h =>
  congr 1;refine Array.ext (by simpa using hs) (λj h1 h2=>?_);have hj:j<as.length:=by simpa using h2
  have:=(h j (aaa as[j]) (by simp[hj])).dm;rw[fU,Array.getElem?_eq_getElem h1]at this;simpa using this
end Go.Am
namespace Go.Am
variable {P:Program}
def LL{t:TypeId}(h:(ty P t).kind≠99)(w:World):(isAgg t).run P w=.ok (ty P t).isAgg w:=by
 obtain⟨i,d,hi,hd,_⟩:=tA h;simp only[isAgg,Sem.run_bind,run_underlying hd,Result.andThen_ok];have:ty P t=ty P t:=rfl;cases d<;>simp[ty,hi,hd,Ty.isAgg]
def run_sizeOf{t:TypeId}(h:(ty P t).kind≠99)(w:World):(sizeOf t).run P w=.ok (ty P t).size w:=by
 obtain⟨i,d,hi,hd,hs,_⟩:=tA h;simp[sizeOf,typeInfo,hi,hs]
def RZ{t:TypeId}{z:List Value}(h:(ty P t).kind≠99)(hz:(ty P t).zero=some z)(w:World):∃v,(zeroValue t).run P w=.ok v w/\v.cells=z.toArray:=by
 obtain⟨i,d,hi,hd,_,_,h3⟩:=tA h;rw[h3]at hz;cases hv:i.zero with
 |none=>simp[hv]at hz
 |some v =>
  simp[hv]at hz;refine⟨v,by simp[zeroValue,typeInfo,hi,hv],?_⟩;rw[<- hz]
def HG{σ:St}{γ:Cx}(h:bC σ γ){id r c:Nat}{cv:Value}{row:List AV}(hv:aA σ.aa γ.w γ.Z γ.blk (.ptr id r c) cv)(bj:rowOf σ id r=some row):
  ∃ b base cap cur t o,cv=.pointer (some ⟨b,base+c,none⟩)/\γ.blk id=some (b,o,cap)/\γ.w.heap[b]?=some (.cells cur t (0,0))/\base+row.length<=cur.size /\
   (∀ j v,row[j]?=some v->aA σ.aa γ.w γ.Z γ.blk v (cur.getD (base+j) Go.undef))/\Live σ.aa id /\
   (∀ AD qA,AD.length=row.length->qA.size=cur.size->(∀ j v,AD[j]?=some v->aA σ.aa γ.w γ.Z γ.blk v (qA.getD (base+j) Go.undef))->(∀ k,(k<base\/base+row.length<=k)->qA.getD k Go.undef=cur.getD k Go.undef) ->
    ∃ ob ob',σ.aa[id]?=some ob/\ob≠.gone/\ob.fj ob'/\(pD σ id r AD) = { σ with aa:=σ.aa.set id ob' }/\uY σ.aa γ.w γ.Z γ.blk o cap qA ob'):=by
 unfold rowOf at bj;cases ho:σ.aa[id]? with
 |none=>simp[ho]at bj
 |some ob =>
  have a8:=h.fF id ob ho;cases ob with
  |gone=>simp[ho]at bj
  |mp ag L=>simp[ho]at bj
  |var cells =>
   simp only[ho]at bj;split at bj
   ·rename_i u6;subst u6;simp at bj;subst bj;obtain⟨b,cap,cur,t,h1,h2,h3,h4⟩:=a8;have bu:cv=.pointer (some ⟨b,c,none⟩):=by
     cases hv with
     |cp _ _ h=>cases h
     |od _ _ _ _ h=>rw[ho]at h;simp at h
     |oS _ _ b' cap' cells' h hb=>rw[h1]at hb;simp at hb;simp[hb.1]
     |pM _ _ _ sz b' o' cap' rows h hb=>rw[ho]at h;simp at h
    refine⟨b,0,cap,cur,t,0,by simpa using bu,h1,h2,G3,λj v hj=>by simpa using h4 j v hj,⟨_,ho,G9⟩,?_⟩;intro AD qA hl hs lq _;refine⟨.var cells,.var AD,rfl,G9,by simp[Ob.fj,hl],by simp[pD,ho],rfl,G3,λc v hc=>by simpa using lq c v hc⟩
   ·simp at bj
  |arr sz rows =>
   simp only[ho]at bj;obtain⟨bg,cZ,a8⟩:=a8;have anJ:row.length=sz:=cZ row (gY bj);have aeX:r<rows.length:=(aY.1 bj).1;rcases a8 with⟨_,he⟩|⟨b,o,cap,cur,t,h1,h2,h3,h4,h5,h6⟩
   ·subst he;simp at bj
   ·have bu:cv=.pointer (some ⟨b,o+(r*sz+c),none⟩):=by
     cases hv with
     |cp _ _ h=>cases h
     |od _ _ _ _ h=>rw[ho]at h;simp at h
     |oS _ _ b' cap' cells' h hb=>rw[ho]at h;simp at h
     |pM _ _ _ dL b' o' cap' iF h hb=>rw[ho]at h;simp at h;rw[h1]at hb;simp at hb;simp[hb.1,hb.2.1,h.1]
    have hmul:r*sz+sz<=cap*sz:=by
     have:(r+1)*sz<=cap*sz:=nm _ G3;rw[gj]at this;omega
    refine⟨b,o+r*sz,cap,cur,t,o,by rw[bu];simp[xw],h1,h2,G3,?_,⟨_,ho,G9⟩,?_⟩
    ·intro j v hj;have:=h6 r j v (by simp[cellAt,bj,hj]);simpa [xw] using this
    ·intro AD qA hl hs lq Ex;refine⟨.arr sz rows,.arr sz (rows.set r AD),rfl,G9,by simp[Ob.fj],by simp[pD,ho],bg,?_,G3,by simp[h4],h5,?_⟩
     ·intro x hx;rcases List.mem_or_eq_of_mem_set hx with hx|rfl
      ·exact cZ x hx
      ·omega
     ·intro r' c' v hc;by_cases cB:r=r'
      ·subst cB;simp only[cellAt,cm,if_true,aeX]at hc;simp at hc;have:=lq c' v hc;simpa [xw] using this
      ·simp only[cellAt,cm,if_neg cB]at hc;have hold:=h6 r' c' v hc;have iR:c'<sz:=by
        simp only[yM]at hc;obtain⟨x,hx,u7⟩:=hc;have:=cZ x (gY hx);have:=(aY.1 u7).1;omega
       rw[Ex _ ?_]
       ·exact hold
       ·rcases Nat.lt_or_gt_of_ne cB with bx|Ey
        ·right;have:(r+1)*sz<=r'*sz:=nm _ G3;rw[gj]at this;omega
        ·left;have:(r'+1)*sz<=r*sz:=nm _ G3;rw[gj]at this;omega
def Addr.sN(b o n:Nat):(⟨b,o,none⟩:Addr).add n=⟨b,o+n,none⟩:=by
 unfold Go.Addr.add;split<;>simp_all
def Cc{w:World}{b j:Nat}{cur:Array Value}{t:TypeId}{fr:Nat×Nat}(h:w.heap[b]?=some (.cells cur t fr))(hj:j<cur.size):w.cell? ⟨b,j,none⟩=some (cur.getD j Go.undef):=by
 simp[World.cell?,h,hj,fU]
def HV{w:World}{t:TypeId}(hk:(ty P t).kind≠99)(b o:Nat)(f:Nat->Value)(hc:∀ j,j<(if(ty P t).isAgg then(ty P t).size else 1)->w.cell? ⟨b,o+j,none⟩=some (f j)):
  (loadVar t ⟨b,o,none⟩).run P w=.ok (if(ty P t).isAgg then .agg ((aZ (ty P t).size).map f).toArray else f 0) w:=by
 simp only[loadVar,Sem.run_bind,LL hk,Result.andThen_ok];by_cases ha:(ty P t).isAgg=true
 ·simp only[ha,if_true,Sem.run_bind,run_sizeOf hk,Result.andThen_ok];rw[run_loadCells w ⟨b,o,none⟩ _ f (λj hj=>by rw[Addr.sN];exact hc j (by simpa [ha] using hj))];rfl
 ·have mW:=hc 0 (by simp[ha]);simp only[iY]at mW;simp[ha,mW]
end Go.Am
namespace Go.Am
variable {P:Program}
def LF(cs:List AV):∀ (row:List AV) (c:Nat),(setCells row c cs).length=row.length:=by
 induction cs with
 |nil=>intro row c;rfl
 |cons v vs ih=>intro row c;simp[setCells,ih]
def R5(cs:List AV):∀ (row:List AV) (c:Nat),c+cs.length<=row.length->∀ j,(setCells row c cs)[j]?=if c<=j/\j<c+cs.length then cs[j-c]? else row[j]?:=by
 induction cs with
 |nil=>intro row c _ j;simp[setCells];intro h1 h2;omega
 |cons v vs ih =>
  intro row c hl j;simp only[eu]at hl;simp only[setCells,eu];rw[ih (row.set c v) (c+1) PX j];by_cases h1:c+1<=j/\j<c+1+vs.length
  ·rw[if_pos h1,if_pos G3];have:j-c=(j-(c+1))+1:=G3;rw[this];simp
  ·rw[if_neg h1];by_cases h2:j=c
   ·subst h2;rw[if_pos G3];simp[show j<row.length by omega]
   ·rw[if_neg G3,List.getElem?_set_ne (Ne.symm h2)]
def LB{os:List Ob}{w:World}{Z:Nat->Prop}{blk:ij}{v:AV}{cv:Value}(h:aA os w Z blk v cv)(hs:(cellsOf v).all cJ=true):
  cv.cells.size=(cellsOf v).length/\(∀ j x,(cellsOf v)[j]?=some x->aA os w Z blk x (cv.cells.getD j Go.undef))/\∀ c∈cv.cells,c.oneCell'=true:=by
 by_cases lI :∃cs,v=.agg cs
 ·obtain⟨cs,rfl⟩:=lI;simp only[cellsOf]at hs ⊢;cases h with
  |cp _ _ h=>cases h
  |agg _ bz bg lq =>
   refine⟨bg,lq,?_⟩;intro c hc;simp only[Value.cells]at hc;obtain⟨j,hj,rfl⟩:=Array.mem_iff_getElem.1 hc;have hx:cs[j]?=some cs[j]:=by simp[<- bg,hj]
   have:=lq j _ hx;have hg:bz.getD j Go.undef=bz[j]:=by simp[fU,hj]
   rw[hg]at this;exact HU this (by rw[gV]at hs;exact hs _ (gY hx))
 ·have lr:cellsOf v=[v]:=by
   unfold cellsOf;split
   ·exact absurd ⟨_,rfl⟩ lI
   ·rfl
  rw[lr]at hs ⊢;simp at hs;have ho:=HU h hs;have aM:cv.cells = #[cv]:=by cases cv<;>first|rfl|simp[Value.oneCell']at ho
  rw[aM];refine⟨rfl,?_,by simp[ho]⟩;intro j x hx;cases j with
  |zero=>simp at hx;subst hx;simpa using h
  |succ j=>simp at hx
section
variable {o:Oper} {σ:St} {γ:Cx} {a:Act} {K:St->Prop}
def Ll(hs:bC σ γ){t:TypeId}(hk:(ty P t).kind≠99){id r c:Nat}{cv:Value}(hv:aA σ.aa γ.w γ.Z γ.blk (.ptr id r c) cv){row:List AV}(bj:rowOf σ id r=some row){K:AV->Prop}(h:nx (ty P t) row c K):
  ∃ v qy,(Instr.loadAt t cv).run P γ.w=.ok qy γ.w/\aA σ.aa γ.w γ.Z γ.blk v qy/\K v:=by
 obtain⟨b,base,cap,cur,tt,o,rfl,hb,lp,bg,lq,_,_⟩:=HG hs hv bj;unfold nx at h;simp only[Instr.loadAt,Instr.sureAddr,Sem.run_bind,Sem.run_pure,Result.andThen_ok];by_cases lI:(ty P t).isAgg=true
 ·rw[if_pos lI]at h;refine⟨_,_,HV hk b (base+c) (λj=>cur.getD (base+c+j) Go.undef) ?_,?_,h.2⟩
  ·intro j hj;rw[if_pos lI]at hj;exact Cc lp G3
  ·rw[if_pos lI];refine .agg _ _ PX (λj x hx=>?_);have hj:j<(ty P t).size:=by have:=(aY.1 hx).1;simp at this;omega
   rw[vS,if_pos hj,oL]at hx;have:=lq _ _ hx;simp[fU,hj];simpa [xw,fU] using this
 ·rw[if_neg lI]at h;cases hc:row[c]? with
  |none=>simp[hc]at h
  |some v =>
   simp only[hc]at h;have bY:=(aY.1 hc).1;refine⟨v,_,HV hk b (base+c) (λj=>cur.getD (base+c+j) Go.undef) ?_,?_,h⟩
   ·intro j hj;rw[if_neg lI]at hj;exact Cc lp G3
   ·rw[if_neg lI];exact lq _ _ hc
def aeL(_hs:bC σ γ){t:TypeId}(hk:(ty P t).kind≠99){cells:List AV}{cv:Value}(hv:aA σ.aa γ.w γ.Z γ.blk (.bm cells) cv){K:AV->Prop}(h:nx (ty P t) cells 0 K):
  ∃ v qy,(Instr.loadAt t cv).run P γ.w=.ok qy γ.w/\aA σ.aa γ.w γ.Z γ.blk v qy/\K v:=by
 cases hv with
 |cp _ _ h=>cases h
 |bm _ b o f hz hc ht =>
 unfold nx at h;simp only[Instr.loadAt,Instr.sureAddr,Sem.run_bind,Sem.run_pure,Result.andThen_ok];by_cases lI:(ty P t).isAgg=true
 ·rw[if_pos lI]at h;have hlen:(ty P t).size<=cells.length:=G3;refine⟨_,_,HV hk b o f ?_,?_,h.2⟩
  ·intro j hj;rw[if_pos lI]at hj;exact hc j cells[j] G9
  ·rw[if_pos lI];refine .agg _ _ PX (λj x hx=>?_);have hj:j<(ty P t).size:=by have:=(aY.1 hx).1;simp at this;omega
   rw[vS,if_pos hj,oL]at hx;simp at hx;simp[fU,hj];exact .cp _ _ (ht j x hx)
 ·rw[if_neg lI]at h;cases aM:cells[0]? with
  |none=>simp[aM]at h
  |some v =>
   simp only[aM]at h;refine⟨v,_,HV hk b o f ?_,?_,h⟩
   ·intro j hj;rw[if_neg lI]at hj;have:j=0:=G3;subst this;exact hc 0 v aM
   ·rw[if_neg lI];exact .cp _ _ (ht 0 v aM)
def Ez(cur:Array Value)(p:Nat)(vs:List Value)(hp:p+vs.length<=cur.size)(k:Nat):
  ((cur.toList.take p++vs++cur.toList.drop (p+vs.length)).toArray).getD k Go.undef=if p<=k/\k<p+vs.length then vs.getD (k-p) Go.undef else cur.getD k Go.undef:=by
 simp only[fU,Kn,aG];by_cases h1:k<p
 ·rw[if_neg G3,cY,dg PX,vS,if_pos h1];simp
 ·by_cases h2:k<p+vs.length
  ·rw[if_pos G3,dg PX,fO PX];simp;congr 3;omega
  ·rw[if_neg G3,fO PX];simp;congr 3;omega
def setRow_size(w:World)(g:Nat)(cs:Array Value):(w.setRow g cs).heap.size=w.heap.size:=by simp[World.setRow]
def aeM(hs:bC σ γ){t:TypeId}(hk:(ty P t).kind≠99){id r c:Nat}{cv xv:Value}(hv:aA σ.aa γ.w γ.Z γ.blk (.ptr id r c) cv){row:List AV}(bj:rowOf σ id r=some row){v:AV}(hx:aA σ.aa γ.w γ.Z γ.blk v xv)(h:(cellsOf v).length=(ty P t).size/\c+(ty P t).size<=row.length/\(cellsOf v).all cJ=true):
  ∃ w',(Instr.storeAt t cv xv).run P γ.w=.ok () w'/\bC (pD σ id r (setCells row c (cellsOf v))) { γ with w:=w' }/\Fr σ.aa γ (pD σ id r (setCells row c (cellsOf v))).aa { γ with w:=w' }:=by
 obtain⟨b,base,cap,cur,tt,o,rfl,hb,lp,bg,lq,qz,Cl⟩:=HG hs hv bj;obtain⟨h1,h2,h3⟩:=h;obtain⟨e1,e2,e3⟩:=LB hx h3;have hlen:xv.cells.toList.length=(ty P t).size:=by simp[e1,h1]
 have fP:(Instr.storeAt t (.pointer (some ⟨b,base+c,none⟩)) xv).run P γ.w=.ok () (γ.w.setRow b (cur.toList.take (base+c)++xv.cells.toList++cur.toList.drop (base+c+xv.cells.toList.length)).toArray):=by
  have dX:=run_storeCells_at P b (base+c) tt xv.cells.toList 0 cur γ.w lp (by rw[hlen];omega) (λx hx=>e3 x (by simpa using hx));simp only[iY]at dX;simp only[Instr.storeAt,Instr.sureAddr,Sem.run_bind,Sem.run_pure,Result.andThen_ok,storeVar,run_sizeOf hk];have:¬ (xv.cells.size≠(ty P t).size):=by rw[e1,h1];simp
  rw[if_neg this];simpa using dX
 obtain⟨ob,ob',g1,g2,g3,g4,g5⟩:=Cl (setCells row c (cellsOf v)) (cur.toList.take (base+c)++xv.cells.toList++cur.toList.drop (base+c+xv.cells.toList.length)).toArray
  (LF _ _ _) (by simp[hlen];omega) (by
   intro j x hj;rw[R5 _ _ _ (by rw[h1];exact h2)]at hj;rw[Ez cur (base+c) xv.cells.toList (by rw[hlen];omega),hlen];by_cases iV:c<=j/\j<c+(cellsOf v).length
   ·rw[if_pos iV]at hj;rw[if_pos G3];have:=e2 _ _ hj;have e:base+j-(base+c)=j-c:=G3;rw[e];simpa [aG,fU] using this
   ·rw[if_neg iV]at hj;rw[if_neg G3];exact lq j x hj) (by
   intro k aL;rw[Ez cur (base+c) xv.cells.toList (by rw[hlen];omega),hlen];rw[if_neg G3])
 refine⟨_,fP,?_,?_⟩
 ·rw[g4];exact hs.write g1 g2 g3 hb (setRow_heap γ.w b cur _ tt _ lp) (λk hk=>setRow_other γ.w b k _ hk) (setRow_size _ _ _) g5
 ·rw[g4];exact Fr.write ob' g1 g2 g3 hb (λk hk=>setRow_other γ.w b k _ hk) (setRow_size _ _ _) rfl rfl rfl
end
end Go.Am
namespace Go.Am
variable {P:Program}
def bC.Aw{σ:St}{γ:Cx}(h:bC σ γ){sz:Nat}(bg:0<sz):
  bC { σ with aa:=σ.aa++[.arr sz []] } { γ with blk:=dM γ.blk σ.aa.length none }:=by
 have hR:∀ v cv,aA σ.aa γ.w γ.Z γ.blk v cv->aA (σ.aa++[.arr sz []]) γ.w γ.Z (dM γ.blk σ.aa.length none) v cv:=λv cv hv =>
  hv.mono (λb hb=>⟨hb,rfl⟩) (λi o ho=>by
   have hi:i<σ.aa.length:=(aY.1 ho).1;have cy:(σ.aa++[.arr sz []])[i]?=some o:=by rw[dg hi];exact ho
   by_cases bE:o=.gone
   ·subst bE;exact .inl cy
   ·exact .inr ⟨by simp[dM,oO hi],o,cy,Ob.kK bE⟩)
 have c9:∀ i b,dM γ.blk σ.aa.length none i=some b->Live (σ.aa++[.arr sz []]) i->Live σ.aa i/\γ.blk i=some b:=by
  rintro i b hb⟨o,ho,bE⟩;simp only[dM]at hb;split at hb
  ·simp at hb
  ·rename_i ew;have hi:i<σ.aa.length:=by have:=(aY.1 ho).1;simp at this;omega
   rw[dg hi]at ho;exact⟨⟨o,ho,bE⟩,hb⟩
 refine⟨λk=>hR _ _ (h.au k),?_,?_,?_,h.jm,λg=>hR _ _ (h.gl g)⟩
 ·intro i o ho;rcases fN i σ.aa.length with hi|hi
  ·rw[dg hi]at ho;exact(h.fF i o ho).mono hR (by simp[dM,oO hi]) (λ_ _ _ _=>rfl)
  ·have hi':i=σ.aa.length:=by have:=(aY.1 ho).1;simp at this;omega
   subst hi';simp at ho;subst ho;exact⟨bg,G9,.inl ⟨by simp[dM],rfl⟩⟩
 ·intro i j b o c o' c' hi hj im iT;obtain⟨Cm,ow⟩:=c9 i _ im hi;obtain⟨qC,EA⟩:=c9 j _ iT hj;exact h.inj i j b o c o' c' Cm qC ow EA
 ·rintro b ⟨i,o,c,hi,hb⟩;obtain⟨Cm,ow⟩:=c9 i _ hb hi;exact h.nz b ⟨i,o,c,Cm,ow⟩
def Fr.Aw(os:List Ob)(γ:Cx)(sz:Nat):Fr os γ (os++[.arr sz []]) { γ with blk:=dM γ.blk os.length none } where
 nt:=rfl
 tape:=rfl
 output:=rfl
 size:=Nat.le_refl _
 aH:=λ_ _ _=>rfl
 z0:=λ_ h=>h
 z1:=λ_ h=>.inl h
 own:=by
  rintro b⟨i,o,c,⟨x,hx,ed⟩,hb⟩;simp only[dM]at hb;split at hb
  ·simp at hb
  ·have hi:i<os.length:=by have:=(aY.1 hx).1;simp at this;omega
   rw[dg hi]at hx;exact .inl ⟨i,o,c,⟨x,hx,ed⟩,hb⟩
 len:=G9
 lk:=by
  rintro i hi⟨x,hx,ed⟩;have hx0:=hx;rw[dg hi]at hx;exact⟨by simp[dM,oO hi],x,x,hx,hx0,Ob.kK ed⟩
def bC.EB{σ:St}{γ:Cx}(h:bC σ γ){id:Nat}{ob ob':Ob}(ho:σ.aa[id]?=some ob)(hg:ob≠.gone){b o cap o' cap':Nat}(hb:γ.blk id=some (b,o,cap)){w':World}{cur:Array Value}{t:TypeId}(hw:w'.heap[b]?=some (.cells cur t (0,0)))(pQ:∀ k,k≠b->w'.heap[k]?=γ.w.heap[k]?)(bg:w'.heap.size=γ.w.heap.size)(a8:uY σ.aa γ.w γ.Z γ.blk o' cap' cur ob'):
  bC { σ with aa:=σ.aa.set id .gone++[ob'] } { γ with w:=w',blk:=dM γ.blk σ.aa.length (some (b,o',cap')) }:=by
 have cT:id<σ.aa.length:=(aY.1 ho).1;have qz:Live σ.aa id:=⟨ob,ho,hg⟩;have hR:∀ v cv,aA σ.aa γ.w γ.Z γ.blk v cv->aA (σ.aa.set id .gone++[ob']) w' γ.Z (dM γ.blk σ.aa.length (some (b,o',cap'))) v cv:=λv cv hv =>
  hv.mono (λz hz=>⟨hz,pQ z (λe=>h.nz b ⟨id,o,cap,qz,hb⟩ (e▸hz))⟩) (λi x hx=>by
   have hi:i<σ.aa.length:=(aY.1 hx).1;rw[dg (by simpa using hi),cm];by_cases oo:id=i
   ·left;simp[oo,hi]
   ·rw[if_neg oo];by_cases bE:x=.gone
    ·subst bE;exact .inl hx
    ·exact .inr ⟨by simp[dM,oO hi],x,hx,Ob.kK bE⟩)
 have c9:∀ i,Live (σ.aa.set id .gone++[ob']) i->i=σ.aa.length\/(i<σ.aa.length/\i≠id/\Live σ.aa i):=by
  rintro i⟨x,hx,ed⟩;rcases fN i σ.aa.length with hi|hi
  ·right;rw[dg (by simpa using hi),cm]at hx;split at hx
   ·simp at hx;exact absurd hx.symm ed
   ·rename_i ew;exact⟨hi,Ne.symm ew,x,hx,ed⟩
  ·left;have:=(aY.1 hx).1;simp at this;omega
 refine⟨λk=>hR _ _ (h.au k),?_,?_,?_,λz hz=>by rw[bg];exact h.jm z hz,λg=>hR _ _ (h.gl g)⟩
 ·intro i x hx;rcases fN i σ.aa.length with hi|hi
  ·rw[dg (by simpa using hi),cm]at hx;split at hx
   ·simp at hx;subst hx;trivial
   ·rename_i ew;by_cases bE:x=.gone
    ·subst bE;trivial
    ·refine(h.fF i x hx).mono hR (by simp[dM,oO hi]) (λz y c hz=>pQ z (λe=>ew ?_));subst e;exact h.inj id i z o cap y c qz ⟨x,hx,bE⟩ hb hz
  ·have hi':i=σ.aa.length:=by have:=(aY.1 hx).1;simp at this;omega
   subst hi';rw[fO G9]at hx;simp at hx;subst hx;exact a8.LN (b:=b) (cap:=cap') hR (by simp[dM]) hw
 ·intro i j z y c y' c' hi hj im iT;simp only[dM]at im iT;rcases c9 i hi with rfl|⟨iU,R7,hi'⟩<;>rcases c9 j hj with rfl|⟨kL,aeY,dx⟩
  ·rfl
  ·rw[if_pos rfl]at im;rw[if_neg (oO kL)]at iT;simp at im;rw[<- im.1]at iT;exact absurd (h.inj j id b y' c' o cap dx qz iT hb) aeY
  ·rw[if_pos rfl]at iT;rw[if_neg (oO iU)]at im;simp at iT;rw[<- iT.1]at im;exact absurd (h.inj i id b y c o cap hi' qz im hb) R7
  ·rw[if_neg (oO iU)]at im;rw[if_neg (oO kL)]at iT;exact h.inj i j z y c y' c' hi' dx im iT
 ·rintro z ⟨i,y,c,hi,hz⟩ oZ;simp only[dM]at hz;rcases c9 i hi with rfl|⟨iU,R7,hi'⟩
  ·rw[if_pos rfl]at hz;simp at hz;rw[<- hz.1]at oZ;exact h.nz b ⟨id,o,cap,qz,hb⟩ oZ
  ·rw[if_neg (oO iU)]at hz;exact h.nz z ⟨i,y,c,hi',hz⟩ oZ
theorem Fr.EB{σ:St}{γ:Cx}{id:Nat}{ob:Ob}(ob':Ob)(ho:σ.aa[id]?=some ob)(hg:ob≠.gone){b o cap o' cap':Nat}(hb:γ.blk id=some (b,o,cap)){w':World}(pQ:∀ k,k≠b->w'.heap[k]?=γ.w.heap[k]?)(bg:w'.heap.size=γ.w.heap.size)(h1:w'.os=γ.w.os)(h2:w'.tape=γ.w.tape)(h3:w'.output=γ.w.output)(h4:γ.w.drawn<=w'.drawn:=by first|exact Nat.le_refl _|(simp;done)|omega):
  Fr σ.aa γ (σ.aa.set id .gone++[ob']) { γ with w:=w',blk:=dM γ.blk σ.aa.length (some (b,o',cap')) } where
 nt:=h1
 tape:=h2
 output:=h3
 drawn:=h4
 size:=by simp[bg]
 aH:=fun z _ nD=>pQ z (fun e=>nD ⟨id,o,cap,⟨ob,ho,hg⟩,e▸hb⟩)
 z0:=fun _ h=>h
 z1:=fun _ h=>.inl h
 own:=by
  rintro z⟨i,y,c,⟨x,hx,ed⟩,hz⟩;simp only[dM]at hz;split at hz
  ·simp at hz;left;exact⟨id,o,cap,⟨ob,ho,hg⟩,by rw[hb,hz.1]⟩
  ·have hi:i<σ.aa.length:=by have:=(List.getElem?_eq_some_iff.1 hx).1;simp at this;omega
   rw[List.getElem?_append_left (by simpa using hi),List.getElem?_set]at hx;split at hx
   ·split at hx<;>simp at hx;exact absurd hx.symm ed
   ·exact .inl ⟨i,y,c,⟨x,hx,ed⟩,hz⟩
 len:=by simp
 lk:=by
  rintro i hi⟨x,hx,ed⟩;have hx0:=hx;rw[List.getElem?_append_left (by simpa using hi),List.getElem?_set]at hx;split at hx
  ·split at hx<;>simp at hx;exact absurd hx.symm ed
  ·exact⟨by simp[dM,Nat.ne_of_lt hi],x,x,hx,hx0,Ob.kK ed⟩
def R8{σ:St}{γ:Cx}(h:bC σ γ){x:AV}{cv:Value}(hv:aA σ.aa γ.w γ.Z γ.blk x cv){sz:Nat}(bg:0<sz){src:List (List AV)}(hs:oR σ x=some (sz,src)):
  ∃ ad c,∃ g:Nat->Value,cv=.slice ad src.length c/\(∀ row∈src,row.length=sz)/\(0<src.length->∃ b o,ad=some ⟨b,o,none⟩/\∀ j,j<src.length*sz->γ.w.cell? ⟨b,o+j,none⟩=some (g j)) /\
   ∀ r c v,cellAt src r c=some v->aA σ.aa γ.w γ.Z γ.blk v (g (r*sz+c)):=by
 cases x with
 |tree dL rows =>
  simp[oR]at hs;obtain⟨rfl,rfl⟩:=hs;cases hv.Aq with
  |nil _ cap a=>exact⟨a,cap,λ_=>Go.undef,rfl,G9,G9,by simp[cellAt]⟩
  |tree _ _ b o cap f hz hr EC hc ht =>
   refine⟨_,cap,λj=>f (j/dL) (j%dL),rfl,hr,λhlen=>⟨b,o,rfl,?_⟩,?_⟩
   ·intro j hj;have h1:j/dL<rows.length:=Nat.div_lt_of_lt_mul (by rw[uJ];exact hj);have h2:j%dL<dL:=z7 _ bg;have cZ:(rows[j/dL]).length=dL:=hr _ (xl h1);have:=hc (j/dL) (j%dL) ((rows[j/dL])[j%dL]' G3) (by simp[cellAt,h1,h2,cZ]);have e:j/dL*dL+j%dL=j:=by rw[uJ];exact PU j dL
    rw[e]at this;exact this
   ·intro r c v bu;have bY:c<dL:=by
     simp only[cellAt,yM]at bu;obtain⟨y,hy,o6⟩:=bu;have:=hr y (gY hy);have:=(aY.1 o6).1;omega
    have e1:(r*dL+c)/dL=r:=by rw[uJ,Nat.mul_add_div bg,Nat.div_eq_of_lt bY];rfl
    have e2:(r*dL+c)%dL=c:=by rw[uJ,Nat.mul_add_mod,Kr bY]
    simp only[e1,e2];exact .cp _ _ (ht r c v bu)
 |ref id dL off len =>
  simp only[oR]at hs;cases ho:σ.aa[id]? with
  |none=>simp[ho]at hs
  |some ob =>
   have a8:=h.fF id ob ho;cases ob with
   |gone=>simp[ho]at hs
   |mp ag L=>simp[ho]at hs
   |var cells=>simp[ho]at hs
   |arr lU rows =>
    simp only[ho]at hs;split at hs
    ·rename_i he;subst he;simp at hs;obtain⟨rfl,rfl⟩:=hs;obtain⟨_,cZ,a8⟩:=a8;cases hv with
     |cp _ _ h=>cases h
     |lV _ _ _ _ _ h=>rw[ho]at h;simp at h
     |nA _ _ h hb =>
      rw[ho]at h;simp at h;subst h;exact⟨none,0,λ_=>Go.undef,rfl,G9,G9,by simp[cellAt]⟩
     |oe _ _ _ b x bo iF h hb hl =>
      exact⟨some ⟨b,x,none⟩,0,λ_=>Go.undef,G9,G9,G9,by simp[cellAt]⟩
     |ref _ _ _ _ b o cap cap' iF h hb hl hc ld =>
      rw[ho]at h;simp at h;subst h;rcases a8 with⟨h1,_⟩|⟨b',o',Ec,cur,t,h1,h2,h3,h4,h5,h6⟩
      ·rw[hb]at h1;simp at h1
      ·rw[hb]at h1;simp at h1;obtain⟨rfl,rfl,rfl⟩:=h1;have hlen:((rows.drop off).take len).length=len:=PX;refine⟨_,cap',λj=>cur.getD (o+off*lU+j) Go.undef,by rw[hlen],?_,λ_=>⟨b,o+off*lU,rfl,?_⟩,?_⟩
       ·intro row bj;exact cZ row (vT (sG bj))
       ·intro j hj;rw[hlen]at hj;refine Cc h2 ?_;have:(off+len)*lU<=cap*lU:=nm _ G3;rw[gj]at this;omega
       ·intro r c v bu;simp only[cellAt,vS,oL]at bu;split at bu
        ·have:=h6 (off+r) c v bu;rw[gj]at this;have e:o+(off*lU+r*lU+c)=o+off*lU+(r*lU+c):=G3;rw[e]at this;exact this
        ·simp at bu
    ·simp at hs
 |_=>simp[oR]at hs
end Go.Am
namespace Go.Am
variable {P:Program}
def Ed{rows:List (List AV)}{sz r c:Nat}{v:AV}(hr:∀ row∈rows,row.length=sz)(h:cellAt rows r c=some v):r<rows.length/\c<sz:=by
 simp only[cellAt,yM]at h;obtain⟨y,hy,o6⟩:=h;have h1:=hr y (gY hy);have h2:=(aY.1 o6).1;have h3:=(aY.1 hy).1;omega
def R9{p s:List (List AV)}{r c:Nat}:cellAt (p++s) r c=if r<p.length then cellAt p r c else cellAt s (r-p.length) c:=by
 unfold cellAt;split
 ·rw[dg (by assumption)]
 ·rw[fO G3]
def Ar{r c n sz:Nat}(hr:r<n)(hc:c<sz):r*sz+c<n*sz:=by
 have:(r+1)*sz<=n*sz:=nm _ hr;rw[gj]at this;omega
def aeZ{R:AV->Value->Prop}{p s:List (List AV)}{sz:Nat}(hp:∀ row∈p,row.length=sz)(hs:∀ row∈s,row.length=sz){go g:Nat->Value}(h1:∀ r c v,cellAt p r c=some v->R v (go (r*sz+c)))(h2:∀ r c v,cellAt s r c=some v->R v (g (r*sz+c)))(rest:List Value)(r c:Nat)(v:AV)(h:cellAt (p++s) r c=some v):
  R v (((((aZ (p.length*sz)).map go)++((aZ (s.length*sz)).map g))++rest).toArray.getD (r*sz+c) Go.undef):=by
 rw[R9]at h;simp only[fU,Kn];split at h
 ·obtain⟨hr,hc⟩:=Ed hp h;have:=Ar hr hc;rw[cY,dg (by simpa using this)];simp[this];exact h1 r c v h
 ·rename_i og;obtain⟨hr,hc⟩:=Ed hs h;have hl:=Ar hr hc;have e:r*sz+c=p.length*sz+((r-p.length)*sz+c):=by
   have:r=p.length+(r-p.length):=G3
   conv=>lhs;rw[this,gj]
   omega
  rw[dg PX,fO PX];have e2:r*sz+c-(List.map go (aZ (p.length*sz))).length=(r-p.length)*sz+c:=PX;rw[e2];simp[hl];exact h2 _ _ _ h
def ae0 {σ:St} {γ:Cx} (h:bC σ γ) {x:AV} {cv:Value} (hv:aA σ.aa γ.w γ.Z γ.blk x cv) {sz:Nat} {pre:List (List AV)} {σ1:St} (hs:pF σ sz x=some (pre,σ1)) :
    (bC σ1 γ/\Fr σ.aa γ σ1.aa γ/\∃ k,σ1.aa.length=k) /\
    ((cv=.slice none 0 0/\pre=[]) \/
     (∃ id b x bo cur t,cv=.slice (some ⟨b,x,none⟩) 0 0/\pre=[]/\Live σ.aa id/\σ1 = { σ with aa:=σ.aa.set id .gone }/\γ.blk id=some (b,bo)/\γ.w.heap[b]?=some (.cells cur t (0,0))) \/
     ∃ id off rows b o cap cap' cur t,σ.aa[id]?=some (.arr sz rows)/\σ1 = { σ with aa:=σ.aa.set id .gone }/\γ.blk id=some (b,o,cap)/\γ.w.heap[b]?=some (.cells cur t (0,0)) /\
      cv=.slice (some ⟨b,o+off * sz,none⟩) pre.length cap'/\pre.length<=cap'/\cap'<=maxLen/\o+off * sz+cap' * sz<=cur.size/\(∀ row∈pre,row.length=sz) /\
      ∀ r c v,cellAt pre r c=some v->aA σ.aa γ.w γ.Z γ.blk v (cur.getD (o+off * sz+(r * sz+c)) Go.undef)):=by
  unfold pF at hs
  split at hs
  · simp at hs
    obtain ⟨rfl,rfl⟩:=hs
    exact⟨⟨h,Fr.refl _ _,_,rfl⟩,.inl ⟨hv.dm,rfl⟩⟩
  · rename_i id dL off len
    cases ho:σ.aa[id]? with
    | none=>simp[ho] at hs
    | some ob =>
      have a8:=h.fF id ob ho
      cases ob with
      | gone=>simp[ho] at hs
      | mp ag L=>simp[ho] at hs
      | var cells=>simp[ho] at hs
      | arr lU rows =>
        simp only[ho] at hs
        split at hs
        · rename_i he
          obtain ⟨Sa,pU⟩:=he
          subst Sa
          subst pU
          simp at hs
          obtain ⟨rfl,rfl⟩:=hs
          refine⟨⟨h.kill id,Fr.kill _ _ _,_,rfl⟩,?_⟩
          obtain ⟨_,cZ,a8⟩:=a8
          cases hv with
          | cp _ _ h=>cases h
          | lV _ _ _ _ _ h=>rw[ho] at h;simp at h
          | nA _ _ h hb=>left;exact⟨rfl,G9⟩
          | oe _ _ _ b x bo iF h' hb hl =>
            right;left
            rcases a8 with ⟨h1,_⟩ | ⟨b',o',Ec,cur,t,h1,h2,_⟩
            · rw[hb] at h1;simp at h1
            · rw[hb] at h1;simp at h1
              obtain ⟨rfl,_⟩:=h1
              exact⟨id,b,x,bo,cur,t,rfl,G9,⟨_,ho,G9⟩,rfl,hb,h2⟩
          | ref _ _ _ _ b o cap cap' iF h' hb hl hc ld =>
            rw[ho] at h';simp at h'
            subst h'
            rcases a8 with ⟨h1,_⟩ | ⟨b',o',Ec,cur,t,h1,h2,h3,h4,h5,h6⟩
            · rw[hb] at h1;simp at h1
            · rw[hb] at h1;simp at h1
              obtain ⟨rfl,rfl,rfl⟩:=h1
              right;right
              have hlen:((rows.drop off).take len).length=len:=PX
              refine⟨id,off,rows,b,o,cap,cap',cur,t,ho,rfl,hb,h2,by rw[hlen],G3,G3,?_,?_,?_⟩
              · have:(off+cap') * lU<=cap * lU:=nm _ hc
                rw[gj] at this;omega
              · intro row bj
                exact cZ row (vT (sG bj))
              · intro r c v bu
                simp only[cellAt,vS,oL] at bu
                split at bu
                · have:=h6 (off+r) c v bu
                  rw[gj] at this
                  have e:o+(off * lU+r * lU+c)=o+off * lU+(r * lU+c):=G3
                  rw[e] at this
                  exact this
                · simp at bu
        · simp at hs
  · simp at hs
def ae1(w:World)(t ty' e:TypeId)(i:TypeInfo)(ht:P.underlying t=some (.slice e))(hi:P.info? e=some i)(g o AE LP:Nat)(cur:Array Value)(tt:TypeId)(hg:w.heap[g]?=some (.cells cur tt (0,0)))(xa:Option Addr)(m c:Nat)(news:List Value)(hl:news.length=m*i.size)(y7:0<m->∃ a,xa=some a/\∀ j u,news[j]?=some u->w.cell? (a.add j)=some u)(h1:∀ u∈news,u.oneCell'=true)(Co:AE+m<=LP)(hJ:o+AE*i.size+news.length<=cur.size):
  (Builtin.append_ #[t,t] ty' #[.slice (some ⟨g,o,none⟩) AE LP,.slice xa m c]).run P w =
   .ok (.slice (some ⟨g,o,none⟩) (AE+m) LP) (w.setRow g (cur.toList.take (o+AE*i.size)++news++cur.toList.drop (o+AE*i.size+news.length)).toArray):=by
 have hf:(Builtin.firstCells i.size m (.slice xa m c)).run P w=.ok news.toArray w:=by
  rcases n7 m with h0|hp
  ·subst h0;have hn:news=[]:=sF (by simpa using hl);subst hn;cases xa<;>simp[Builtin.firstCells,loadCells,loadCellsFrom]
  ·obtain⟨a,rfl,hc⟩:=y7 hp;exact run_firstCells_some w i.size m a m c news hl hc
 have dX:=run_storeCells_at P g (o+AE*i.size) tt news 0 cur w hg (by simpa using hJ) h1;simp only[iY]at dX;simp[Builtin.append_,run_underlying ht,sizeOf,typeInfo,hi,Builtin.lenOf,Co,hf,Addr.sN,dX]
def Cp{g:Nat->Value}{n j:Nat}{u:Value}(h:((aZ n).map g)[j]?=some u):j<n/\u=g j:=by
 have hj:=(aY.1 h).1;simp at hj;simp[hj]at h;exact⟨hj,h.symm⟩
def aeU{σ σ1:St}{γ:Cx}(h:bC σ γ){t oty:TypeId}{sz:Nat}{z:List Value}(hk:(ty P t).kind=1)(eP:(ty P (ty P t).elem).kind≠99)(hz:(ty P (ty P t).elem).zero=some z)(bg:sz=(ty P (ty P t).elem).size)(h0:0<sz)(ou:z.length=sz){sD x:AV}{tO ED:Value}(hS:aA σ.aa γ.w γ.Z γ.blk sD tO)(hX:aA σ.aa γ.w γ.Z γ.blk x ED){pre src:List (List AV)}(hd:pF σ sz sD=some (pre,σ1))(rJ:oR σ x=some (sz,src))(hlen:pre.length+src.length<=549755813888)(Cj:(ty P (ty P t).elem).bytes<=128)(ov:(src.all λrow=>row.all cJ)=true):
    ∃ qy γ1,(Builtin.append_ #[t,t] oty #[tO,ED]).run P γ.w=.ok qy γ1.w/\γ1.tmps=γ.tmps/\bC { σ1 with aa:=σ1.aa++[.arr sz (pre++src)] } γ1 /\
      Fr σ.aa γ (σ1.aa++[.arr sz (pre++src)]) γ1/\aA (σ1.aa++[.arr sz (pre++src)]) γ1.w γ1.Z γ1.blk (.ref σ1.aa.length sz 0 (pre.length+src.length)) qy:=by
  obtain⟨i,d,hi,HM,u5,Ev,hzero⟩:=tA eP;have ht:=u4 hk;have xQ:i.size=sz:=by rw[<- u5,<- bg]
  obtain⟨zv,AB,jU⟩:∃zv,i.zero=some zv/\zv.cells.size=sz:=by
    rw[hzero]at hz;cases hv:i.zero with
    |none=>simp[hv]at hz
    |some v=>simp[hv]at hz;exact⟨v,rfl,by rw[<- ou,<- hz];simp⟩
  obtain⟨ad,c,g,rfl,mX,mu,Cq⟩:=R8 h hX h0 rJ;obtain⟨⟨jk,hf1,_⟩,ae3⟩:=ae0 h hS hd
  let news:=(aZ (src.length*sz)).map g
  have ak:news.length=src.length*i.size:=by simp[news,xQ]
  have ae4:∀ u∈news,u.oneCell'=true:=by
    intro u hu;obtain⟨j,hj⟩:=PQ.1 hu;obtain⟨kL,rfl⟩:=Cp hj;have h1:j/sz<src.length:=Nat.div_lt_of_lt_mul (by rw[uJ];exact kL);have h2:j%sz<sz:=z7 _ h0;have cZ:(src[j/sz]).length=sz:=mX _ (xl h1);have:=Cq (j/sz) (j%sz) ((src[j/sz])[j%sz]' G3) (by simp[cellAt,h1,h2,cZ]);have e:j/sz*sz+j%sz=j:=by rw[uJ];exact PU j sz
    rw[e]at this;refine HU this ?_;rw[gV]at ov;have:=ov _ (xl h1);rw[gV]at this;exact this _ (xl _)
  have y7:0<src.length->∃ a,ad=some a/\∀ j u,news[j]?=some u->γ.w.cell? (a.add j)=some u:=by
    intro hp;obtain⟨b,o,rfl,hc⟩:=mu hp;refine⟨_,rfl,λj u hu=>?_⟩;obtain⟨kL,rfl⟩:=Cp hu;rw[Addr.sN];exact hc j kL
  have y8:pre.length+src.length<=maxLen:=by unfold maxLen;omega
  have fW:(pre.length+src.length)*i.bytes<=140737488355328:=by
    rw[<- Ev]
    calc _<=549755813888*128:=Nat.mul_le_mul hlen Cj
      _<=_:=G3
  have fresh:∀ (lk:Nat) (go:Nat->Value),(∀ row∈pre,row.length=sz)->(∀ r c v,cellAt pre r c=some v->aA σ.aa γ.w γ.Z γ.blk v (go (r*sz+c))) ->
      ∀ (w':World) (cap:Nat),pre.length+src.length<=cap->cap<=maxLen ->
        w'=γ.w.drew.alloc (.cells (((aZ (pre.length*sz)).map go).toArray++news.toArray++Builtin.zeroCells zv.cells (cap-(pre.length+src.length))) (ty P t).elem) ->
        ∃ γ1:Cx,γ1.w=w'/\γ1.tmps=γ.tmps/\bC { σ1 with aa:=σ1.aa++[.arr sz (pre++src)] } γ1/\Fr σ.aa γ (σ1.aa++[.arr sz (pre++src)]) γ1 /\
          aA (σ1.aa++[.arr sz (pre++src)]) γ1.w γ1.Z γ1.blk (.ref σ1.aa.length sz 0 (pre.length+src.length)) (.slice (some ⟨γ.w.heap.size,0,none⟩) (pre.length+src.length) cap):=by
    intro lk go dh HW w' cap lr sP lW;have Cr:∀ v cv,aA σ.aa γ.w γ.Z γ.blk v cv->aA σ1.aa γ.w γ.Z γ.blk v cv:=by
      intro v cv hv;refine hv.mono (λb hb=>⟨hb,rfl⟩) (λi o ho=>?_);unfold pF at hd;split at hd
      · simp at hd
        rw[<- hd.2];by_cases bE:o=.gone
        · subst bE;exact .inl ho
        · exact .inr ⟨rfl,o,ho,Ob.kK bE⟩
      · rename_i id dL off len
        have hi:i<σ.aa.length:=(aY.1 ho).1;split at hd
        · split at hd
          · simp at hd
            rw[<- hd.2];show(σ.aa.set id Ob.gone)[i]?=some Ob.gone\/_;simp only[cm];by_cases oo:id=i
            · left;simp[oo,hi]
            · rw[if_neg oo]
              by_cases bE:o=.gone
              · subst bE;exact .inl ho
              · exact .inr ⟨trivial,o,ho,Ob.kK bE⟩
          · simp at hd
        · simp at hd
      · simp at hd
    let cur:=((aZ (pre.length*sz)).map go).toArray++news.toArray++Builtin.zeroCells zv.cells (cap-(pre.length+src.length))
    have a8:uY σ1.aa γ.w γ.Z γ.blk 0 cap cur (.arr sz (pre++src)):=by
      refine⟨h0,?_,?_,by simpa using lr,sP,?_⟩
      · intro row bj
        rcases cz.1 bj with h|h
        · exact dh row h
        · exact mX row h
      · simp only[cur,news,Array.size_append,DI,eO,List.length_range,size_zeroCells,jU,<- gj]
        have:pre.length+src.length+(cap-(pre.length+src.length))=cap:=G3;rw[this];omega
      · intro r c v hv
        have:=aeZ (R:=aA σ1.aa γ.w γ.Z γ.blk) dh mX (λr c v hv=>Cr _ _ (HW r c v hv)) (λr c v hv=>Cr _ _ (Cq r c v hv)) (Builtin.zeroCells zv.cells (cap-(pre.length+src.length))).toList r c v hv;rw[gf];have e:cur=(((aZ (pre.length*sz)).map go)++((aZ (src.length*sz)).map g)++(Builtin.zeroCells zv.cells (cap-(pre.length+src.length))).toList).toArray:=by
          apply Array.ext';simp[cur,news]
        rw[e];exact this
    refine⟨{ γ with w:=w',blk:=dM γ.blk σ1.aa.length (some (γ.w.heap.size,0,cap)) },rfl,rfl,?_,?_,?_⟩
    · exact jk.push (t:=(ty P t).elem) (cur:=cur) (by rw[lW];rfl) a8
    · exact hf1.trans (Fr.push (σ:=σ1) (t:=(ty P t).elem) (cur:=cur) _ (by rw[lW];rfl) (by rw[lW];rfl) (by rw[lW];rfl) (by rw[lW];rfl) (by rw[lW];exact Nat.le_succ _))
    · have:=aA.ref (os:=σ1.aa++[.arr sz (pre++src)]) (w:=w') (Z:=γ.Z) (blk:=dM γ.blk σ1.aa.length (some (γ.w.heap.size,0,cap))) σ1.aa.length sz 0 (pre.length+src.length) γ.w.heap.size 0 cap cap (pre++src)
        G9 (by simp[dM]) G9 G3 lr
      simpa using this
  rcases ae3 with⟨rfl,rfl⟩|⟨id,b,x,bo,cur,tt,rfl,rfl,qz,rfl,hb,lp⟩|⟨id,off,rows,b,o,cap,cap',cur,tt,ho,rfl,hb,lp,rfl,u9,eT,hJ,dh,HW⟩
  · rcases n7 src.length with hm|hp
    ·
      have oV:src=[]:=sF hm;subst oV;refine⟨.slice none 0 0,{ γ with blk:=dM γ.blk σ1.aa.length none },?_,rfl,jk.Aw h0,hf1.trans (Fr.Aw _ _ _),?_⟩
      · cases ad<;>simp[Builtin.append_,run_underlying ht,sizeOf,typeInfo,hi,Builtin.lenOf,Builtin.firstCells,loadCells,loadCellsFrom]
      · exact .nA _ _ G9 (by simp[dM])
    · obtain⟨a,rfl,hc⟩:=y7 hp
      have hr:=run_append_nil (P:=P) γ.w t oty _ i zv ht hi AB a src.length c news ak hc hp (by unfold maxLen at y8;simp at y8;omega) (by have hb:=fW;simp only[k8,gf]at hb;omega);have og:=grownCap_ge γ.w src.length 0 (ty P t).elem;have eT:=grownCap_le_maxLen γ.w src.length 0 (ty P t).elem (by simpa using y8);obtain⟨γ1,e1,e2,e3,e4,e5⟩:=fresh 0 (λ_=>Go.undef) G9 (by simp[cellAt]) _ (grownCap γ.w src.length 0 (ty P t).elem) (by simpa using og) eT rfl;simp only[k8,Nat.zero_mul,List.range_zero,List.map_nil,gf,Array.empty_append]at e1 e5;refine⟨.slice (some ⟨γ.w.heap.size,0,none⟩) src.length (grownCap γ.w src.length 0 (ty P t).elem),γ1,?_,e2,e3,e4,?_⟩
      · rw[hr,e1]
      · simpa using e5
  · rcases n7 src.length with hm|hp
    · have oV:src=[]:=sF hm
      subst oV;obtain⟨ob,ho,hg⟩:=qz;have pQ:∀ k,k≠b->γ.w.heap[k]?=γ.w.heap[k]?:=λ_ _=>rfl;have Cs:=h.EB (ob':=.arr sz []) (o':=0) (cap':=0) ho hg (o:=bo.1) (cap:=bo.2) hb lp pQ rfl ⟨h0,G9,G9,G9,by simp[maxLen],by simp[cellAt]⟩;have dV:=Fr.EB (γ:=γ) (o':=0) (cap':=0) (.arr sz []) ho hg (o:=bo.1) (cap:=bo.2) hb (w':=γ.w) pQ rfl rfl rfl rfl;refine⟨.slice (some ⟨b,x,none⟩) 0 0,{ γ with w:=γ.w,blk:=dM γ.blk σ.aa.length (some (b,0,0)) },?_,rfl,by simpa using Cs,by simpa using dV,?_⟩
      · cases ad<;>simp[Builtin.append_,run_underlying ht,sizeOf,typeInfo,hi,Builtin.lenOf,Builtin.firstCells,loadCells,loadCellsFrom,storeCells]
      · have:=aA.oe (os:=σ.aa.set id .gone++[.arr sz []]) (w:=γ.w) (Z:=γ.Z) (blk:=dM γ.blk σ.aa.length (some (b,0,0))) σ.aa.length sz 0 b x (0,0) []
          (by rw[fO G9];simp) (by simp[dM]) G9
        simpa using this
    · obtain⟨a,rfl,hc⟩:=y7 hp
      have hr:=run_append_grow (P:=P) γ.w t oty _ i zv ht hi AB ⟨b,x,none⟩ 0 0 [] G9 G9 a src.length c news ak hc G3 (by unfold maxLen at y8;simp at y8;omega) (growslice_fits G3 (by simpa using fW));have og:=grownCap_ge γ.w (0+src.length) 0 (ty P t).elem;have eT:=grownCap_le_maxLen γ.w (0+src.length) 0 (ty P t).elem (by simpa using y8);obtain⟨γ1,e1,e2,e3,e4,e5⟩:=fresh 0 (λ_=>Go.undef) G9 (by simp[cellAt]) _ (grownCap γ.w (0+src.length) 0 (ty P t).elem) (by simpa using og) eT rfl;refine⟨.slice (some ⟨γ.w.heap.size,0,none⟩) (0+src.length) (grownCap γ.w (0+src.length) 0 (ty P t).elem),γ1,?_,e2,e3,e4,?_⟩
      · rw[hr,e1];simp
      · simpa using e5
  · by_cases Co:pre.length+src.length<=cap'
    ·
      have hmul:pre.length*sz+src.length*sz<=cap'*sz:=by rw[<- gj];exact nm _ Co
      have HX:news.length=src.length*sz:=by rw[ak,xQ]
      have hr:=ae1 (P:=P) γ.w t oty _ i ht hi b (o+off*sz) pre.length cap' cur tt lp ad src.length c news ak y7 ae4 Co (by rw[xQ,HX];omega);have a8:uY σ.aa γ.w γ.Z γ.blk (o+off*sz) cap' (cur.toList.take (o+off*sz+pre.length*i.size)++news++cur.toList.drop (o+off*sz+pre.length*i.size+news.length)).toArray (.arr sz (pre++src)):=by
        refine⟨h0,?_,?_,by simpa using Co,eT,?_⟩
        · intro row bj
          rcases cz.1 bj with h|h
          · exact dh row h
          · exact mX row h
        · simp only[DI,bQ,fy,xq,vN,xQ,HX]
          omega
        · intro r c v hv
          rw[Ez cur _ news (by rw[xQ,HX];omega),xQ,HX];rw[R9]at hv;split at hv
          · obtain⟨rL,lr⟩:=Ed dh hv
            have:=Ar rL lr;rw[if_neg G3];exact HW r c v hv
          · obtain⟨rL,lr⟩:=Ed mX hv
            have hl:=Ar rL lr;have e:r*sz+c=pre.length*sz+((r-pre.length)*sz+c):=by
              have:r=pre.length+(r-pre.length):=G3
              conv=>lhs;rw[this,gj]
              omega
            rw[if_pos G3];have e2:o+off*sz+(r*sz+c)-(o+off*sz+pre.length*sz)=(r-pre.length)*sz+c:=G3;rw[e2];simp only[news,aG];simp[hl];exact Cq _ _ _ hv
      have Cs:=h.EB ho G9 hb (setRow_heap γ.w b cur _ tt _ lp) (λk hk=>setRow_other γ.w b k _ hk) (setRow_size _ _ _) a8;have dV:=Fr.EB (γ:=γ) (o':=o+off*sz) (cap':=cap') (.arr sz (pre++src)) ho G9 hb (w':=γ.w.setRow b (cur.toList.take (o+off*sz+pre.length*i.size)++news++cur.toList.drop (o+off*sz+pre.length*i.size+news.length)).toArray) (λk hk=>setRow_other γ.w b k _ hk) (setRow_size _ _ _) rfl rfl rfl;refine⟨_,{ γ with w:=γ.w.setRow b (cur.toList.take (o+off*sz+pre.length*i.size)++news++cur.toList.drop (o+off*sz+pre.length*i.size+news.length)).toArray,blk:=dM γ.blk σ.aa.length (some (b,o+off*sz,cap')) },hr,rfl,?_,?_,?_⟩
      · simpa using Cs
      · simpa using dV
      · have:=aA.ref (os:=σ.aa.set id .gone++[.arr sz (pre++src)]) (w:=γ.w.setRow b (cur.toList.take (o+off*sz+pre.length*i.size)++news++cur.toList.drop (o+off*sz+pre.length*i.size+news.length)).toArray) (Z:=γ.Z)
          (blk:=dM γ.blk σ.aa.length (some (b,o+off*sz,cap'))) σ.aa.length sz 0 (pre.length+src.length) b (o+off*sz) cap' cap' (pre++src)
          (by rw[fO G9];simp) (by simp[dM]) G9 G3 Co
        simpa using this
    ·
      let go:Nat->Value:=λj=>cur.getD (o+off*sz+j) Go.undef
      let HY:=(aZ (pre.length*sz)).map go
      have fX:HY.length=pre.length*i.size:=by simp[HY,xQ]
      have anK:pre.length*sz<=cap'*sz:=nm _ u9;have holds:∀ j v,HY[j]?=some v->γ.w.cell? ((⟨b,o+off*sz,none⟩:Addr).add j)=some v:=by
        intro j v hj;obtain⟨kL,rfl⟩:=Cp hj;rw[Addr.sN];exact Cc lp G3
      have hp:0<src.length:=G3;obtain⟨a,rfl,hc⟩:=y7 hp;have hr:=run_append_grow (P:=P) γ.w t oty _ i zv ht hi AB ⟨b,o+off*sz,none⟩ pre.length cap' HY fX holds a src.length c news ak hc G3 (by unfold maxLen at y8;omega) (growslice_fits G3 fW);have og:=grownCap_ge γ.w (pre.length+src.length) cap' (ty P t).elem;have ae5:=grownCap_le_maxLen γ.w (pre.length+src.length) cap' (ty P t).elem y8;obtain⟨γ1,e1,e2,e3,e4,e5⟩:=fresh 0 go dh HW _ (grownCap γ.w (pre.length+src.length) cap' (ty P t).elem) og ae5 rfl;refine⟨_,γ1,?_,e2,e3,e4,e5⟩;rw[hr,e1]
def aeV{σ:St}{γ:Cx}(h:bC σ γ){t t' oty:TypeId}{sz:Nat}(hk:(ty P t).kind=1)(eP:(ty P (ty P t).elem).kind≠99)(bg:sz=(ty P (ty P t).elem).size)(h0:0<sz){id off len:Nat}{x:AV}{tO ED:Value}(hS:aA σ.aa γ.w γ.Z γ.blk (.ref id sz off len) tO)(hX:aA σ.aa γ.w γ.Z γ.blk x ED){rows:List (List AV)}(ho:σ.aa[id]?=some (.arr sz rows)){src:List (List AV)}(rJ:oR σ x=some (sz,src))(ov:(src.all λrow=>row.all cJ)=true):
  ∃ w',(Builtin.copy_ #[t,t'] oty #[tO,ED]).run P γ.w=.ok (.int .i64 (min src.length len:Nat)) w' /\
   bC { σ with aa:=σ.aa.set id (.arr sz (rows.take off++src.take (min src.length len)++rows.drop (off+min src.length len))) } { γ with w:=w' } /\
   Fr σ.aa γ (σ.aa.set id (.arr sz (rows.take off++src.take (min src.length len)++rows.drop (off+min src.length len)))) { γ with w:=w' }:=by
 obtain⟨i,d,hi,HM,u5,Ev,hzero⟩:=tA eP;have ht:=u4 hk;have xQ:i.size=sz:=by rw[<- u5,<- bg]
 obtain⟨ad,c,g,rfl,mX,mu,Cq⟩:=R8 h hX h0 rJ;have cT:id<σ.aa.length:=(aY.1 ho).1;have zero:∀ (AF:Option Addr) (cap':Nat),min src.length len=0->tO=.slice AF len cap'->∃ w',(Builtin.copy_ #[t,t'] oty #[tO,.slice ad src.length c]).run P γ.w=.ok (.int .i64 (min src.length len:Nat)) w' /\
   bC { σ with aa:=σ.aa.set id (.arr sz (rows.take off++src.take (min src.length len)++rows.drop (off+min src.length len))) } { γ with w:=w' } /\
   Fr σ.aa γ (σ.aa.set id (.arr sz (rows.take off++src.take (min src.length len)++rows.drop (off+min src.length len)))) { γ with w:=w' }:=by
  intro AF cap' hz bu;have iq:σ.aa.set id (.arr sz rows)=σ.aa:=by
   apply jR;intro j;rw[cm];split
   ·rename_i e;subst e;simp[ho]
   ·rfl
  refine⟨γ.w,?_,?_,?_⟩
  ·have hm:Nat.min src.length len=0:=hz;subst bu;cases ad<;>cases AF<;>simp[Builtin.copy_,run_underlying ht,sizeOf,typeInfo,hi,Builtin.lenOf,Builtin.firstCells,loadCells,loadCellsFrom,storeCells,hm,goInt,hz]
  ·rw[hz];simp[iq];exact h
  ·rw[hz];simp[iq];exact Fr.refl _ _
 cases hS with
 |cp _ _ h=>cases h
 |lV _ _ _ _ _ h=>rw[ho]at h;simp at h
 |nA _ _ h hb=>exact zero none 0 G9 rfl
 |oe _ _ _ b x bo iF h hb hl=>exact zero _ 0 G9 rfl
 |ref _ _ _ _ b o cap cap' iF h' hb hl hc ld =>
  rw[ho]at h';simp at h';subst h';rcases n7 (min src.length len) with hz|hp
  ·exact zero _ _ hz rfl
  obtain⟨_,cZ,a8⟩:=h.fF id _ ho;rcases a8 with⟨h1,_⟩|⟨b',o',Ec,cur,tt,h1,h2,h3,h4,h5,h6⟩
  ·rw[hb]at h1;simp at h1
  rw[hb]at h1;simp at h1;obtain⟨rfl,rfl,rfl⟩:=h1;generalize hn:min src.length len=n at *;have eF:n<=src.length:=G3;have nE:n<=len:=G3
  let news:=(aZ (n*sz)).map g
  have ak:news.length=n*sz:=by simp[news]
  have lu:∀ u∈news,u.oneCell'=true:=by
   intro u hu;obtain⟨j,hj⟩:=PQ.1 hu;obtain⟨kL,rfl⟩:=Cp hj;have k1:j/sz<n:=Nat.div_lt_of_lt_mul (by rw[uJ];exact kL);have k2:j%sz<sz:=z7 _ h0;have k3:j/sz<src.length:=G3;have cZ:(src[j/sz]).length=sz:=mX _ (xl k3);have:=Cq (j/sz) (j%sz) ((src[j/sz])[j%sz]' G3) (by simp[cellAt,k3,k2,cZ]);have e:j/sz*sz+j%sz=j:=by rw[uJ];exact PU j sz
   rw[e]at this;refine HU this ?_;rw[gV]at ov;have:=ov _ (xl k3);rw[gV]at this;exact this _ (xl _)
  obtain⟨sb,so,rfl,tx⟩:=mu G3;have hle:n*sz<=src.length*sz:=nm _ eF;have xR:=run_loadCells_list (P:=P) γ.w ⟨sb,so,none⟩ news (λj v hj=>by
   obtain⟨kL,rfl⟩:=Cp hj;rw[Addr.sN];exact tx j G3)
  have hJ:(off+n)*sz<=cap*sz:=nm _ G3;rw[gj]at hJ;have dX:=run_storeCells_at P b (o+off*sz) tt news 0 cur γ.w h2 (by rw[ak];omega) lu;simp only[iY]at dX;have fP:(Builtin.copy_ #[t,t'] oty #[.slice (some ⟨b,o+off*sz,none⟩) len cap',.slice (some ⟨sb,so,none⟩) src.length c]).run P γ.w=.ok (.int .i64 (n:Nat)) (γ.w.setRow b (cur.toList.take (o+off*sz)++news++cur.toList.drop (o+off*sz+news.length)).toArray):=by
   have hm:Nat.min src.length len=n:=hn;rw[ak]at xR;simp[Builtin.copy_,run_underlying ht,sizeOf,typeInfo,hi,Builtin.lenOf,Builtin.firstCells,hm,xQ,xR,dX,goInt]
  have LQ:uY σ.aa γ.w γ.Z γ.blk o cap (cur.toList.take (o+off*sz)++news++cur.toList.drop (o+off*sz+news.length)).toArray (.arr sz (rows.take off++src.take n++rows.drop (off+n))):=by
   refine⟨h0,?_,?_,?_,h5,?_⟩
   ·intro row bj;simp only[cz]at bj;rcases bj with(hr|hr)|hr
    ·exact cZ row (sG hr)
    ·exact mX row (sG hr)
    ·exact cZ row (vT hr)
   ·simp only[DI,bQ,fy,xq,vN,ak];omega
   ·simp;omega
   ·intro r cc v hv;rw[Ez cur _ news (by rw[ak];omega),ak];have bx:cc<sz:=by
     simp only[cellAt,yM]at hv;obtain⟨y,hy,o6⟩:=hv;have hm:=gY hy;have:=(aY.1 o6).1;simp only[cz]at hm;rcases hm with(hr|hr)|hr
     ·have:=cZ y (sG hr);omega
     ·have:=mX y (sG hr);omega
     ·have:=cZ y (vT hr);omega
    rcases fN r off with k1|k1
    ·have e:cellAt (rows.take off++src.take n++rows.drop (off+n)) r cc=cellAt rows r cc:=by
      simp only[cellAt,cY];rw[dg PX,vS,if_pos k1]
     rw[e]at hv;have hm:(r+1)*sz<=off*sz:=nm _ G3;rw[gj]at hm;rw[if_neg G3];exact h6 r cc v hv
    ·rcases fN r (off+n) with k2|k2
     ·have e:cellAt (rows.take off++src.take n++rows.drop (off+n)) r cc=cellAt src (r-off) cc:=by
       simp only[cellAt,cY];rw[fO PX,dg PX,vS,if_pos PX];congr 2;simp;omega
      rw[e]at hv;have e1:r=off+(r-off):=G3;have e2:r*sz=off*sz+(r-off)*sz:=by rw[<- gj,<- e1]
      have hm:(r-off+1)*sz<=n*sz:=nm _ G3;rw[gj]at hm;rw[if_pos G3];have e3:o+(r*sz+cc)-(o+off*sz)=(r-off)*sz+cc:=G3;rw[e3];have hl:(r-off)*sz+cc<n*sz:=G3;simp only[news,aG];simp[hl];exact Cq _ _ _ hv
     ·have e:cellAt (rows.take off++src.take n++rows.drop (off+n)) r cc=cellAt rows r cc:=by
       simp only[cellAt];rw[fO PX,oL];congr 2;simp;omega
      rw[e]at hv;have hm:(off+n)*sz<=r*sz:=nm _ k2;rw[gj]at hm;rw[if_neg G3];exact h6 r cc v hv
  refine⟨_,fP,?_,?_⟩
  ·exact h.write ho G9 (by simp[Ob.fj];omega) hb (setRow_heap γ.w b cur _ tt _ h2) (λk hk=>setRow_other γ.w b k _ hk) (setRow_size _ _ _) LQ
  ·exact Fr.write _ ho G9 (by simp[Ob.fj];omega) hb (λk hk=>setRow_other γ.w b k _ hk) (setRow_size _ _ _) rfl rfl rfl
def aeW{σ:St}{γ:Cx}(h:bC σ γ){t oty:TypeId}{sz:Nat}{z:List Value}(hk:(ty P t).kind=1)(eP:(ty P (ty P t).elem).kind≠99)(ou:z.length=sz)(h0:0<sz)(hz:(ty P (ty P t).elem).zero=some z)(HT:(z.all λu=>u.oneCell')=true){id off len:Nat}{tO:Value}(hS:aA σ.aa γ.w γ.Z γ.blk (.ref id sz off len) tO){rows:List (List AV)}(ho:σ.aa[id]?=some (.arr sz rows)):
  ∃ w',(Builtin.clear_ #[t] oty #[tO]).run P γ.w=.ok (.tuple #[]) w' /\
   bC { σ with aa:=σ.aa.set id (.arr sz (rows.take off++bG len (z.map AV.lit)++rows.drop (off+len))) } { γ with w:=w' } /\
   Fr σ.aa γ (σ.aa.set id (.arr sz (rows.take off++bG len (z.map AV.lit)++rows.drop (off+len)))) { γ with w:=w' }:=by
 obtain⟨i,d,hi,HM,u5,Ev,hzero⟩:=tA eP;have ht:=u4 hk;rw[hz]at hzero;obtain⟨zv,AB,jU⟩:=yK.1 hzero.symm;have LR:zv.cells.size=sz:=by rw[<- ou,<- jU];simp
 have cT:id<σ.aa.length:=(aY.1 ho).1;have zero:∀ (AF:Option Addr) (cap':Nat),len=0->tO=.slice AF len cap'->∃ w',(Builtin.clear_ #[t] oty #[tO]).run P γ.w=.ok (.tuple #[]) w' /\
   bC { σ with aa:=σ.aa.set id (.arr sz (rows.take off++bG len (z.map AV.lit)++rows.drop (off+len))) } { γ with w:=w' } /\
   Fr σ.aa γ (σ.aa.set id (.arr sz (rows.take off++bG len (z.map AV.lit)++rows.drop (off+len)))) { γ with w:=w' }:=by
  intro AF cap' wj bu;have iq:σ.aa.set id (.arr sz rows)=σ.aa:=by
   apply jR;intro j;rw[cm];split
   ·rename_i e;subst e;simp[ho]
   ·rfl
  refine⟨γ.w,?_,?_,?_⟩
  ·subst bu;subst wj;cases AF<;>simp[Builtin.clear_,run_underlying ht]
  ·subst wj;simp[iq];exact h
  ·subst wj;simp[iq];exact Fr.refl _ _
 cases hS with
 |cp _ _ h=>cases h
 |lV _ _ _ _ _ h=>rw[ho]at h;simp at h
 |nA _ _ h hb=>exact zero none 0 rfl rfl
 |oe _ _ _ b x bo iF h hb hl=>exact zero _ 0 rfl rfl
 |ref _ _ _ _ b o cap cap' iF h' hb hl hc ld =>
  rw[ho]at h';simp at h';subst h';rcases n7 len with wj|hp
  ·exact zero _ _ wj rfl
  obtain⟨_,cZ,a8⟩:=h.fF id _ ho;rcases a8 with⟨h1,_⟩|⟨b',o',Ec,cur,tt,h1,h2,h3,h4,h5,h6⟩
  ·rw[hb]at h1;simp at h1
  rw[hb]at h1;simp at h1;obtain⟨rfl,rfl,rfl⟩:=h1
  let g:Nat->Value:=λi=>zv.cells[i%zv.cells.size]!
  let news:=(aZ (len*sz)).map g
  have y7:(Builtin.zeroCells zv.cells len).toList=news:=by
   simp[Builtin.zeroCells,news,g,LR]
  have ak:news.length=len*sz:=by simp[news]
  have Sb:∀ i,i<sz->∃ u,z[i]?=some u/\zv.cells[i]! = u:=by
   intro i hi';have:i<zv.cells.size:=G3;refine⟨zv.cells[i],?_,?_⟩
   ·rw[<- jU];simp[this]
   ·simp[this]
  have lu:∀ u∈news,u.oneCell'=true:=by
   intro u hu;obtain⟨j,hj⟩:=PQ.1 hu;obtain⟨kL,rfl⟩:=Cp hj;obtain⟨u,k1,k2⟩:=Sb (j%sz) (z7 _ h0);show(zv.cells[j%zv.cells.size]!).oneCell'=true;rw[LR,k2];rw[gV]at HT;exact HT _ (gY k1)
  have hJ:(off+len)*sz<=cap*sz:=nm _ G3;rw[gj]at hJ;have dX:=run_storeCells_at P b (o+off*sz) tt news 0 cur γ.w h2 (by rw[ak];omega) lu;simp only[iY]at dX;have fP:(Builtin.clear_ #[t] oty #[.slice (some ⟨b,o+off*sz,none⟩) len cap']).run P γ.w=.ok (.tuple #[]) (γ.w.setRow b (cur.toList.take (o+off*sz)++news++cur.toList.drop (o+off*sz+news.length)).toArray):=by
   obtain⟨anL,rfl⟩:∃k,len=k+1:=⟨len-1,G3⟩;simp[Builtin.clear_,run_underlying ht,zeroValue,typeInfo,hi,AB,y7,dX]
  have LQ:uY σ.aa γ.w γ.Z γ.blk o cap (cur.toList.take (o+off*sz)++news++cur.toList.drop (o+off*sz+news.length)).toArray (.arr sz (rows.take off++bG len (z.map AV.lit)++rows.drop (off+len))):=by
   refine⟨h0,?_,?_,?_,h5,?_⟩
   ·intro row bj;simp only[cz]at bj;rcases bj with(hr|hr)|hr
    ·exact cZ row (sG hr)
    ·rw[BU hr,eO];exact ou
    ·exact cZ row (vT hr)
   ·simp only[DI,bQ,fy,xq,vN,ak];omega
   ·simp;omega
   ·intro r cc v hv;rw[Ez cur _ news (by rw[ak];omega),ak];have bx:cc<sz:=by
     simp only[cellAt,yM]at hv;obtain⟨y,hy,o6⟩:=hv;have hm:=gY hy;have:=(aY.1 o6).1;simp only[cz]at hm;rcases hm with(hr|hr)|hr
     ·have:=cZ y (sG hr);omega
     ·have hy2:=BU hr;rw[hy2,eO]at this;omega
     ·have:=cZ y (vT hr);omega
    rcases fN r off with k1|k1
    ·have e:cellAt (rows.take off++bG len (z.map AV.lit)++rows.drop (off+len)) r cc=cellAt rows r cc:=by
      simp only[cellAt,cY];rw[dg PX,vS,if_pos k1]
     rw[e]at hv;have hm:(r+1)*sz<=off*sz:=nm _ G3;rw[gj]at hm;rw[if_neg G3];exact h6 r cc v hv
    ·rcases fN r (off+len) with k2|k2
     ·have e:cellAt (rows.take off++bG len (z.map AV.lit)++rows.drop (off+len)) r cc=(z.map AV.lit)[cc]?:=by
       simp only[cellAt,cY];rw[fO PX,dg PX,List.getElem?_replicate,if_pos PX];rfl
      rw[e,b6]at hv;obtain⟨u,k3,k4⟩:=Sb cc bx;rw[k3]at hv;simp only[fE,dD.injEq]at hv;subst hv;have e1:r=off+(r-off):=G3;have e2:r*sz=off*sz+(r-off)*sz:=by rw[<- gj,<- e1]
      have hm:(r-off+1)*sz<=len*sz:=nm _ G3;rw[gj]at hm;rw[if_pos G3];have e3:o+(r*sz+cc)-(o+off*sz)=(r-off)*sz+cc:=G3;rw[e3];have hl:(r-off)*sz+cc<len*sz:=G3;have e4:news.getD ((r-off)*sz+cc) Go.undef=u:=by
       simp only[news,aG];rw[b6,List.getElem?_range hl];show zv.cells[((r-off)*sz+cc)%zv.cells.size]! = u;rw[LR,uJ,Nat.mul_add_mod,Kr bx,k4]
      first
       | (rw[e4];exact .lit _)
       | (simp only[aG]at e4 ⊢;rw[e4];exact .lit _)
     ·have e:cellAt (rows.take off++bG len (z.map AV.lit)++rows.drop (off+len)) r cc=cellAt rows r cc:=by
       simp only[cellAt];rw[fO PX,oL];congr 2;simp;omega
      rw[e]at hv;have hm:(off+len)*sz<=r*sz:=nm _ k2;rw[gj]at hm;rw[if_neg G3];exact h6 r cc v hv
  refine⟨_,fP,?_,?_⟩
  ·exact h.write ho G9 (by simp[Ob.fj];omega) hb (setRow_heap γ.w b cur _ tt _ h2) (λk hk=>setRow_other γ.w b k _ hk) (setRow_size _ _ _) LQ
  ·exact Fr.write _ ho G9 (by simp[Ob.fj];omega) hb (λk hk=>setRow_other γ.w b k _ hk) (setRow_size _ _ _) rfl rfl rfl
end Go.Am
namespace Go.Am
variable {P:Program}
def ae7(l:List Value):∀ (j off:Nat) (cells:Array Value),off+j+l.length<=cells.size ->
  ((l.zipIdx j).foldl (λcs (x:Value×Nat)=>cs.setIfInBounds (off+x.2) x.1) cells).size=cells.size /\
  ∀ k,((l.zipIdx j).foldl (λcs (x:Value×Nat)=>cs.setIfInBounds (off+x.2) x.1) cells).getD k Go.undef=if off+j<=k/\k<off+j+l.length then l.getD (k-(off+j)) Go.undef else cells.getD k Go.undef:=by
 induction l with
 |nil=>intro j off cells _;simp;intro k h1 h2;omega
 |cons v l ih =>
  intro j off cells hl;simp only[eu]at hl;simp only[List.zipIdx_cons,List.foldl_cons];obtain⟨h1,h2⟩:=ih (j+1) off (cells.setIfInBounds (off+j) v) PX;refine⟨by rw[h1];simp,λk=>?_⟩;rw[h2 k];simp only[eu];by_cases c1:off+(j+1)<=k/\k<off+(j+1)+l.length
  ·rw[if_pos c1,if_pos G3];have:k-(off+j)=(k-(off+(j+1)))+1:=G3;rw[this];simp
  ·rw[if_neg c1];by_cases c2:k=off+j
   ·subst c2;rw[if_pos G3];simp[fU,show off+j<cells.size by omega]
   ·rw[if_neg G3];simp[fU,Array.getElem?_setIfInBounds_ne (Ne.symm c2)]
def ae8(v:Value)(off:Nat)(cells:Array Value):
  (v.cells.zipIdx.foldl (λcs (c,j)=>cs.setIfInBounds (off+j) c) cells)=((v.cells.toList.zipIdx 0).foldl (λcs (x:Value×Nat)=>cs.setIfInBounds (off+x.2) x.1) cells):=by
 rw[<- Array.foldl_toList];simp
def EE(R:AV->Value->Prop)(cs:List AV)(cur:Array Value):Prop:=cur.size=cs.length/\∀ j x,cs[j]?=some x->R x (cur.getD j Go.undef)
def HO{σ:St}{γ:Cx}{place:Nat->Option (Nat×Nat)}:∀ (parts:List (Nat×AV)) (pv:List (Nat×Value)) (cs:List AV) (cur:Array Value) (sL:List AV),
  parts.length=pv.length->(∀ (j:Nat) (p:Nat×AV) (q:Nat×Value),parts[j]?=some p->pv[j]?=some q->p.1=q.1/\aA σ.aa γ.w γ.Z γ.blk p.2 q.2)->(∀ p∈parts,(cellsOf p.2).all cJ=true) ->
  EE (aA σ.aa γ.w γ.Z γ.blk) cs cur->nu place cs parts=some sL->∃ qA,Instr.fill place cur pv=some qA/\EE (aA σ.aa γ.w γ.Z γ.blk) sL qA
 |[],pv,cs,cur,sL,hl,_,_,hc,h=>by
  have:pv=[]:=sF hl.symm;subst this;simp[nu]at h;subst h;exact⟨cur,by simp[Instr.fill],hc⟩
 | (i,v)::rest,[],cs,cur,sL,hl,_,_,_,_=>by simp at hl
 | (i,v)::rest,(i',x)::pv,cs,cur,sL,hl,hr,hs,hc,h=>by
  obtain⟨e1,e2⟩:=hr 0 (i,v) (i',x) rfl rfl;simp only at e1 e2;subst e1;simp only[nu]at h;cases hp:place i with
  |none=>simp[hp]at h
  |some os =>
   obtain⟨off,size⟩:=os;simp only[hp]at h;split at h
   ·rename_i ae9;obtain⟨h1,h2⟩:=ae9;obtain⟨g1,g2,g3⟩:=LB e2 (hs (i,v) G9);have bg:x.cells.size=size:=by rw[g1,h1]
    obtain⟨gZ,ln⟩:=hc;have hJ:off+0+x.cells.toList.length<=cur.size:=by simp[bg,gZ];omega
    obtain⟨f1,f2⟩:=ae7 x.cells.toList 0 off cur hJ;have ae':EE (aA σ.aa γ.w γ.Z γ.blk) (setCells cs off (cellsOf v)) (x.cells.zipIdx.foldl (λcs (c,j)=>cs.setIfInBounds (off+j) c) cur):=by
     rw[ae8];refine⟨by rw[f1,LF];exact gZ,λj y hj=>?_⟩;rw[R5 _ _ _ (by rw[h1];exact h2)]at hj;rw[f2 j];simp only[iY,vN,bg];rw[h1]at hj;by_cases iV:off<=j/\j<off+size
     ·rw[if_pos iV]at hj;rw[if_pos iV];have:=g2 _ _ hj;simpa [aG,fU] using this
     ·rw[if_neg iV]at hj;rw[if_neg iV];exact ln j y hj
    obtain⟨qA,k1,k2⟩:=HO rest pv _ _ sL (by simpa using hl) (λj p q hp hq=>hr (j+1) p q (by simpa using hp) (by simpa using hq)) (λp hp=>hs p (by simp[hp])) ae' h;refine⟨qA,?_,k2⟩;simp only[Instr.fill,hp];rw[if_neg ?_]
    ·exact k1
    ·simp[bg,gZ];omega
   ·simp at h
def LA{os:List Ob}{w:World}{Z:Nat->Prop}{blk:ij}(z:List Value):EE (aA os w Z blk) (z.map .lit) z.toArray:=by
 refine⟨G9,λj x hx=>?_⟩;simp only[b6]at hx;cases hj:z[j]? with
 |none=>simp[hj]at hx
 |some y =>
  simp[hj]at hx;subst hx;simp[fU,hj];exact .lit y
def LC{σ:St}{γ:Cx}(h:bC σ γ){a:Act}(ha:γ.tmps=a.tmps)(parts:Array (Nat×Operand)):
  (parts.toList.map λp=>(p.1,ev σ p.2)).length=(parts.map λ(i,x)=>(i,a.eval x)).toList.length /\
  ∀ (j:Nat) (p:Nat×AV) (q:Nat×Value),(parts.toList.map λp=>(p.1,ev σ p.2))[j]?=some p->(parts.map λ(i,x)=>(i,a.eval x)).toList[j]?=some q->p.1=q.1/\aA σ.aa γ.w γ.Z γ.blk p.2 q.2:=by
 refine⟨G9,λj p q hp hq=>?_⟩;simp only[Array.toList_map,b6]at hp hq;cases hj:parts.toList[j]? with
 |none=>simp[hj]at hp
 |some y =>
  simp only[hj,fE,dD.injEq]at hp hq;subst hp;subst hq;exact⟨rfl,tK h ha y.2⟩
def aeH{σ:St}{γ:Cx}(h:bC σ γ){a:Act}(ha:γ.tmps=a.tmps){t:TypeId}{parts:Array (Nat×Operand)}{z:List Value}(hk:(ty P t).kind=3)(hz:(ty P t).zero=some z){cs:List AV}(hf:nu (λi=>((ty P t).a5[i]?).map λf=>(f.1,f.2.2)) (z.map .lit) (parts.toList.map λp=>(p.1,ev σ p.2))=some cs)(hs:(parts.toList.all λp=>(cellsOf (ev σ p.2)).all cJ)=true)(hp:((ty P t).a5.all λf=>decide (0<f.2.2))=true):
  ∃ cur,(Instr.build t (parts.map λ(i,x)=>(i,a.eval x))).run P γ.w=.ok (.agg cur) γ.w/\aA σ.aa γ.w γ.Z γ.blk (.agg cs) (.agg cur):=by
 obtain⟨it,d,hi,hd,_,_,hzero⟩:=tA (P:=P) (t:=t) (by rw[hk];simp);obtain⟨fs,hu,fK⟩:=D1 hk;rw[hzero]at hz;cases hv:it.zero with
 |none=>simp[hv]at hz
 |some zv =>
  simp[hv]at hz;have jU:z.toArray=zv.cells:=by rw[<- hz]
  obtain⟨hl,hr⟩:=LC h ha parts;obtain⟨cur,h1,h2⟩:=HO (σ:=σ) (γ:=γ) _ _ _ _ cs hl hr (λp hp=>by
   simp only[cC]at hp;obtain⟨q,hq,rfl⟩:=hp;rw[gV]at hs;exact hs q hq) (LA z) hf
  refine⟨cur,run_build γ.w t _ cur ?_,.agg _ _ h2.1 h2.2⟩;unfold Program.built;rw[hi,hu];simp only[hv];have afa:∀ (l:List Field),(∀ f∈l,0<vZ P f.type)->l.mapM (λf=>(P.info? f.type).map λi=>(f.offset,i.size))=some (l.map λf=>(f.offset,vZ P f.type)):=by
   intro l
   induction l with
   |nil=>intro _;simp
   |cons f l ih =>
    intro hl;have h0:=hl f G9;unfold vZ at h0;cases LS:P.info? f.type with
    |none=>simp[LS]at h0
    |some i =>
     simp only[List.mapM_cons,LS,fE,ih (λg hg=>hl g (by simp[hg]))];simp[vZ,LS]
  rw[afa fs.toList (by
   intro f gn;rw[fK]at hp;simp only[List.all_map,gV]at hp;have:=hp f gn;simpa using this)]
  simp only;rw[<- jU];have:(λ(x:Nat)=>((fs.toList.map λf=>(f.offset,vZ P f.type)).toArray[x]?))=(λ(i:Nat)=>((ty P t).a5[i]?).map λ(f:Nat×Nat×Nat)=>(f.1,f.2.2)):=by
   funext i;rw[fK];simp;cases fs[i]?<;>simp
  rw[this];exact h1
def aeI{σ:St}{γ:Cx}(h:bC σ γ){a:Act}(ha:γ.tmps=a.tmps){t:TypeId}{parts:Array (Nat×Operand)}{z:List Value}(hk:(ty P t).kind=2)(hz:(ty P t).zero=some z){cs:List AV}(hf:nu (λi=>some (i*(ty P (ty P t).elem).size,(ty P (ty P t).elem).size)) (z.map .lit) (parts.toList.map λp=>(p.1,ev σ p.2))=some cs)(hs:(parts.toList.all λp=>(cellsOf (ev σ p.2)).all cJ)=true)(eP:(ty P (ty P t).elem).kind≠99):
  ∃ cur,(Instr.build t (parts.map λ(i,x)=>(i,a.eval x))).run P γ.w=.ok (.agg cur) γ.w/\aA σ.aa γ.w γ.Z γ.blk (.agg cs) (.agg cur):=by
 obtain⟨it,d,hi,hd,_,_,hzero⟩:=tA (P:=P) (t:=t) (by rw[hk];simp);have hu:=LM hk;obtain⟨ie,de,hie,_,u5,_,_⟩:=tA eP;rw[hzero]at hz;cases hv:it.zero with
 |none=>simp[hv]at hz
 |some zv =>
  simp[hv]at hz;have jU:z.toArray=zv.cells:=by rw[<- hz]
  obtain⟨hl,hr⟩:=LC h ha parts;obtain⟨cur,h1,h2⟩:=HO (σ:=σ) (γ:=γ) _ _ _ _ cs hl hr (λp hp=>by
   simp only[cC]at hp;obtain⟨q,hq,rfl⟩:=hp;rw[gV]at hs;exact hs q hq) (LA z) hf
  refine⟨cur,run_build γ.w t _ cur ?_,.agg _ _ h2.1 h2.2⟩;unfold Program.built;rw[hi,hu];simp only[hv,hie];rw[<- jU,<- u5];exact h1
def LH(sz:Nat):∀ (n:Nat) (cs:List AV),(nw sz n cs).length=n
 |0,_=>rfl
 |n+1,cs=>by simp[nw,LH sz n]
def R0(sz:Nat):∀ (n:Nat) (cs:List AV),n*sz<=cs.length->∀ row∈nw sz n cs,row.length=sz
 |0,_,_,row,h=>by simp[nw]at h
 |n+1,cs,hl,row,h=>by
  rw[gj]at hl;simp only[nw,List.mem_cons]at h;rcases h with rfl|h
  ·simp;omega
  ·exact R0 sz n (cs.drop sz) PX row h
def R3(sz:Nat):∀ (n:Nat) (cs:List AV) (r c:Nat) (v:AV),cellAt (nw sz n cs) r c=some v->cs[r*sz+c]?=some v
 |0,_,r,c,v,h=>by simp[nw,cellAt]at h
 |n+1,cs,0,c,v,h=>by
  simp only[nw,cellAt,List.getElem?_cons_zero,Option.bind_some,vS]at h;split at h
  ·simpa using h
  ·simp at h
 |n+1,cs,r+1,c,v,h=>by
  have h':cellAt (nw sz n (cs.drop sz)) r c=some v:=by simpa [nw,cellAt] using h
  have:=R3 sz n (cs.drop sz) r c v h';rw[oL]at this;rw[gj];have e:r*sz+1*sz+c=sz+(r*sz+c):=G3;rw[e];exact this
def LD{os:List Ob}{w:World}{Z:Nat->Prop}{blk:ij}(z:List Value)(n m:Nat)(hm:m=n*z.length)(hz:0<z.length):
  EE (aA os w Z blk) ((aZ n).flatMap λ_=>z.map .lit) ((Array.range m).map (z.toArray[· % z.toArray.size]!)):=by
 subst hm;have hlen:((aZ n).flatMap λ_=>z.map AV.lit).length=n*z.length:=by
  induction n with
  |zero=>simp
  |succ n ih=>rw[xu,rn,bQ,ih];simp[gj]
 refine⟨by simp[hlen],λj x hx=>?_⟩;have hj:j<n*z.length:=by rw[<- hlen];exact(aY.1 hx).1
 have key:∀ (n j:Nat),j<n*z.length->((aZ n).flatMap λ_=>z.map AV.lit)[j]?=some (.lit (z[j%z.length]'(z7 _ hz))):=by
  intro n
  induction n with
  |zero=>intro j hj;simp at hj
  |succ n ih =>
   intro j hj;have tP:((aZ n).flatMap λ_=>z.map AV.lit).length=n*z.length:=by
    clear ih hj hx hlen
    induction n with
    |zero=>simp
    |succ n ih=>rw[xu,rn,bQ,ih];simp[gj]
   rw[xu,rn];by_cases Sd:j<n*z.length
   ·rw[dg (by rw[tP];exact Sd)];exact ih j Sd
   ·rw[fO (by rw[tP];omega),tP];rw[gj]at hj;have bx:j-n*z.length<z.length:=G3;have y9:j%z.length=j-n*z.length:=by
     have:j=(j-n*z.length)+n*z.length:=G3;rw[this,Nat.add_mul_mod_self_right,Kr bx];omega
    simp[bx,y9]
 rw[key n j hj]at hx;simp at hx;subst hx;have hm:j%z.length<z.length:=z7 _ hz;simp[fU,hj,hm];exact .lit _
end Go.Am

