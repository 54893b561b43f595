import Derived.Test.YtodilglobhifaaaDoorX01
set_option linter.all false
set_option maxHeartbeats 0
set_option maxRecDepth 20000
open List renaming getElem?_map→bR,mem_of_getElem?→eh,getElem?_eq_some_iff→aF,getElem?_set→bM,range→bj,length_cons→b8,all_eq_true→gx,getElem?_take→mn,getElem?_drop→iB,getElem?_toArray→z',getD_eq_getElem?_getD→an,append_assoc→br,getElem?_append_left→bL,getElem?_append_right→dk,getElem_mem→lF,mem_of_mem_drop→sN,mem_of_mem_take→oq,eq_nil_of_length_eq_zero→sM,mem_iff_getElem?→D9,mem_append→bn,size_toArray→uz,length_map→cU,length_nil→eZ,length_append→aJ,length_take→iC,length_drop→z7,ext_getElem?→sK,replicate→aw,eq_of_mem_replicate→uE,mem_map→bS,range_succ→qU,flatMap_append→sO
open Option renaming map_eq_some_iff→qP,bind_eq_some_iff→sJ,map_some→fV,some→cB
open Array renaming getD_eq_getD_getElem?→cT,length_toList→lE
open Nat renaming mul_le_mul_right→jo,add_mul→eb,add_assoc→ni,add_zero→jm,ne_of_lt→hJ,lt_or_ge→cZ,mul_comm→qV,mod_lt→xc,eq_zero_or_pos→xe,zero_add→eX
namespace Go.Am
variable {P:Program}
def ry(o:Oper)(σ:St)(γ:Cx)(a:Act)(K:St->Prop)(r:Result Next):Prop :=
 ∃ n x w' σ' ak,r=.ok n w'/\(n=.value x\/(n=.skip/\x=Go.undef))/\K σ'/\aK σ' ak/\Fr σ.aa γ σ'.aa ak/\ak.w=w'/\ak.tmps=(a.put o.dst x).tmps
def ah.lit{os:List Ob}{w:World}{Z:Nat->Prop}{blk:dK}(v:Value):ah os w Z blk (.lit v) v:=.bp _ _ (.lit v)
def ah.bw{os:List Ob}{w:World}{Z:Nat->Prop}{blk:dK}{v cv:Value}(h:ah os w Z blk (.lit v) cv):cv=v:=by
 cases h with
 |bp _ _ h=>cases h;rfl
def ah.ti{os:List Ob}{w:World}{Z:Nat->Prop}{blk:dK}{sz:Nat}{rows:List (List AV)}{cv:Value}(h:ah os w Z blk (.tree sz rows) cv):dY w Z (.tree sz rows) cv:=by
 cases h with
 |bp _ _ h=>exact h
def ah.cC{os:List Ob}{w:World}{Z:Nat->Prop}{blk:dK}(v:Value):ah os w Z blk (cC v) v:=by
 unfold Am.cC;split
 ·rename_i cs;refine .agg _ _ Eb (λj x hx=>?_);simp only[bR,Array.getElem?_toList]at hx;cases hj:cs[j]? with
  |none=>simp[hj]at hx
  |some y =>
   simp[hj]at hx;subst hx;simp[hj];exact .lit y
 ·exact .lit v
def kv{σ:St}{γ:Cx}(h:aK σ γ){a:Act}(ha:γ.tmps=a.tmps)(x:Operand):ah σ.aa γ.w γ.Z γ.blk (ev σ x) (a.eval x):=by
 cases x with
 |tmp t=>have:=h.ax t;rw[ha]at this;exact this
 |const v=>exact .cC v
 |global g=>exact h.gl g
 |func f=>exact .fn f [] #[] rfl (λj x hx=>by simp at hx)
def yo{os:List Ob}{w:World}{Z:Nat->Prop}{blk:dK}{v:AV}{cv:Value}(h:ah os w Z blk v cv)(hs:bt v=true):cv.oneCell'=true:=by
 cases h with
 |undef cv=>simp[bt]at hs
 |bp v cv h=>cases h<;>first|rfl|(simpa [bt] using hs)
 |bO=>rfl
 |ga id sz off len cv h h1=>exact h1
 |iG id r c cv h h1=>exact h1
 |ref=>rfl
 |gP=>rfl
 |iq=>rfl
 |iW=>rfl
 |jA=>rfl
 |agg=>simp[bt]at hs
 |bA=>simp[bt]at hs
 |fn=>rfl
 |dW=>rfl
 |cJ=>rfl
 |k8 id cv h h1=>exact h1
def ky{σ:St}{γ:Cx}(h:aK σ γ){a:Act}(ha:γ.tmps=a.tmps){dst:Option Tmp}(hd:∀ d,dst=some d->d<a.tmps.size){v:AV}{cv:Value}(hv:ah σ.aa γ.w γ.Z γ.blk v cv):aK (σ.put dst v) { γ with tmps:=(a.put dst cv).tmps }:=by
 cases dst with
 |none =>
  have:({ γ with tmps:=(a.put none cv).tmps }:Cx)=γ:=by cases γ;simp_all [Act.put]
  rw[this];exact h
 |some d =>
  have:=h.put d (by rw[ha];exact hd d rfl) hv;rw[ha]at this;exact this
def kz(σ:St)(dst:Option Tmp)(v:AV):(σ.put dst v).aa=σ.aa:=by cases dst<;>rfl
def bJ{o:Oper}{σ:St}{γ:Cx}{a:Act}{K:St->Prop}(h:aK σ γ)(ha:γ.tmps=a.tmps)(hd:∀ d,o.dst=some d->d<a.tmps.size){v:AV}{cv:Value}(hv:ah σ.aa γ.w γ.Z γ.blk v cv)(hK:K (σ.put o.dst v)){r:Result Next}(hr:r=.ok (.value cv) γ.w):ry o σ γ a K r :=
 ⟨.value cv,cv,γ.w,σ.put o.dst v,{ γ with tmps:=(a.put o.dst cv).tmps },hr,.inl rfl,hK,ky h ha hd hv,by rw[kz];exact(Fr.refl _ _).put _,rfl,rfl⟩
def tu{o:Oper}{σ σ1:St}{γ γ1:Cx}{a:Act}{K:St->Prop}(hf:Fr σ.aa γ σ1.aa γ1)(h:aK σ1 γ1)(ha:γ1.tmps=a.tmps)(hd:∀ d,o.dst=some d->d<a.tmps.size){v:AV}{cv:Value}(hv:ah σ1.aa γ1.w γ1.Z γ1.blk v cv)(hK:K (σ1.put o.dst v)){r:Result Next}(hr:r=.ok (.value cv) γ1.w):ry o σ γ a K r :=
 ⟨.value cv,cv,γ1.w,σ1.put o.dst v,{ γ1 with tmps:=(a.put o.dst cv).tmps },hr,.inl rfl,hK,ky h ha hd hv,by rw[kz];exact hf.put _,rfl,rfl⟩
def Br{o:Oper}{σ σ1:St}{γ γ1:Cx}{a:Act}{K:St->Prop}(hf:Fr σ.aa γ σ1.aa γ1)(h:aK σ1 γ1)(ha:γ1.tmps=a.tmps)(hd:∀ d,o.dst=some d->d<a.tmps.size)(hK:K (σ1.put o.dst .undef)){r:Result Next}(hr:r=.ok .skip γ1.w):ry o σ γ a K r :=
 ⟨.skip,Go.undef,γ1.w,σ1.put o.dst .undef,{ γ1 with tmps:=(a.put o.dst Go.undef).tmps },hr,.inr ⟨rfl,rfl⟩,hK,ky h ha hd (.undef _),by rw[kz];exact hf.put _,rfl,rfl⟩
def pX{k:IntKind}{n:Int}(h:k.min<=n/\n<=k.max):k.wrap n=n:=by
 cases k<;>simp[IntKind.min,IntKind.max,IntKind.signed,IntKind.bits]at h<;>simp[IntKind.wrap,IntKind.signed,IntKind.bits]<;>omega
def OF{op:BinOp}{k:IntKind}{x y:Int}{K:Value->Prop}(h:dG op k x y K)(t:TypeId)(w:World):
  ∃ v,(binOp op t (.int k x) (.int k y)).run P w=.ok v w/\K v:=by
 cases op<;>simp only[dG]at h
 case add=>exact⟨_,by simp[binOp,Op.intArith,pX h.1],h.2⟩
 case sub=>exact⟨_,by simp[binOp,Op.intArith,pX h.1],h.2⟩
 case mul =>
  unfold nG at h;split at h
  ·exact⟨_,by simp[binOp,Op.intArith],h⟩
  ·exact⟨_,by simp[binOp,Op.intArith,pX h.1],h.2⟩
 case quo =>
  refine⟨_,?_,h.2⟩;obtain⟨h0,hb,hm⟩:=h.1;have hq:x.tdiv y=x/y:=Int.tdiv_eq_ediv_of_nonneg h0;have hle:x/y<=x:=Int.ediv_le_self _ h0;have gN:0<=x/y:=Int.ediv_nonneg h0 z8;have hw:k.wrap (x/y)=x/y:=pX ⟨by cases k<;>simp[IntKind.min,IntKind.signed,IntKind.bits]<;>omega,z8⟩;have bx:¬ y=0:=z8;simp[binOp,Op.intDiv,bx,hq,hw]
 case rem=>exact⟨_,by simp[binOp,Op.intDiv,h.1],h.2⟩
 case and =>
  exact⟨_,by simp[binOp,Op.intBits,qZ],h⟩
 case shr =>
  refine⟨_,?_,h.2⟩;obtain⟨h0,h1⟩:=h.1;have:¬ y<0:=z8;have e:(2:Int)^y.toNat=((2^y.toNat:Nat):Int):=Eb;simp[binOp,Op.shift,this,Nat.min_eq_left h1];exact Int.fdiv_eq_ediv_of_nonneg _ (by rw[e];exact Int.natCast_nonneg _)
 case eql=>exact⟨_,by simp[binOp,Op.intCmp],h⟩
 case neq=>exact⟨_,by simp[binOp,Op.intCmp],h⟩
 case lss=>exact⟨_,by simp[binOp,Op.intCmp],h⟩
 case leq=>exact⟨_,by simp[binOp,Op.intCmp],h⟩
 case gtr=>exact⟨_,by simp[binOp,Op.intCmp],h⟩
 case geq=>exact⟨_,by simp[binOp,Op.intCmp],h⟩
def Hc:∀ {cs:List AV} {as:List Int},jR cs=some as->cs=as.map λa=>UX a
 |[],as,h=>by simp[jR]at h;subst h;rfl
 |c::cs,as,h=>by
  unfold jR at h;split at h
  ·rename_i e;simp at e
  ·rename_i a r e;simp only[List.cons.injEq]at e;obtain⟨rfl,rfl⟩:=e;simp only[qP]at h;obtain⟨T2,h,rfl⟩:=h;rw[Hc h];rfl
  ·simp at h
def Bi{os:List Ob}{w:World}{Z:Nat->Prop}{blk:dK}{cs:List AV}{as:List Int}{cv:Value}(h:ah os w Z blk (.agg cs) cv)(hi:jR cs=some as):cv=.agg (as.map (Value.int .i64)).toArray:=by
 have:=Hc hi;subst this;cases h with
 |bp _ _ h=>cases h
 |agg _ aB hs h =>
  congr 1;refine Array.ext (by simpa using hs) (λj h1 h2=>?_);have hj:j<as.length:=by simpa using h2
  have:=(h j (UX as[j]) (by simp[hj])).bw;rw[cT,Array.getElem?_eq_getElem h1]at this;simpa using this
end Go.Am
namespace Go.Am
variable {P:Program}
def Bu{t:TypeId}(h:(ty P t).kind≠99)(w:World):(isAgg t).run P w=.ok (ty P t).isAgg w:=by
 obtain⟨i,d,hi,hd,_⟩:=mL h;simp only[isAgg,Sem.run_bind,run_underlying hd,Result.andThen_ok];have:ty P t=ty P t:=rfl;cases d<;>simp[ty,hi,hd,Ty.isAgg]
def run_sizeOf{t:TypeId}(h:(ty P t).kind≠99)(w:World):(sizeOf t).run P w=.ok (ty P t).size w:=by
 obtain⟨i,d,hi,hd,hs,_⟩:=mL h;simp[sizeOf,typeInfo,hi,hs]
def G6{t:TypeId}{z:List Value}(h:(ty P t).kind≠99)(hz:(ty P t).zero=some z)(w:World):∃v,(zeroValue t).run P w=.ok v w/\v.cells=z.toArray:=by
 obtain⟨i,d,hi,hd,_,_,h3⟩:=mL h;rw[h3]at hz;cases hv:i.zero with
 |none=>simp[hv]at hz
 |some v =>
  simp[hv]at hz;refine⟨v,by simp[zeroValue,typeInfo,hi,hv],?_⟩;rw[<- hz]
def yc{σ:St}{γ:Cx}(h:aK σ γ){id r c:Nat}{cv:Value}{row:List AV}(hv:ah σ.aa γ.w γ.Z γ.blk (.ptr id r c) cv)(aM:rowOf σ id r=some row):
  ∃ b base cap cur t o,cv=.pointer (some ⟨b,base+c,none⟩)/\γ.blk id=some (b,o,cap)/\γ.w.heap[b]?=some (.cells cur t (0,0))/\base+row.length<=cur.size /\
   (∀ j v,row[j]?=some v->ah σ.aa γ.w γ.Z γ.blk v (cur.getD (base+j) Go.undef))/\Live σ.aa id /\
   (∀ rC j6,rC.length=row.length->j6.size=cur.size->(∀ j v,rC[j]?=some v->ah σ.aa γ.w γ.Z γ.blk v (j6.getD (base+j) Go.undef))->(∀ k,(k<base\/base+row.length<=k)->j6.getD k Go.undef=cur.getD k Go.undef) ->
    ∃ ob ob',σ.aa[id]?=some ob/\ob≠.gone/\ob.cA ob'/\(jq σ id r rC) = { σ with aa:=σ.aa.set id ob' }/\mH σ.aa γ.w γ.Z γ.blk o cap j6 ob'):=by
 unfold rowOf at aM;cases ho:σ.aa[id]? with
 |none=>simp[ho]at aM
 |some ob =>
  have aS:=h.c9 id ob ho;cases ob with
  |gone=>simp[ho]at aM
  |mp ag L=>simp[ho]at aM
  |var cells =>
   simp only[ho]at aM;split at aM
   ·rename_i Bw;subst Bw;simp at aM;subst aM;obtain⟨b,cap,cur,t,h1,h2,h3,h4⟩:=aS;have aD:cv=.pointer (some ⟨b,c,none⟩):=by
     cases hv with
     |bp _ _ h=>cases h
     |iG _ _ _ _ h=>rw[ho]at h;simp at h
     |iW _ _ b' cap' cells' h hb=>rw[h1]at hb;simp at hb;simp[hb.1]
     |jA _ _ _ sz b' o' cap' rows h hb=>rw[ho]at h;simp at h
    refine⟨b,0,cap,cur,t,0,by simpa using aD,h1,h2,z8,λj v hj=>by simpa using h4 j v hj,⟨_,ho,Eb⟩,?_⟩;intro rC j6 hl hs gU _;refine⟨.var cells,.var rC,rfl,Eb,by simp[Ob.cA,hl],by simp[jq,ho],rfl,z8,λc v hc=>by simpa using gU c v hc⟩
   ·simp at aM
  |arr sz rows =>
   simp only[ho]at aM;obtain⟨ay,cF,aS⟩:=aS;have T3:row.length=sz:=cF row (eh aM);have OS:r<rows.length:=(aF.1 aM).1;rcases aS with⟨_,he⟩|⟨b,o,cap,cur,t,h1,h2,h3,h4,h5,h6⟩
   ·subst he;simp at aM
   ·have aD:cv=.pointer (some ⟨b,o+(r*sz+c),none⟩):=by
     cases hv with
     |bp _ _ h=>cases h
     |iG _ _ _ _ h=>rw[ho]at h;simp at h
     |iW _ _ b' cap' cells' h hb=>rw[ho]at h;simp at h
     |jA _ _ _ bz b' o' cap' dJ h hb=>rw[ho]at h;simp at h;rw[h1]at hb;simp at hb;simp[hb.1,hb.2.1,h.1]
    have hmul:r*sz+sz<=cap*sz:=by
     have:(r+1)*sz<=cap*sz:=jo _ z8;rw[eb]at this;omega
    refine⟨b,o+r*sz,cap,cur,t,o,by rw[aD];simp[ni],h1,h2,z8,?_,⟨_,ho,Eb⟩,?_⟩
    ·intro j v hj;have:=h6 r j v (by simp[cellAt,aM,hj]);simpa [ni] using this
    ·intro rC j6 hl hs gU Hd;refine⟨.arr sz rows,.arr sz (rows.set r rC),rfl,Eb,by simp[Ob.cA],by simp[jq,ho],ay,?_,z8,by simp[h4],h5,?_⟩
     ·intro x hx;rcases List.mem_or_eq_of_mem_set hx with hx|rfl
      ·exact cF x hx
      ·omega
     ·intro r' c' v hc;by_cases gR:r=r'
      ·subst gR;simp only[cellAt,bM,if_true,OS]at hc;simp at hc;have:=gU c' v hc;simpa [ni] using this
      ·simp only[cellAt,bM,if_neg gR]at hc;have hold:=h6 r' c' v hc;have rl:c'<sz:=by
        simp only[sJ]at hc;obtain⟨x,hx,lU⟩:=hc;have:=cF x (eh hx);have:=(aF.1 lU).1;omega
       rw[Hd _ ?_]
       ·exact hold
       ·rcases Nat.lt_or_gt_of_ne gR with aZ|T4
        ·right;have:(r+1)*sz<=r'*sz:=jo _ z8;rw[eb]at this;omega
        ·left;have:(r'+1)*sz<=r*sz:=jo _ z8;rw[eb]at this;omega
def Addr.lf(b o n:Nat):(⟨b,o,none⟩:Addr).add n=⟨b,o+n,none⟩:=by
 unfold Go.Addr.add;split<;>simp_all
def tj{w:World}{b j:Nat}{cur:Array Value}{t:TypeId}{fr:Nat×Nat}(h:w.heap[b]?=some (.cells cur t fr))(hj:j<cur.size):w.cell? ⟨b,j,none⟩=some (cur.getD j Go.undef):=by
 simp[World.cell?,h,hj,cT]
def yp{w:World}{t:TypeId}(hk:(ty P t).kind≠99)(b o:Nat)(f:Nat->Value)(hc:∀ j,j<(if(ty P t).isAgg then(ty P t).size else 1)->w.cell? ⟨b,o+j,none⟩=some (f j)):
  (loadVar t ⟨b,o,none⟩).run P w=.ok (if(ty P t).isAgg then .agg ((bj (ty P t).size).map f).toArray else f 0) w:=by
 simp only[loadVar,Sem.run_bind,Bu hk,Result.andThen_ok];by_cases ha:(ty P t).isAgg=true
 ·simp only[ha,if_true,Sem.run_bind,run_sizeOf hk,Result.andThen_ok];rw[run_loadCells w ⟨b,o,none⟩ _ f (λj hj=>by rw[Addr.lf];exact hc j (by simpa [ha] using hj))];rfl
 ·have iY:=hc 0 (by simp[ha]);simp only[jm]at iY;simp[ha,iY]
end Go.Am
namespace Go.Am
variable {P:Program}
def Bo(cs:List AV):∀ (row:List AV) (c:Nat),(setCells row c cs).length=row.length:=by
 induction cs with
 |nil=>intro row c;rfl
 |cons v vs ih=>intro row c;simp[setCells,ih]
def He(cs:List AV):∀ (row:List AV) (c:Nat),c+cs.length<=row.length->∀ j,(setCells row c cs)[j]?=if c<=j/\j<c+cs.length then cs[j-c]? else row[j]?:=by
 induction cs with
 |nil=>intro row c _ j;simp[setCells];intro h1 h2;omega
 |cons v vs ih =>
  intro row c hl j;simp only[b8]at hl;simp only[setCells,b8];rw[ih (row.set c v) (c+1) UU j];by_cases h1:c+1<=j/\j<c+1+vs.length
  ·rw[if_pos h1,if_pos z8];have:j-c=(j-(c+1))+1:=z8;rw[this];simp
  ·rw[if_neg h1];by_cases h2:j=c
   ·subst h2;rw[if_pos z8];simp[show j<row.length by omega]
   ·rw[if_neg z8,List.getElem?_set_ne (Ne.symm h2)]
def Bl{os:List Ob}{w:World}{Z:Nat->Prop}{blk:dK}{v:AV}{cv:Value}(h:ah os w Z blk v cv)(hs:(cellsOf v).all bt=true):
  cv.cells.size=(cellsOf v).length/\(∀ j x,(cellsOf v)[j]?=some x->ah os w Z blk x (cv.cells.getD j Go.undef))/\∀ c∈cv.cells,c.oneCell'=true:=by
 by_cases gV :∃cs,v=.agg cs
 ·obtain⟨cs,rfl⟩:=gV;simp only[cellsOf]at hs ⊢;cases h with
  |bp _ _ h=>cases h
  |agg _ aB ay gU =>
   refine⟨ay,gU,?_⟩;intro c hc;simp only[Value.cells]at hc;obtain⟨j,hj,rfl⟩:=Array.mem_iff_getElem.1 hc;have hx:cs[j]?=some cs[j]:=by simp[<- ay,hj]
   have:=gU j _ hx;have hg:aB.getD j Go.undef=aB[j]:=by simp[cT,hj]
   rw[hg]at this;exact yo this (by rw[gx]at hs;exact hs _ (eh hx))
 ·have mO:cellsOf v=[v]:=by
   unfold cellsOf;split
   ·exact absurd ⟨_,rfl⟩ gV
   ·rfl
  rw[mO]at hs ⊢;simp at hs;have ho:=yo h hs;have bN:cv.cells = #[cv]:=by cases cv<;>first|rfl|simp[Value.oneCell']at ho
  rw[bN];refine⟨rfl,?_,by simp[ho]⟩;intro j x hx;cases j with
  |zero=>simp at hx;subst hx;simpa using h
  |succ j=>simp at hx
section
variable {o:Oper} {σ:St} {γ:Cx} {a:Act} {K:St->Prop}
def A8(hs:aK σ γ){t:TypeId}(hk:(ty P t).kind≠99){id r c:Nat}{cv:Value}(hv:ah σ.aa γ.w γ.Z γ.blk (.ptr id r c) cv){row:List AV}(aM:rowOf σ id r=some row){K:AV->Prop}(h:h9 (ty P t) row c K):
  ∃ v jX,(Instr.loadAt t cv).run P γ.w=.ok jX γ.w/\ah σ.aa γ.w γ.Z γ.blk v jX/\K v:=by
 obtain⟨b,base,cap,cur,tt,o,rfl,hb,fM,ay,gU,_,_⟩:=yc hs hv aM;unfold h9 at h;simp only[Instr.loadAt,Instr.sureAddr,Sem.run_bind,Sem.run_pure,Result.andThen_ok];by_cases gV:(ty P t).isAgg=true
 ·rw[if_pos gV]at h;refine⟨_,_,yp hk b (base+c) (λj=>cur.getD (base+c+j) Go.undef) ?_,?_,h.2⟩
  ·intro j hj;rw[if_pos gV]at hj;exact tj fM z8
  ·rw[if_pos gV];refine .agg _ _ UU (λj x hx=>?_);have hj:j<(ty P t).size:=by have:=(aF.1 hx).1;simp at this;omega
   rw[mn,if_pos hj,iB]at hx;have:=gU _ _ hx;simp[cT,hj];simpa [ni,cT] using this
 ·rw[if_neg gV]at h;cases hc:row[c]? with
  |none=>simp[hc]at h
  |some v =>
   simp only[hc]at h;have dj:=(aF.1 hc).1;refine⟨v,_,yp hk b (base+c) (λj=>cur.getD (base+c+j) Go.undef) ?_,?_,h⟩
   ·intro j hj;rw[if_neg gV]at hj;exact tj fM z8
   ·rw[if_neg gV];exact gU _ _ hc
def OD(_hs:aK σ γ){t:TypeId}(hk:(ty P t).kind≠99){cells:List AV}{cv:Value}(hv:ah σ.aa γ.w γ.Z γ.blk (.bO cells) cv){K:AV->Prop}(h:h9 (ty P t) cells 0 K):
  ∃ v jX,(Instr.loadAt t cv).run P γ.w=.ok jX γ.w/\ah σ.aa γ.w γ.Z γ.blk v jX/\K v:=by
 cases hv with
 |bp _ _ h=>cases h
 |bO _ b o f hz hc ht =>
 unfold h9 at h;simp only[Instr.loadAt,Instr.sureAddr,Sem.run_bind,Sem.run_pure,Result.andThen_ok];by_cases gV:(ty P t).isAgg=true
 ·rw[if_pos gV]at h;have hlen:(ty P t).size<=cells.length:=z8;refine⟨_,_,yp hk b o f ?_,?_,h.2⟩
  ·intro j hj;rw[if_pos gV]at hj;exact hc j cells[j] Eb
  ·rw[if_pos gV];refine .agg _ _ UU (λj x hx=>?_);have hj:j<(ty P t).size:=by have:=(aF.1 hx).1;simp at this;omega
   rw[mn,if_pos hj,iB]at hx;simp at hx;simp[cT,hj];exact .bp _ _ (ht j x hx)
 ·rw[if_neg gV]at h;cases bN:cells[0]? with
  |none=>simp[bN]at h
  |some v =>
   simp only[bN]at h;refine⟨v,_,yp hk b o f ?_,?_,h⟩
   ·intro j hj;rw[if_neg gV]at hj;have:j=0:=z8;subst this;exact hc 0 v bN
   ·rw[if_neg gV];exact .bp _ _ (ht 0 v bN)
def vh(cur:Array Value)(p:Nat)(vs:List Value)(hp:p+vs.length<=cur.size)(k:Nat):
  ((cur.toList.take p++vs++cur.toList.drop (p+vs.length)).toArray).getD k Go.undef=if p<=k/\k<p+vs.length then vs.getD (k-p) Go.undef else cur.getD k Go.undef:=by
 simp only[cT,z',an];by_cases h1:k<p
 ·rw[if_neg z8,br,bL UU,mn,if_pos h1];simp
 ·by_cases h2:k<p+vs.length
  ·rw[if_pos z8,bL UU,dk UU];simp;congr 3;omega
  ·rw[if_neg z8,dk UU];simp;congr 3;omega
def setRow_size(w:World)(g:Nat)(cs:Array Value):(w.setRow g cs).heap.size=w.heap.size:=by simp[World.setRow]
def OE(hs:aK σ γ){t:TypeId}(hk:(ty P t).kind≠99){id r c:Nat}{cv xv:Value}(hv:ah σ.aa γ.w γ.Z γ.blk (.ptr id r c) cv){row:List AV}(aM:rowOf σ id r=some row){v:AV}(hx:ah σ.aa γ.w γ.Z γ.blk v xv)(h:(cellsOf v).length=(ty P t).size/\c+(ty P t).size<=row.length/\(cellsOf v).all bt=true):
  ∃ w',(Instr.storeAt t cv xv).run P γ.w=.ok () w'/\aK (jq σ id r (setCells row c (cellsOf v))) { γ with w:=w' }/\Fr σ.aa γ (jq σ id r (setCells row c (cellsOf v))).aa { γ with w:=w' }:=by
 obtain⟨b,base,cap,cur,tt,o,rfl,hb,fM,ay,gU,iv,OT⟩:=yc hs hv aM;obtain⟨h1,h2,h3⟩:=h;obtain⟨e1,e2,e3⟩:=Bl hx h3;have hlen:xv.cells.toList.length=(ty P t).size:=by simp[e1,h1]
 have cN:(Instr.storeAt t (.pointer (some ⟨b,base+c,none⟩)) xv).run P γ.w=.ok () (γ.w.setRow b (cur.toList.take (base+c)++xv.cells.toList++cur.toList.drop (base+c+xv.cells.toList.length)).toArray):=by
  have eI:=run_storeCells_at P b (base+c) tt xv.cells.toList 0 cur γ.w fM (by rw[hlen];omega) (λx hx=>e3 x (by simpa using hx));simp only[jm]at eI;simp only[Instr.storeAt,Instr.sureAddr,Sem.run_bind,Sem.run_pure,Result.andThen_ok,storeVar,run_sizeOf hk];have:¬ (xv.cells.size≠(ty P t).size):=by rw[e1,h1];simp
  rw[if_neg this];simpa using eI
 obtain⟨ob,ob',g1,g2,g3,g4,g5⟩:=OT (setCells row c (cellsOf v)) (cur.toList.take (base+c)++xv.cells.toList++cur.toList.drop (base+c+xv.cells.toList.length)).toArray
  (Bo _ _ _) (by simp[hlen];omega) (by
   intro j x hj;rw[He _ _ _ (by rw[h1];exact h2)]at hj;rw[vh cur (base+c) xv.cells.toList (by rw[hlen];omega),hlen];by_cases cR:c<=j/\j<c+(cellsOf v).length
   ·rw[if_pos cR]at hj;rw[if_pos z8];have:=e2 _ _ hj;have e:base+j-(base+c)=j-c:=z8;rw[e];simpa [an,cT] using this
   ·rw[if_neg cR]at hj;rw[if_neg z8];exact gU j x hj) (by
   intro k aQ;rw[vh cur (base+c) xv.cells.toList (by rw[hlen];omega),hlen];rw[if_neg z8])
 refine⟨_,cN,?_,?_⟩
 ·rw[g4];exact hs.write g1 g2 g3 hb (setRow_heap γ.w b cur _ tt _ fM) (λk hk=>setRow_other γ.w b k _ hk) (setRow_size _ _ _) g5
 ·rw[g4];exact Fr.write ob' g1 g2 g3 hb (λk hk=>setRow_other γ.w b k _ hk) (setRow_size _ _ _) rfl rfl rfl
end
end Go.Am
namespace Go.Am
variable {P:Program}
def aK.q'{σ:St}{γ:Cx}(h:aK σ γ){sz:Nat}(ay:0<sz):
  aK { σ with aa:=σ.aa++[.arr sz []] } { γ with blk:=bE γ.blk σ.aa.length none }:=by
 have hR:∀ v cv,ah σ.aa γ.w γ.Z γ.blk v cv->ah (σ.aa++[.arr sz []]) γ.w γ.Z (bE γ.blk σ.aa.length none) v cv:=λv cv hv =>
  hv.mono (λb hb=>⟨hb,rfl⟩) (λi o ho=>by
   have hi:i<σ.aa.length:=(aF.1 ho).1;have bW:(σ.aa++[.arr sz []])[i]?=some o:=by rw[bL hi];exact ho
   by_cases bK:o=.gone
   ·subst bK;exact .inl bW
   ·exact .inr ⟨by simp[bE,hJ hi],o,bW,Ob.fv bK⟩)
 have bc:∀ i b,bE γ.blk σ.aa.length none i=some b->Live (σ.aa++[.arr sz []]) i->Live σ.aa i/\γ.blk i=some b:=by
  rintro i b hb⟨o,ho,bK⟩;simp only[bE]at hb;split at hb
  ·simp at hb
  ·rename_i bx;have hi:i<σ.aa.length:=by have:=(aF.1 ho).1;simp at this;omega
   rw[bL hi]at ho;exact⟨⟨o,ho,bK⟩,hb⟩
 refine⟨λk=>hR _ _ (h.ax k),?_,?_,?_,h.eF,λg=>hR _ _ (h.gl g)⟩
 ·intro i o ho;rcases cZ i σ.aa.length with hi|hi
  ·rw[bL hi]at ho;exact(h.c9 i o ho).mono hR (by simp[bE,hJ hi]) (λ_ _ _ _=>rfl)
  ·have hi':i=σ.aa.length:=by have:=(aF.1 ho).1;simp at this;omega
   subst hi';simp at ho;subst ho;exact⟨ay,Eb,.inl ⟨by simp[bE],rfl⟩⟩
 ·intro i j b o c o' c' hi hj dT dU;obtain⟨Bx,gW⟩:=bc i _ dT hi;obtain⟨mP,kq⟩:=bc j _ dU hj;exact h.inj i j b o c o' c' Bx mP gW kq
 ·rintro b ⟨i,o,c,hi,hb⟩;obtain⟨Bx,gW⟩:=bc i _ hb hi;exact h.nz b ⟨i,o,c,Bx,gW⟩
def Fr.q'(os:List Ob)(γ:Cx)(sz:Nat):Fr os γ (os++[.arr sz []]) { γ with blk:=bE γ.blk os.length none } where
 ij:=rfl
 tape:=rfl
 output:=rfl
 size:=Nat.le_refl _
 cg:=λ_ _ _=>rfl
 z0:=λ_ h=>h
 z1:=λ_ h=>.inl h
 own:=by
  rintro b⟨i,o,c,⟨x,hx,da⟩,hb⟩;simp only[bE]at hb;split at hb
  ·simp at hb
  ·have hi:i<os.length:=by have:=(aF.1 hx).1;simp at this;omega
   rw[bL hi]at hx;exact .inl ⟨i,o,c,⟨x,hx,da⟩,hb⟩
 len:=Eb
 gf:=by
  rintro i hi⟨x,hx,da⟩;have hx0:=hx;rw[bL hi]at hx;exact⟨by simp[bE,hJ hi],x,x,hx,hx0,Ob.fv da⟩
def aK.vj{σ:St}{γ:Cx}(h:aK σ γ){id:Nat}{ob ob':Ob}(ho:σ.aa[id]?=some ob)(hg:ob≠.gone){b o cap o' cap':Nat}(hb:γ.blk id=some (b,o,cap)){w':World}{cur:Array Value}{t:TypeId}(hw:w'.heap[b]?=some (.cells cur t (0,0)))(jE:∀ k,k≠b->w'.heap[k]?=γ.w.heap[k]?)(ay:w'.heap.size=γ.w.heap.size)(aS:mH σ.aa γ.w γ.Z γ.blk o' cap' cur ob'):
  aK { σ with aa:=σ.aa.set id .gone++[ob'] } { γ with w:=w',blk:=bE γ.blk σ.aa.length (some (b,o',cap')) }:=by
 have bZ:id<σ.aa.length:=(aF.1 ho).1;have iv:Live σ.aa id:=⟨ob,ho,hg⟩;have hR:∀ v cv,ah σ.aa γ.w γ.Z γ.blk v cv->ah (σ.aa.set id .gone++[ob']) w' γ.Z (bE γ.blk σ.aa.length (some (b,o',cap'))) v cv:=λv cv hv =>
  hv.mono (λz hz=>⟨hz,jE z (λe=>h.nz b ⟨id,o,cap,iv,hb⟩ (e▸hz))⟩) (λi x hx=>by
   have hi:i<σ.aa.length:=(aF.1 hx).1;rw[bL (by simpa using hi),bM];by_cases iJ:id=i
   ·left;simp[iJ,hi]
   ·rw[if_neg iJ];by_cases bK:x=.gone
    ·subst bK;exact .inl hx
    ·exact .inr ⟨by simp[bE,hJ hi],x,hx,Ob.fv bK⟩)
 have bc:∀ i,Live (σ.aa.set id .gone++[ob']) i->i=σ.aa.length\/(i<σ.aa.length/\i≠id/\Live σ.aa i):=by
  rintro i⟨x,hx,da⟩;rcases cZ i σ.aa.length with hi|hi
  ·right;rw[bL (by simpa using hi),bM]at hx;split at hx
   ·simp at hx;exact absurd hx.symm da
   ·rename_i bx;exact⟨hi,Ne.symm bx,x,hx,da⟩
  ·left;have:=(aF.1 hx).1;simp at this;omega
 refine⟨λk=>hR _ _ (h.ax k),?_,?_,?_,λz hz=>by rw[ay];exact h.eF z hz,λg=>hR _ _ (h.gl g)⟩
 ·intro i x hx;rcases cZ i σ.aa.length with hi|hi
  ·rw[bL (by simpa using hi),bM]at hx;split at hx
   ·simp at hx;subst hx;trivial
   ·rename_i bx;by_cases bK:x=.gone
    ·subst bK;trivial
    ·refine(h.c9 i x hx).mono hR (by simp[bE,hJ hi]) (λz y c hz=>jE z (λe=>bx ?_));subst e;exact h.inj id i z o cap y c iv ⟨x,hx,bK⟩ hb hz
  ·have hi':i=σ.aa.length:=by have:=(aF.1 hx).1;simp at this;omega
   subst hi';rw[dk Eb]at hx;simp at hx;subst hx;exact aS.By (b:=b) (cap:=cap') hR (by simp[bE]) hw
 ·intro i j z y c y' c' hi hj dT dU;simp only[bE]at dT dU;rcases bc i hi with rfl|⟨cQ,Hf,hi'⟩<;>rcases bc j hj with rfl|⟨eE,OU,iZ⟩
  ·rfl
  ·rw[if_pos rfl]at dT;rw[if_neg (hJ eE)]at dU;simp at dT;rw[<- dT.1]at dU;exact absurd (h.inj j id b y' c' o cap iZ iv dU hb) OU
  ·rw[if_pos rfl]at dU;rw[if_neg (hJ cQ)]at dT;simp at dU;rw[<- dU.1]at dT;exact absurd (h.inj i id b y c o cap hi' iv dT hb) Hf
  ·rw[if_neg (hJ cQ)]at dT;rw[if_neg (hJ eE)]at dU;exact h.inj i j z y c y' c' hi' iZ dT dU
 ·rintro z ⟨i,y,c,hi,hz⟩ iu;simp only[bE]at hz;rcases bc i hi with rfl|⟨cQ,Hf,hi'⟩
  ·rw[if_pos rfl]at hz;simp at hz;rw[<- hz.1]at iu;exact h.nz b ⟨id,o,cap,iv,hb⟩ iu
  ·rw[if_neg (hJ cQ)]at hz;exact h.nz z ⟨i,y,c,hi',hz⟩ iu
def Fr.vj{σ:St}{γ:Cx}{id:Nat}{ob:Ob}(ob':Ob)(ho:σ.aa[id]?=some ob)(hg:ob≠.gone){b o cap o' cap':Nat}(hb:γ.blk id=some (b,o,cap)){w':World}(jE:∀ k,k≠b->w'.heap[k]?=γ.w.heap[k]?)(ay:w'.heap.size=γ.w.heap.size)(h1:w'.os=γ.w.os)(h2:w'.tape=γ.w.tape)(h3:w'.output=γ.w.output):
  Fr σ.aa γ (σ.aa.set id .gone++[ob']) { γ with w:=w',blk:=bE γ.blk σ.aa.length (some (b,o',cap')) } where
 ij:=h1
 tape:=h2
 output:=h3
 size:=by simp[ay]
 cg:=λz _ jB=>jE z (λe=>jB ⟨id,o,cap,⟨ob,ho,hg⟩,e▸hb⟩)
 z0:=λ_ h=>h
 z1:=λ_ h=>.inl h
 own:=by
  rintro z⟨i,y,c,⟨x,hx,da⟩,hz⟩;simp only[bE]at hz;split at hz
  ·simp at hz;left;exact⟨id,o,cap,⟨ob,ho,hg⟩,by rw[hb,hz.1]⟩
  ·have hi:i<σ.aa.length:=by have:=(aF.1 hx).1;simp at this;omega
   rw[bL (by simpa using hi),bM]at hx;split at hx
   ·split at hx<;>simp at hx;exact absurd hx.symm da
   ·exact .inl ⟨i,y,c,⟨x,hx,da⟩,hz⟩
 len:=Eb
 gf:=by
  rintro i hi⟨x,hx,da⟩;have hx0:=hx;rw[bL (by simpa using hi),bM]at hx;split at hx
  ·split at hx<;>simp at hx;exact absurd hx.symm da
  ·exact⟨by simp[bE,hJ hi],x,x,hx,hx0,Ob.fv da⟩
def Hg{σ:St}{γ:Cx}(h:aK σ γ){x:AV}{cv:Value}(hv:ah σ.aa γ.w γ.Z γ.blk x cv){sz:Nat}(ay:0<sz){src:List (List AV)}(hs:jr σ x=some (sz,src)):
  ∃ ad c,∃ g:Nat->Value,cv=.slice ad src.length c/\(∀ row∈src,row.length=sz)/\(0<src.length->∃ b o,ad=some ⟨b,o,none⟩/\∀ j,j<src.length*sz->γ.w.cell? ⟨b,o+j,none⟩=some (g j)) /\
   ∀ r c v,cellAt src r c=some v->ah σ.aa γ.w γ.Z γ.blk v (g (r*sz+c)):=by
 cases x with
 |tree bz rows =>
  simp[jr]at hs;obtain⟨rfl,rfl⟩:=hs;cases hv.ti with
  |nil _ cap a=>exact⟨a,cap,λ_=>Go.undef,rfl,Eb,Eb,by simp[cellAt]⟩
  |tree _ _ b o cap f hz hr Bz hc ht =>
   refine⟨_,cap,λj=>f (j/bz) (j%bz),rfl,hr,λhlen=>⟨b,o,rfl,?_⟩,?_⟩
   ·intro j hj;have h1:j/bz<rows.length:=Nat.div_lt_of_lt_mul (by rw[qV];exact hj);have h2:j%bz<bz:=xc _ ay;have cF:(rows[j/bz]).length=bz:=hr _ (lF h1);have:=hc (j/bz) (j%bz) ((rows[j/bz])[j%bz]' z8) (by simp[cellAt,h1,h2,cF]);have e:j/bz*bz+j%bz=j:=by rw[qV];exact Nat.div_add_mod j bz
    rw[e]at this;exact this
   ·intro r c v aD;have dj:c<bz:=by
     simp only[cellAt,sJ]at aD;obtain⟨y,hy,rF⟩:=aD;have:=hr y (eh hy);have:=(aF.1 rF).1;omega
    have e1:(r*bz+c)/bz=r:=by rw[qV,Nat.mul_add_div ay,Nat.div_eq_of_lt dj];rfl
    have e2:(r*bz+c)%bz=c:=by rw[qV,Nat.mul_add_mod,Nat.mod_eq_of_lt dj]
    simp only[e1,e2];exact .bp _ _ (ht r c v aD)
 |ref id bz off len =>
  simp only[jr]at hs;cases ho:σ.aa[id]? with
  |none=>simp[ho]at hs
  |some ob =>
   have aS:=h.c9 id ob ho;cases ob with
   |gone=>simp[ho]at hs
   |mp ag L=>simp[ho]at hs
   |var cells=>simp[ho]at hs
   |arr gj rows =>
    simp only[ho]at hs;split at hs
    ·rename_i he;subst he;simp at hs;obtain⟨rfl,rfl⟩:=hs;obtain⟨_,cF,aS⟩:=aS;cases hv with
     |bp _ _ h=>cases h
     |ga _ _ _ _ _ h=>rw[ho]at h;simp at h
     |gP _ _ h hb =>
      rw[ho]at h;simp at h;subst h;exact⟨none,0,λ_=>Go.undef,rfl,Eb,Eb,by simp[cellAt]⟩
     |iq _ _ _ b x bo dJ h hb hl =>
      exact⟨some ⟨b,x,none⟩,0,λ_=>Go.undef,Eb,Eb,Eb,by simp[cellAt]⟩
     |ref _ _ _ _ b o cap cap' dJ h hb hl hc ed =>
      rw[ho]at h;simp at h;subst h;rcases aS with⟨h1,_⟩|⟨b',o',uY,cur,t,h1,h2,h3,h4,h5,h6⟩
      ·rw[hb]at h1;simp at h1
      ·rw[hb]at h1;simp at h1;obtain⟨rfl,rfl,rfl⟩:=h1;have hlen:((rows.drop off).take len).length=len:=UU;refine⟨_,cap',λj=>cur.getD (o+off*gj+j) Go.undef,by rw[hlen],?_,λ_=>⟨b,o+off*gj,rfl,?_⟩,?_⟩
       ·intro row aM;exact cF row (sN (oq aM))
       ·intro j hj;rw[hlen]at hj;refine tj h2 ?_;have:(off+len)*gj<=cap*gj:=jo _ z8;rw[eb]at this;omega
       ·intro r c v aD;simp only[cellAt,mn,iB]at aD;split at aD
        ·have:=h6 (off+r) c v aD;rw[eb]at this;have e:o+(off*gj+r*gj+c)=o+off*gj+(r*gj+c):=z8;rw[e]at this;exact this
        ·simp at aD
    ·simp at hs
 |_=>simp[jr]at hs
end Go.Am
namespace Go.Am
variable {P:Program}
def uZ{rows:List (List AV)}{sz r c:Nat}{v:AV}(hr:∀ row∈rows,row.length=sz)(h:cellAt rows r c=some v):r<rows.length/\c<sz:=by
 simp only[cellAt,sJ]at h;obtain⟨y,hy,rF⟩:=h;have h1:=hr y (eh hy);have h2:=(aF.1 rF).1;have h3:=(aF.1 hy).1;omega
def Hh{p s:List (List AV)}{r c:Nat}:cellAt (p++s) r c=if r<p.length then cellAt p r c else cellAt s (r-p.length) c:=by
 unfold cellAt;split
 ·rw[bL (by assumption)]
 ·rw[dk z8]
def ru{r c n sz:Nat}(hr:r<n)(hc:c<sz):r*sz+c<n*sz:=by
 have:(r+1)*sz<=n*sz:=jo _ hr;rw[eb]at this;omega
def OV{R:AV->Value->Prop}{p s:List (List AV)}{sz:Nat}(hp:∀ row∈p,row.length=sz)(hs:∀ row∈s,row.length=sz){go g:Nat->Value}(h1:∀ r c v,cellAt p r c=some v->R v (go (r*sz+c)))(h2:∀ r c v,cellAt s r c=some v->R v (g (r*sz+c)))(rest:List Value)(r c:Nat)(v:AV)(h:cellAt (p++s) r c=some v):
  R v (((((bj (p.length*sz)).map go)++((bj (s.length*sz)).map g))++rest).toArray.getD (r*sz+c) Go.undef):=by
 rw[Hh]at h;simp only[cT,z'];split at h
 ·obtain⟨hr,hc⟩:=uZ hp h;have:=ru hr hc;rw[br,bL (by simpa using this)];simp[this];exact h1 r c v h
 ·rename_i gN;obtain⟨hr,hc⟩:=uZ hs h;have hl:=ru hr hc;have e:r*sz+c=p.length*sz+((r-p.length)*sz+c):=by
   have:r=p.length+(r-p.length):=z8
   conv=>lhs;rw[this,eb]
   omega
  rw[bL UU,dk UU];have e2:r*sz+c-(List.map go (bj (p.length*sz))).length=(r-p.length)*sz+c:=UU;rw[e2];simp[hl];exact h2 _ _ _ h
def OW {σ:St} {γ:Cx} (h:aK σ γ) {x:AV} {cv:Value} (hv:ah σ.aa γ.w γ.Z γ.blk x cv) {sz:Nat} {pre:List (List AV)} {σ1:St} (hs:kW σ sz x=some (pre,σ1)) :
    (aK σ1 γ/\Fr σ.aa γ σ1.aa γ/\∃ k,σ1.aa.length=k) /\
    ((cv=.slice none 0 0/\pre=[]) \/
     (∃ id b x bo cur t,cv=.slice (some ⟨b,x,none⟩) 0 0/\pre=[]/\Live σ.aa id/\σ1 = { σ with aa:=σ.aa.set id .gone }/\γ.blk id=some (b,bo)/\γ.w.heap[b]?=some (.cells cur t (0,0))) \/
     ∃ id off rows b o cap cap' cur t,σ.aa[id]?=some (.arr sz rows)/\σ1 = { σ with aa:=σ.aa.set id .gone }/\γ.blk id=some (b,o,cap)/\γ.w.heap[b]?=some (.cells cur t (0,0)) /\
      cv=.slice (some ⟨b,o+off * sz,none⟩) pre.length cap'/\pre.length<=cap'/\cap'<=maxLen/\o+off * sz+cap' * sz<=cur.size/\(∀ row∈pre,row.length=sz) /\
      ∀ r c v,cellAt pre r c=some v->ah σ.aa γ.w γ.Z γ.blk v (cur.getD (o+off * sz+(r * sz+c)) Go.undef)):=by
  unfold kW at hs
  split at hs
  · simp at hs
    obtain ⟨rfl,rfl⟩:=hs
    exact⟨⟨h,Fr.refl _ _,_,rfl⟩,.inl ⟨hv.bw,rfl⟩⟩
  · rename_i id bz off len
    cases ho:σ.aa[id]? with
    | none=>simp[ho] at hs
    | some ob =>
      have aS:=h.c9 id ob ho
      cases ob with
      | gone=>simp[ho] at hs
      | mp ag L=>simp[ho] at hs
      | var cells=>simp[ho] at hs
      | arr gj rows =>
        simp only[ho] at hs
        split at hs
        · rename_i he
          obtain ⟨BA,BB⟩:=he
          subst BA
          subst BB
          simp at hs
          obtain ⟨rfl,rfl⟩:=hs
          refine⟨⟨h.kill id,Fr.kill _ _ _,_,rfl⟩,?_⟩
          obtain ⟨_,cF,aS⟩:=aS
          cases hv with
          | bp _ _ h=>cases h
          | ga _ _ _ _ _ h=>rw[ho] at h;simp at h
          | gP _ _ h hb=>left;exact⟨rfl,Eb⟩
          | iq _ _ _ b x bo dJ h' hb hl =>
            right;left
            rcases aS with ⟨h1,_⟩ | ⟨b',o',uY,cur,t,h1,h2,_⟩
            · rw[hb] at h1;simp at h1
            · rw[hb] at h1;simp at h1
              obtain ⟨rfl,_⟩:=h1
              exact⟨id,b,x,bo,cur,t,rfl,Eb,⟨_,ho,Eb⟩,rfl,hb,h2⟩
          | ref _ _ _ _ b o cap cap' dJ h' hb hl hc ed =>
            rw[ho] at h';simp at h'
            subst h'
            rcases aS with ⟨h1,_⟩ | ⟨b',o',uY,cur,t,h1,h2,h3,h4,h5,h6⟩
            · rw[hb] at h1;simp at h1
            · rw[hb] at h1;simp at h1
              obtain ⟨rfl,rfl,rfl⟩:=h1
              right;right
              have hlen:((rows.drop off).take len).length=len:=UU
              refine⟨id,off,rows,b,o,cap,cap',cur,t,ho,rfl,hb,h2,by rw[hlen],z8,z8,?_,?_,?_⟩
              · have:(off+cap') * gj<=cap * gj:=jo _ hc
                rw[eb] at this;omega
              · intro row aM
                exact cF row (sN (oq aM))
              · intro r c v aD
                simp only[cellAt,mn,iB] at aD
                split at aD
                · have:=h6 (off+r) c v aD
                  rw[eb] at this
                  have e:o+(off * gj+r * gj+c)=o+off * gj+(r * gj+c):=z8
                  rw[e] at this
                  exact this
                · simp at aD
        · simp at hs
  · simp at hs
def OX(w:World)(t OY e:TypeId)(i:TypeInfo)(ht:P.underlying t=some (.slice e))(hi:P.info? e=some i)(g o rG BC:Nat)(cur:Array Value)(tt:TypeId)(hg:w.heap[g]?=some (.cells cur tt (0,0)))(xa:Option Addr)(m c:Nat)(news:List Value)(hl:news.length=m*i.size)(pY:0<m->∃ a,xa=some a/\∀ j u,news[j]?=some u->w.cell? (a.add j)=some u)(h1:∀ u∈news,u.oneCell'=true)(tw:rG+m<=BC)(nI:o+rG*i.size+news.length<=cur.size):
  (Builtin.append_ #[t,t] OY #[.slice (some ⟨g,o,none⟩) rG BC,.slice xa m c]).run P w =
   .ok (.slice (some ⟨g,o,none⟩) (rG+m) BC) (w.setRow g (cur.toList.take (o+rG*i.size)++news++cur.toList.drop (o+rG*i.size+news.length)).toArray):=by
 have hf:(Builtin.firstCells i.size m (.slice xa m c)).run P w=.ok news.toArray w:=by
  rcases xe m with h0|hp
  ·subst h0;have hn:news=[]:=sM (by simpa using hl);subst hn;cases xa<;>simp[Builtin.firstCells,loadCells,loadCellsFrom]
  ·obtain⟨a,rfl,hc⟩:=pY hp;exact run_firstCells_some w i.size m a m c news hl hc
 have eI:=run_storeCells_at P g (o+rG*i.size) tt news 0 cur w hg (by simpa using nI) h1;simp only[jm]at eI;simp[Builtin.append_,run_underlying ht,sizeOf,typeInfo,hi,Builtin.lenOf,tw,hf,Addr.lf,eI]
def tx{g:Nat->Value}{n j:Nat}{u:Value}(h:((bj n).map g)[j]?=some u):j<n/\u=g j:=by
 have hj:=(aF.1 h).1;simp at hj;simp[hj]at h;exact⟨hj,h.symm⟩
def OP{σ σ1:St}{γ:Cx}(h:aK σ γ){t oty:TypeId}{sz:Nat}{z:List Value}(hk:(ty P t).kind=1)(bU:(ty P (ty P t).elem).kind≠99)(hz:(ty P (ty P t).elem).zero=some z)(ay:sz=(ty P (ty P t).elem).size)(h0:0<sz)(gB:z.length=sz){sD x:AV}{lV vl:Value}(hS:ah σ.aa γ.w γ.Z γ.blk sD lV)(hX:ah σ.aa γ.w γ.Z γ.blk x vl){pre src:List (List AV)}(hd:kW σ sz sD=some (pre,σ1))(mG:jr σ x=some (sz,src))(hlen:pre.length+src.length<=549755813888)(ve:(ty P (ty P t).elem).bytes<=128)(oO:(src.all λrow=>row.all bt)=true):
    ∃ jX γ1,(Builtin.append_ #[t,t] oty #[lV,vl]).run P γ.w=.ok jX γ1.w/\γ1.tmps=γ.tmps/\aK { σ1 with aa:=σ1.aa++[.arr sz (pre++src)] } γ1 /\
      Fr σ.aa γ (σ1.aa++[.arr sz (pre++src)]) γ1/\ah (σ1.aa++[.arr sz (pre++src)]) γ1.w γ1.Z γ1.blk (.ref σ1.aa.length sz 0 (pre.length+src.length)) jX:=by
  obtain⟨i,d,hi,yh,mK,vf,hzero⟩:=mL bU;have ht:=lT hk;have oQ:i.size=sz:=by rw[<- mK,<- ay]
  obtain⟨zv,rB,eM⟩:∃zv,i.zero=some zv/\zv.cells.size=sz:=by
    rw[hzero]at hz;cases hv:i.zero with
    |none=>simp[hv]at hz
    |some v=>simp[hv]at hz;exact⟨v,rfl,by rw[<- gB,<- hz];simp⟩
  obtain⟨ad,c,g,rfl,oR,BD,tA⟩:=Hg h hX h0 mG;obtain⟨⟨pZ,Hi,_⟩,OZ⟩:=OW h hS hd
  let news:=(bj (src.length*sz)).map g
  have aq:news.length=src.length*i.size:=by simp[news,oQ]
  have O0:∀ u∈news,u.oneCell'=true:=by
    intro u hu;obtain⟨j,hj⟩:=D9.1 hu;obtain⟨eE,rfl⟩:=tx hj;have h1:j/sz<src.length:=Nat.div_lt_of_lt_mul (by rw[qV];exact eE);have h2:j%sz<sz:=xc _ h0;have cF:(src[j/sz]).length=sz:=oR _ (lF h1);have:=tA (j/sz) (j%sz) ((src[j/sz])[j%sz]' z8) (by simp[cellAt,h1,h2,cF]);have e:j/sz*sz+j%sz=j:=by rw[qV];exact Nat.div_add_mod j sz
    rw[e]at this;refine yo this ?_;rw[gx]at oO;have:=oO _ (lF h1);rw[gx]at this;exact this _ (lF _)
  have pY:0<src.length->∃ a,ad=some a/\∀ j u,news[j]?=some u->γ.w.cell? (a.add j)=some u:=by
    intro hp;obtain⟨b,o,rfl,hc⟩:=BD hp;refine⟨_,rfl,λj u hu=>?_⟩;obtain⟨eE,rfl⟩:=tx hu;rw[Addr.lf];exact hc j eE
  have p6:pre.length+src.length<=maxLen:=by unfold maxLen;omega
  have rH:(pre.length+src.length)*i.bytes<=140737488355328:=by
    rw[<- vf]
    calc _<=549755813888*128:=Nat.mul_le_mul hlen ve
      _<=_:=z8
  have fresh:∀ (gf:Nat) (go:Nat->Value),(∀ row∈pre,row.length=sz)->(∀ r c v,cellAt pre r c=some v->ah σ.aa γ.w γ.Z γ.blk v (go (r*sz+c))) ->
      ∀ (w':World) (cap:Nat),pre.length+src.length<=cap->cap<=maxLen ->
        w'=γ.w.drew.alloc (.cells (((bj (pre.length*sz)).map go).toArray++news.toArray++Builtin.zeroCells zv.cells (cap-(pre.length+src.length))) (ty P t).elem) ->
        ∃ γ1:Cx,γ1.w=w'/\γ1.tmps=γ.tmps/\aK { σ1 with aa:=σ1.aa++[.arr sz (pre++src)] } γ1/\Fr σ.aa γ (σ1.aa++[.arr sz (pre++src)]) γ1 /\
          ah (σ1.aa++[.arr sz (pre++src)]) γ1.w γ1.Z γ1.blk (.ref σ1.aa.length sz 0 (pre.length+src.length)) (.slice (some ⟨γ.w.heap.size,0,none⟩) (pre.length+src.length) cap):=by
    intro gf go lW yq w' cap mO p7 oH;have vn:∀ v cv,ah σ.aa γ.w γ.Z γ.blk v cv->ah σ1.aa γ.w γ.Z γ.blk v cv:=by
      intro v cv hv;refine hv.mono (λb hb=>⟨hb,rfl⟩) (λi o ho=>?_);unfold kW at hd;split at hd
      · simp at hd
        rw[<- hd.2];by_cases bK:o=.gone
        · subst bK;exact .inl ho
        · exact .inr ⟨rfl,o,ho,Ob.fv bK⟩
      · rename_i id bz off len
        have hi:i<σ.aa.length:=(aF.1 ho).1;split at hd
        · split at hd
          · simp at hd
            rw[<- hd.2];show(σ.aa.set id Ob.gone)[i]?=some Ob.gone\/_;simp only[bM];by_cases iJ:id=i
            · left;simp[iJ,hi]
            · rw[if_neg iJ]
              by_cases bK:o=.gone
              · subst bK;exact .inl ho
              · exact .inr ⟨trivial,o,ho,Ob.fv bK⟩
          · simp at hd
        · simp at hd
      · simp at hd
    let cur:=((bj (pre.length*sz)).map go).toArray++news.toArray++Builtin.zeroCells zv.cells (cap-(pre.length+src.length))
    have aS:mH σ1.aa γ.w γ.Z γ.blk 0 cap cur (.arr sz (pre++src)):=by
      refine⟨h0,?_,?_,by simpa using mO,p7,?_⟩
      · intro row aM
        rcases bn.1 aM with h|h
        · exact lW row h
        · exact oR row h
      · simp only[cur,news,Array.size_append,uz,cU,List.length_range,size_zeroCells,eM,<- eb]
        have:pre.length+src.length+(cap-(pre.length+src.length))=cap:=z8;rw[this];omega
      · intro r c v hv
        have:=OV (R:=ah σ1.aa γ.w γ.Z γ.blk) lW oR (λr c v hv=>vn _ _ (yq r c v hv)) (λr c v hv=>vn _ _ (tA r c v hv)) (Builtin.zeroCells zv.cells (cap-(pre.length+src.length))).toList r c v hv;rw[eX];have e:cur=(((bj (pre.length*sz)).map go)++((bj (src.length*sz)).map g)++(Builtin.zeroCells zv.cells (cap-(pre.length+src.length))).toList).toArray:=by
          apply Array.ext';simp[cur,news]
        rw[e];exact this
    refine⟨{ γ with w:=w',blk:=bE γ.blk σ1.aa.length (some (γ.w.heap.size,0,cap)) },rfl,rfl,?_,?_,?_⟩
    · exact pZ.push (t:=(ty P t).elem) (cur:=cur) (by rw[oH];rfl) aS
    · exact Hi.trans (Fr.push (σ:=σ1) (t:=(ty P t).elem) (cur:=cur) _ (by rw[oH];rfl) (by rw[oH];rfl) (by rw[oH];rfl) (by rw[oH];rfl))
    · have:=ah.ref (os:=σ1.aa++[.arr sz (pre++src)]) (w:=w') (Z:=γ.Z) (blk:=bE γ.blk σ1.aa.length (some (γ.w.heap.size,0,cap))) σ1.aa.length sz 0 (pre.length+src.length) γ.w.heap.size 0 cap cap (pre++src)
        Eb (by simp[bE]) Eb z8 mO
      simpa using this
  rcases OZ with⟨rfl,rfl⟩|⟨id,b,x,bo,cur,tt,rfl,rfl,iv,rfl,hb,fM⟩|⟨id,off,rows,b,o,cap,cap',cur,tt,ho,rfl,hb,fM,rfl,yr,rI,nI,lW,yq⟩
  · rcases xe src.length with hm|hp
    ·
      have iH:src=[]:=sM hm;subst iH;refine⟨.slice none 0 0,{ γ with blk:=bE γ.blk σ1.aa.length none },?_,rfl,pZ.q' h0,Hi.trans (Fr.q' _ _ _),?_⟩
      · cases ad<;>simp[Builtin.append_,run_underlying ht,sizeOf,typeInfo,hi,Builtin.lenOf,Builtin.firstCells,loadCells,loadCellsFrom]
      · exact .gP _ _ Eb (by simp[bE])
    · obtain⟨a,rfl,hc⟩:=pY hp
      have hr:=run_append_nil (P:=P) γ.w t oty _ i zv ht hi rB a src.length c news aq hc hp (by unfold maxLen at p6;simp at p6;omega) (by have hb:=rH;simp only[eZ,eX]at hb;omega);have gN:=grownCap_ge γ.w src.length 0 (ty P t).elem;have rI:=grownCap_le_maxLen γ.w src.length 0 (ty P t).elem (by simpa using p6);obtain⟨γ1,e1,e2,e3,e4,e5⟩:=fresh 0 (λ_=>Go.undef) Eb (by simp[cellAt]) _ (grownCap γ.w src.length 0 (ty P t).elem) (by simpa using gN) rI rfl;simp only[eZ,Nat.zero_mul,List.range_zero,List.map_nil,eX,Array.empty_append]at e1 e5;refine⟨.slice (some ⟨γ.w.heap.size,0,none⟩) src.length (grownCap γ.w src.length 0 (ty P t).elem),γ1,?_,e2,e3,e4,?_⟩
      · rw[hr,e1]
      · simpa using e5
  · rcases xe src.length with hm|hp
    · have iH:src=[]:=sM hm
      subst iH;obtain⟨ob,ho,hg⟩:=iv;have jE:∀ k,k≠b->γ.w.heap[k]?=γ.w.heap[k]?:=λ_ _=>rfl;have BE:=h.vj (ob':=.arr sz []) (o':=0) (cap':=0) ho hg (o:=bo.1) (cap:=bo.2) hb fM jE rfl ⟨h0,Eb,Eb,Eb,by simp[maxLen],by simp[cellAt]⟩;have eu:=Fr.vj (γ:=γ) (o':=0) (cap':=0) (.arr sz []) ho hg (o:=bo.1) (cap:=bo.2) hb (w':=γ.w) jE rfl rfl rfl rfl;refine⟨.slice (some ⟨b,x,none⟩) 0 0,{ γ with w:=γ.w,blk:=bE γ.blk σ.aa.length (some (b,0,0)) },?_,rfl,by simpa using BE,by simpa using eu,?_⟩
      · cases ad<;>simp[Builtin.append_,run_underlying ht,sizeOf,typeInfo,hi,Builtin.lenOf,Builtin.firstCells,loadCells,loadCellsFrom,storeCells]
      · have:=ah.iq (os:=σ.aa.set id .gone++[.arr sz []]) (w:=γ.w) (Z:=γ.Z) (blk:=bE γ.blk σ.aa.length (some (b,0,0))) σ.aa.length sz 0 b x (0,0) []
          (by rw[dk Eb];simp) (by simp[bE]) Eb
        simpa using this
    · obtain⟨a,rfl,hc⟩:=pY hp
      have hr:=run_append_grow (P:=P) γ.w t oty _ i zv ht hi rB ⟨b,x,none⟩ 0 0 [] Eb Eb a src.length c news aq hc z8 (by unfold maxLen at p6;simp at p6;omega) (growslice_fits z8 (by simpa using rH));have gN:=grownCap_ge γ.w (0+src.length) 0 (ty P t).elem;have rI:=grownCap_le_maxLen γ.w (0+src.length) 0 (ty P t).elem (by simpa using p6);obtain⟨γ1,e1,e2,e3,e4,e5⟩:=fresh 0 (λ_=>Go.undef) Eb (by simp[cellAt]) _ (grownCap γ.w (0+src.length) 0 (ty P t).elem) (by simpa using gN) rI rfl;refine⟨.slice (some ⟨γ.w.heap.size,0,none⟩) (0+src.length) (grownCap γ.w (0+src.length) 0 (ty P t).elem),γ1,?_,e2,e3,e4,?_⟩
      · rw[hr,e1];simp
      · simpa using e5
  · by_cases tw:pre.length+src.length<=cap'
    ·
      have hmul:pre.length*sz+src.length*sz<=cap'*sz:=by rw[<- eb];exact jo _ tw
      have yu:news.length=src.length*sz:=by rw[aq,oQ]
      have hr:=OX (P:=P) γ.w t oty _ i ht hi b (o+off*sz) pre.length cap' cur tt fM ad src.length c news aq pY O0 tw (by rw[oQ,yu];omega);have aS:mH σ.aa γ.w γ.Z γ.blk (o+off*sz) cap' (cur.toList.take (o+off*sz+pre.length*i.size)++news++cur.toList.drop (o+off*sz+pre.length*i.size+news.length)).toArray (.arr sz (pre++src)):=by
        refine⟨h0,?_,?_,by simpa using tw,rI,?_⟩
        · intro row aM
          rcases bn.1 aM with h|h
          · exact lW row h
          · exact oR row h
        · simp only[uz,aJ,iC,z7,lE,oQ,yu]
          omega
        · intro r c v hv
          rw[vh cur _ news (by rw[oQ,yu];omega),oQ,yu];rw[Hh]at hv;split at hv
          · obtain⟨BF,mO⟩:=uZ lW hv
            have:=ru BF mO;rw[if_neg z8];exact yq r c v hv
          · obtain⟨BF,mO⟩:=uZ oR hv
            have hl:=ru BF mO;have e:r*sz+c=pre.length*sz+((r-pre.length)*sz+c):=by
              have:r=pre.length+(r-pre.length):=z8
              conv=>lhs;rw[this,eb]
              omega
            rw[if_pos z8];have e2:o+off*sz+(r*sz+c)-(o+off*sz+pre.length*sz)=(r-pre.length)*sz+c:=z8;rw[e2];simp only[news,an];simp[hl];exact tA _ _ _ hv
      have BE:=h.vj ho Eb hb (setRow_heap γ.w b cur _ tt _ fM) (λk hk=>setRow_other γ.w b k _ hk) (setRow_size _ _ _) aS;have eu:=Fr.vj (γ:=γ) (o':=o+off*sz) (cap':=cap') (.arr sz (pre++src)) ho Eb hb (w':=γ.w.setRow b (cur.toList.take (o+off*sz+pre.length*i.size)++news++cur.toList.drop (o+off*sz+pre.length*i.size+news.length)).toArray) (λk hk=>setRow_other γ.w b k _ hk) (setRow_size _ _ _) rfl rfl rfl;refine⟨_,{ γ with w:=γ.w.setRow b (cur.toList.take (o+off*sz+pre.length*i.size)++news++cur.toList.drop (o+off*sz+pre.length*i.size+news.length)).toArray,blk:=bE γ.blk σ.aa.length (some (b,o+off*sz,cap')) },hr,rfl,?_,?_,?_⟩
      · simpa using BE
      · simpa using eu
      · have:=ah.ref (os:=σ.aa.set id .gone++[.arr sz (pre++src)]) (w:=γ.w.setRow b (cur.toList.take (o+off*sz+pre.length*i.size)++news++cur.toList.drop (o+off*sz+pre.length*i.size+news.length)).toArray) (Z:=γ.Z)
          (blk:=bE γ.blk σ.aa.length (some (b,o+off*sz,cap'))) σ.aa.length sz 0 (pre.length+src.length) b (o+off*sz) cap' cap' (pre++src)
          (by rw[dk Eb];simp) (by simp[bE]) Eb z8 tw
        simpa using this
    ·
      let go:Nat->Value:=λj=>cur.getD (o+off*sz+j) Go.undef
      let yw:=(bj (pre.length*sz)).map go
      have p8:yw.length=pre.length*i.size:=by simp[yw,oQ]
      have T5:pre.length*sz<=cap'*sz:=jo _ yr;have holds:∀ j v,yw[j]?=some v->γ.w.cell? ((⟨b,o+off*sz,none⟩:Addr).add j)=some v:=by
        intro j v hj;obtain⟨eE,rfl⟩:=tx hj;rw[Addr.lf];exact tj fM z8
      have hp:0<src.length:=z8;obtain⟨a,rfl,hc⟩:=pY hp;have hr:=run_append_grow (P:=P) γ.w t oty _ i zv ht hi rB ⟨b,o+off*sz,none⟩ pre.length cap' yw p8 holds a src.length c news aq hc z8 (by unfold maxLen at p6;omega) (growslice_fits z8 rH);have gN:=grownCap_ge γ.w (pre.length+src.length) cap' (ty P t).elem;have O1:=grownCap_le_maxLen γ.w (pre.length+src.length) cap' (ty P t).elem p6;obtain⟨γ1,e1,e2,e3,e4,e5⟩:=fresh 0 go lW yq _ (grownCap γ.w (pre.length+src.length) cap' (ty P t).elem) gN O1 rfl;refine⟨_,γ1,?_,e2,e3,e4,e5⟩;rw[hr,e1]
def OQ{σ:St}{γ:Cx}(h:aK σ γ){t t' oty:TypeId}{sz:Nat}(hk:(ty P t).kind=1)(bU:(ty P (ty P t).elem).kind≠99)(ay:sz=(ty P (ty P t).elem).size)(h0:0<sz){id off len:Nat}{x:AV}{lV vl:Value}(hS:ah σ.aa γ.w γ.Z γ.blk (.ref id sz off len) lV)(hX:ah σ.aa γ.w γ.Z γ.blk x vl){rows:List (List AV)}(ho:σ.aa[id]?=some (.arr sz rows)){src:List (List AV)}(mG:jr σ x=some (sz,src))(oO:(src.all λrow=>row.all bt)=true):
  ∃ w',(Builtin.copy_ #[t,t'] oty #[lV,vl]).run P γ.w=.ok (.int .i64 (min src.length len:Nat)) w' /\
   aK { σ with aa:=σ.aa.set id (.arr sz (rows.take off++src.take (min src.length len)++rows.drop (off+min src.length len))) } { γ with w:=w' } /\
   Fr σ.aa γ (σ.aa.set id (.arr sz (rows.take off++src.take (min src.length len)++rows.drop (off+min src.length len)))) { γ with w:=w' }:=by
 obtain⟨i,d,hi,yh,mK,vf,hzero⟩:=mL bU;have ht:=lT hk;have oQ:i.size=sz:=by rw[<- mK,<- ay]
 obtain⟨ad,c,g,rfl,oR,BD,tA⟩:=Hg h hX h0 mG;have bZ:id<σ.aa.length:=(aF.1 ho).1;have zero:∀ (rJ:Option Addr) (cap':Nat),min src.length len=0->lV=.slice rJ len cap'->∃ w',(Builtin.copy_ #[t,t'] oty #[lV,.slice ad src.length c]).run P γ.w=.ok (.int .i64 (min src.length len:Nat)) w' /\
   aK { σ with aa:=σ.aa.set id (.arr sz (rows.take off++src.take (min src.length len)++rows.drop (off+min src.length len))) } { γ with w:=w' } /\
   Fr σ.aa γ (σ.aa.set id (.arr sz (rows.take off++src.take (min src.length len)++rows.drop (off+min src.length len)))) { γ with w:=w' }:=by
  intro rJ cap' hz aD;have iL:σ.aa.set id (.arr sz rows)=σ.aa:=by
   apply sK;intro j;rw[bM];split
   ·rename_i e;subst e;simp[ho]
   ·rfl
  refine⟨γ.w,?_,?_,?_⟩
  ·have hm:Nat.min src.length len=0:=hz;subst aD;cases ad<;>cases rJ<;>simp[Builtin.copy_,run_underlying ht,sizeOf,typeInfo,hi,Builtin.lenOf,Builtin.firstCells,loadCells,loadCellsFrom,storeCells,hm,goInt,hz]
  ·rw[hz];simp[iL];exact h
  ·rw[hz];simp[iL];exact Fr.refl _ _
 cases hS with
 |bp _ _ h=>cases h
 |ga _ _ _ _ _ h=>rw[ho]at h;simp at h
 |gP _ _ h hb=>exact zero none 0 Eb rfl
 |iq _ _ _ b x bo dJ h hb hl=>exact zero _ 0 Eb rfl
 |ref _ _ _ _ b o cap cap' dJ h' hb hl hc ed =>
  rw[ho]at h';simp at h';subst h';rcases xe (min src.length len) with hz|hp
  ·exact zero _ _ hz rfl
  obtain⟨_,cF,aS⟩:=h.c9 id _ ho;rcases aS with⟨h1,_⟩|⟨b',o',uY,cur,tt,h1,h2,h3,h4,h5,h6⟩
  ·rw[hb]at h1;simp at h1
  rw[hb]at h1;simp at h1;obtain⟨rfl,rfl,rfl⟩:=h1;generalize hn:min src.length len=n at *;have kx:n<=src.length:=z8;have iU:n<=len:=z8
  let news:=(bj (n*sz)).map g
  have aq:news.length=n*sz:=by simp[news]
  have tB:∀ u∈news,u.oneCell'=true:=by
   intro u hu;obtain⟨j,hj⟩:=D9.1 hu;obtain⟨eE,rfl⟩:=tx hj;have k1:j/sz<n:=Nat.div_lt_of_lt_mul (by rw[qV];exact eE);have k2:j%sz<sz:=xc _ h0;have k3:j/sz<src.length:=z8;have cF:(src[j/sz]).length=sz:=oR _ (lF k3);have:=tA (j/sz) (j%sz) ((src[j/sz])[j%sz]' z8) (by simp[cellAt,k3,k2,cF]);have e:j/sz*sz+j%sz=j:=by rw[qV];exact Nat.div_add_mod j sz
   rw[e]at this;refine yo this ?_;rw[gx]at oO;have:=oO _ (lF k3);rw[gx]at this;exact this _ (lF _)
  obtain⟨sb,so,rfl,nD⟩:=BD z8;have hle:n*sz<=src.length*sz:=jo _ kx;have Hj:=run_loadCells_list (P:=P) γ.w ⟨sb,so,none⟩ news (λj v hj=>by
   obtain⟨eE,rfl⟩:=tx hj;rw[Addr.lf];exact nD j z8)
  have nI:(off+n)*sz<=cap*sz:=jo _ z8;rw[eb]at nI;have eI:=run_storeCells_at P b (o+off*sz) tt news 0 cur γ.w h2 (by rw[aq];omega) tB;simp only[jm]at eI;have cN:(Builtin.copy_ #[t,t'] oty #[.slice (some ⟨b,o+off*sz,none⟩) len cap',.slice (some ⟨sb,so,none⟩) src.length c]).run P γ.w=.ok (.int .i64 (n:Nat)) (γ.w.setRow b (cur.toList.take (o+off*sz)++news++cur.toList.drop (o+off*sz+news.length)).toArray):=by
   have hm:Nat.min src.length len=n:=hn;rw[aq]at Hj;simp[Builtin.copy_,run_underlying ht,sizeOf,typeInfo,hi,Builtin.lenOf,Builtin.firstCells,hm,oQ,Hj,eI,goInt]
  have BG:mH σ.aa γ.w γ.Z γ.blk o cap (cur.toList.take (o+off*sz)++news++cur.toList.drop (o+off*sz+news.length)).toArray (.arr sz (rows.take off++src.take n++rows.drop (off+n))):=by
   refine⟨h0,?_,?_,?_,h5,?_⟩
   ·intro row aM;simp only[bn]at aM;rcases aM with(hr|hr)|hr
    ·exact cF row (oq hr)
    ·exact oR row (oq hr)
    ·exact cF row (sN hr)
   ·simp only[uz,aJ,iC,z7,lE,aq];omega
   ·simp;omega
   ·intro r cc v hv;rw[vh cur _ news (by rw[aq];omega),aq];have aZ:cc<sz:=by
     simp only[cellAt,sJ]at hv;obtain⟨y,hy,rF⟩:=hv;have hm:=eh hy;have:=(aF.1 rF).1;simp only[bn]at hm;rcases hm with(hr|hr)|hr
     ·have:=cF y (oq hr);omega
     ·have:=oR y (oq hr);omega
     ·have:=cF y (sN hr);omega
    rcases cZ r off with k1|k1
    ·have e:cellAt (rows.take off++src.take n++rows.drop (off+n)) r cc=cellAt rows r cc:=by
      simp only[cellAt,br];rw[bL UU,mn,if_pos k1]
     rw[e]at hv;have hm:(r+1)*sz<=off*sz:=jo _ z8;rw[eb]at hm;rw[if_neg z8];exact h6 r cc v hv
    ·rcases cZ r (off+n) with k2|k2
     ·have e:cellAt (rows.take off++src.take n++rows.drop (off+n)) r cc=cellAt src (r-off) cc:=by
       simp only[cellAt,br];rw[dk UU,bL UU,mn,if_pos UU];congr 2;simp;omega
      rw[e]at hv;have e1:r=off+(r-off):=z8;have e2:r*sz=off*sz+(r-off)*sz:=by rw[<- eb,<- e1]
      have hm:(r-off+1)*sz<=n*sz:=jo _ z8;rw[eb]at hm;rw[if_pos z8];have e3:o+(r*sz+cc)-(o+off*sz)=(r-off)*sz+cc:=z8;rw[e3];have hl:(r-off)*sz+cc<n*sz:=z8;simp only[news,an];simp[hl];exact tA _ _ _ hv
     ·have e:cellAt (rows.take off++src.take n++rows.drop (off+n)) r cc=cellAt rows r cc:=by
       simp only[cellAt];rw[dk UU,iB];congr 2;simp;omega
      rw[e]at hv;have hm:(off+n)*sz<=r*sz:=jo _ k2;rw[eb]at hm;rw[if_neg z8];exact h6 r cc v hv
  refine⟨_,cN,?_,?_⟩
  ·exact h.write ho Eb (by simp[Ob.cA];omega) hb (setRow_heap γ.w b cur _ tt _ h2) (λk hk=>setRow_other γ.w b k _ hk) (setRow_size _ _ _) BG
  ·exact Fr.write _ ho Eb (by simp[Ob.cA];omega) hb (λk hk=>setRow_other γ.w b k _ hk) (setRow_size _ _ _) rfl rfl rfl
def OR{σ:St}{γ:Cx}(h:aK σ γ){t oty:TypeId}{sz:Nat}{z:List Value}(hk:(ty P t).kind=1)(bU:(ty P (ty P t).elem).kind≠99)(gB:z.length=sz)(h0:0<sz)(hz:(ty P (ty P t).elem).zero=some z)(oP:(z.all λu=>u.oneCell')=true){id off len:Nat}{lV:Value}(hS:ah σ.aa γ.w γ.Z γ.blk (.ref id sz off len) lV){rows:List (List AV)}(ho:σ.aa[id]?=some (.arr sz rows)):
  ∃ w',(Builtin.clear_ #[t] oty #[lV]).run P γ.w=.ok (.tuple #[]) w' /\
   aK { σ with aa:=σ.aa.set id (.arr sz (rows.take off++aw len (z.map AV.lit)++rows.drop (off+len))) } { γ with w:=w' } /\
   Fr σ.aa γ (σ.aa.set id (.arr sz (rows.take off++aw len (z.map AV.lit)++rows.drop (off+len)))) { γ with w:=w' }:=by
 obtain⟨i,d,hi,yh,mK,vf,hzero⟩:=mL bU;have ht:=lT hk;rw[hz]at hzero;obtain⟨zv,rB,eM⟩:=qP.1 hzero.symm;have BH:zv.cells.size=sz:=by rw[<- gB,<- eM];simp
 have bZ:id<σ.aa.length:=(aF.1 ho).1;have zero:∀ (rJ:Option Addr) (cap':Nat),len=0->lV=.slice rJ len cap'->∃ w',(Builtin.clear_ #[t] oty #[lV]).run P γ.w=.ok (.tuple #[]) w' /\
   aK { σ with aa:=σ.aa.set id (.arr sz (rows.take off++aw len (z.map AV.lit)++rows.drop (off+len))) } { γ with w:=w' } /\
   Fr σ.aa γ (σ.aa.set id (.arr sz (rows.take off++aw len (z.map AV.lit)++rows.drop (off+len)))) { γ with w:=w' }:=by
  intro rJ cap' vo aD;have iL:σ.aa.set id (.arr sz rows)=σ.aa:=by
   apply sK;intro j;rw[bM];split
   ·rename_i e;subst e;simp[ho]
   ·rfl
  refine⟨γ.w,?_,?_,?_⟩
  ·subst aD;subst vo;cases rJ<;>simp[Builtin.clear_,run_underlying ht]
  ·subst vo;simp[iL];exact h
  ·subst vo;simp[iL];exact Fr.refl _ _
 cases hS with
 |bp _ _ h=>cases h
 |ga _ _ _ _ _ h=>rw[ho]at h;simp at h
 |gP _ _ h hb=>exact zero none 0 rfl rfl
 |iq _ _ _ b x bo dJ h hb hl=>exact zero _ 0 rfl rfl
 |ref _ _ _ _ b o cap cap' dJ h' hb hl hc ed =>
  rw[ho]at h';simp at h';subst h';rcases xe len with vo|hp
  ·exact zero _ _ vo rfl
  obtain⟨_,cF,aS⟩:=h.c9 id _ ho;rcases aS with⟨h1,_⟩|⟨b',o',uY,cur,tt,h1,h2,h3,h4,h5,h6⟩
  ·rw[hb]at h1;simp at h1
  rw[hb]at h1;simp at h1;obtain⟨rfl,rfl,rfl⟩:=h1
  let g:Nat->Value:=λi=>zv.cells[i%zv.cells.size]!
  let news:=(bj (len*sz)).map g
  have pY:(Builtin.zeroCells zv.cells len).toList=news:=by
   simp[Builtin.zeroCells,news,g,BH]
  have aq:news.length=len*sz:=by simp[news]
  have Hk:∀ i,i<sz->∃ u,z[i]?=some u/\zv.cells[i]! = u:=by
   intro i hi';have:i<zv.cells.size:=z8;refine⟨zv.cells[i],?_,?_⟩
   ·rw[<- eM];simp[this]
   ·simp[this]
  have tB:∀ u∈news,u.oneCell'=true:=by
   intro u hu;obtain⟨j,hj⟩:=D9.1 hu;obtain⟨eE,rfl⟩:=tx hj;obtain⟨u,k1,k2⟩:=Hk (j%sz) (xc _ h0);show(zv.cells[j%zv.cells.size]!).oneCell'=true;rw[BH,k2];rw[gx]at oP;exact oP _ (eh k1)
  have nI:(off+len)*sz<=cap*sz:=jo _ z8;rw[eb]at nI;have eI:=run_storeCells_at P b (o+off*sz) tt news 0 cur γ.w h2 (by rw[aq];omega) tB;simp only[jm]at eI;have cN:(Builtin.clear_ #[t] oty #[.slice (some ⟨b,o+off*sz,none⟩) len cap']).run P γ.w=.ok (.tuple #[]) (γ.w.setRow b (cur.toList.take (o+off*sz)++news++cur.toList.drop (o+off*sz+news.length)).toArray):=by
   obtain⟨T6,rfl⟩:∃k,len=k+1:=⟨len-1,z8⟩;simp[Builtin.clear_,run_underlying ht,zeroValue,typeInfo,hi,rB,pY,eI]
  have BG:mH σ.aa γ.w γ.Z γ.blk o cap (cur.toList.take (o+off*sz)++news++cur.toList.drop (o+off*sz+news.length)).toArray (.arr sz (rows.take off++aw len (z.map AV.lit)++rows.drop (off+len))):=by
   refine⟨h0,?_,?_,?_,h5,?_⟩
   ·intro row aM;simp only[bn]at aM;rcases aM with(hr|hr)|hr
    ·exact cF row (oq hr)
    ·rw[uE hr,cU];exact gB
    ·exact cF row (sN hr)
   ·simp only[uz,aJ,iC,z7,lE,aq];omega
   ·simp;omega
   ·intro r cc v hv;rw[vh cur _ news (by rw[aq];omega),aq];have aZ:cc<sz:=by
     simp only[cellAt,sJ]at hv;obtain⟨y,hy,rF⟩:=hv;have hm:=eh hy;have:=(aF.1 rF).1;simp only[bn]at hm;rcases hm with(hr|hr)|hr
     ·have:=cF y (oq hr);omega
     ·have O2:=uE hr;rw[O2,cU]at this;omega
     ·have:=cF y (sN hr);omega
    rcases cZ r off with k1|k1
    ·have e:cellAt (rows.take off++aw len (z.map AV.lit)++rows.drop (off+len)) r cc=cellAt rows r cc:=by
      simp only[cellAt,br];rw[bL UU,mn,if_pos k1]
     rw[e]at hv;have hm:(r+1)*sz<=off*sz:=jo _ z8;rw[eb]at hm;rw[if_neg z8];exact h6 r cc v hv
    ·rcases cZ r (off+len) with k2|k2
     ·have e:cellAt (rows.take off++aw len (z.map AV.lit)++rows.drop (off+len)) r cc=(z.map AV.lit)[cc]?:=by
       simp only[cellAt,br];rw[dk UU,bL UU,List.getElem?_replicate,if_pos UU];rfl
      rw[e,bR]at hv;obtain⟨u,k3,k4⟩:=Hk cc aZ;rw[k3]at hv;simp only[fV,cB.injEq]at hv;subst hv;have e1:r=off+(r-off):=z8;have e2:r*sz=off*sz+(r-off)*sz:=by rw[<- eb,<- e1]
      have hm:(r-off+1)*sz<=len*sz:=jo _ z8;rw[eb]at hm;rw[if_pos z8];have e3:o+(r*sz+cc)-(o+off*sz)=(r-off)*sz+cc:=z8;rw[e3];have hl:(r-off)*sz+cc<len*sz:=z8;have e4:news.getD ((r-off)*sz+cc) Go.undef=u:=by
       simp only[news,an];rw[bR,List.getElem?_range hl];show zv.cells[((r-off)*sz+cc)%zv.cells.size]! = u;rw[BH,qV,Nat.mul_add_mod,Nat.mod_eq_of_lt aZ,k4]
      first
       | (rw[e4];exact .lit _)
       | (simp only[an]at e4 ⊢;rw[e4];exact .lit _)
     ·have e:cellAt (rows.take off++aw len (z.map AV.lit)++rows.drop (off+len)) r cc=cellAt rows r cc:=by
       simp only[cellAt];rw[dk UU,iB];congr 2;simp;omega
      rw[e]at hv;have hm:(off+len)*sz<=r*sz:=jo _ k2;rw[eb]at hm;rw[if_neg z8];exact h6 r cc v hv
  refine⟨_,cN,?_,?_⟩
  ·exact h.write ho Eb (by simp[Ob.cA];omega) hb (setRow_heap γ.w b cur _ tt _ h2) (λk hk=>setRow_other γ.w b k _ hk) (setRow_size _ _ _) BG
  ·exact Fr.write _ ho Eb (by simp[Ob.cA];omega) hb (λk hk=>setRow_other γ.w b k _ hk) (setRow_size _ _ _) rfl rfl rfl
end Go.Am
namespace Go.Am
variable {P:Program}
def O3(l:List Value):∀ (j off:Nat) (cells:Array Value),off+j+l.length<=cells.size ->
  ((l.zipIdx j).foldl (λcs (x:Value×Nat)=>cs.setIfInBounds (off+x.2) x.1) cells).size=cells.size /\
  ∀ k,((l.zipIdx j).foldl (λcs (x:Value×Nat)=>cs.setIfInBounds (off+x.2) x.1) cells).getD k Go.undef=if off+j<=k/\k<off+j+l.length then l.getD (k-(off+j)) Go.undef else cells.getD k Go.undef:=by
 induction l with
 |nil=>intro j off cells _;simp;intro k h1 h2;omega
 |cons v l ih =>
  intro j off cells hl;simp only[b8]at hl;simp only[List.zipIdx_cons,List.foldl_cons];obtain⟨h1,h2⟩:=ih (j+1) off (cells.setIfInBounds (off+j) v) UU;refine⟨by rw[h1];simp,λk=>?_⟩;rw[h2 k];simp only[b8];by_cases c1:off+(j+1)<=k/\k<off+(j+1)+l.length
  ·rw[if_pos c1,if_pos z8];have:k-(off+j)=(k-(off+(j+1)))+1:=z8;rw[this];simp
  ·rw[if_neg c1];by_cases c2:k=off+j
   ·subst c2;rw[if_pos z8];simp[cT,show off+j<cells.size by omega]
   ·rw[if_neg z8];simp[cT,Array.getElem?_setIfInBounds_ne (Ne.symm c2)]
def O4(v:Value)(off:Nat)(cells:Array Value):
  (v.cells.zipIdx.foldl (λcs (c,j)=>cs.setIfInBounds (off+j) c) cells)=((v.cells.toList.zipIdx 0).foldl (λcs (x:Value×Nat)=>cs.setIfInBounds (off+x.2) x.1) cells):=by
 rw[<- Array.foldl_toList];simp
def vp(R:AV->Value->Prop)(cs:List AV)(cur:Array Value):Prop:=cur.size=cs.length/\∀ j x,cs[j]?=some x->R x (cur.getD j Go.undef)
def yj{σ:St}{γ:Cx}{place:Nat->Option (Nat×Nat)}:∀ (parts:List (Nat×AV)) (pv:List (Nat×Value)) (cs:List AV) (cur:Array Value) (k9:List AV),
  parts.length=pv.length->(∀ (j:Nat) (p:Nat×AV) (q:Nat×Value),parts[j]?=some p->pv[j]?=some q->p.1=q.1/\ah σ.aa γ.w γ.Z γ.blk p.2 q.2)->(∀ p∈parts,(cellsOf p.2).all bt=true) ->
  vp (ah σ.aa γ.w γ.Z γ.blk) cs cur->ia place cs parts=some k9->∃ j6,Instr.fill place cur pv=some j6/\vp (ah σ.aa γ.w γ.Z γ.blk) k9 j6
 |[],pv,cs,cur,k9,hl,_,_,hc,h=>by
  have:pv=[]:=sM hl.symm;subst this;simp[ia]at h;subst h;exact⟨cur,by simp[Instr.fill],hc⟩
 | (i,v)::rest,[],cs,cur,k9,hl,_,_,_,_=>by simp at hl
 | (i,v)::rest,(i',x)::pv,cs,cur,k9,hl,hr,hs,hc,h=>by
  obtain⟨e1,e2⟩:=hr 0 (i,v) (i',x) rfl rfl;simp only at e1 e2;subst e1;simp only[ia]at h;cases hp:place i with
  |none=>simp[hp]at h
  |some os =>
   obtain⟨off,size⟩:=os;simp only[hp]at h;split at h
   ·rename_i O5;obtain⟨h1,h2⟩:=O5;obtain⟨g1,g2,g3⟩:=Bl e2 (hs (i,v) Eb);have ay:x.cells.size=size:=by rw[g1,h1]
    obtain⟨iD,oC⟩:=hc;have nI:off+0+x.cells.toList.length<=cur.size:=by simp[ay,iD];omega
    obtain⟨f1,f2⟩:=O3 x.cells.toList 0 off cur nI;have j7:vp (ah σ.aa γ.w γ.Z γ.blk) (setCells cs off (cellsOf v)) (x.cells.zipIdx.foldl (λcs (c,j)=>cs.setIfInBounds (off+j) c) cur):=by
     rw[O4];refine⟨by rw[f1,Bo];exact iD,λj y hj=>?_⟩;rw[He _ _ _ (by rw[h1];exact h2)]at hj;rw[f2 j];simp only[jm,lE,ay];rw[h1]at hj;by_cases cR:off<=j/\j<off+size
     ·rw[if_pos cR]at hj;rw[if_pos cR];have:=g2 _ _ hj;simpa [an,cT] using this
     ·rw[if_neg cR]at hj;rw[if_neg cR];exact oC j y hj
    obtain⟨j6,k1,k2⟩:=yj rest pv _ _ k9 (by simpa using hl) (λj p q hp hq=>hr (j+1) p q (by simpa using hp) (by simpa using hq)) (λp hp=>hs p (by simp[hp])) j7 h;refine⟨j6,?_,k2⟩;simp only[Instr.fill,hp];rw[if_neg ?_]
    ·exact k1
    ·simp[ay,iD];omega
   ·simp at h
def Bk{os:List Ob}{w:World}{Z:Nat->Prop}{blk:dK}(z:List Value):vp (ah os w Z blk) (z.map .lit) z.toArray:=by
 refine⟨Eb,λj x hx=>?_⟩;simp only[bR]at hx;cases hj:z[j]? with
 |none=>simp[hj]at hx
 |some y =>
  simp[hj]at hx;subst hx;simp[cT,hj];exact .lit y
def Bm{σ:St}{γ:Cx}(h:aK σ γ){a:Act}(ha:γ.tmps=a.tmps)(parts:Array (Nat×Operand)):
  (parts.toList.map λp=>(p.1,ev σ p.2)).length=(parts.map λ(i,x)=>(i,a.eval x)).toList.length /\
  ∀ (j:Nat) (p:Nat×AV) (q:Nat×Value),(parts.toList.map λp=>(p.1,ev σ p.2))[j]?=some p->(parts.map λ(i,x)=>(i,a.eval x)).toList[j]?=some q->p.1=q.1/\ah σ.aa γ.w γ.Z γ.blk p.2 q.2:=by
 refine⟨Eb,λj p q hp hq=>?_⟩;simp only[Array.toList_map,bR]at hp hq;cases hj:parts.toList[j]? with
 |none=>simp[hj]at hp
 |some y =>
  simp only[hj,fV,cB.injEq]at hp hq;subst hp;subst hq;exact⟨rfl,kv h ha y.2⟩
def Oz{σ:St}{γ:Cx}(h:aK σ γ){a:Act}(ha:γ.tmps=a.tmps){t:TypeId}{parts:Array (Nat×Operand)}{z:List Value}(hk:(ty P t).kind=3)(hz:(ty P t).zero=some z){cs:List AV}(hf:ia (λi=>((ty P t).aE[i]?).map λf=>(f.1,f.2.2)) (z.map .lit) (parts.toList.map λp=>(p.1,ev σ p.2))=some cs)(hs:(parts.toList.all λp=>(cellsOf (ev σ p.2)).all bt)=true)(hp:((ty P t).aE.all λf=>decide (0<f.2.2))=true):
  ∃ cur,(Instr.build t (parts.map λ(i,x)=>(i,a.eval x))).run P γ.w=.ok (.agg cur) γ.w/\ah σ.aa γ.w γ.Z γ.blk (.agg cs) (.agg cur):=by
 obtain⟨it,d,hi,hd,_,_,hzero⟩:=mL (P:=P) (t:=t) (by rw[hk];simp);obtain⟨fs,hu,fh⟩:=Bt hk;rw[hzero]at hz;cases hv:it.zero with
 |none=>simp[hv]at hz
 |some zv =>
  simp[hv]at hz;have eM:z.toArray=zv.cells:=by rw[<- hz]
  obtain⟨hl,hr⟩:=Bm h ha parts;obtain⟨cur,h1,h2⟩:=yj (σ:=σ) (γ:=γ) _ _ _ _ cs hl hr (λp hp=>by
   simp only[bS]at hp;obtain⟨q,hq,rfl⟩:=hp;rw[gx]at hs;exact hs q hq) (Bk z) hf
  refine⟨cur,run_build γ.w t _ cur ?_,.agg _ _ h2.1 h2.2⟩;unfold Program.built;rw[hi,hu];simp only[hv];have O6:∀ (l:List Field),(∀ f∈l,0<oN P f.type)->l.mapM (λf=>(P.info? f.type).map λi=>(f.offset,i.size))=some (l.map λf=>(f.offset,oN P f.type)):=by
   intro l
   induction l with
   |nil=>intro _;simp
   |cons f l ih =>
    intro hl;have h0:=hl f Eb;unfold oN at h0;cases BI:P.info? f.type with
    |none=>simp[BI]at h0
    |some i =>
     simp only[List.mapM_cons,BI,fV,ih (λg hg=>hl g (by simp[hg]))];simp[oN,BI]
  rw[O6 fs.toList (by
   intro f dq;rw[fh]at hp;simp only[List.all_map,gx]at hp;have:=hp f dq;simpa using this)]
  simp only;rw[<- eM];have:(λ(x:Nat)=>((fs.toList.map λf=>(f.offset,oN P f.type)).toArray[x]?))=(λ(i:Nat)=>((ty P t).aE[i]?).map λ(f:Nat×Nat×Nat)=>(f.1,f.2.2)):=by
   funext i;rw[fh];simp;cases fs[i]?<;>simp
  rw[this];exact h1
def OA{σ:St}{γ:Cx}(h:aK σ γ){a:Act}(ha:γ.tmps=a.tmps){t:TypeId}{parts:Array (Nat×Operand)}{z:List Value}(hk:(ty P t).kind=2)(hz:(ty P t).zero=some z){cs:List AV}(hf:ia (λi=>some (i*(ty P (ty P t).elem).size,(ty P (ty P t).elem).size)) (z.map .lit) (parts.toList.map λp=>(p.1,ev σ p.2))=some cs)(hs:(parts.toList.all λp=>(cellsOf (ev σ p.2)).all bt)=true)(bU:(ty P (ty P t).elem).kind≠99):
  ∃ cur,(Instr.build t (parts.map λ(i,x)=>(i,a.eval x))).run P γ.w=.ok (.agg cur) γ.w/\ah σ.aa γ.w γ.Z γ.blk (.agg cs) (.agg cur):=by
 obtain⟨it,d,hi,hd,_,_,hzero⟩:=mL (P:=P) (t:=t) (by rw[hk];simp);have hu:=Bv hk;obtain⟨ie,de,O7,_,mK,_,_⟩:=mL bU;rw[hzero]at hz;cases hv:it.zero with
 |none=>simp[hv]at hz
 |some zv =>
  simp[hv]at hz;have eM:z.toArray=zv.cells:=by rw[<- hz]
  obtain⟨hl,hr⟩:=Bm h ha parts;obtain⟨cur,h1,h2⟩:=yj (σ:=σ) (γ:=γ) _ _ _ _ cs hl hr (λp hp=>by
   simp only[bS]at hp;obtain⟨q,hq,rfl⟩:=hp;rw[gx]at hs;exact hs q hq) (Bk z) hf
  refine⟨cur,run_build γ.w t _ cur ?_,.agg _ _ h2.1 h2.2⟩;unfold Program.built;rw[hi,hu];simp only[hv,O7];rw[<- eM,<- mK];exact h1
def Bp(sz:Nat):∀ (n:Nat) (cs:List AV),(ib sz n cs).length=n
 |0,_=>rfl
 |n+1,cs=>by simp[ib,Bp sz n]
def G8(sz:Nat):∀ (n:Nat) (cs:List AV),n*sz<=cs.length->∀ row∈ib sz n cs,row.length=sz
 |0,_,_,row,h=>by simp[ib]at h
 |n+1,cs,hl,row,h=>by
  rw[eb]at hl;simp only[ib,List.mem_cons]at h;rcases h with rfl|h
  ·simp;omega
  ·exact G8 sz n (cs.drop sz) UU row h
def G9(sz:Nat):∀ (n:Nat) (cs:List AV) (r c:Nat) (v:AV),cellAt (ib sz n cs) r c=some v->cs[r*sz+c]?=some v
 |0,_,r,c,v,h=>by simp[ib,cellAt]at h
 |n+1,cs,0,c,v,h=>by
  simp only[ib,cellAt,List.getElem?_cons_zero,Option.bind_some,mn]at h;split at h
  ·simpa using h
  ·simp at h
 |n+1,cs,r+1,c,v,h=>by
  have h':cellAt (ib sz n (cs.drop sz)) r c=some v:=by simpa [ib,cellAt] using h
  have:=G9 sz n (cs.drop sz) r c v h';rw[iB]at this;rw[eb];have e:r*sz+1*sz+c=sz+(r*sz+c):=z8;rw[e];exact this
def Bn{os:List Ob}{w:World}{Z:Nat->Prop}{blk:dK}(z:List Value)(n m:Nat)(hm:m=n*z.length)(hz:0<z.length):
  vp (ah os w Z blk) ((bj n).flatMap λ_=>z.map .lit) ((Array.range m).map (z.toArray[· % z.toArray.size]!)):=by
 subst hm;have hlen:((bj n).flatMap λ_=>z.map AV.lit).length=n*z.length:=by
  induction n with
  |zero=>simp
  |succ n ih=>rw[qU,sO,aJ,ih];simp[eb]
 refine⟨by simp[hlen],λj x hx=>?_⟩;have hj:j<n*z.length:=by rw[<- hlen];exact(aF.1 hx).1
 have key:∀ (n j:Nat),j<n*z.length->((bj n).flatMap λ_=>z.map AV.lit)[j]?=some (.lit (z[j%z.length]'(xc _ hz))):=by
  intro n
  induction n with
  |zero=>intro j hj;simp at hj
  |succ n ih =>
   intro j hj;have BJ:((bj n).flatMap λ_=>z.map AV.lit).length=n*z.length:=by
    clear ih hj hx hlen
    induction n with
    |zero=>simp
    |succ n ih=>rw[qU,sO,aJ,ih];simp[eb]
   rw[qU,sO];by_cases Hl:j<n*z.length
   ·rw[bL (by rw[BJ];exact Hl)];exact ih j Hl
   ·rw[dk (by rw[BJ];omega),BJ];rw[eb]at hj;have aZ:j-n*z.length<z.length:=z8;have vq:j%z.length=j-n*z.length:=by
     have:j=(j-n*z.length)+n*z.length:=z8;rw[this,Nat.add_mul_mod_self_right,Nat.mod_eq_of_lt aZ];omega
    simp[aZ,vq]
 rw[key n j hj]at hx;simp at hx;subst hx;have hm:j%z.length<z.length:=xc _ hz;simp[cT,hj,hm];exact .lit _
end Go.Am

