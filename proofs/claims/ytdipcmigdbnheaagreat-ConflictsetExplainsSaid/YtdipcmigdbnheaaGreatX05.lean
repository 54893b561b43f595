import Derived.Test.YtdipcmigdbnheaaGreatX04
import Derived.Laws.StructEq
set_option linter.all false
set_option maxHeartbeats 0
set_option maxRecDepth 20000
open List renaming contains_cons→J',contains_nil→Ps,getD_cons_zero→iF,getD_cons_succ→fU,getD_nil→GG,size_toArray→Dt,map_cons→dg,map_nil→kJ,cons_append→dS,nil_append→dY,append_nil→g9,getElem?_cons_zero→vP,getElem?_cons_succ→vR,getElem?_toArray→J6,length_cons→eB,length_nil→pD,all_cons→Dp,all_nil→GH,drop_zero→yI,take_zero→kK,set_cons_zero→sB,set_cons_succ→vW,flatMap_cons→sC,length_append→bQ,length_set→bF,length_replicate→qg,all_eq_true→fT,mem_map→cz,getD_eq_getElem?_getD→aA,getElem?_append_left→cT,getElem?_append_right→fV,range'→og,tail→Gu,tail_drop→Gv,range'_succ→xg,range→aW,range_eq_range'→xh,getElem?_eq_some_iff→a8,getElem?_eq_getElem→bK,getElem?_set→cA,drop_drop→Ka,take_append_drop→Dr,contains_iff_mem→rq,mem_filter→qh,mem_range→mH,mem_cons→cB,mem_of_getElem?→iD,map_congr_left→l8,mem_append→cH,not_mem_nil→kI
open Bool renaming or_self→Pt,or_false→BE,false_or→ma,or_true→xl,true_or→uB,false_eq_true→jQ,and_true→Pj,true_and→eQ,not_true→gT,not_false→je,not_eq_true'→ld,or_eq_true→l9,and_eq_true→bw,eq_iff_iff→mI,false_and→jR
open Option renaming bind_some→vQ,map_some→fl,some→dI
open Nat renaming zero_add→gn,add_zero→iS,zero_mul→Dv,mul_one→Pu,one_mul→tx,lt_or_ge→fK
open Int renaming toNat_natCast→fq,ofNat_inj→Pv
open Array renaming replicate→yD,getD_eq_getD_getElem?→gm,getElem?_append_left→Gx,length_toList→vO,getElem?_eq_some_iff→qf,toList_append→BA
namespace Go.Am
def oE:=aaZ @G9 @G2 @Hl @J'.{0} @Ps.{0} @Pt @BE (aaZ @ma @xl @uB @jQ @if_false.{1} @if_true.{1} @iF.{0} (aaF @fU.{0} @GG.{0}))
def Bc:=aaZ @G9 @G2 @Hl @J'.{0} @Ps.{0} @Pt @BE (aaZ @ma @xl @uB @jQ @if_false.{1} @if_true.{1} @iF.{0} (aaZ @fU.{0} @GG.{0} @Dt.{0} @Array.size_empty.{0} @Qj @Qk @eq_self.{1} (aaZ @RJ @RK @QA @QB @QC @QD @QJ (aaZ @QK @QL @QM @QN @QO @QP @QQ (aaZ @QR @QT @QU @QV @QW @QX @QY (aaZ @Q9 @Ra @Rb @Rd @Re @Rf @Rg (aaZ @Rh @R8 @QF @QI @Qy @Qz @true_and (aaZ @and_true @and_self @dg.{0,0} @kJ.{0,0} @dS.{0} @dY.{0} @g9.{0} (aaZ @ite_true.{1} @ite_false.{1} @Bool.true_eq_false @ne_eq.{1} @not_true_eq_false @not_false_eq_true @false_implies (aaZ @true_implies @implies_true.{1} @vQ.{0,0} @Option.bind_none.{0,0} @vP.{0} @vR.{0} @J6.{0} (aaZ @eB.{0} @pD.{0} @gn @iS @decide_true @decide_false @Dp.{0} (aaZ @GH.{0} @Pj @eQ @Int.toNat_zero @gT @je @cond_true.{1} (aaZ @cond_false.{1} @RL @RN @RO @RM @Qa @Qe (aaZ @Qf @Qd @uM @uL @fq @Rk @Rl (aaZ @Rm @Rn @Ro @Rp @Dv @Pu @tx (aaZ @Ri @Rj @rG @Aj @Ha @fl.{0,0} @yI.{0} (aaZ @List.drop_succ_cons.{0} @List.take_succ_cons.{0} @kK.{0} @sB.{0} @vW.{0} @beq_self_eq_true.{0} @sC.{0,0} (aaZ @List.flatMap_nil.{0,0} @List.getElem?_nil.{0} @bQ.{0} @bF.{0} @qg.{0} @lI @yS (aaZ @ou @Qm @Qn @Qo @Qp @Qq @Qr (aaZ @ints_set @v5 @Qs @G' @KG @KH @BS (aaI @KI @BT @Qt @Qu)))))))))))))))))))))
def pP:=aaZ @eq_self.{1} @decide_eq_true_eq @decide_eq_false_iff_not @ld @Bool.not_eq_false' @beq_iff_eq.{0} @beq_eq_false_iff_ne.{0} (aaZ @bne_iff_ne.{0} @bne_eq_false_iff_eq.{0} @ne_eq.{1} @Decidable.not_not @Int.not_lt @Int.not_le @not_true_eq_false (aaZ @not_false_eq_true @l9 @bw @Bool.or_eq_false_iff @Bool.and_eq_false_iff @gt_iff_lt.{0} @ge_iff_le.{0} (aaZ @Int.ofNat_lt @Int.ofNat_le @Pv @Nat.not_lt @Nat.not_le @lI @yS (aaG @ou @cond_true.{1} @cond_false.{1}))))
end Go.Am
namespace Go.Am
variable {σ:St}
class Row {α:Type} (enc:α->List AV) (sz:outParam Nat):Prop where
 wid:∀ x,(enc x).length=sz
 ok:∀ x,∀ v∈enc x,(∃ y,v=.lit y/\y.oneCell'=true)\/∃ s r,v=.tree s r
def rowsOf{α:Type}(enc:α->List AV)(xs:List α):List (List AV):=xs.map enc
section
variable {α:Type} {enc:α->List AV} {sz:Nat}
def b8(xs:List α):(rowsOf enc xs).length=xs.length:=by simp[rowsOf]
def gf[Inhabited α](xs:List α)(i:Nat)(h:i<xs.length):(rowsOf enc xs).getD i []=enc (xs.getD i default):=by simp[rowsOf,h]
def za[Inhabited α](xs:List α)(i:Nat)(h:i<xs.length):(rowsOf enc xs)[i]?=some (enc (xs.getD i default)):=by simp[rowsOf,h]
def Sa(xs:List α):(rowsOf enc xs).take xs.length=rowsOf enc xs:=by rw[List.take_of_length_le (by simp[rowsOf])]
def Lw(xs ys:List α):rowsOf enc xs++rowsOf enc ys=rowsOf enc (xs++ys):=by simp[rowsOf]
def lO(xs:List α)(x:α):rowsOf enc xs++[enc x]=rowsOf enc (xs++[x]):=by simp[rowsOf]
def Ce(xs:List α)(i:Nat)(x:α):(rowsOf enc xs).set i (enc x)=rowsOf enc (xs.set i x):=by simp[rowsOf,List.map_set]
def Sb[Row enc sz](x:α):(enc x).all cO=true:=by
 rw[fT];intro v hv;rcases Row.ok (enc:=enc) x v hv with⟨y,rfl,h⟩|⟨s,r,rfl⟩
 ·simpa [cO] using h
 ·rfl
def Em[Row enc sz](xs:List α):((rowsOf enc xs).all λrow=>row.all cO)=true:=by
 simp only[rowsOf,List.all_map,fT];intro x _;exact Sb (enc:=enc) x
def afc{l:List AV}(h:∀ v∈l,gL v=true):ju l=true:=by
 induction l with
 |nil=>rfl
 |cons v l ih=>simp only[ju,bw];exact⟨h v GF,ih λx hx=>h x (by simp[hx])⟩
def afd[Row enc sz](x:α):ju (enc x)=true:=afc λv hv=>by
 rcases Row.ok (enc:=enc) x v hv with⟨y,rfl,_⟩|⟨s,r,rfl⟩<;>rfl
def tP[Row enc sz](ρ:Nat->Nat)(s:Nat)(xs:List α):cg ρ (.arr s (rowsOf enc xs))=.arr s (rowsOf enc xs):=DN (by
 intro row hr;simp only[rowsOf,cz]at hr;obtain⟨x,_,rfl⟩:=hr;exact afd (enc:=enc) x)
def kW[Row enc sz](xs:List α):∀ row∈rowsOf enc xs,∀ v∈row,(∃ x,v=AV.lit x)\/∃ s r,v=AV.tree s r:=by
 intro row hr v hv;simp only[rowsOf,cz]at hr;obtain⟨x,_,rfl⟩:=hr;rcases Row.ok (enc:=enc) x v hv with⟨y,rfl,_⟩|h
 ·exact .inl ⟨_,rfl⟩
 ·exact .inr h
def gr[Row enc sz](xs:List α):∀ row∈rowsOf enc xs,row.length=sz:=by
 intro row hr;simp only[rowsOf,cz]at hr;obtain⟨x,_,rfl⟩:=hr;exact Row.wid (enc:=enc) x
end
structure bU where
 wk:Int
 day:Int
 st:Int
 len:Int
 room:Int
 ch:List (Int×Int)
 deriving Inhabited
structure Pr where
 fst:Int
 snd:Int
 bz:Int
 aB:List Int
 deriving Inhabited
structure Ld where
 cls:Int
 opt:Int
 wt:Int
 deriving Inhabited
structure Ct where
 bz:Int
 aH:List Ld
 most:Int
 bM:Int
 deriving Inhabited
structure aj where
 cls:List (List bU)
 ae:List Pr
 av:List Ct
 rules:Int
 deriving Inhabited
def i64(n:Int):AV:=aaC n
def aL(c:Int×Int):List AV:=[aaC c.1,aaC c.2]
def cQ(o:bU):List AV:=[aaC o.wk,aaC o.day,aaC o.st,aaC o.len,aaC o.room,.tree 2 (rowsOf aL o.ch)]
def bu(l:List bU):List AV:=[.tree 6 (rowsOf cQ l)]
def aP(p:Pr):List AV:=[aaC p.fst,aaC p.snd,aaC p.bz,.tree 1 (ints p.aB)]
def iM(l:Ld):List AV:=[aaC l.cls,aaC l.opt,aaC l.wt]
def aV(c:Ct):List AV:=[aaC c.bz,.tree 3 (rowsOf iM c.aH),aaC c.most,aaC c.bM]
def aq(m:aj):List AV:=[.tree 1 (rowsOf bu m.cls),.tree 4 (rowsOf aP m.ae),.tree 4 (rowsOf aV m.av),aaC m.rules]
def zb{l:List AV}(h:(l.all λv=>match v with|.lit y=>y.oneCell'|.tree ..=>true|_=>false)=true):∀ v∈l,(∃ y,v=AV.lit y/\y.oneCell'=true)\/∃ s r,v=AV.tree s r:=by
 intro v hv;have:=fT.1 h v hv;cases v<;>simp at this
 ·exact .inl ⟨_,rfl,this⟩
 ·exact .inr ⟨_,_,rfl⟩
instance:Row aL 2:=⟨λ_=>rfl,λ_=>zb rfl⟩
instance:Row cQ 6:=⟨λ_=>rfl,λ_=>zb rfl⟩
instance:Row bu 1:=⟨λ_=>rfl,λ_=>zb rfl⟩
instance:Row aP 4:=⟨λ_=>rfl,λ_=>zb rfl⟩
instance:Row iM 3:=⟨λ_=>rfl,λ_=>zb rfl⟩
instance:Row aV 4:=⟨λ_=>rfl,λ_=>zb rfl⟩
instance:Row aq 4:=⟨λ_=>rfl,λ_=>zb rfl⟩
end Go.Am
namespace Go.Am
variable {P:Program}
variable {N n0:Nat} {Q:Exit->St->Prop} {σ:St}
def gu(P:Program)(n0:Nat)(rs:List ResultVar)(jk:AV->List Ob->Prop):Exit->St->Prop
 |.normal,s=>eF s P rs λvs=>∃ res bI,jk res bI/\pF n0 s (ew vs) res bI
 |.ret,s=>eF s P rs λvs=>∃ res bI,jk res bI/\pF n0 s (ew vs) res bI
 |_,_=>False
def fh.KZ {f : FuncId} {fn : Func} {c : Code} {args : List AV} {aa : List Ob} {jk : AV -> List Ob -> Prop} (hf : P.funcs[f]? = some fn) (hb : fn.body = some c) (sQ : (fn.name == "runtime.NumGoroutine") = false)
  (hN:args.length<=fn.ntmps) (h:W P fn.ntmps aa.length c (gu P aa.length fn.results.toList jk) ⟨λk=>args.getD k .undef,aa⟩):fh P f args aa jk:=by
 refine⟨⟨fn,hf,sQ,by rw[hb];rfl⟩,?_⟩;intro γ bx hs;refine calls_of_wp hf hb ?_
 let tm:=γ.tmps++yD (fn.ntmps-γ.tmps.size) Go.undef
 have ax:iH fn.ntmps aa γ ⟨λk=>args.getD k .undef,aa⟩ { tmps:=tm,defers:=[] } γ.w:=by
  refine⟨rfl,by simp[tm];omega,{ γ with tmps:=tm },rfl,rfl,⟨λk=>?_,hs.fL,hs.inj,hs.nz,hs.jh⟩,(Fr.refl _ _).put _⟩;rcases fK k args.length with hk|hk
  ·have:=hs.aw k;have e:tm.getD k Go.undef=γ.tmps.getD k Go.undef:=by
    simp only[tm,gm];rw[Gx GC]
   show aC _ _ _ _ _ (tm.getD k Go.undef);rw[e];exact this
  ·have e:args.getD k AV.undef=.undef:=by simp[hk]
   show aC _ _ _ _ (args.getD k .undef) _;rw[e];exact .undef _
 refine wp_mono (h aa γ _ γ.w rfl ax) ?_;rintro e a' w'⟨σ',h1,iU,_,aO,rfl,ha,jg,gX⟩;have fin:∀ (K:List AV->Prop),eF σ' P fn.results.toList K->(∀ vs,K vs->∃ res bI,jk res bI/\pF aa.length σ' (ew vs) res bI) ->
   a'.defers=[]/\∃ v,(results fn a'.tmps).run P aO.w=.ok v aO.w/\∃ res bI cv j9,jk res bI/\Ending.returned v=.returned cv/\j9.w=aO.w/\j9.tmps = #[cv]/\bS ⟨λk=>[res].getD k .undef,bI⟩ j9/\Fr aa γ bI j9:=by
  intro K hK K3;obtain⟨vs,bG,k1,k2,k3,k4,k5⟩:=Hk jg _ _ hK;obtain⟨res,bI,KT,au,snap,r1,r2,r3,r4,r5,r6,r7⟩:=K3 vs k1;refine⟨iU,?_⟩;have fN :∃v,(results fn a'.tmps).run P aO.w=.ok v aO.w/\aC σ'.aa aO.w aO.Z aO.blk (ew vs) v:=by
   have hm:(fn.results.mapM λ(r:ResultVar)=>match r with|.tmp t=>(pure (a'.tmps.getD t Go.undef):Sem Value)|.cell a t=>do loadVar t (← asAddr (a'.tmps.getD a Go.undef))).run P aO.w=.ok bG.toArray aO.w:=by
    rw[Array.mapM_eq_mapM_toList,Sem.run_map,<- ha];exact congrArg (λ(r:Result (List Value))=>r.andThen λa w'=>Result.ok a.toArray w') k2
   have hr:(results fn a'.tmps).run P aO.w=.ok (if h:bG.toArray.size=1 then bG.toArray[0] else .tuple bG.toArray) aO.w:=by
    unfold results;rw[Sem.run_bind];exact congrArg (λr=>Result.andThen r λ(a:Array Value) w'=>(pure (if h:a.size=1 then a[0] else Value.tuple a):Sem Value).run P w') hm
   rw[hr]
   match vs,bG,k3,k5 with
   |[],[],_,k5=>exact⟨_,rfl,.bJ _ _ rfl (λj x hj=>by simp at hj)⟩
   |[v],[cv],_,k5=>exact⟨cv,GF,by simpa [ew] using k5 0 v rfl⟩
   |v::v'::vs,cv::qC::bG,k3,k5 =>
    refine⟨.tuple (cv::qC::bG).toArray,GF,.bJ _ _ (by simpa using k3) (λj x hj=>?_)⟩;have:=k5 j x hj;simpa [aA,gm] using this
  obtain⟨v,rK,oz⟩:=fN;obtain⟨j9,e1,e2,e3,e4⟩:=jg.select au snap bI r1 r2 r3 r4 (λk=>[res].getD k .undef) #[v] (λk=>by
   cases k with
   |zero=>exact .inr ⟨_,r7,by simpa using oz⟩
   |succ k=>left;simp)
  exact⟨v,rK,res,bI,v,j9,KT,rfl,e1,e2,e3,gX.select r5 r2 r6 e1 e4⟩
 cases e with
 |normal=>exact fin _ h1 (λ_ h=>h)
 |ret=>exact fin _ h1 (λ_ h=>h)
 |exit id=>exact h1.elim
 |goto l=>exact h1.elim
 |panic c=>exact h1.elim
 |outgrown=>exact h1.elim
theorem fh.aD {f:FuncId} {fn:Func} {c:Code} {args:List AV} {aa:List Ob} {jk:AV -> List Ob -> Prop} (N k:Nat) (rs:List ResultVar) (hf:P.funcs[f]?=some fn) (h:W P N k c (gu P k rs jk) ⟨fun k=>args.getD k .undef,aa⟩) (hb:fn.body=some c:=by rfl) (sQ:(fn.name=="runtime.NumGoroutine")=false:=by rfl) (hN:fn.ntmps=N:=by rfl) (rL:fn.results.toList=rs:=by rfl) (hk:aa.length=k:=by rfl) (hl:args.length<=N:=by simp):fh P f args aa jk:=by
 subst hN;subst rL;subst hk;exact fh.KZ hf hb sQ hl h
def lP(P:Program)(g:FuncId)(args:List AV)(dst:Option Tmp)(K:St->Prop)(σ:St):Prop:=KP P g args σ λv σ'=>K (σ'.put dst v)
def we(P:Program)(o:Oper)(K:St->Prop)(σ:St):Prop :=
 o.guard=none /\
 match o.op with
 |.call { callee:=.value f,args,.. } =>
  match ev σ f with
  |.fn g bj=>lP P g (args.toList.map (ev σ)++bj) o.dst K σ
  |_=>False
 |_=>False
def Lx{os:List Ob}{γ0:Cx}{o:Oper}{K:St->Prop}(h:we P o K σ){a:Act}{w:World}(ax:iH N os γ0 σ a w)(hd:∀ d,o.dst=some d->d<N){Q:Exit->Act->World->Prop}{next:Act->World->Prop}(hn:∀ σ' a' w',K σ'->iH N os γ0 σ' a' w'->next a' w'):o.wp P a w next Q:=by
 obtain⟨iU,bx,γ,rfl,ha,hs,hf⟩:=ax;have uR:∀ d,o.dst=some d->d<a.tmps.size:=λd h=>by rw[bx];exact hd d h
 obtain⟨_,h⟩:=h;split at h
 ·rename_i f args dC da;split at h
  ·rename_i g bj he;have dZ:=uS hs ha f;rw[he]at dZ;obtain⟨bG,bD,iu,nU⟩:=dZ.RF;have oX:∀ (j:Nat) d,(args.toList.map (ev σ)++bj)[j]?=some d->aC σ.aa γ.w γ.Z γ.blk d (((args.map a.eval)++bG).getD j Go.undef):=by
    intro j d hj;simp only[gm];rcases fK j args.size with br|nR
    ·rw[cT (by simpa using br)]at hj;rw[Gx (by simpa using br)];simp only[List.getElem?_map,Array.getElem?_toList,Array.getElem?_map]at hj ⊢;cases hx:args[j]? with
     |none=>simp[hx]at hj
     |some y=>simp[hx]at hj ⊢;subst hj;exact uS hs ha y
    ·rw[fV (by simpa using nR)]at hj;rw[Array.getElem?_append_right (by simpa using nR)];simp only[List.length_map,vO,Array.size_map]at hj ⊢;have:=nU _ d hj;simpa [gm] using this
   unfold lP at h;have kT:=Rx hs (argv:=(args.map a.eval)++bG) (by simp[iu]) oX h;obtain⟨au,snap,ec,cp,jk,⟨⟨fn,xE,sQ,yX⟩,_⟩,_⟩:=h;unfold Oper.wp;have hr:(execOp a.eval o).run P γ.w=.ok (.enter g ((args.map a.eval)++bG)) γ.w:=by
    have gp : ¬ fn.name = "runtime.NumGoroutine" := by simpa using sQ
    have qA:¬ fn.body=none:=by intro e;rw[e]at yX;simp at yX
    simp[execOp,da,resolve,bD,Deferred.ofValue,invoke,callFunc,xE,gp,qA]
   rw[hr];show Calls P g _ _ _;refine kT.mono ?_;rintro e w'⟨cv,v,σ',aO,rfl,rfl,lH,jg,gX,hv,hK,yY⟩;refine hn _ _ _ hK ⟨by rw[put_defers];exact iU,by rw[uI];exact bx,{ aO with tmps:=(a.put o.dst cv).tmps },rfl,rfl,sH jg (by rw[lH,ha]) uR hv,?_⟩;rw[rF];exact(hf.trans gX).put _
  ·exact h.elim
 ·exact h.elim
def En(au:List Nat){f:FuncId}{args ec:List AV}{cp:List Ob}{dst:Option Tmp}{K:St->Prop}{jk:AV->List Ob->Prop}(h:fh P f ec cp jk)(bX:au.Nodup)(ho:xA (bL σ.aa.length au) σ.aa au cp)(ha:fF (aJ σ (·∈au) (bL σ.aa.length au) false) ec args)(hK:∀ res dh,jk res dh->K (({ σ with aa:=eS σ.aa au (dh.map (cg (bL σ.aa.length au))) }:St).put dst (bC (bL σ.aa.length au) res))):lP P f args dst K σ:=by
 obtain⟨h1,h2⟩:=ho.spec;obtain⟨h3,h4⟩:=ha.spec;exact⟨au,false,ec,cp,jk,h,⟨bX,h1,h2,h3,h4⟩,λres dh hp=>⟨GF,hK res dh hp⟩⟩
end Go.Am
namespace Go.Am
variable {P:Program} {N n0:Nat} {σ:St} {Q:Exit->St->Prop}
def sR(P:Program)(ops:Array Oper)(qs:List Nat):Nat->List Oper->(St->Prop)->St->Prop
 |_,[],K,σ=>K σ
 |i,o::r,K,σ=>fy P ops (qs.contains i) o (sR P ops qs (i+1) r K) σ
def Sd{ops:Array Oper}{qs:List Nat}{i:Nat}{K:St->Prop}:sR P ops qs i [] K σ=K σ:=by simp only[sR]
def HE{ops:Array Oper}{qs:List Nat}{i:Nat}{o:Oper}{r:List Oper}{K:St->Prop}:sR P ops qs i (o::r) K σ=fy P ops (qs.contains i) o (sR P ops qs (i+1) r K) σ:=by simp only[sR]
def Ly{ops:Array Oper}{qs:List Nat}{K:St->Prop}:∀ (l:List Oper) (i:Nat) (σ:St),ops.toList.drop i=l->sR P ops qs i l K σ->ku P ops qs (kx (og i l.length)) K σ
 |[],i,σ,_,h=>h
 |o::r,i,σ,hl,h=>by
  have hi:ops[i]?=some o:=by
   have:(ops.toList.drop i)[0]?=some o:=by rw[hl];rfl
   simpa using this
  have hr:ops.toList.drop (i+1)=r:=by
   have:=congrArg Gu hl;simpa [Gv] using this
  rw[eB,xg];show dj P ops qs i (ku P ops qs (kx (og (i+1) r.length)) K) σ;unfold dj;simp only[hi];have hm:∀ s,sR P ops qs (i+1) r K s->ku P ops qs (kx (og (i+1) r.length)) K s:=λs hs=>Ly r (i+1) s hr hs;exact DI hm h
def HF(ops:Array Oper)(qs:List Nat):Bool:=(kx (aW ops.size)).ok ops qs ops.size (yD ops.size false)
def Se{id:Nat}{ops:Array Oper}{y:Code}(qs:List Nat)(hm:P.follows .mixedOrders=true)(hd:gU N ops=true)(ht:HF ops qs=true)(h:∀ K:St->Prop,(∀ s,W P N n0 y Q s->K s)->sR P ops qs 0 ops.toList K σ):
  W P N n0 (.seq (.region id ops true) y) Q σ :=
 P9 qs _ hm hd ht λK hK=>by
  have:=Ly (P:=P) (ops:=ops) (qs:=qs) ops.toList 0 σ rfl (h K hK);rw[xh];simpa using this
def Cf{id:Nat}{ops:Array Oper}(qs:List Nat)(hm:P.follows .mixedOrders=true)(hd:gU N ops=true)(ht:HF ops qs=true)(h:∀ K:St->Prop,(∀ s,Q .normal s->K s)->sR P ops qs 0 ops.toList K σ):
  W P N n0 (.region id ops true) Q σ :=
 kv qs _ hm hd ht (by
  have:=Ly (P:=P) (ops:=ops) (qs:=qs) ops.toList 0 σ rfl (h _ (λ_ h=>h));rw[xh];simpa using this)
def bZ{f:FuncId}{args:List AV}{dst:Option Tmp}{K:St->Prop}{res:AV}(h:ao P f args [] res [])(ha:ju args=true)(hr:gL res=true)(hK:K (σ.put dst res)):Ks P f args dst K σ :=
 ⟨res,h,ha,hr,hK⟩
end Go.Am
namespace Go.Am
variable {P:Program} {N n0:Nat} {σ:St} {Q:Exit->St->Prop}
def bS.Lz{σ:St}{γ:Cx}(h:bS σ γ){id:Nat}{cells cells':List AV}(ho:σ.aa[id]?=some (.var cells))(hl:cells'.length=cells.length)(hc:∀ (c:Nat) v v',cells[c]?=some v->cells'[c]?=some v'->∀ cv,aC σ.aa γ.w γ.Z γ.blk v cv->aC σ.aa γ.w γ.Z γ.blk v' cv):bS ⟨σ.env,σ.aa.set id (.var cells')⟩ γ:=by
 obtain⟨b,cap,cur,t,h1,h2,h3,h4⟩:=h.fL id _ ho;have:=h.write (ob':=.var cells') ho GF (by simp[Ob.fB,hl]) h1 (w':=γ.w) h2 (λ_ _=>rfl) rfl ⟨rfl,by rw[h3,hl],λc v hv=>?_⟩
 ·exact this
 ·have br:c<cells.length:=by rw[<- hl];exact(a8.1 hv).1
  exact hc c _ v (bK br) hv _ (h4 c _ (bK br))
def Fr.Lz(os:List Ob)(γ:Cx){id:Nat}{cells cells':List AV}(ho:os[id]?=some (.var cells))(hl:cells'.length=cells.length):Fr os γ (os.set id (.var cells')) γ where
 oh:=rfl
 tape:=rfl
 output:=rfl
 size:=Nat.le_refl _
 az:=λ_ _ _=>rfl
 z0:=λ_ h=>h
 z1:=λ_ h=>.inl h
 own:=by
  rintro b⟨i,o,c,⟨x,hx,eJ⟩,hb⟩;rw[cA]at hx;split at hx
  ·rename_i e;subst e;exact .inl ⟨id,o,c,⟨_,ho,GF⟩,hb⟩
  ·exact .inl ⟨i,o,c,⟨x,hx,eJ⟩,hb⟩
 len:=GF
 mL:=by
  rintro i hi⟨x,hx,eJ⟩;have hx0:=hx;rw[cA]at hx;split at hx
  ·rename_i e;subst e;exact⟨rfl,.var cells,.var cells',ho,by rw[cA];simp[hi],by simp[Ob.fB,hl]⟩
  ·exact⟨rfl,x,x,hx,hx0,Ob.lk eJ⟩
def aF.ni(id c sz:Nat){cells:List AV}(ho:σ.aa[id]?=some (.var cells))(hc:cells[c]?=some (.lit (.slice none 0 0)))(h0:0<sz):
  aF n0 σ ⟨σ.env,(σ.aa++[Ob.arr sz []]).set id (.var (cells.set c (.ref σ.aa.length sz 0 0)))⟩:=by
 intro os γ0 γ _ hs hf;have hp:=hs.Au h0;have dt:id<σ.aa.length:=(a8.1 ho).1;have cG:(σ.aa++[Ob.arr sz []])[id]?=some (.var cells):=by rw[cT dt];exact ho
 refine⟨{ γ with blk:=dL γ.blk σ.aa.length none },rfl,rfl,?_,(hf.trans (Fr.Au _ _ _)).trans (Fr.Lz _ _ cG (cells':=cells.set c (.ref σ.aa.length sz 0 0)) GF)⟩;refine hp.Lz cG (cells':=cells.set c (.ref σ.aa.length sz 0 0)) GF (λk v v' hv rJ cv hr=>?_);rw[cA]at rJ;split at rJ
 ·rename_i e;subst e;split at rJ
  ·simp only[dI.injEq]at rJ;subst rJ;have hk:cells[c]?=some v:=hv;rw[hc]at hk;simp only[dI.injEq]at hk;subst hk;rw[hr.dz];exact .nN _ _ (List.getElem?_concat_length ..) (by simp[dL])
  ·simp at rJ
 ·have hk:cells[k]?=some v':=rJ;have b9:cells[k]?=some v:=hv;rw[b9]at hk;simp only[dI.injEq]at hk;subst hk;exact hr
def aF.wg(a id c sz:Nat){cells:List AV}{rows:List (List AV)}(ho:σ.aa[id]?=some (.var cells))(ha:σ.aa[a]?=some (.arr sz rows))(hc:cells[c]?=some (.ref a sz 0 rows.length))(hw:∀ row∈rows,row.length=sz)(mK:∀ row∈rows,∀ v∈row,(∃ x,v=.lit x)\/∃ s r,v=.tree s r):aF n0 σ ⟨σ.env,(σ.aa.set a .gone).set id (.var (cells.set c (.tree sz rows)))⟩:=by
 intro os γ0 γ _ hs hf;have Eo:a≠id:=by intro e;subst e;rw[ho]at ha;simp at ha
 have Ab:id<σ.aa.length:=(a8.1 ho).1;have fX:a<σ.aa.length:=(a8.1 ha).1
 let aO:Cx:={ γ with Z:=λb=>γ.Z b\/∃ o cap,γ.blk a=some (b,o,cap) }
 let eE:=(σ.aa.set a .gone).set id (.var (cells.set c (.tree sz rows)))
 have hU:∀ i,eE[i]?=if i=id then some (.var (cells.set c (.tree sz rows))) else if i=a then some .gone else σ.aa[i]?:=by
  intro i;show((σ.aa.set a .gone).set id _)[i]?=_;rw[cA,cA];by_cases h1:i=id
  ·subst h1;simp[Ab]
  ·by_cases h2:i=a
   ·subst h2;simp[Ne.symm h1,h1,fX]
   ·simp[Ne.symm h1,Ne.symm h2,h1,h2]
 have hR:∀ v cv,aC σ.aa γ.w γ.Z γ.blk v cv->aC eE aO.w aO.Z aO.blk v cv:=λv cv hv =>
  hv.mono (λb hb=>⟨.inl hb,rfl⟩) (λi o hi=>by
   rw[hU];by_cases h1:i=id
   ·subst h1;rw[ho]at hi;simp only[dI.injEq]at hi;subst hi;right;exact⟨rfl,_,by rw[if_pos rfl],by simp[Ob.fB]⟩
   ·rw[if_neg h1];by_cases h2:i=a
    ·left;rw[if_pos h2]
    ·rw[if_neg h2];by_cases hg:o=.gone
     ·subst hg;exact .inl hi
     ·exact .inr ⟨rfl,o,hi,Ob.lk hg⟩)
 have cY:∀ i,Live eE i->Live σ.aa i/\i≠a:=by
  rintro i⟨o,hi,hg⟩;rw[hU]at hi;split at hi
  ·rename_i h1;subst h1;exact⟨⟨_,ho,GF⟩,Ne.symm Eo⟩
  ·split at hi
   ·simp at hi;exact absurd hi.symm hg
   ·rename_i h2;exact⟨⟨o,hi,hg⟩,h2⟩
 have qn:Live σ.aa a:=⟨_,ha,GF⟩;refine⟨aO,rfl,rfl,⟨λk=>hR _ _ (hs.aw k),?_,λi j b o c o' c' hi hj=>hs.inj i j b o c o' c' (cY i hi).1 (cY j hj).1,?_,?_⟩,?_⟩
 ·intro i o hi;have hi':eE[i]?=some o:=hi;rw[hU]at hi';split at hi'
  ·rename_i h1;subst h1;simp only[dI.injEq]at hi';subst hi';obtain⟨b,cap,cur,t,h1,h2,h3,h4⟩:=hs.fL _ _ ho;refine⟨b,cap,cur,t,h1,h2,by simpa using h3,λk v hv=>?_⟩;rw[cA]at hv;split at hv
   ·rename_i e;subst e;split at hv
    ·simp only[dI.injEq]at hv;subst hv;have dZ:cL σ (λx=>x≠a) (.tree sz rows) (.ref a sz 0 rows.length):=cL.flat ha hw rfl GF mK;exact .cC _ _ (dZ.DF hs (γc:=aO) (λb hb=>.inl hb) rfl (λx b o cap dt _ hb=>.inr ⟨o,cap,by rw[show a=x by simpa using(Decidable.not_not.1 dt).symm];exact hb⟩) _ (h4 c _ hc))
    ·simp at hv
   ·exact hR _ _ (h4 k v hv)
  ·split at hi'
   ·simp only[dI.injEq]at hi';subst hi';trivial
   ·by_cases hg:o=.gone
    ·subst hg;trivial
    ·exact(hs.fL i o hi').mono hR rfl (λ_ _ _ _=>rfl)
 ·rintro b ⟨i,o,c',hi,hb⟩ (hz|⟨o',cap,du⟩)
  ·exact hs.nz b ⟨i,o,c',(cY i hi).1,hb⟩ hz
  ·exact(cY i hi).2 (hs.inj i a b o c' o' cap (cY i hi).1 qn hb du)
 ·rintro b (hz|⟨o,cap,hb⟩)
  ·exact hs.jh b hz
  ·exact hs.blt qn hb
 ·refine⟨hf.oh,hf.tape,hf.output,hf.size,hf.az,λb hb=>.inl (hf.z0 b hb),?_,?_,by show os.length<=eE.length;simp[eE];exact hf.len,?_⟩
  ·rintro b (hz|⟨o,cap,hb⟩)
   ·exact hf.z1 b hz
   ·exact .inr (hf.own b ⟨a,o,cap,qn,hb⟩)
  ·rintro b ⟨i,o,c',hi,hb⟩;exact hf.own b ⟨i,o,c',(cY i hi).1,hb⟩
  ·intro i hi hl;obtain⟨h1,x,x',hx,dw,hk⟩:=hf.mL i hi (cY i hl).1;have D5:=(cY i hl).2;have jT:Live eE i:=hl;obtain⟨o,eX,tE⟩:=jT;refine⟨h1,x,o,hx,eX,?_⟩;rw[hU]at eX;split at eX
   ·rename_i e;subst e;rw[ho]at dw;simp only[dI.injEq]at dw eX;subst dw;subst eX;refine Ob.Lu hk (by simp[Ob.fB])
   ·rw[dw]at eX;simp only[dI.injEq]at eX;subst eX;exact hk
end Go.Am
namespace Go.Am
variable {P:Program}
def zd(P:Program):List Field->Nat->Nat->Bool
 |[],o,n=>o==n
 |f::fs,o,n=>f.offset==o&&zd P fs (o+P.cellsOf f.type) n
def wi(P:Program):Nat->TypeId->Bool
 |0,_=>false
 |d+1,t =>
  match P.underlying t with
  |some (.int .i64)=>P.cellsOf t==1
  | some (.struct fs) => (P.info? t).isSome && !P.stoodInHeld t && zd P fs.toList 0 (P.cellsOf t) && fs.toList.all λf => f.name != "_" && wi P d f.type
  |_=>false
def wj(P:Program)(t:TypeId)(xs:List Int):Value :=
 match P.underlying t with
 |some (.struct _)=>.agg (xs.map (Value.int .i64)).toArray
 |_=>.int .i64 (xs.getD 0 0)
def Sf{as bs:List Int}{o c:Nat}(h:as.length=bs.length):as.drop o=bs.drop o↔(as.drop o).take c=(bs.drop o).take c/\as.drop (o+c)=bs.drop (o+c):=by
 constructor
 ·intro e;refine⟨by rw[e],?_⟩;rw[<- Ka,<- Ka,e]
 ·rintro⟨e1,e2⟩;rw[<- Ka,<- Ka]at e2;rw[<- Dr c (as.drop o),<- Dr c (bs.drop o),e1,e2]
def Sg(w:World){d:Nat}{t:TypeId}(h:wi P d t=true){as:List Int}{o:Nat}(ho:o+P.cellsOf t<=as.length):
  (part t (as.map (Value.int .i64)).toArray o).run P w=.ok (wj P t ((as.drop o).take (P.cellsOf t))) w:=by
 cases d with
 |zero=>simp[wi]at h
 |succ d =>
  unfold wi at h;cases hu:P.underlying t with
  |none=>simp[hu]at h
  |some k =>
   rw[hu]at h;cases k<;>try(simp at h;done)
   case int q =>
    cases q<;>try(simp at h;done)
    have hc:P.cellsOf t=1:=by simpa using h
    rw[hc]at ho;have hx:((as.map (Value.int .i64)).toArray)[o]?=some (.int .i64 (as.getD o 0)):=by
     have:o<as.length:=GC;simp[this]
    simp only[part,isAgg,Sem.run_bind,run_underlying hu,Result.andThen_ok,Sem.run_pure,jQ,if_false,Sem.run_ite,hx];have:o<as.length:=GC;simp[wj,hu,hc,this]
   case struct fs =>
    simp only[bw]at h;obtain⟨i,hi⟩:=Option.isSome_iff_exists.1 h.1.1.1;have hs:∀ w,(sizeOf t).run P w=.ok (P.cellsOf t) w:=λw=>by
     simp[sizeOf,typeInfo,Program.cellsOf,hi,run_program]
    simp only[part,isAgg,Sem.run_bind,run_underlying hu,Result.andThen_ok,Sem.run_pure,if_true,Sem.run_ite,hs];simp only[wj,hu];congr 2;simp[List.map_take,List.map_drop]
def Sh{D d:Nat}(ih:∀ t,wi P d t=true->∀ (w:World) (as bs:List Int),as.length=P.cellsOf t->bs.length=P.cellsOf t->(Op.equalIn (D+d) t (wj P t as) (wj P t bs)).run P w=.ok (decide (as=bs)) w){as bs:List Int}(hl:as.length=bs.length):
  ∀ (fs : List Field) (o : Nat) (w : World), zd P fs o as.length = true -> (fs.all λf => f.name != "_" && wi P d f.type) = true ->
   o+(fs.map λf=>P.cellsOf f.type).sum=as.length->(Op.eqFields (D+d) (as.map (Value.int .i64)).toArray (bs.map (Value.int .i64)).toArray fs).run P w=.ok (decide (as.drop o=bs.drop o)) w
 |[],o,w,ht,_,hs=>by
  have:o=as.length:=by simpa [zd] using ht
  subst this;have:bs.drop as.length=[]:=List.drop_eq_nil_of_le GC;simp[Op.eqFields,this]
 |f::fs,o,w,ht,ha,hs=>by
  simp only[zd,bw,beq_iff_eq]at ht;obtain⟨rfl,ht⟩:=ht;simp only[Dp,bw,bne_iff_ne]at ha;simp only[dg,List.sum_cons]at hs;have h1:=Sg (as:=as) w ha.1.2 (o:=f.offset) GC;have h2:=Sg (as:=bs) w ha.1.2 (o:=f.offset) GC;have h3:=ih f.type ha.1.2 w ((as.drop f.offset).take (P.cellsOf f.type)) ((bs.drop f.offset).take (P.cellsOf f.type)) aar aar;have h4:=Sh ih hl fs (f.offset+P.cellsOf f.type) w ht ha.2 GC;simp only[Op.eqFields];rw[if_pos ha.1.1];simp only[Sem.run_bind,h1,h2,h3,Result.andThen_ok,Sem.run_ite,Sem.run_pure,h4];by_cases he:(as.drop f.offset).take (P.cellsOf f.type)=(bs.drop f.offset).take (P.cellsOf f.type)
  ·rw[decide_eq_true he];simp only[gT,jQ,if_false];congr 1;rw[decide_eq_decide,Sf (o:=f.offset) (c:=P.cellsOf f.type) hl];simp[he]
  ·rw[decide_eq_false he];simp only[je,if_true];congr 1;rw[eq_comm,decide_eq_false_iff_not,Sf (o:=f.offset) (c:=P.cellsOf f.type) hl];exact λh=>he h.1
def Si:∀ (fs:List Field) (o n:Nat),zd P fs o n=true->o+(fs.map λf=>P.cellsOf f.type).sum=n
 |[],o,n,h=>by simpa [zd] using h
 |f::fs,o,n,h=>by
  simp only[zd,bw,beq_iff_eq]at h;have:=Si fs _ n h.2;simp only[dg,List.sum_cons];omega
def Sj(D:Nat):∀ (d:Nat) (t:TypeId),wi P d t=true->∀ (w:World) (as bs:List Int),as.length=P.cellsOf t->bs.length=P.cellsOf t->(Op.equalIn (D+d) t (wj P t as) (wj P t bs)).run P w=.ok (decide (as=bs)) w
 |0,t,h=>by simp[wi]at h
 |d+1,t,h=>by
  intro w as bs ha hb;unfold wi at h;cases hu:P.underlying t with
  |none=>simp[hu]at h
  |some k =>
   rw[hu]at h;cases k<;>try(simp at h;done)
   case int q =>
    cases q<;>try(simp at h;done)
    have hc:P.cellsOf t=1:=by simpa using h
    rw[hc]at ha hb
    match as,bs,ha,hb with
    |[a],[b],_,_ =>
     simp only[wj,hu,iF];rw[show D+(d+1)=(D+d)+1 from rfl,run_equalIn_int w (D+d) t .i64 .i64 a b hu];congr 1;rw[mI];simp
   case struct fs =>
    simp only[bw,ld]at h;have hf:P.fieldsOf t=fs:=by simp[Program.fieldsOf,hu]
    simp only[wj,hu];rw[show D+(d+1)=(D+d)+1 from rfl,run_equalIn_struct w (D+d) t _ _ (by rw[hf];exact hu) h.1.1.2,hf];have:=Sh (D:=D) (Sj D d) (as:=as) (bs:=bs) GC fs.toList 0 w (by rw[ha];exact h.1.2) h.2 (by rw[ha];exact Si _ _ _ h.1.2);simpa using this
def Kq(P:Program)(d:Nat)(t:TypeId)(n:Nat):Bool :=
 (match P.underlying t with|some (.struct _)=>true|_=>false)&&decide (d<=10000)&&wi P d t&&(P.cellsOf t==n)
def vZ.of{t:TypeId}(d:Nat){n:Nat}(h:Kq P d t n=true):vZ P t n:=by
 intro w as bs ha hb;simp only[Kq,bw,decide_eq_true_eq,beq_iff_eq]at h;obtain⟨⟨⟨h1,hd⟩,h2⟩,h3⟩:=h;have:=Sj (10000-d) d t h2 w as bs GC GC;rw[Nat.sub_add_cancel hd]at this;cases hu:P.underlying t with
 |none=>rw[hu]at h1;simp at h1
 |some k =>
  cases k<;>rw[hu]at h1<;>try(simp at h1;done)
  simpa only[wj,hu] using this
end Go.Am
namespace Go.Am
variable {P:Program} {N n0:Nat} {σ:St} {Q:Exit->St->Prop}
def u7(o:Oper):Bool :=
 match o.op with
 |.call c=>match c.callee with
  |.value _=>true
  |_=>false
 |_=>false
def Cg(ops:Array Oper):List Nat:=(aW ops.size).filter λi=>match ops[i]? with|some o=>u7 o|none=>false
def tQ(P:Program)(ops:Array Oper):List Oper->(St->Prop)->St->Prop
 |[],K,σ=>K σ
 |o::r,K,σ=>fy P ops (u7 o) o (tQ P ops r K) σ
def Sk{ops:Array Oper}{K:St->Prop}:tQ P ops [] K σ=K σ:=by simp only[tQ]
def LA{ops:Array Oper}{o:Oper}{r:List Oper}{K:St->Prop}:tQ P ops (o::r) K σ=fy P ops (u7 o) o (tQ P ops r K) σ:=by simp only[tQ]
def afe{ops:Array Oper}{i:Nat}{o:Oper}(h:ops[i]?=some o):(Cg ops).contains i=u7 o:=by
 have hi:i<ops.size:=(qf.1 h).1;rw[mI,rq];simp only[Cg,qh,mH,hi,true_and,h]
def LB{ops:Array Oper}{K:St->Prop}:∀ (l:List Oper) (i:Nat) (σ:St),ops.toList.drop i=l->tQ P ops l K σ->sR P ops (Cg ops) i l K σ
 |[],i,σ,_,h=>h
 |o::r,i,σ,hl,h=>by
  have hi:ops[i]?=some o:=by
   have:(ops.toList.drop i)[0]?=some o:=by rw[hl];rfl
   simpa using this
  have hr:ops.toList.drop (i+1)=r:=by
   have:=congrArg Gu hl;simpa [Gv] using this
  rw[HE,afe hi];rw[LA]at h;exact DI (λs hs=>LB r (i+1) s hr hs) h
def HG(ops:Array Oper):Bool:=HF ops (Cg ops)
def aff{id:Nat}{ops:Array Oper}{y:Code}(hm:P.follows .mixedOrders=true)(hd:gU N ops=true)(ht:HG ops=true)(h:∀ K:St->Prop,(∀ s,W P N n0 y Q s->K s)->tQ P ops ops.toList K σ):
  W P N n0 (.seq (.region id ops true) y) Q σ :=
 Se (Cg ops) hm hd ht λK hK=>LB ops.toList 0 σ rfl (h K hK)
def afg{id:Nat}{ops:Array Oper}(hm:P.follows .mixedOrders=true)(hd:gU N ops=true)(ht:HG ops=true)(h:∀ K:St->Prop,(∀ s,Q .normal s->K s)->tQ P ops ops.toList K σ):
  W P N n0 (.region id ops true) Q σ :=
 Cf (Cg ops) hm hd ht λK hK=>LB ops.toList 0 σ rfl (h K hK)
def xK:List Oper->Bool
 |[]=>false
 |o::r=>u7 o||xK r
def Ch(ops:Array Oper):List Nat:=(aW ops.size).filter λi=>match ops[i]? with|some o=>u7 o&&xK (ops.toList.drop (i+1))|none=>false
def tR(P:Program)(ops:Array Oper):List Oper->(St->Prop)->St->Prop
 |[],K,σ=>K σ
 |o::r,K,σ=>fy P ops (u7 o&&xK r) o (tR P ops r K) σ
def Sl{ops:Array Oper}{K:St->Prop}:tR P ops [] K σ=K σ:=by simp only[tR]
def LC{ops:Array Oper}{o:Oper}{r:List Oper}{K:St->Prop}:tR P ops (o::r) K σ=fy P ops (u7 o&&xK r) o (tR P ops r K) σ:=by simp only[tR]
def afh{ops:Array Oper}{i:Nat}{o:Oper}{r:List Oper}(h:ops[i]?=some o)(hr:ops.toList.drop (i+1)=r):(Ch ops).contains i=(u7 o&&xK r):=by
 have hi:i<ops.size:=(qf.1 h).1;rw[mI,rq];simp only[Ch,qh,mH,hi,true_and,h,hr]
def LD{ops:Array Oper}{K:St->Prop}:∀ (l:List Oper) (i:Nat) (σ:St),ops.toList.drop i=l->tR P ops l K σ->sR P ops (Ch ops) i l K σ
 |[],i,σ,_,h=>h
 |o::r,i,σ,hl,h=>by
  have hi:ops[i]?=some o:=by
   have:(ops.toList.drop i)[0]?=some o:=by rw[hl];rfl
   simpa using this
  have hr:ops.toList.drop (i+1)=r:=by
   have:=congrArg Gu hl;simpa [Gv] using this
  rw[HE,afh hi hr];rw[LC]at h;exact DI (λs hs=>LD r (i+1) s hr hs) h
def HH(ops:Array Oper):Bool:=HF ops (Ch ops)
def afi{id:Nat}{ops:Array Oper}{y:Code}(hm:P.follows .mixedOrders=true)(hd:gU N ops=true)(ht:HH ops=true)(h:∀ K:St->Prop,(∀ s,W P N n0 y Q s->K s)->tR P ops ops.toList K σ):
  W P N n0 (.seq (.region id ops true) y) Q σ :=
 Se (Ch ops) hm hd ht λK hK=>LD ops.toList 0 σ rfl (h K hK)
def afj{id:Nat}{ops:Array Oper}(hm:P.follows .mixedOrders=true)(hd:gU N ops=true)(ht:HH ops=true)(h:∀ K:St->Prop,(∀ s,Q .normal s->K s)->tR P ops ops.toList K σ):
  W P N n0 (.region id ops true) Q σ :=
 Cf (Ch ops) hm hd ht λK hK=>LD ops.toList 0 σ rfl (h K hK)
def ao.empty{f:FuncId}{sz:Nat}{pre post:List AV}{aa bI:List Ob}{res:AV}(h:∀ a cap,ao P f (pre++.lit (.slice a 0 cap)::post) aa res bI):ao P f (pre++.tree sz []::post) aa res bI:=by
 refine⟨(h none 0).1,λγ bx hs=>?_⟩;have kP:=hs.aw pre.length;have he:(pre++.tree sz []::post).getD pre.length .undef=.tree sz []:=GF;rw[show(⟨λk=>(pre++AV.tree sz []::post).getD k .undef,aa⟩:St).env pre.length=.tree sz [] from he]at kP;obtain⟨a,cap,bD⟩:∃a cap,γ.tmps.getD pre.length Go.undef=.slice a 0 cap:=by
  generalize γ.tmps.getD pre.length Go.undef=cv at kP;have:=kP.Ao;cases this with
  |nil _ cap a=>exact⟨a,cap,rfl⟩
  |tree _ _ b o cap f=>exact⟨_,cap,rfl⟩
 refine(h a cap).2 γ (by simpa using bx) ⟨λk=>?_,hs.fL,hs.inj,hs.nz,hs.jh⟩;by_cases hk:k=pre.length
 ·subst hk;show aC aa γ.w γ.Z γ.blk ((pre++.lit (.slice a 0 cap)::post).getD pre.length .undef) _;rw[show(pre++AV.lit (.slice a 0 cap)::post).getD pre.length .undef=.lit (.slice a 0 cap) by simp,bD];exact .lit _
 ·have:=hs.aw k;show aC aa γ.w γ.Z γ.blk ((pre++.lit (.slice a 0 cap)::post).getD k .undef) _;have e:(pre++AV.lit (.slice a 0 cap)::post).getD k .undef=(pre++AV.tree sz []::post).getD k .undef:=by
   simp only[aA];congr 1;rcases fK k pre.length with h'|h'
   ·rw[cT h',cT h']
   ·rw[fV h',fV h'];obtain⟨j,hj⟩:∃j,k-pre.length=j+1:=⟨k-pre.length-1,GC⟩;rw[hj];simp
  rw[e];exact this
def aF.Ep(d sz:Nat){a:Option Addr}{cap:Nat}(h:σ.env d=.lit (.slice a 0 cap)):aF n0 σ ⟨j8 σ.env d (.tree sz []),σ.aa⟩:=by
 intro os γ0 γ _ hs hf;refine⟨γ,rfl,rfl,⟨λk=>?_,hs.fL,hs.inj,hs.nz,hs.jh⟩,hf⟩;show aC σ.aa γ.w γ.Z γ.blk (j8 σ.env d (.tree sz []) k) _;by_cases hk:k=d
 ·subst hk;have:=hs.aw k;rw[h]at this;rw[aep,this.dz];exact .cC _ _ (.nil sz cap a)
 ·rw[j8,if_neg hk];exact hs.aw k
end Go.Am
namespace Go.Am
def HI(k:IntKind)(n:Int):eZ (.int k n)=.lit (.int k n):=by first|rfl|(cases b<;>rfl)|(simp only[eZ];done)|(unfold gV;split<;>simp_all)
def HJ(b:Bool):eZ (.bool b)=.lit (.bool b):=by first|rfl|(cases b<;>rfl)|(simp only[eZ];done)|(unfold gV;split<;>simp_all)
def HK(a:Option Addr)(n c:Nat):eZ (.slice a n c)=.lit (.slice a n c):=by first|rfl|(cases b<;>rfl)|(simp only[eZ];done)|(unfold gV;split<;>simp_all)
def HL(s:ByteArray):eZ (.string s)=.lit (.string s):=by first|rfl|(cases b<;>rfl)|(simp only[eZ];done)|(unfold gV;split<;>simp_all)
def HM(s:Array Value):eZ (.tuple s)=.lit (.tuple s):=by first|rfl|(cases b<;>rfl)|(simp only[eZ];done)|(unfold gV;split<;>simp_all)
def Sm(ρ:Nat->Nat)(v:Value):bC ρ (.lit v)=.lit v:=by first|rfl|(cases b<;>rfl)|(simp only[eZ];done)|(unfold gV;split<;>simp_all)
def Sn(ρ:Nat->Nat)(s:Nat)(r:List (List AV)):bC ρ (.tree s r)=.tree s r:=by first|rfl|(cases b<;>rfl)|(simp only[eZ];done)|(unfold gV;split<;>simp_all)
def So(ρ:Nat->Nat)(r:List AV):bC ρ (.cq r)=.cq r:=by first|rfl|(cases b<;>rfl)|(simp only[eZ];done)|(unfold gV;split<;>simp_all)
def Sp(ρ:Nat->Nat):bC ρ .undef=.undef:=by first|rfl|(cases b<;>rfl)|(simp only[eZ];done)|(unfold gV;split<;>simp_all)
def Sr(v:Value):cellsOf (.lit v)=[.lit v]:=by first|rfl|(cases b<;>rfl)|(simp only[eZ];done)|(unfold gV;split<;>simp_all)
def Ss(s:Nat)(r:List (List AV)):cellsOf (.tree s r)=[.tree s r]:=by first|rfl|(cases b<;>rfl)|(simp only[eZ];done)|(unfold gV;split<;>simp_all)
def Su(r:List AV):cellsOf (.cq r)=[.cq r]:=by first|rfl|(cases b<;>rfl)|(simp only[eZ];done)|(unfold gV;split<;>simp_all)
def Sv(a b c d:Nat):cellsOf (.ref a b c d)=[.ref a b c d]:=by first|rfl|(cases b<;>rfl)|(simp only[eZ];done)|(unfold gV;split<;>simp_all)
def Sw(a b c:Nat):cellsOf (.ptr a b c)=[.ptr a b c]:=by first|rfl|(cases b<;>rfl)|(simp only[eZ];done)|(unfold gV;split<;>simp_all)
def Sx(id:Nat):cellsOf (.iV id)=[.iV id]:=rfl
def Sy(t:TypeId)(v:AV):cellsOf (.jl t v)=[.jl t v]:=rfl
def Sz(f:FuncId)(l:List AV):cellsOf (.fn f l)=[.fn f l]:=by first|rfl|(cases b<;>rfl)|(simp only[eZ];done)|(unfold gV;split<;>simp_all)
def SA(t:Bool)(s:Array Value)(b:AV):gV t (.lit (.tuple s)) b=if t=true then .lit (.tuple s) else b:=by first|rfl|(cases b<;>rfl)|(simp only[eZ];done)|(unfold gV;split<;>simp_all)
def SD(t:Bool)(s:Array Value)(b:AV):gV t b (.lit (.tuple s))=if t=true then b else .lit (.tuple s):=by first|rfl|(cases b<;>rfl)|(simp only[eZ];done)|(unfold gV;split<;>simp_all)
def SE(t:Bool)(s u:List AV):gV t (.agg s) (.agg u)=if t=true then .agg s else .agg u:=by first|rfl|(cases b<;>rfl)|(simp only[eZ];done)|(unfold gV;split<;>simp_all)
def SF(l:List AV):cO (.agg l)=false:=by first|rfl|(cases b<;>rfl)|(simp only[eZ];done)|(unfold gV;split<;>simp_all)
def SG(l:List AV):cO (.bJ l)=false:=by first|rfl|(cases b<;>rfl)|(simp only[eZ];done)|(unfold gV;split<;>simp_all)
def SH  : cO .undef=false:=by first|rfl|(cases b<;>rfl)|(simp only[eZ];done)|(unfold gV;split<;>simp_all)
def SI(k:IntKind)(n:Int):Value.oneCell' (.int k n)=true:=by first|rfl|(cases b<;>rfl)|(simp only[eZ];done)|(unfold gV;split<;>simp_all)
def SJ(b:Bool):Value.oneCell' (.bool b)=true:=by first|rfl|(cases b<;>rfl)|(simp only[eZ];done)|(unfold gV;split<;>simp_all)
def SK(a:Option Addr)(n c:Nat):Value.oneCell' (.slice a n c)=true:=by first|rfl|(cases b<;>rfl)|(simp only[eZ];done)|(unfold gV;split<;>simp_all)
def SL(s:ByteArray):Value.oneCell' (.string s)=true:=by first|rfl|(cases b<;>rfl)|(simp only[eZ];done)|(unfold gV;split<;>simp_all)
def SM(a:Option Addr):Value.oneCell' (.pointer a)=true:=by first|rfl|(cases b<;>rfl)|(simp only[eZ];done)|(unfold gV;split<;>simp_all)
def SN(a:Option Nat):Value.oneCell' (.map a)=true:=by first|rfl|(cases b<;>rfl)|(simp only[eZ];done)|(unfold gV;split<;>simp_all)
def Pc:=aaZ @BU.eq_1 @BU.eq_2 @yT.eq_1 @yT.eq_2 @BV.eq_1 @BV.eq_2 @uN.eq_1 (aaZ @uN.eq_2 @uN.eq_3 @KJ.eq_1 @KL.eq_1 @iJ.eq_1 @iJ.eq_2 @iJ.eq_3 (aaZ @iJ.eq_4 @iJ.eq_5 @iJ.eq_6 @iJ.eq_7 @iJ.eq_8 @iJ.eq_9 @iJ.eq_10 (aaL @iJ.eq_11 @iJ.eq_12 @iJ.eq_13 @nJ.eq_1 @fy.eq_1)))
def Sc:=aaZ @ev.eq_1 @ev.eq_2 @ev.eq_3 @ev.eq_4 @eZ.eq_1 @St.put.eq_1 @St.put.eq_2 (aaZ @v7.eq_1 @v7.eq_2 @v8.eq_1 @v8.eq_2 @gV.eq_1 @kx.eq_1 @kx.eq_2 (aaZ @eS.eq_1 @eS.eq_2 @bC.eq_1 @bC.eq_2 @bC.eq_3 @bC.eq_4 @bC.eq_5 (aaZ @bC.eq_6 @qu.eq_1 @qu.eq_2 @bL.eq_1 @rowOf.eq_1 @pG.eq_1 @pI.eq_1 (aaZ @pI.eq_2 @sM.eq_1 @sM.eq_2 @cellsOf.eq_1 @setCells.eq_1 @setCells.eq_2 @nK.eq_1 (aaZ @nK.eq_2 @nL.eq_1 @nL.eq_2 @cO.eq_1 @cO.eq_2 @cO.eq_3 @cO.eq_4 (aaZ @cO.eq_5 @cO.eq_6 @Ty.isAgg.eq_1 @Value.oneCell'.eq_1 @Value.oneCell'.eq_2 @u7.eq_1 @xK.eq_1 (aaZ @xK.eq_2 @aq.eq_1 @cQ.eq_1 @bu.eq_1 @aP.eq_1 @iM.eq_1 @aV.eq_1 (aaZ @aL.eq_1 @qw.eq_1 @qw.eq_2 @HE @Sd @LA @Sk (aaZ @LC @Sl @eQ @jR @HI @HJ @HK (aaZ @HL @HM @Sm @Sn @So @Sp @Sr (aaZ @Ss @Su @Sv @Sw @Sz @SA @SD (aaZ @SE @SF @SG @SH @SI @SJ @SK (aaZ @SL @SM @SN @cO.eq_7 @Sy @QE @Q7 (aaZ @Q8 @KK.eq_1 @qq.eq_1 @qq.eq_2 @bC.eq_7 @cO.eq_8 @Sx (aaZ @QZ @Q2 @Q3 @Q6 @Q4 @Q5 @Qx (aaI @ng.eq_1 @keyOf.eq_1 @keyOf.eq_2 @lj.eq_1))))))))))))))))
def Lc:=aaZ @ev.eq_1 @ev.eq_2 @ev.eq_3 @ev.eq_4 @eZ.eq_1 @St.put.eq_1 @St.put.eq_2 (aaL @HI @HJ @HK @HL @HM)
def eT{P:Program}{N n0:Nat}(id:Nat){ops:Array Oper}{d:Bool}{y:Code}{Q:Exit->St->Prop}{σ:St}(h:W P N n0 (.seq (.region id ops d) y) Q σ):W P N n0 (.seq (.region id ops d) y) Q σ:=h
def eU{P:Program}{N n0:Nat}(id:Nat){ops:Array Oper}{d:Bool}{Q:Exit->St->Prop}{σ:St}(h:W P N n0 (.region id ops d) Q σ):W P N n0 (.region id ops d) Q σ:=h
end Go.Am
namespace Go.Am
variable {P:Program} {N n0:Nat} {σ:St}
def ze:Ob->Bool
 |.gone=>false
 |.var cs=>ju cs
 |.arr _ rows=>rows.all ju
 |.mp _ _=>false
def SO{ρ:Nat->Nat}{o:Ob}(h:ze o=true):cg ρ o=o:=by
 cases o with
 |gone=>simp[ze]at h
 |var cs =>
  have:=BR ρ cs h;rw[xy]at this;simp[cg,this]
 |arr sz rows=>exact DN (by simpa [ze,fT] using h)
 |mp ag L=>simp[ze]at h
def SP(hd:Nat)(c a:AV):Prop:=(a=c/\gL c=true)\/(c=.ptr 0 0 0/\a=.ptr hd 0 0)
def Er(P:Program)(hd:Nat)(g:FuncId)(args:List AV)(dst:Option Tmp)(K:St->Prop)(σ:St):Prop :=
 ∃ ec D res D',ao P g ec [D] res [D']/\ze D=true/\ze D'=true/\σ.aa[hd]?=some D/\gL res=true/\fF (SP hd) ec args/\K ((⟨σ.env,σ.aa.set hd D'⟩:St).put dst res)
def afk{hd:Nat}{g:FuncId}{args:List AV}{dst:Option Tmp}{K:St->Prop}(h:Er P hd g args dst K σ):sK P g args dst K σ:=by
 obtain⟨ec,D,res,D',h1,h2,h3,h4,h5,h6,h7⟩:=h;obtain⟨h8,h9⟩:=h6.spec;have hρ:bL σ.aa.length [hd] 0=hd:=by simp[bL]
 refine⟨[hd],false,ec,[D],res,[D'],h1,⟨GF,rfl,λj o hj=>?_,h8,λj c d hc uR=>?_,GF⟩,?_⟩
 ·cases j with
  |zero=>simp at hj;subst hj;simp[SO h2,h4]
  |succ j=>simp at hj
 ·rcases h9 j c d hc uR with⟨rfl,hn⟩|⟨rfl,rfl⟩
  ·exact .pure hn
  ·exact .eq (by simp[bC,hρ])
 ·have e:eS σ.aa [hd] ([D'].map (cg (bL σ.aa.length [hd])))=σ.aa.set hd D':=by simp[eS,SO h3]
  show K (({ σ with aa:=eS σ.aa [hd] ([D'].map (cg (bL σ.aa.length [hd]))) }:St).put dst (bC (bL σ.aa.length [hd]) res));rw[e,Ah _ _ h5];exact h7
def zf(hd:Nat)(P:Program)(o:Oper)(σ:St)(K:St->Prop):Prop :=
 match o.op with
 |.call { callee:=.value f,args,.. } =>
  match ev σ f with
  |.fn g bj=>Er P hd g (args.toList.map (ev σ)++bj) o.dst K σ
  |_=>False
 |_=>False
def afm{hd:Nat}{o:Oper}{K:St->Prop}(h:zf hd P o σ K):aZ P o σ K:=by
 unfold zf at h;unfold aZ;split at h
 ·rename_i f args dC da;simp only[da];split at h
  ·rename_i g bj he;simp only[he];exact afk h
  ·exact h.elim
 ·exact h.elim
def pQ(hd:Nat):AV->Bool
 |.ptr id _ _=>id != hd
 |.ref id _ _ _=>id != hd
 |.iV id=>id != hd
 |_=>true
def tS(hd:Nat)(σ:St):List Operand->Bool
 |[]=>true
 |x::l=>pQ hd (ev σ x)&&tS hd σ l
def fG(hd:Nat)(q:Bool)(o:Oper)(σ:St):Bool:=q||cls o.op==0||decide (3<=cls o.op)||tS hd σ o.op.operands.toList
def SQ{hd:Nat}:∀ {l:List Operand},tS hd σ l=true->∀ x∈l,uT (ev σ x)≠some hd
 |[],_,x,hx=>by simp at hx
 |y::l,h,x,hx=>by
  simp only[tS,bw]at h;rcases cB.1 hx with rfl|hx
  ·intro e;have h1:=h.1;cases hv:ev σ x<;>rw[hv]at e h1<;>simp[uT,pQ]at e h1
   ·exact h1 e
   ·exact h1 e
   ·exact h1 e
  ·exact SQ h.2 x hx
def LF{hd:Nat}{σ2:St}:∀ {l:List Operand},(∀ x∈l,ev σ2 x=ev σ x)->tS hd σ2 l=tS hd σ l
 |[],_=>rfl
 |y::l,h=>by
  simp only[tS];rw[h y GF,LF λx hx=>h x (by simp[hx])]
def lQ(P:Program)(ops:Array Oper)(hd:Nat)(q dc:Bool)(o:Oper)(K:St->Prop)(σ:St):Prop :=
 match dc with
 |true=>o.guard=none/\zf hd P o σ K
 |false=>fG hd q o σ=true/\fy P ops q o K σ
def jo(q dc:Bool)(o:Oper):Nat:=if dc then 6 else ic q o
def Es(hd c:Nat)(a b:List Ob):Prop:=if c=6 then ∀ id,id≠hd->b[id]?=a[id]? else mf c a b
def afn{N:Nat}{os:List Ob}{γ0:Cx}{ops:Array Oper}{hh:Nat}(hd:∀ o∈ops.toList,∀ d,o.dst=some d->d<N){q dc:Bool}{i:Nat}{o:Oper}(hi:ops[i]?=some o){σ:St}{K:St->Prop}(h:lQ P ops hh q dc o K σ){a:Act}{w:World}(ax:iH N os γ0 σ a w){Q:Exit->Act->World->Prop}{next:Act->World->Prop}(hn:∀ σ' a' w',K σ'->iH N os γ0 σ' a' w'->next a' w'):wpOp P ops Q i next a w:=by
 cases dc with
 |false=>exact PY hd hi h.2 ax hn
 |true =>
  have bO:o∈ops.toList:=iD (by simpa using hi);unfold wpOp;simp only[hi];have hw:Region.wanted o (yielded ops a.tmps)=true:=by simp[Region.wanted,h.1]
  rw[if_pos hw];left;exact yN (afm h.2) ax (hd o bO) hn
def HN{ops:Array Oper}{hh:Nat}{q dc:Bool}{o:Oper}{σ:St}{K:St->Prop}(hW:lQ P ops hh q dc o K σ):
  ∃ v os,Es hh (jo q dc o) σ.aa os/\K ((⟨σ.env,os⟩:St).put o.dst v)/\∀ (e2:Nat->AV) (K2:St->Prop),(∀ t∈o.looksAt ops,e2 t=σ.env t)->K2 ((⟨e2,os⟩:St).put o.dst v)->lQ P ops hh q dc o K2 ⟨e2,σ.aa⟩:=by
 cases dc with
 |false =>
  obtain⟨hc,hW⟩:=hW;obtain⟨v,os,h1,h2,h3⟩:=DG hW;refine⟨v,os,?_,h2,λe2 K2 hl hK=>⟨?_,h3 e2 K2 hl hK⟩⟩
  ·unfold Es jo;simp only[jQ,if_false];rw[if_neg]
   ·exact h1
   ·unfold ic;split
    ·omega
    ·unfold cls;split<;>omega
  ·unfold fG at hc ⊢;rw[LF (σ:=σ) (xq hl)];exact hc
 |true =>
  obtain⟨hg,hW⟩:=hW;unfold zf at hW;split at hW
  ·rename_i f args dC da;split at hW
   ·rename_i g bj he;obtain⟨ec,D,res,D',h1,h2,h3,h4,h5,h6,h7⟩:=hW;refine⟨res,σ.aa.set hh D',?_,h7,λe2 K2 hl hK=>⟨hg,?_⟩⟩
    ·unfold Es jo;simp only[if_true];intro id dt;rw[cA,if_neg (Ne.symm dt)]
    ·unfold zf;simp only[da];have hx:=xq (os:=σ.aa) hl;have e1:ev ⟨e2,σ.aa⟩ f=.fn g bj:=by rw[<- he];exact hx f (by simp[da,Op.operands,Call.operands])
     have e3:args.toList.map (ev ⟨e2,σ.aa⟩)=args.toList.map (ev σ):=l8 λy hy=>hx y (by simp only[da,Op.operands,Call.operands,BA,cH];exact .inr hy);simp only[e1,e3];exact⟨ec,D,res,D',h1,h2,h3,h4,h5,h6,hK⟩
   ·exact hW.elim
  ·exact hW.elim
def afo{o:Oper}{σ:St}{K:St->Prop}(hc:cls o.op<=2)(hW:aZ P o σ K):
  ∃ v,K (σ.put o.dst v)/\∀ (σ2:St) (K2:St->Prop),(∀ x∈o.op.operands.toList,ev σ2 x=ev σ x)->(∀ x∈o.op.operands.toList,∀ id,uT (ev σ x)=some id->kr (cls o.op) σ.aa[id]? σ2.aa[id]?)->K2 (σ2.put o.dst v)->aZ P o σ2 K2:=by
 unfold aZ at hW ⊢;split at hW
 ·rename_i f args dC da;rw[da]at hc;simp[cls]at hc
 ·rename_i r m args dC da;rw[da]at hc;simp[cls]at hc
 ·rename_i dO;obtain⟨v,h2,h3⟩:=P0 hc hW;refine⟨v,h2,λσ2 K2 hx ho hK=>?_⟩;exact h3 σ2 K2 hx (ho) hK
def SR{q:Bool}{o:Oper}{σ:St}{K:St->Prop}(hc:ic q o<=2)(hW:nf q P o σ K):
  ∃ v,K (σ.put o.dst v)/\∀ (σ2:St) (K2:St->Prop),(∀ x∈o.op.operands.toList,ev σ2 x=ev σ x)->(∀ x∈o.op.operands.toList,∀ id,uT (ev σ x)=some id->kr (ic q o) σ.aa[id]? σ2.aa[id]?)->K2 (σ2.put o.dst v)->nf q P o σ2 K2:=by
 cases q with
 |false=>exact afo hc hW
 |true =>
  unfold nf at hW ⊢;simp only at hW ⊢;split at hW
  ·rename_i f args dC da;simp only[da];split at hW
   ·rename_i g bj he;obtain⟨res,h1,h2,h3,h4⟩:=hW;refine⟨res,h4,λσ2 K2 hx _ hK=>?_⟩;have e1:ev σ2 f=.fn g bj:=by rw[<- he];exact hx f (by simp[Op.operands,Call.operands])
    have e3:args.toList.map (ev σ2)=args.toList.map (ev σ):=l8 λy hy=>hx y (by simp only[Op.operands,Call.operands,BA,cH];exact .inr hy);simp only[e1,e3];exact⟨res,h1,h2,h3,hK⟩
   ·exact hW.elim
  ·rename_i t a da;obtain⟨x,h1,h2⟩:=Kt hW;refine⟨x,h1,λσ2 K2 hx _ hK=>?_⟩;rw[hx a (by simp[da,Op.operands])];exact h2 _ K2 hK
  ·exact hW.elim
def afp{ops:Array Oper}{q:Bool}{o:Oper}{σ:St}{K:St->Prop}(hc:ic q o<=2)(hW:fy P ops q o K σ):
  ∃ v,K (σ.put o.dst v)/\∀ (σ2:St) (K2:St->Prop),(∀ t∈o.looksAt ops,σ2.env t=σ.env t)->(∀ x∈o.op.operands.toList,∀ id,uT (ev σ x)=some id->kr (ic q o) σ.aa[id]? σ2.aa[id]?)->K2 (σ2.put o.dst v)->fy P ops q o K2 σ2:=by
 unfold fy at hW ⊢;cases hg:o.guard with
 |none =>
  simp only[hg]at hW;obtain⟨v,h2,h3⟩:=SR hc hW;exact⟨v,h2,λσ2 K2 hl ho hK=>h3 σ2 K2 (xq (e2:=σ2.env) (os:=σ2.aa) hl) ho hK⟩
 |some jw =>
  obtain⟨j,want⟩:=jw;simp only[hg]at hW;cases eY:(ops[j]?).bind (·.dst) with
  |none=>simp[eY]at hW
  |some d =>
   simp only[eY]at hW;split at hW
   ·rename_i b he;by_cases iv:b=want
    ·obtain⟨v,h2,h3⟩:=SR hc (hW.1 iv);refine⟨v,h2,λσ2 K2 hl ho hK=>?_⟩;have:σ2.env d=.lit (.bool b):=by rw[hl d (xr hg eY)];exact he
     simp only[eY,this];exact⟨λ_=>h3 σ2 K2 (xq (e2:=σ2.env) (os:=σ2.aa) hl) ho hK,λhn=>absurd iv hn⟩
    ·refine⟨.lit (.tuple #[]),hW.2 iv,λσ2 K2 hl ho hK=>?_⟩;have:σ2.env d=.lit (.bool b):=by rw[hl d (xr hg eY)];exact he
     simp only[eY,this];exact⟨λhn=>absurd hn iv,λ_=>hK⟩
   ·rename_i vs he;refine⟨.lit (.tuple #[]),hW.2,λσ2 K2 hl ho hK=>?_⟩;have:σ2.env d=.lit (.tuple vs):=by rw[hl d (xr hg eY)];exact he
    simp only[eY,this];exact⟨hW.1,hK⟩
   ·exact hW.elim
def SS{ops:Array Oper}{hh:Nat}{q dc:Bool}{o:Oper}{σ:St}{K:St->Prop}(hc:jo q dc o<=2)(hW:lQ P ops hh q dc o K σ):
  ∃ v,K (σ.put o.dst v)/\∀ (σ2:St) (K2:St->Prop),(∀ t∈o.looksAt ops,σ2.env t=σ.env t)->(∀ (id:Nat),id≠hh->kr (jo q dc o) σ.aa[id]? σ2.aa[id]?)->K2 (σ2.put o.dst v)->lQ P ops hh q dc o K2 σ2:=by
 cases dc with
 |true=>simp[jo]at hc
 |false =>
  obtain⟨hk,hW⟩:=hW;have ln:ic q o<=2:=by simpa [jo] using hc
  obtain⟨v,h1,h2⟩:=afp ln hW;refine⟨v,h1,λσ2 K2 hl ho hK=>⟨?_,h2 σ2 K2 hl (λx hx id hp=>?_) hK⟩⟩
  ·unfold fG at hk ⊢;rw[LF (σ:=σ) (xq (e2:=σ2.env) (os:=σ2.aa) hl)];exact hk
  ·have cG:∀ id,id≠hh->kr (ic q o) σ.aa[id]? σ2.aa[id]?:=by simpa [jo] using ho
   by_cases h0:ic q o=0
   ·rw[h0];simp[kr]
   ·refine cG id λe=>?_;subst e;unfold ic at h0 ln;split at h0
    ·omega
    ·rename_i hq;simp only[hq]at ln;have Ci:q=false:=by simpa using hq
     subst Ci;unfold fG at hk;have u4:cls o.op<=2:=by simpa using ln
     have h3:decide (3<=cls o.op)=false:=decide_eq_false GC;have h4:(cls o.op==0)=false:=by simpa using h0
     rw[h3,h4]at hk;simp only[ma]at hk;exact SQ hk x hx hp
def HO(ci ck:Nat):Bool:=BQ ci ck||(decide (ci<=2)&&ck==6)
def afq{hh ci ck:Nat}(h:(ci==0||(ci==1&&decide (ck<=4))||(ci==2&&decide (ck<=3))||(decide (ci<=2)&&ck==6))=true){a b:List Ob}(he:Es hh ck a b)(id:Nat)(dt:id≠hh):kr ci a[id]? b[id]?:=by
 unfold Es at he;split at he
 ·rename_i h6;subst h6;rw[he id dt];unfold kr;split
  ·trivial
  ·split
   ·intro o ho;exact⟨o,ho,Ad o⟩
   ·intro o ho;exact ho
 ·rename_i h6;refine P6 ?_ he id;have:(ck==6)=false:=by simpa using h6
  rw[this]at h;simpa using h
def afr{ops:Array Oper}{hh:Nat}{qi qk di dk:Bool}{oi ok:Oper}(ha:oi.apart ops ok=true)(hi:jo qi di oi<=2)(hc:(jo qi di oi==0||(jo qi di oi==1&&decide (jo qk dk ok<=4))||(jo qi di oi==2&&decide (jo qk dk ok<=3))||(decide (jo qi di oi<=2)&&jo qk dk ok==6))=true){σ:St}{K:St->Prop}(h:lQ P ops hh qi di oi (lQ P ops hh qk dk ok K) σ):lQ P ops hh qk dk ok (lQ P ops hh qi di oi K) σ:=by
 obtain⟨a1,a2,a3⟩:=Oper.apart_spec ha;obtain⟨v,h1,run⟩:=SS hi h;obtain⟨vk,os,Ae,h2,DH⟩:=HN h1;rw[GZ]at Ae DH;refine DH σ.env _ (λt ht=>(yO λd hd e=>a1 d hd (e▸ht)).symm) ?_;refine run _ _ (λt ht=>?_) (λid dt=>?_) ?_
 ·rw[yO λd hd e=>a3 d hd (e▸ht)]
 ·rw[GZ];exact afq hc Ae id dt
 ·rw[G0]at h2;rw[GY (λd hd e=>a2 d e hd)];exact h2
def afs{ops:Array Oper}{hh:Nat}{qi qk di dk:Bool}{oi ok:Oper}(ha:oi.apart ops ok=true)(hk:jo qk dk ok=0){σ:St}{K:St->Prop}(h:lQ P ops hh qi di oi (lQ P ops hh qk dk ok K) σ):lQ P ops hh qk dk ok (lQ P ops hh qi di oi K) σ:=by
 obtain⟨a1,a2,a3⟩:=Oper.apart_spec ha;obtain⟨vi,os,Ae,h1,run⟩:=HN h;obtain⟨vk,h2,Ku⟩:=SS GC h1;refine Ku σ _ (λt ht=>(yO (σ:=⟨σ.env,os⟩) λd hd e=>a1 d hd (e▸ht)).symm) (λid _=>by rw[hk];simp[kr]) ?_;rw[P5];refine run _ _ (λt ht=>yO λd hd e=>a3 d hd (e▸ht)) ?_;rw[G0,GY (λd hd e=>a2 d e hd)];exact h2
def aft{ops:Array Oper}{hh:Nat}{qi qk di dk:Bool}{oi ok:Oper}(ha:oi.apart ops ok=true)(hc:HO (jo qi di oi) (jo qk dk ok)=true){σ:St}{K:St->Prop}(h:lQ P ops hh qi di oi (lQ P ops hh qk dk ok K) σ):lQ P ops hh qk dk ok (lQ P ops hh qi di oi K) σ:=by
 by_cases hk:jo qk dk ok=0
 ·exact afs ha hk h
 ·have ln:(jo qi di oi==0||(jo qi di oi==1&&decide (jo qk dk ok<=4))||(jo qi di oi==2&&decide (jo qk dk ok<=3))||(decide (jo qi di oi<=2)&&jo qk dk ok==6))=true:=by
   simp only[HO,BQ,l9,bw,beq_iff_eq,decide_eq_true_eq]at hc ⊢;rcases hc with(((h|h)|h)|h)|h
   ·exact .inl (.inl (.inl h))
   ·exact absurd h hk
   ·exact .inl (.inl (.inr h))
   ·exact .inl (.inr h)
   ·exact .inr h
  refine afr ha ?_ ln h;simp only[l9,bw,beq_iff_eq,decide_eq_true_eq]at ln;omega
def iN(P:Program)(ops:Array Oper)(hh:Nat)(qs ds:List Nat)(i:Nat)(K:St->Prop)(σ:St):Prop :=
 match ops[i]? with
 |none=>K σ
 |some o=>lQ P ops hh (qs.contains i) (ds.contains i) o K σ
def wm(P:Program)(ops:Array Oper)(hh:Nat)(qs ds:List Nat)(K:St->Prop):Nat->Array Bool->St->Prop
 |0,a6,σ=>Region.ready .any ops a6=[]/\K σ
 |n+1,a6,σ=>(Region.ready .any ops a6=[]->K σ)/\∀ i∈Region.ready .any ops a6,iN P ops hh qs ds i (wm P ops hh qs ds K n (a6.setIfInBounds i true)) σ
def afu{ops:Array Oper}{hh:Nat}{q dc:Bool}{o:Oper}{σ:St}{K K2:St->Prop}(hk:∀ s,K s->K2 s)(h:lQ P ops hh q dc o K σ):lQ P ops hh q dc o K2 σ:=by
 obtain⟨v,os,_,h2,run⟩:=HN h;exact run σ.env K2 (λ_ _=>rfl) (hk _ h2)
def afv{ops:Array Oper}{hh:Nat}{q dc:Bool}{o:Oper}{σ:St}{K:St->Prop}(h:lQ P ops hh q dc o K σ):∃s,K s:=by
 obtain⟨v,os,_,h2,run⟩:=HN h;exact⟨_,h2⟩
def zg{ops:Array Oper}{hh:Nat}{qs ds:List Nat}{i:Nat}{σ:St}{K K2:St->Prop}(hk:∀ s,K s->K2 s)(h:iN P ops hh qs ds i K σ):iN P ops hh qs ds i K2 σ:=by
 unfold iN at h ⊢;split at h
 ·exact hk _ h
 ·exact afu hk h
def afw{ops:Array Oper}{hh:Nat}{qs ds:List Nat}{i:Nat}{σ:St}{K:St->Prop}(h:iN P ops hh qs ds i K σ):∃s,K s:=by
 unfold iN at h;split at h
 ·exact⟨_,h⟩
 ·exact afv h
def LH{os:List Ob}{γ0:Cx}{ops:Array Oper}{hh:Nat}{qs ds:List Nat}(hd:∀ o∈ops.toList,∀ d,o.dst=some d->d<N){K:St->Prop}{Q:Exit->Act->World->Prop}(hQ:∀ σ' a' w',K σ'->iH N os γ0 σ' a' w'->Q .normal a' w'):∀ (n:Nat) (a6:Array Bool) (σ:St) (a:Act) (w:World),wm P ops hh qs ds K n a6 σ->iH N os γ0 σ a w->wpAny P .any ops Q n a6 a w
 |0,a6,σ,a,w,h,ax=>⟨h.1,hQ _ _ _ h.2 ax⟩
 |n+1,a6,σ,a,w,h,ax=>by
  refine⟨λhr=>hQ _ _ _ (h.1 hr) ax,λi hi=>?_⟩;have:=h.2 i hi;unfold iN at this;split at this
  ·rename_i hi';unfold wpOp;simp only[hi'];exact LH hd hQ n _ _ _ _ this ax
  ·rename_i o hi';exact afn hd hi' this ax λσ' a' w' hK ed=>LH hd hQ n _ _ _ _ hK ed
def afx{id:Nat}{ops:Array Oper}{Q:Exit->St->Prop}(hh:Nat)(qs ds:List Nat)(hm:P.follows .mixedOrders=true)(hd:gU N ops=true)(h:wm P ops hh qs ds (Q .normal) ops.size (yD ops.size false) σ):W P N n0 (.region id ops true) Q σ:=by
 intro os γ0 a w _ ax;refine wp_region_any hm ?_;exact LH (sI hd) (K:=Q .normal) (λσ' a' w' hK ed=>⟨σ',hK,ed⟩) _ _ _ _ _ h ax.drawn
def afy{ops:Array Oper}{hh:Nat}{qs ds:List Nat}{K:St->Prop}{i:Nat}{o:Oper}(hi:ops[i]?=some o)(D:List Nat)(hiD:i∈D)(hD:∀ j∈D,j=i\/∃ oj,ops[j]?=some oj/\∃ e∈oj.after,Region.binds .any e=true/\e.on∈D):∀ (fuel:Nat) (a6:Array Bool) (σ:St),(∀ j∈D,a6.getD j true=false) ->
   i∈Region.ready .any ops a6 ->
   (∀ j oj,ops[j]?=some oj->a6.getD j true=false->j ∉ D->o.apart ops oj=true/\HO (jo (qs.contains i) (ds.contains i) o) (jo (qs.contains j) (ds.contains j) oj)=true) ->
   iN P ops hh qs ds i (wm P ops hh qs ds K fuel (a6.setIfInBounds i true)) σ->wm P ops hh qs ds K (fuel+1) a6 σ:=by
 intro fuel
 induction fuel with
 |zero =>
  intro a6 σ hu hr lp h;refine⟨λe=>by rw[e]at hr;simp at hr,λk hk=>?_⟩;by_cases jD:k=i
  ·subst jD;exact h
  ·obtain⟨s,hs⟩:=afw h;have:=ready_mono hk jD;rw[hs.1]at this;simp at this
 |succ m ih =>
  intro a6 σ hu hr lp h;refine⟨λe=>by rw[e]at hr;simp at hr,λk hk=>?_⟩;by_cases jD:k=i
  ·subst jD;exact h
  ·have DJ:=mem_ready.1 hk;obtain⟨cI,ok,ax,fA⟩:=DJ;have xu:k ∉ D:=by
    intro xu;rcases hD k xu with e|⟨oj,mM,e,he,hb,Af⟩
    ·exact jD e
    ·rw[ax]at mM;simp only[dI.injEq]at mM;subst mM;have h1:=fA e he hb;have h2:=hu e.on Af;rw[gm]at h1 h2;cases hx:a6[e.on]? with
     |none=>rw[hx]at h1;simp at h1
     |some b=>rw[hx]at h1 h2;simp at h1 h2;rw[h1]at h2;simp at h2
   obtain⟨ha,hc⟩:=lp k ok ax cI xu;have h1:iN P ops hh qs ds i (iN P ops hh qs ds k (wm P ops hh qs ds K m ((a6.setIfInBounds i true).setIfInBounds k true))) σ :=
    zg (λs hs=>hs.2 k (ready_mono hk jD)) h
   have h2:iN P ops hh qs ds k (iN P ops hh qs ds i (wm P ops hh qs ds K m ((a6.setIfInBounds i true).setIfInBounds k true))) σ:=by
    unfold iN at h1 ⊢;simp only[hi,ax]at h1 ⊢;exact aft ha hc h1
   refine zg (λs hs=>?_) h2;refine ih (a6.setIfInBounds k true) s (λj hj=>?_) (ready_mono hr (Ne.symm jD)) (λj oj mM hl tG=>?_) ?_
   ·have dO:k≠j:=λe=>xu (by rw[e];exact hj);rw[getD_set_ne _ dO];exact hu j hj
   ·refine lp j oj mM ?_ tG;by_cases DK:k=j
    ·subst DK;exact cI
    ·rwa [getD_set_ne _ DK]at hl
   ·rw[Array.setIfInBounds_comm _ _ (Ne.symm jD)]at hs;exact hs
def LI(ops:Array Oper)(qs ds:List Nat)(a6:Array Bool)(i:Nat)(D:List Nat):Bool :=
 match ops[i]? with
 |none=>false
 |some o =>
  D.contains i&&D.all (λj=>j==i||match ops[j]? with|some oj=>oj.after.any (λe=>Region.binds .any e&&D.contains e.on)|none=>false) &&
  D.all (λj=>!a6.getD j true)&&o.after.all (λe=>!Region.binds .any e||a6.getD e.on false) &&
  (aW ops.size).all λj=>D.contains j||a6.getD j true||match ops[j]? with|some oj=>o.apart ops oj&&HO (jo (qs.contains i) (ds.contains i) o) (jo (qs.contains j) (ds.contains j) oj)|none=>true
def afz{ops:Array Oper}{hh:Nat}{qs ds:List Nat}{K:St->Prop}{i:Nat}{D:List Nat}{fuel:Nat}{a6:Array Bool}(h:LI ops qs ds a6 i D=true)(hs:iN P ops hh qs ds i (wm P ops hh qs ds K fuel (a6.setIfInBounds i true)) σ):wm P ops hh qs ds K (fuel+1) a6 σ:=by
 unfold LI at h;cases hi:ops[i]? with
 |none=>simp[hi]at h
 |some o =>
  simp only[hi,bw,fT,rq,l9,beq_iff_eq,ld]at h;obtain⟨⟨⟨⟨h1,h2⟩,h3⟩,h4⟩,h5⟩:=h;refine afy hi D h1 (λj hj=>?_) fuel a6 σ h3 ?_ ?_ hs
  ·rcases h2 j hj with h|h
   ·exact .inl h
   ·right;split at h
    ·rename_i oj mM;rw[Array.any_eq_true']at h;obtain⟨e,he,hb⟩:=h;simp only[bw,rq]at hb;exact⟨oj,mM,e,he,hb.1,hb.2⟩
    ·simp at h
  ·rw[mem_ready];refine⟨h3 i h1,o,hi,λe he hb=>?_⟩;rw[Array.all_eq_true']at h4;have:=h4 e he;simpa [hb] using this
  ·intro j oj mM hl tG;have hj:j<ops.size:=(qf.1 mM).1;rcases h5 j (mH.2 hj) with(h|h)|h
   ·exact absurd h tG
   ·rw[hl]at h;simp at h
   ·simpa [mM] using h
def PT.qG(ops:Array Oper)(qs ds:List Nat):PT->Nat->Array Bool->Bool
 |.nil,n,a6=>n==0&&(Region.ready .any ops a6).isEmpty
 |.take _ _,0,_=>false
 |.take i t,n+1,a6=>LI ops qs ds a6 i (Kw ops i)&&t.qG ops qs ds n (a6.setIfInBounds i true)
 |.both _ _ _ _,0,_=>false
 |.both i t j u,n+1,a6=>(Region.ready .any ops a6==[i,j])&&t.qG ops qs ds n (a6.setIfInBounds i true)&&u.qG ops qs ds n (a6.setIfInBounds j true)
 |.three _ _ _ _ _ _,0,_=>false
 |.three i t j u k v,n+1,a6=>(Region.ready .any ops a6==[i,j,k])&&t.qG ops qs ds n (a6.setIfInBounds i true)&&u.qG ops qs ds n (a6.setIfInBounds j true)&&v.qG ops qs ds n (a6.setIfInBounds k true)
def oF(P:Program)(ops:Array Oper)(hh:Nat)(qs ds:List Nat):PT->(St->Prop)->St->Prop
 |.nil,K,σ=>K σ
 |.take i t,K,σ=>iN P ops hh qs ds i (oF P ops hh qs ds t K) σ
 |.both i t j u,K,σ=>iN P ops hh qs ds i (oF P ops hh qs ds t K) σ/\iN P ops hh qs ds j (oF P ops hh qs ds u K) σ
 |.three i t j u k v,K,σ=>iN P ops hh qs ds i (oF P ops hh qs ds t K) σ/\iN P ops hh qs ds j (oF P ops hh qs ds u K) σ/\iN P ops hh qs ds k (oF P ops hh qs ds v K) σ
def AG{ops:Array Oper}{hh:Nat}{qs ds:List Nat}{K:St->Prop}:∀ (t:PT) (n:Nat) (a6:Array Bool) (σ:St),t.qG ops qs ds n a6=true->oF P ops hh qs ds t K σ->wm P ops hh qs ds K n a6 σ
 |.nil,n,a6,σ,h,hp=>by
  simp only[PT.qG,bw,beq_iff_eq,List.isEmpty_iff]at h;obtain⟨rfl,h⟩:=h;exact⟨h,hp⟩
 |.take _ _,0,_,_,h,_=>by simp[PT.qG]at h
 |.take i t,n+1,a6,σ,h,hp=>by
  simp only[PT.qG,bw]at h;exact afz h.1 (zg (λs hs=>AG t n _ s h.2 hs) hp)
 |.both _ _ _ _,0,_,_,h,_=>by simp[PT.qG]at h
 |.both i t j u,n+1,a6,σ,h,hp=>by
  simp only[PT.qG,bw,beq_iff_eq]at h;obtain⟨⟨h1,h2⟩,h3⟩:=h;refine⟨λe=>by rw[h1]at e;simp at e,λk hk=>?_⟩;rw[h1]at hk;simp only[cB,kI,or_false]at hk;rcases hk with rfl|rfl
  ·exact zg (λs hs=>AG t n _ s h2 hs) hp.1
  ·exact zg (λs hs=>AG u n _ s h3 hs) hp.2
 |.three _ _ _ _ _ _,0,_,_,h,_=>by simp[PT.qG]at h
 |.three i t j u k v,n+1,a6,σ,h,hp=>by
  simp only[PT.qG,bw,beq_iff_eq]at h;obtain⟨⟨⟨h1,h2⟩,h3⟩,h4⟩:=h;refine⟨λe=>by rw[h1]at e;simp at e,λx hk=>?_⟩;rw[h1]at hk;simp only[cB,kI,or_false]at hk;rcases hk with rfl|rfl|rfl
  ·exact zg (λs hs=>AG t n _ s h2 hs) hp.1
  ·exact zg (λs hs=>AG u n _ s h3 hs) hp.2.1
  ·exact zg (λs hs=>AG v n _ s h4 hs) hp.2.2
def SU{id:Nat}{ops:Array Oper}{Q:Exit->St->Prop}(hh:Nat)(qs ds:List Nat)(t:PT)(hm:P.follows .mixedOrders=true)(hd:gU N ops=true)(ht:t.qG ops qs ds ops.size (yD ops.size false)=true)(h:oF P ops hh qs ds t (Q .normal) σ):W P N n0 (.region id ops true) Q σ :=
 afx hh qs ds hm hd (AG t _ _ σ ht h)
def SV{ops:Array Oper}{hh:Nat}{qs ds:List Nat}{K:St->Prop}:oF P ops hh qs ds .nil K σ=K σ:=rfl
def SW{ops:Array Oper}{hh:Nat}{qs ds:List Nat}{i:Nat}{t:PT}{K:St->Prop}:oF P ops hh qs ds (.take i t) K σ=iN P ops hh qs ds i (oF P ops hh qs ds t K) σ:=rfl
def SX{ops:Array Oper}{hh:Nat}{qs ds:List Nat}{i j k:Nat}{t u v:PT}{K:St->Prop}:oF P ops hh qs ds (.three i t j u k v) K σ=(iN P ops hh qs ds i (oF P ops hh qs ds t K) σ/\iN P ops hh qs ds j (oF P ops hh qs ds u K) σ/\iN P ops hh qs ds k (oF P ops hh qs ds v K) σ):=rfl
def SY{ops:Array Oper}{hh:Nat}{qs ds:List Nat}{i j:Nat}{t u:PT}{K:St->Prop}:oF P ops hh qs ds (.both i t j u) K σ=(iN P ops hh qs ds i (oF P ops hh qs ds t K) σ/\iN P ops hh qs ds j (oF P ops hh qs ds u K) σ):=rfl
def SZ{ops:Array Oper}{hh:Nat}{q:Bool}{o:Oper}{K:St->Prop}:lQ P ops hh q true o K σ=(o.guard=none/\zf hh P o σ K):=rfl
def S1{ops:Array Oper}{hh:Nat}{q:Bool}{o:Oper}{K:St->Prop}:lQ P ops hh q false o K σ=(fG hh q o σ=true/\fy P ops q o K σ):=rfl
def S2(P:Program)(hh:Nat)(dst:Option Tmp)(args:List AV)(K:St->Prop)(σ:St):AV->Prop
 |.fn g bj=>Er P hh g (args++bj) dst K σ
 |_=>False
def S3{hh:Nat}{dst:Option Tmp}{args:List AV}{K:St->Prop}{g:FuncId}{bj:List AV}:S2 P hh dst args K σ (.fn g bj)=Er P hh g (args++bj) dst K σ:=rfl
section
variable {dst:Option Tmp} {tt:TypeId} {p:String} {af:Array Edge} {g:Option (Nat×Bool)} {K:St->Prop} {hh:Nat}
def S4(f:Operand)(args:Array Operand)(dC:Array TypeId):zf hh P ⟨dst,.call ⟨.value f,args,dC⟩,tt,p,af,g⟩ σ K=S2 P hh dst (args.toList.map (ev σ)) K σ (ev σ f):=by
 simp only[zf];cases ev σ f<;>rfl
def S5{o:Oper}:fG hh true o σ=true:=by simp[fG]
def S6(t:TypeId)(a:Operand):fG hh false ⟨dst,.load t a,tt,p,af,g⟩ σ=pQ hh (ev σ a):=by simp[fG,cls,Op.operands,tS]
def S7(t:TypeId)(a:Operand)(f:Nat):fG hh false ⟨dst,.fieldAddr t a f,tt,p,af,g⟩ σ=pQ hh (ev σ a):=by simp[fG,cls,Op.operands,tS]
def S8(a:Operand):fG hh false ⟨dst,.nilCheck a,tt,p,af,g⟩ σ=pQ hh (ev σ a):=by simp[fG,cls,Op.operands,tS]
def S9(t:TypeId)(a i:Operand):fG hh false ⟨dst,.indexAddr t a i,tt,p,af,g⟩ σ=(pQ hh (ev σ a)&&pQ hh (ev σ i)):=by simp[fG,cls,Op.operands,tS]
def Ta(x:Operand)(dC:Array TypeId):fG hh false ⟨dst,.call ⟨.builtin .len,#[x],dC⟩,tt,p,af,g⟩ σ=pQ hh (ev σ x):=by simp[fG,cls,Op.operands,Call.operands,tS]
def oG{o:Oper}(h:(cls o.op==0||decide (3<=cls o.op))=true):fG hh false o σ=true:=by simp only[fG,ma,h,uB]
def Tb(id r c:Nat):pQ hh (.ptr id r c) = !(id==hh):=rfl
def Td(id a b c:Nat):pQ hh (.ref id a b c) = !(id==hh):=rfl
def Te(v:Value):pQ hh (.lit v)=true:=rfl
def Tf(s:Nat)(r:List (List AV)):pQ hh (.tree s r)=true:=rfl
def Tg(r:List AV):pQ hh (.cq r)=true:=rfl
def Th(r:List AV):pQ hh (.agg r)=true:=rfl
def Ti(r:List AV):pQ hh (.bJ r)=true:=rfl
def Tj:pQ hh .undef=true:=rfl
def Tk(x:Operand):fG hh false ⟨dst,.move x,tt,p,af,g⟩ σ=true:=oG aau
def Tl(x:Operand):fG hh false ⟨dst,.assign x,tt,p,af,g⟩ σ=true:=oG aau
def Tm(c a b:Operand):fG hh false ⟨dst,.pick c a b,tt,p,af,g⟩ σ=true:=oG aau
def Tn(op:BinOp)(t:TypeId)(x y:Operand)(yt:TypeId):fG hh false ⟨dst,.binOp op t x y yt,tt,p,af,g⟩ σ=true:=oG aau
def To(op:UnOp)(t:TypeId)(x:Operand):fG hh false ⟨dst,.unOp op t x,tt,p,af,g⟩ σ=true:=oG aau
def Tp(fn:Fn)(a b:Array Operand):fG hh false ⟨dst,.makeFunc fn a b,tt,p,af,g⟩ σ=true:=oG aau
def Tq(s:TypeId)(x:Operand)(f:Nat):fG hh false ⟨dst,.field s x f,tt,p,af,g⟩ σ=true:=oG aau
def Ts(x:Operand)(i:Nat):fG hh false ⟨dst,.extract x i,tt,p,af,g⟩ σ=true:=oG aau
def Tt(t:TypeId)(parts:Array (Nat×Operand)):fG hh false ⟨dst,.build t parts,tt,p,af,g⟩ σ=true:=oG aau
def Tu(e:TypeId):fG hh false ⟨dst,.alloc e,tt,p,af,g⟩ σ=true:=oG aau
def Tv(e:TypeId)(x:Operand):fG hh false ⟨dst,.box e x,tt,p,af,g⟩ σ=true:=oG aau
def Tw(t:TypeId)(l c:Operand):fG hh false ⟨dst,.makeSlice t l c,tt,p,af,g⟩ σ=true:=oG aau
def Tx(t:TypeId)(len:Nat)(parts:Array (Nat×Operand)):fG hh false ⟨dst,.buildSlice t len parts,tt,p,af,g⟩ σ=true:=oG aau
def Tz(t:TypeId)(a x:Operand):fG hh false ⟨dst,.store t a x,tt,p,af,g⟩ σ=true:=oG aau
def TA(f:Operand)(args:Array Operand)(dC:Array TypeId):fG hh false ⟨dst,.call ⟨.value f,args,dC⟩,tt,p,af,g⟩ σ=true:=oG aau
def TB(args:Array Operand)(dC:Array TypeId):fG hh false ⟨dst,.call ⟨.builtin .append,args,dC⟩,tt,p,af,g⟩ σ=true:=oG aau
def TC(args:Array Operand)(dC:Array TypeId):fG hh false ⟨dst,.call ⟨.builtin .min,args,dC⟩,tt,p,af,g⟩ σ=true:=oG aau
def TD(args:Array Operand)(dC:Array TypeId):fG hh false ⟨dst,.call ⟨.builtin .max,args,dC⟩,tt,p,af,g⟩ σ=true:=oG aau
end
def Hc:=aaZ @SV @SW @SX @SY @SZ @S1 @S3 (aaZ @S4 @S5 @S6 @S7 @S8 @S9 @Ta (aaZ @Tb @Td @Te @Tf @Tg @Th @Ti (aaZ @Tj @Tk @Tl @Tm @Tn @To @Tp (aaZ @Tq @Ts @Tt @Tu @Tv @Tw @Tx (aaL @Tz @TA @TB @TC @TD)))))
def Et{hh:Nat}{f:FuncId}{args ec:List AV}{D D':Ob}{dst:Option Tmp}{K:St->Prop}{res:AV}(h:ao P f ec [D] res [D'])(h1:ze D=true)(h2:ze D'=true)(h3:σ.aa[hh]?=some D)(h4:gL res=true)(h5:fF (SP hh) ec args)(hK:K ((⟨σ.env,σ.aa.set hh D'⟩:St).put dst res)):Er P hh f args dst K σ:=⟨ec,D,res,D',h,h1,h2,h3,h4,h5,hK⟩
def pe{P:Program}{N n0:Nat}{σ:St}{Q:Exit->St->Prop}(n:Nat){id:Nat}{ops:Array Oper}(hd:gU N ops=true)(o:Oper)(ho:ops[n]?=some o)(h:∀ K:St->Prop,(∀ s,Q .normal s->K s)->opsL P ops (ops.toList.take n) (we P o (opsL P ops (ops.toList.drop (n+1)) K)) σ):W P N n0 (.region id ops false) Q σ:=by
 intro os γ0 a w hn ax;refine wp_region ?_;have KX:n<ops.size:=(qf.1 ho).1;have e:aW ops.size=og 0 (ops.toList.take n).length++(n::og (n+1) (ops.toList.drop (n+1)).length):=by
  rw[xh,<- xg];have:=List.range'_append (s:=0) (m:=n) (n:=(ops.toList.drop (n+1)).length+1) (step:=1);simp only[gn,tx]at this;rw[show(ops.toList.take n).length=n by simp;omega,this];congr 1;simp;omega
 rw[e];refine Al _ a w ?_;refine uO (sI hd) (K:=we P o (opsL P ops (ops.toList.drop (n+1)) (Q .normal))) (λσ' a' w' hk ed=>?_) (ops.toList.take n) 0 σ a w (λk hk=>?_) (h _ (λ_ h=>h)) ax
 ·show wpOps P ops _ _ a' w';rw[wpOps_cons];unfold wpOp;simp only[ho];have hw:Region.wanted o (yielded ops a'.tmps)=true:=by simp[Region.wanted,hk.1]
  rw[if_pos hw];left;refine Lx hk ed (sI hd o (iD (by simpa using ho))) (λσ2 a2 w2 b9 zh=>?_);refine uO (sI hd) (K:=Q .normal) (λEu a3 w3 mQ nj=>⟨Eu,mQ,nj⟩) (ops.toList.drop (n+1)) (n+1) σ2 a2 w2 (λk hk=>?_) b9 zh;rw[List.getElem?_drop];simp
 ·simp only[List.length_take,vO]at hk;rw[List.getElem?_take_of_lt GC];simp
end Go.Am

