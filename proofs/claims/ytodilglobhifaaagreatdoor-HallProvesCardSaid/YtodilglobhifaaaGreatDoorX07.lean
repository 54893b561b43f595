import Derived.Test.YtodilglobhifaaaGreatDoorX06
import Derived.Laws.StructEq
set_option linter.all false
set_option maxHeartbeats 0
set_option maxRecDepth 20000
open List renaming contains_cons→Jt,contains_nil→Ju,getD_cons_zero→je,getD_cons_succ→gY,getD_nil→Bx,size_toArray→yR,map_cons→lg,map_nil→sB,cons_append→ew,nil_append→dx,append_nil→gI,getElem?_cons_zero→qV,getElem?_cons_succ→vj,getElem?_toArray→ES,length_cons→cf,length_nil→gX,all_cons→yS,drop_zero→yT,take_zero→qT,set_cons_zero→sC,set_cons_succ→w5,flatMap_cons→qW,flatMap_nil→EU,length_append→aK,length_set→bm,length_replicate→w6,all_eq_true→eS,mem_map→cF,getElem?_append_left→cG,range'→jN,tail→By,tail_drop→Bz,range→bp,range_eq_range'→sx,getElem?_eq_some_iff→aN,getElem?_eq_getElem→aT,getElem?_set→bT,drop_drop→Jz,take_append_drop→EW,contains_iff_mem→pP,mem_filter→kF,mem_range→jA
open Bool renaming or_self→Jv,or_false→yO,false_or→nZ,or_true→yP,true_or→vh,false_eq_true→iT,and_true→ET,true_and→eR,not_true→lS,not_false→mC,not_eq_true'→jd,not_eq_false'→Jw,or_eq_true→lR,and_eq_true→bb,eq_iff_iff→ld
open Option renaming bind_some→n5,map_some→fN,some→cL
open Nat renaming zero_add→gw,add_zero→k9,mul_one→Bu,one_mul→sA,lt_or_ge→dr
open Int renaming toNat_natCast→eu,ofNat_lt→yU
open Array renaming replicate→w0,getD_eq_getD_getElem?→dJ,getElem?_append_left→yW,getElem?_eq_some_iff→lT
namespace Go.Am
def rh:=aaK @Cd @Ce @Cf @Jt.{0} @Ju.{0} @Jv @yO (aaK @nZ @yP @vh @iT @if_false.{1} @if_true.{1} @je.{0} (aan @gY.{0} @Bx.{0}))
def Bc:=aaK @Cd @Ce @Cf @Jt.{0} @Ju.{0} @Jv @yO (aaK @nZ @yP @vh @iT @if_false.{1} @if_true.{1} @je.{0} (aaK @gY.{0} @Bx.{0} @yR.{0} @Array.size_empty.{0} @ND @NF @eq_self.{1} (aaK @NG @NH @NI @NJ @NK @NL @NM (aaK @NN @NO @NP @NQ @NR @NT @NU (aaK @NV @NW @NX @NY @NZ @N0 @N1 (aaK @N2 @N3 @N4 @N5 @N6 @N7 @N8 (aaK @N9 @N' @Oa @Od @Oe @Of @true_and (aaK @and_true @and_self @lg.{0,0} @sB.{0,0} @ew.{0} @dx.{0} @gI.{0} (aaK @ite_true.{1} @ite_false.{1} @Bool.true_eq_false @ne_eq.{1} @not_true_eq_false @not_false_eq_true @false_implies (aaK @true_implies @implies_true.{1} @n5.{0,0} @Option.bind_none.{0,0} @qV.{0} @vj.{0} @ES.{0} (aaK @cf.{0} @gX.{0} @gw @k9 @decide_true @decide_false @yS.{0} (aaK @List.all_nil.{0} @ET @eR @Int.toNat_zero @lS @mC @cond_true.{1} (aaK @cond_false.{1} @Cg @Og @Oh @Oi @Oj @Ok (aaK @Ol @Om @p8 @p9 @eu @On @Oo (aaK @Oq @Ot @Ou @Ov @Nat.zero_mul @Bu @sA (aaK @Ow @Ox @zl @zm @Fq @fN.{0,0} @yT.{0} (aaK @List.drop_succ_cons.{0} @List.take_succ_cons.{0} @qT.{0} @sC.{0} @w5.{0} @beq_self_eq_true.{0} @qW.{0,0} (aaK @EU.{0,0} @List.getElem?_nil.{0} @aK.{0} @bm.{0} @w6.{0} @sW @Ch (aaK @Ci @Oy @Oz @OA @OB @OC @OD (aaK @ints_set @zp @OE @FD @OF @OG @FE (aau @FF @FG @OH @OI)))))))))))))))))))))
def lW:=aaK @eq_self.{1} @decide_eq_true_eq @decide_eq_false_iff_not @jd @Jw @beq_iff_eq.{0} @beq_eq_false_iff_ne.{0} (aaK @bne_iff_ne.{0} @bne_eq_false_iff_eq.{0} @ne_eq.{1} @Decidable.not_not @Int.not_lt @Int.not_le @not_true_eq_false (aaK @not_false_eq_true @lR @bb @Bool.or_eq_false_iff @Bool.and_eq_false_iff @gt_iff_lt.{0} @ge_iff_le.{0} (aaK @yU @Int.ofNat_le @Int.ofNat_inj @Nat.not_lt @Nat.not_le @sW @Ch (aaq @Ci @cond_true.{1} @cond_false.{1}))))
end Go.Am
namespace Go.Am
variable {σ:St}
class Row {α:Type} (enc:α->List AV) (sz:outParam Nat):Prop where
 wid:∀ x,(enc x).length=sz
 ok:∀ x,∀ v∈enc x,(∃ y,v=.lit y/\y.oneCell'=true)\/∃ s r,v=.tree s r
def rowsOf{α:Type}(enc:α->List AV)(xs:List α):List (List AV):=xs.map enc
section
variable {α:Type} {enc:α->List AV} {sz:Nat}
def cK(xs:List α):(rowsOf enc xs).length=xs.length:=by simp[rowsOf]
def eD[Inhabited α](xs:List α)(i:Nat)(h:i<xs.length):(rowsOf enc xs).getD i []=enc (xs.getD i default):=by simp[rowsOf,h]
def vC[Inhabited α](xs:List α)(i:Nat)(h:i<xs.length):(rowsOf enc xs)[i]?=some (enc (xs.getD i default)):=by simp[rowsOf,h]
def OJ(xs:List α):(rowsOf enc xs).take xs.length=rowsOf enc xs:=by rw[List.take_of_length_le (by simp[rowsOf])]
def OK(xs ys:List α):rowsOf enc xs++rowsOf enc ys=rowsOf enc (xs++ys):=by simp[rowsOf]
def nF(xs:List α)(x:α):rowsOf enc xs++[enc x]=rowsOf enc (xs++[x]):=by simp[rowsOf]
def Cj(xs:List α)(i:Nat)(x:α):(rowsOf enc xs).set i (enc x)=rowsOf enc (xs.set i x):=by simp[rowsOf,List.map_set]
def OL[Row enc sz](x:α):(enc x).all ca=true:=by
 rw[eS];intro v hv;rcases Row.ok (enc:=enc) x v hv with⟨y,rfl,h⟩|⟨s,r,rfl⟩
 ·simpa [ca] using h
 ·rfl
def FH[Row enc sz](xs:List α):((rowsOf enc xs).all λrow=>row.all ca)=true:=by
 simp only[rowsOf,List.all_map,eS];intro x _;exact OL (enc:=enc) x
def WH{l:List AV}(h:∀ v∈l,jR v=true):kN l=true:=by
 induction l with
 |nil=>rfl
 |cons v l ih=>simp only[kN,bb];exact⟨h v Jy,ih λx hx=>h x (by simp[hx])⟩
def WI[Row enc sz](x:α):kN (enc x)=true:=WH λv hv=>by
 rcases Row.ok (enc:=enc) x v hv with⟨y,rfl,_⟩|⟨s,r,rfl⟩<;>rfl
def xn[Row enc sz](ρ:Nat->Nat)(s:Nat)(xs:List α):bD ρ (.arr s (rowsOf enc xs))=.arr s (rowsOf enc xs):=Ck (by
 intro row hr;simp only[rowsOf,cF]at hr;obtain⟨x,_,rfl⟩:=hr;exact WI (enc:=enc) x)
def sV[Row enc sz](xs:List α):∀ row∈rowsOf enc xs,∀ v∈row,(∃ x,v=AV.lit x)\/∃ s r,v=AV.tree s r:=by
 intro row hr v hv;simp only[rowsOf,cF]at hr;obtain⟨x,_,rfl⟩:=hr;rcases Row.ok (enc:=enc) x v hv with⟨y,rfl,_⟩|h
 ·exact .inl ⟨_,rfl⟩
 ·exact .inr h
def nD[Row enc sz](xs:List α):∀ row∈rowsOf enc xs,row.length=sz:=by
 intro row hr;simp only[rowsOf,cF]at hr;obtain⟨x,_,rfl⟩:=hr;exact Row.wid (enc:=enc) x
end
structure bF where
 wk:Int
 day:Int
 st:Int
 len:Int
 room:Int
 ch:List (Int×Int)
 deriving Inhabited
structure Pr where
 fst:Int
 snd:Int
 dN:Int
 bj:List Int
 deriving Inhabited
structure Ld where
 cls:Int
 opt:Int
 wt:Int
 deriving Inhabited
structure Ct where
 dN:Int
 bQ:List Ld
 most:Int
 bW:Int
 deriving Inhabited
structure ah where
 cls:List (List bF)
 aj:List Pr
 aI:List Ct
 rules:Int
 deriving Inhabited
def i64(n:Int):AV:=aam n
def av(c:Int×Int):List AV:=[aam c.1,aam c.2]
def bG(o:bF):List AV:=[aam o.wk,aam o.day,aam o.st,aam o.len,aam o.room,.tree 2 (rowsOf av o.ch)]
def bw(l:List bF):List AV:=[.tree 6 (rowsOf bG l)]
def aO(p:Pr):List AV:=[aam p.fst,aam p.snd,aam p.dN,.tree 1 (ints p.bj)]
def kH(l:Ld):List AV:=[aam l.cls,aam l.opt,aam l.wt]
def cN(c:Ct):List AV:=[aam c.dN,.tree 3 (rowsOf kH c.bQ),aam c.most,aam c.bW]
def aB(m:ah):List AV:=[.tree 1 (rowsOf bw m.cls),.tree 4 (rowsOf aO m.aj),.tree 4 (rowsOf cN m.aI),aam m.rules]
def vD{l:List AV}(h:(l.all λv=>match v with|.lit y=>y.oneCell'|.tree ..=>true|_=>false)=true):∀ v∈l,(∃ y,v=AV.lit y/\y.oneCell'=true)\/∃ s r,v=AV.tree s r:=by
 intro v hv;have:=eS.1 h v hv;cases v<;>simp at this
 ·exact .inl ⟨_,rfl,this⟩
 ·exact .inr ⟨_,_,rfl⟩
instance:Row av 2:=⟨λ_=>rfl,λ_=>vD rfl⟩
instance:Row bG 6:=⟨λ_=>rfl,λ_=>vD rfl⟩
instance:Row bw 1:=⟨λ_=>rfl,λ_=>vD rfl⟩
instance:Row aO 4:=⟨λ_=>rfl,λ_=>vD rfl⟩
instance:Row kH 3:=⟨λ_=>rfl,λ_=>vD rfl⟩
instance:Row cN 4:=⟨λ_=>rfl,λ_=>vD rfl⟩
instance:Row aB 4:=⟨λ_=>rfl,λ_=>vD rfl⟩
end Go.Am
namespace Go.Am
variable {P:Program}
variable {N n0:Nat} {Q:Exit->St->Prop} {σ:St}
def jm(P:Program)(n0:Nat)(rs:List ResultVar)(fA:AV->List Ob->Prop):Exit->St->Prop
 |.normal,s=>fc s P rs λvs=>∃ res aZ,fA res aZ/\mK n0 s (eM vs) res aZ
 |.ret,s=>fc s P rs λvs=>∃ res aZ,fA res aZ/\mK n0 s (eM vs) res aZ
 |_,_=>False
def di.FI {f : FuncId} {fn : Func} {c : Code} {args : List AV} {aa : List Ob} {fA : AV -> List Ob -> Prop} (hf : P.funcs[f]? = some fn) (hb : fn.body = some c) (mT : (fn.name == "runtime.NumGoroutine") = false)
  (hN:args.length<=fn.ntmps) (h:W P fn.ntmps aa.length c (jm P aa.length fn.results.toList fA) ⟨λk=>args.getD k .undef,aa⟩):di P f args aa fA:=by
 refine⟨⟨fn,hf,mT,by rw[hb];rfl⟩,?_⟩;intro γ aH hs;refine calls_of_wp hf hb ?_
 let tm:=γ.tmps++w0 (fn.ntmps-γ.tmps.size) Go.undef
 have az:eH fn.ntmps aa γ ⟨λk=>args.getD k .undef,aa⟩ { tmps:=tm,defers:=[] } γ.w:=by
  refine⟨rfl,by simp[tm];omega,{ γ with tmps:=tm },rfl,rfl,⟨λk=>?_,hs.dQ,hs.inj,hs.nz,hs.fY,hs.gl⟩,(Fr.refl _ _).put _⟩;rcases dr k args.length with hk|hk
  ·have:=hs.ao k;have e:tm.getD k Go.undef=γ.tmps.getD k Go.undef:=by
    simp only[tm,dJ];rw[yW Bv]
   show au _ _ _ _ _ (tm.getD k Go.undef);rw[e];exact this
  ·have e:args.getD k AV.undef=.undef:=by simp[hk]
   show au _ _ _ _ (args.getD k .undef) _;rw[e];exact .undef _
 refine wp_mono (h aa γ _ γ.w rfl az) ?_;rintro e a' w'⟨σ',h1,eI,_,ay,rfl,ha,gM,dU⟩;have fin:∀ (K:List AV->Prop),fc σ' P fn.results.toList K->(∀ vs,K vs->∃ res aZ,fA res aZ/\mK aa.length σ' (eM vs) res aZ) ->
   a'.defers=[]/\∃ v,(results fn a'.tmps).run P ay.w=.ok v ay.w/\∃ res aZ cv gN,fA res aZ/\Ending.returned v=.returned cv/\gN.w=ay.w/\gN.tmps = #[cv]/\ba ⟨λk=>[res].getD k .undef,aZ⟩ gN/\Fr aa γ aZ gN:=by
  intro K hK FJ;obtain⟨vs,aR,k1,k2,k3,k4,k5⟩:=Cl gM _ _ hK;obtain⟨res,aZ,FK,ae,snap,r1,r2,r3,r4,r5,r6,r7⟩:=FJ vs k1;refine⟨eI,?_⟩;have dG :∃v,(results fn a'.tmps).run P ay.w=.ok v ay.w/\au σ'.aa ay.w ay.Z ay.blk (eM vs) v:=by
   have hm:(fn.results.mapM λ(r:ResultVar)=>match r with|.tmp t=>(pure (a'.tmps.getD t Go.undef):Sem Value)|.cell a t=>do loadVar t (← asAddr (a'.tmps.getD a Go.undef))).run P ay.w=.ok aR.toArray ay.w:=by
    rw[Array.mapM_eq_mapM_toList,Sem.run_map,<- ha];exact congrArg (λ(r:Result (List Value))=>r.andThen λa w'=>Result.ok a.toArray w') k2
   have hr:(results fn a'.tmps).run P ay.w=.ok (if h:aR.toArray.size=1 then aR.toArray[0] else .tuple aR.toArray) ay.w:=by
    unfold results;rw[Sem.run_bind];exact congrArg (λr=>Result.andThen r λ(a:Array Value) w'=>(pure (if h:a.size=1 then a[0] else Value.tuple a):Sem Value).run P w') hm
   rw[hr]
   match vs,aR,k3,k5 with
   |[],[],_,k5=>exact⟨_,rfl,.bH _ _ rfl (λj x hj=>by simp at hj)⟩
   |[v],[cv],_,k5=>exact⟨cv,Jy,by simpa [eM] using k5 0 v rfl⟩
   |v::v'::vs,cv::mU::aR,k3,k5 =>
    refine⟨.tuple (cv::mU::aR).toArray,Jy,.bH _ _ (by simpa using k3) (λj x hj=>?_)⟩;have:=k5 j x hj;simpa [List.getD_eq_getElem?_getD,dJ] using this
  obtain⟨v,qf,uv⟩:=dG;obtain⟨gN,e1,e2,e3,e4⟩:=gM.select ae snap aZ r1 r2 r3 r4 (λk=>[res].getD k .undef) #[v] (λk=>by
   cases k with
   |zero=>exact .inr ⟨_,r7,by simpa using uv⟩
   |succ k=>left;simp)
  exact⟨v,qf,res,aZ,v,gN,FK,rfl,e1,e2,e3,dU.select r5 r2 r6 e1 e4⟩
 cases e with
 |normal=>exact fin _ h1 (λ_ h=>h)
 |ret=>exact fin _ h1 (λ_ h=>h)
 |exit id=>exact h1.elim
 |goto l=>exact h1.elim
 |panic c=>exact h1.elim
 |outgrown=>exact h1.elim
theorem di.aL {f:FuncId} {fn:Func} {c:Code} {args:List AV} {aa:List Ob} {fA:AV -> List Ob -> Prop} (N k:Nat) (rs:List ResultVar) (hf:P.funcs[f]?=some fn) (h:W P N k c (jm P k rs fA) ⟨fun k=>args.getD k .undef,aa⟩) (hb:fn.body=some c:=by rfl) (mT:(fn.name=="runtime.NumGoroutine")=false:=by rfl) (hN:fn.ntmps=N:=by rfl) (zq:fn.results.toList=rs:=by rfl) (hk:aa.length=k:=by rfl) (hl:args.length<=N:=by simp):di P f args aa fA:=by
 subst hN;subst zq;subst hk;exact di.FI hf hb mT hl h
def jS(P:Program)(g:FuncId)(args:List AV)(dst:Option Tmp)(K:St->Prop)(σ:St):Prop:=FL P g args σ λv σ'=>K (σ'.put dst v)
def xq(P:Program)(o:Oper)(K:St->Prop)(σ:St):Prop :=
 o.guard=none /\
 match o.op with
 |.call { callee:=.value f,args,.. } =>
  match ev σ f with
  |.fn g bg=>jS P g (args.toList.map (ev σ)++bg) o.dst K σ
  |_=>False
 |_=>False
def Nr{os:List Ob}{γ0:Cx}{o:Oper}{K:St->Prop}(h:xq P o K σ){a:Act}{w:World}(az:eH N os γ0 σ a w)(hd:∀ d,o.dst=some d->d<N){Q:Exit->Act->World->Prop}{next:Act->World->Prop}(hn:∀ σ' a' w',K σ'->eH N os γ0 σ' a' w'->next a' w'):o.wp P a w next Q:=by
 obtain⟨eI,aH,γ,rfl,ha,hs,hf⟩:=az;have oc:∀ d,o.dst=some d->d<a.tmps.size:=λd h=>by rw[aH];exact hd d h
 obtain⟨_,h⟩:=h;split at h
 ·rename_i f args dv dH;split at h
  ·rename_i g bg he;have dC:=mV hs ha f;rw[he]at dC;obtain⟨aR,aV,kO,l6⟩:=dC.FM;have kj:∀ (j:Nat) d,(args.toList.map (ev σ)++bg)[j]?=some d->au σ.aa γ.w γ.Z γ.blk d (((args.map a.eval)++aR).getD j Go.undef):=by
    intro j d hj;simp only[dJ];rcases dr j args.size with bq|jT
    ·rw[cG (by simpa using bq)]at hj;rw[yW (by simpa using bq)];simp only[List.getElem?_map,Array.getElem?_toList,Array.getElem?_map]at hj ⊢;cases hx:args[j]? with
     |none=>simp[hx]at hj
     |some y=>simp[hx]at hj ⊢;subst hj;exact mV hs ha y
    ·rw[List.getElem?_append_right (by simpa using jT)]at hj;rw[Array.getElem?_append_right (by simpa using jT)];simp only[List.length_map,Array.length_toList,Array.size_map]at hj ⊢;have:=l6 _ d hj;simpa [dJ] using this
   unfold jS at h;have fX:=FN hs (argv:=(args.map a.eval)++aR) (by simp[kO]) kj h;obtain⟨ae,snap,dF,bA,fA,⟨⟨fn,hfn,mT,qg⟩,_⟩,_⟩:=h;unfold Oper.wp;have hr:(execOp a.eval o).run P γ.w=.ok (.enter g ((args.map a.eval)++aR)) γ.w:=by
    have ll : ¬ fn.name = "runtime.NumGoroutine" := by simpa using mT
    have kk:¬ fn.body=none:=by intro e;rw[e]at qg;simp at qg
    simp[execOp,dH,resolve,aV,Deferred.ofValue,invoke,callFunc,hfn,ll,kk]
   rw[hr];show Calls P g _ _ _;refine fX.mono ?_;rintro e w'⟨cv,v,σ',ay,rfl,rfl,fJ,gM,dU,hv,hK,sX⟩;refine hn _ _ _ hK ⟨by rw[put_defers];exact eI,by rw[nG];exact aH,{ ay with tmps:=(a.put o.dst cv).tmps },rfl,rfl,mW gM (by rw[fJ,ha]) oc hv,?_⟩;rw[l7];exact(hf.trans dU).put _
  ·exact h.elim
 ·exact h.elim
def Cm(ae:List Nat){f:FuncId}{args dF:List AV}{bA:List Ob}{dst:Option Tmp}{K:St->Prop}{fA:AV->List Ob->Prop}(h:di P f dF bA fA)(cp:ae.Nodup)(ho:um (bu σ.aa.length ae) σ.aa ae bA)(ha:kJ (bt σ (·∈ae) (bu σ.aa.length ae) false) dF args)(hK:∀ res cA,fA res cA->K (({ σ with aa:=eU σ.aa ae (cA.map (bD (bu σ.aa.length ae))) }:St).put dst (aU (bu σ.aa.length ae) res))):jS P f args dst K σ:=by
 obtain⟨h1,h2⟩:=ho.spec;obtain⟨h3,h4⟩:=ha.spec;exact⟨ae,false,dF,bA,fA,h,⟨cp,h1,h2,h3,h4⟩,λres cA hp=>⟨Jy,hK res cA hp⟩⟩
end Go.Am
namespace Go.Am
variable {P:Program} {N n0:Nat} {σ:St} {Q:Exit->St->Prop}
def n9(P:Program)(ops:Array Oper)(qs:List Nat):Nat->List Oper->(St->Prop)->St->Prop
 |_,[],K,σ=>K σ
 |i,o::r,K,σ=>dO P ops (qs.contains i) o (n9 P ops qs (i+1) r K) σ
def Na{ops:Array Oper}{qs:List Nat}{i:Nat}{K:St->Prop}:n9 P ops qs i [] K σ=K σ:=by simp only[n9]
def B6{ops:Array Oper}{qs:List Nat}{i:Nat}{o:Oper}{r:List Oper}{K:St->Prop}:n9 P ops qs i (o::r) K σ=dO P ops (qs.contains i) o (n9 P ops qs (i+1) r K) σ:=by simp only[n9]
def FO{ops:Array Oper}{qs:List Nat}{K:St->Prop}:∀ (l:List Oper) (i:Nat) (σ:St),ops.toList.drop i=l->n9 P ops qs i l K σ->hJ P ops qs (mO (jN i l.length)) K σ
 |[],i,σ,_,h=>h
 |o::r,i,σ,hl,h=>by
  have hi:ops[i]?=some o:=by
   have:(ops.toList.drop i)[0]?=some o:=by rw[hl];rfl
   simpa using this
  have hr:ops.toList.drop (i+1)=r:=by
   have:=congrArg By hl;simpa [Bz] using this
  rw[cf,List.range'_succ];show b9 P ops qs i (hJ P ops qs (mO (jN (i+1) r.length)) K) σ;unfold b9;simp only[hi];have hm:∀ s,n9 P ops qs (i+1) r K s->hJ P ops qs (mO (jN (i+1) r.length)) K s:=λs hs=>FO r (i+1) s hr hs;exact zr hm h
def Cn(ops:Array Oper)(qs:List Nat):Bool:=(mO (bp ops.size)).ok ops qs ops.size (w0 ops.size false)
def ON{id:Nat}{ops:Array Oper}{y:Code}(qs:List Nat)(hm:P.follows .mixedOrders=true)(hd:dY N ops=true)(ht:Cn ops qs=true)(h:∀ K:St->Prop,(∀ s,W P N n0 y Q s->K s)->n9 P ops qs 0 ops.toList K σ):
  W P N n0 (.seq (.region id ops true) y) Q σ :=
 OO qs _ hm hd ht λK hK=>by
  have:=FO (P:=P) (ops:=ops) (qs:=qs) ops.toList 0 σ rfl (h K hK);rw[sx];simpa using this
def BX{id:Nat}{ops:Array Oper}(qs:List Nat)(hm:P.follows .mixedOrders=true)(hd:dY N ops=true)(ht:Cn ops qs=true)(h:∀ K:St->Prop,(∀ s,Q .normal s->K s)->n9 P ops qs 0 ops.toList K σ):
  W P N n0 (.region id ops true) Q σ :=
 ln qs _ hm hd ht (by
  have:=FO (P:=P) (ops:=ops) (qs:=qs) ops.toList 0 σ rfl (h _ (λ_ h=>h));rw[sx];simpa using this)
def bJ{f:FuncId}{args:List AV}{dst:Option Tmp}{K:St->Prop}{res:AV}(h:ak P f args [] res [])(ha:kN args=true)(hr:jR res=true)(hK:K (σ.put dst res)):FQ P f args dst K σ :=
 ⟨res,h,ha,hr,hK⟩
end Go.Am
namespace Go.Am
variable {P:Program} {N n0:Nat} {σ:St} {Q:Exit->St->Prop}
def ba.FR{σ:St}{γ:Cx}(h:ba σ γ){id:Nat}{cells cells':List AV}(ho:σ.aa[id]?=some (.var cells))(hl:cells'.length=cells.length)(hc:∀ (c:Nat) v v',cells[c]?=some v->cells'[c]?=some v'->∀ cv,au σ.aa γ.w γ.Z γ.blk v cv->au σ.aa γ.w γ.Z γ.blk v' cv):ba ⟨σ.env,σ.aa.set id (.var cells')⟩ γ:=by
 obtain⟨b,cap,cur,t,h1,h2,h3,h4⟩:=h.dQ id _ ho;have:=h.write (ob':=.var cells') ho Jy (by simp[Ob.dj,hl]) h1 (w':=γ.w) h2 (λ_ _=>rfl) rfl ⟨rfl,by rw[h3,hl],λc v hv=>?_⟩
 ·exact this
 ·have bq:c<cells.length:=by rw[<- hl];exact(aN.1 hv).1
  exact hc c _ v (aT bq) hv _ (h4 c _ (aT bq))
def Fr.FR(os:List Ob)(γ:Cx){id:Nat}{cells cells':List AV}(ho:os[id]?=some (.var cells))(hl:cells'.length=cells.length):Fr os γ (os.set id (.var cells')) γ where
 kl:=rfl
 tape:=rfl
 output:=rfl
 size:=Nat.le_refl _
 cW:=λ_ _ _=>rfl
 z0:=λ_ h=>h
 z1:=λ_ h=>.inl h
 own:=by
  rintro b⟨i,o,c,⟨x,hx,dZ⟩,hb⟩;rw[bT]at hx;split at hx
  ·rename_i e;subst e;exact .inl ⟨id,o,c,⟨_,ho,Jy⟩,hb⟩
  ·exact .inl ⟨i,o,c,⟨x,hx,dZ⟩,hb⟩
 len:=Jy
 jn:=by
  rintro i hi⟨x,hx,dZ⟩;have hx0:=hx;rw[bT]at hx;split at hx
  ·rename_i e;subst e;exact⟨rfl,.var cells,.var cells',ho,by rw[bT];simp[hi],by simp[Ob.dj,hl]⟩
  ·exact⟨rfl,x,x,hx,hx0,Ob.iC dZ⟩
def aC.nH(id c sz:Nat){cells:List AV}(ho:σ.aa[id]?=some (.var cells))(hc:cells[c]?=some (.lit (.slice none 0 0)))(h0:0<sz):
  aC n0 σ ⟨σ.env,(σ.aa++[Ob.arr sz []]).set id (.var (cells.set c (.ref σ.aa.length sz 0 0)))⟩:=by
 intro os γ0 γ _ hs hf;have hp:=hs.vF h0;have cO:id<σ.aa.length:=(aN.1 ho).1;have cD:(σ.aa++[Ob.arr sz []])[id]?=some (.var cells):=by rw[cG cO];exact ho
 refine⟨{ γ with blk:=cB γ.blk σ.aa.length none },rfl,rfl,?_,(hf.trans (Fr.vF _ _ _)).trans (Fr.FR _ _ cD (cells':=cells.set c (.ref σ.aa.length sz 0 0)) Jy)⟩;refine hp.FR cD (cells':=cells.set c (.ref σ.aa.length sz 0 0)) Jy (λk v v' hv qh cv hr=>?_);rw[bT]at qh;split at qh
 ·rename_i e;subst e;split at qh
  ·simp only[cL.injEq]at qh;subst qh;have hk:cells[c]?=some v:=hv;rw[hc]at hk;simp only[cL.injEq]at hk;subst hk;rw[hr.bX];exact .jU _ _ (List.getElem?_concat_length ..) (by simp[cB])
  ·simp at qh
 ·have hk:cells[k]?=some v':=qh;have bd:cells[k]?=some v:=hv;rw[bd]at hk;simp only[cL.injEq]at hk;subst hk;exact hr
def aC.rq(a id c sz:Nat){cells:List AV}{rows:List (List AV)}(ho:σ.aa[id]?=some (.var cells))(ha:σ.aa[a]?=some (.arr sz rows))(hc:cells[c]?=some (.ref a sz 0 rows.length))(hw:∀ row∈rows,row.length=sz)(ux:∀ row∈rows,∀ v∈row,(∃ x,v=.lit x)\/∃ s r,v=.tree s r):aC n0 σ ⟨σ.env,(σ.aa.set a .gone).set id (.var (cells.set c (.tree sz rows)))⟩:=by
 intro os γ0 γ _ hs hf;have zt:a≠id:=by intro e;subst e;rw[ho]at ha;simp at ha
 have vG:id<σ.aa.length:=(aN.1 ho).1;have fS:a<σ.aa.length:=(aN.1 ha).1
 let ay:Cx:={ γ with Z:=λb=>γ.Z b\/∃ o cap,γ.blk a=some (b,o,cap) }
 let cj:=(σ.aa.set a .gone).set id (.var (cells.set c (.tree sz rows)))
 have h9:∀ i,cj[i]?=if i=id then some (.var (cells.set c (.tree sz rows))) else if i=a then some .gone else σ.aa[i]?:=by
  intro i;show((σ.aa.set a .gone).set id _)[i]?=_;rw[bT,bT];by_cases h1:i=id
  ·subst h1;simp[vG]
  ·by_cases h2:i=a
   ·subst h2;simp[Ne.symm h1,h1,fS]
   ·simp[Ne.symm h1,Ne.symm h2,h1,h2]
 have hR:∀ v cv,au σ.aa γ.w γ.Z γ.blk v cv->au cj ay.w ay.Z ay.blk v cv:=λv cv hv =>
  hv.mono (λb hb=>⟨.inl hb,rfl⟩) (λi o hi=>by
   rw[h9];by_cases h1:i=id
   ·subst h1;rw[ho]at hi;simp only[cL.injEq]at hi;subst hi;right;exact⟨rfl,_,by rw[if_pos rfl],by simp[Ob.dj]⟩
   ·rw[if_neg h1];by_cases h2:i=a
    ·left;rw[if_pos h2]
    ·rw[if_neg h2];by_cases hg:o=.gone
     ·subst hg;exact .inl hi
     ·exact .inr ⟨rfl,o,hi,Ob.iC hg⟩)
 have bI:∀ i,Live cj i->Live σ.aa i/\i≠a:=by
  rintro i⟨o,hi,hg⟩;rw[h9]at hi;split at hi
  ·rename_i h1;subst h1;exact⟨⟨_,ho,Jy⟩,Ne.symm zt⟩
  ·split at hi
   ·simp at hi;exact absurd hi.symm hg
   ·rename_i h2;exact⟨⟨o,hi,hg⟩,h2⟩
 have mX:Live σ.aa a:=⟨_,ha,Jy⟩;refine⟨ay,rfl,rfl,⟨λk=>hR _ _ (hs.ao k),?_,λi j b o c o' c' hi hj=>hs.inj i j b o c o' c' (bI i hi).1 (bI j hj).1,?_,?_,λg=>vH (hs.gl g) λb hb=>⟨.inl hb,rfl⟩⟩,?_⟩
 ·intro i o hi;have hi':cj[i]?=some o:=hi;rw[h9]at hi';split at hi'
  ·rename_i h1;subst h1;simp only[cL.injEq]at hi';subst hi';obtain⟨b,cap,cur,t,h1,h2,h3,h4⟩:=hs.dQ _ _ ho;refine⟨b,cap,cur,t,h1,h2,by simpa using h3,λk v hv=>?_⟩;rw[bT]at hv;split at hv
   ·rename_i e;subst e;split at hv
    ·simp only[cL.injEq]at hv;subst hv;have dC:df σ (λx=>x≠a) (.tree sz rows) (.ref a sz 0 rows.length):=df.flat ha hw rfl Jy ux;exact .bV _ _ (dC.xr hs (γc:=ay) (λb hb=>.inl hb) rfl (λx b o cap cO _ hb=>.inr ⟨o,cap,by rw[show a=x by simpa using(Decidable.not_not.1 cO).symm];exact hb⟩) _ (h4 c _ hc))
    ·simp at hv
   ·exact hR _ _ (h4 k v hv)
  ·split at hi'
   ·simp only[cL.injEq]at hi';subst hi';trivial
   ·by_cases hg:o=.gone
    ·subst hg;trivial
    ·exact(hs.dQ i o hi').mono hR rfl (λ_ _ _ _=>rfl)
 ·rintro b ⟨i,o,c',hi,hb⟩ (hz|⟨o',cap,bO⟩)
  ·exact hs.nz b ⟨i,o,c',(bI i hi).1,hb⟩ hz
  ·exact(bI i hi).2 (hs.inj i a b o c' o' cap (bI i hi).1 mX hb bO)
 ·rintro b (hz|⟨o,cap,hb⟩)
  ·exact hs.fY b hz
  ·exact hs.blt mX hb
 ·refine⟨hf.kl,hf.tape,hf.output,hf.size,hf.cW,λb hb=>.inl (hf.z0 b hb),?_,?_,by show os.length<=cj.length;simp[cj];exact hf.len,?_⟩
  ·rintro b (hz|⟨o,cap,hb⟩)
   ·exact hf.z1 b hz
   ·exact .inr (hf.own b ⟨a,o,cap,mX,hb⟩)
  ·rintro b ⟨i,o,c',hi,hb⟩;exact hf.own b ⟨i,o,c',(bI i hi).1,hb⟩
  ·intro i hi hl;obtain⟨h1,x,x',hx,bR,hk⟩:=hf.jn i hi (bI i hl).1;have vI:=(bI i hl).2;have iX:Live cj i:=hl;obtain⟨o,dw,dc⟩:=iX;refine⟨h1,x,o,hx,dw,?_⟩;rw[h9]at dw;split at dw
   ·rename_i e;subst e;rw[ho]at bR;simp only[cL.injEq]at bR dw;subst bR;subst dw;refine Ob.FT hk (by simp[Ob.dj])
   ·rw[bR]at dw;simp only[cL.injEq]at dw;subst dw;exact hk
end Go.Am
namespace Go.Am
variable {P:Program}
def uy(P:Program):List Field->Nat->Nat->Bool
 |[],o,n=>o==n
 |f::fs,o,n=>f.offset==o&&uy P fs (o+P.cellsOf f.type) n
def ry(P:Program):Nat->TypeId->Bool
 |0,_=>false
 |d+1,t =>
  match P.underlying t with
  |some (.int .i64)=>P.cellsOf t==1
  | some (.struct fs) => (P.info? t).isSome && !P.stoodInHeld t && uy P fs.toList 0 (P.cellsOf t) && fs.toList.all λf => f.name != "_" && ry P d f.type
  |_=>false
def rz(P:Program)(t:TypeId)(xs:List Int):Value :=
 match P.underlying t with
 |some (.struct _)=>.agg (xs.map (Value.int .i64)).toArray
 |_=>.int .i64 (xs.getD 0 0)
def OP{as bs:List Int}{o c:Nat}(h:as.length=bs.length):as.drop o=bs.drop o↔(as.drop o).take c=(bs.drop o).take c/\as.drop (o+c)=bs.drop (o+c):=by
 constructor
 ·intro e;refine⟨by rw[e],?_⟩;rw[<- Jz,<- Jz,e]
 ·rintro⟨e1,e2⟩;rw[<- Jz,<- Jz]at e2;rw[<- EW c (as.drop o),<- EW c (bs.drop o),e1,e2]
def OQ(w:World){d:Nat}{t:TypeId}(h:ry P d t=true){as:List Int}{o:Nat}(ho:o+P.cellsOf t<=as.length):
  (part t (as.map (Value.int .i64)).toArray o).run P w=.ok (rz P t ((as.drop o).take (P.cellsOf t))) w:=by
 cases d with
 |zero=>simp[ry]at h
 |succ d =>
  unfold ry at h;cases hu:P.underlying t with
  |none=>simp[hu]at h
  |some k =>
   rw[hu]at h;cases k<;>try(simp at h;done)
   case int q =>
    cases q<;>try(simp at h;done)
    have hc:P.cellsOf t=1:=by simpa using h
    rw[hc]at ho;have hx:((as.map (Value.int .i64)).toArray)[o]?=some (.int .i64 (as.getD o 0)):=by
     have:o<as.length:=Bv;simp[this]
    simp only[part,isAgg,Sem.run_bind,run_underlying hu,Result.andThen_ok,Sem.run_pure,iT,if_false,Sem.run_ite,hx];have:o<as.length:=Bv;simp[rz,hu,hc,this]
   case struct fs =>
    simp only[bb]at h;obtain⟨i,hi⟩:=Option.isSome_iff_exists.1 h.1.1.1;have hs:∀ w,(sizeOf t).run P w=.ok (P.cellsOf t) w:=λw=>by
     simp[sizeOf,typeInfo,Program.cellsOf,hi,run_program]
    simp only[part,isAgg,Sem.run_bind,run_underlying hu,Result.andThen_ok,Sem.run_pure,if_true,Sem.run_ite,hs];simp only[rz,hu];congr 2;simp[List.map_take,List.map_drop]
def OR{D d:Nat}(ih:∀ t,ry P d t=true->∀ (w:World) (as bs:List Int),as.length=P.cellsOf t->bs.length=P.cellsOf t->(Op.equalIn (D+d) t (rz P t as) (rz P t bs)).run P w=.ok (decide (as=bs)) w){as bs:List Int}(hl:as.length=bs.length):
  ∀ (fs : List Field) (o : Nat) (w : World), uy P fs o as.length = true -> (fs.all λf => f.name != "_" && ry P d f.type) = true ->
   o+(fs.map λf=>P.cellsOf f.type).sum=as.length->(Op.eqFields (D+d) (as.map (Value.int .i64)).toArray (bs.map (Value.int .i64)).toArray fs).run P w=.ok (decide (as.drop o=bs.drop o)) w
 |[],o,w,ht,_,hs=>by
  have:o=as.length:=by simpa [uy] using ht
  subst this;have:bs.drop as.length=[]:=List.drop_eq_nil_of_le Bv;simp[Op.eqFields,this]
 |f::fs,o,w,ht,ha,hs=>by
  simp only[uy,bb,beq_iff_eq]at ht;obtain⟨rfl,ht⟩:=ht;simp only[yS,bb,bne_iff_ne]at ha;simp only[lg,List.sum_cons]at hs;have h1:=OQ (as:=as) w ha.1.2 (o:=f.offset) Bv;have h2:=OQ (as:=bs) w ha.1.2 (o:=f.offset) Bv;have h3:=ih f.type ha.1.2 w ((as.drop f.offset).take (P.cellsOf f.type)) ((bs.drop f.offset).take (P.cellsOf f.type)) aak aak;have h4:=OR ih hl fs (f.offset+P.cellsOf f.type) w ht ha.2 Bv;simp only[Op.eqFields];rw[if_pos ha.1.1];simp only[Sem.run_bind,h1,h2,h3,Result.andThen_ok,Sem.run_ite,Sem.run_pure,h4];by_cases he:(as.drop f.offset).take (P.cellsOf f.type)=(bs.drop f.offset).take (P.cellsOf f.type)
  ·rw[decide_eq_true he];simp only[lS,iT,if_false];congr 1;rw[decide_eq_decide,OP (o:=f.offset) (c:=P.cellsOf f.type) hl];simp[he]
  ·rw[decide_eq_false he];simp only[mC,if_true];congr 1;rw[eq_comm,decide_eq_false_iff_not,OP (o:=f.offset) (c:=P.cellsOf f.type) hl];exact λh=>he h.1
def OS:∀ (fs:List Field) (o n:Nat),uy P fs o n=true->o+(fs.map λf=>P.cellsOf f.type).sum=n
 |[],o,n,h=>by simpa [uy] using h
 |f::fs,o,n,h=>by
  simp only[uy,bb,beq_iff_eq]at h;have:=OS fs _ n h.2;simp only[lg,List.sum_cons];omega
def OT(D:Nat):∀ (d:Nat) (t:TypeId),ry P d t=true->∀ (w:World) (as bs:List Int),as.length=P.cellsOf t->bs.length=P.cellsOf t->(Op.equalIn (D+d) t (rz P t as) (rz P t bs)).run P w=.ok (decide (as=bs)) w
 |0,t,h=>by simp[ry]at h
 |d+1,t,h=>by
  intro w as bs ha hb;unfold ry at h;cases hu:P.underlying t with
  |none=>simp[hu]at h
  |some k =>
   rw[hu]at h;cases k<;>try(simp at h;done)
   case int q =>
    cases q<;>try(simp at h;done)
    have hc:P.cellsOf t=1:=by simpa using h
    rw[hc]at ha hb
    match as,bs,ha,hb with
    |[a],[b],_,_ =>
     simp only[rz,hu,je];rw[show D+(d+1)=(D+d)+1 from rfl,run_equalIn_int w (D+d) t .i64 .i64 a b hu];congr 1;rw[ld];simp
   case struct fs =>
    simp only[bb,jd]at h;have hf:P.fieldsOf t=fs:=by simp[Program.fieldsOf,hu]
    simp only[rz,hu];rw[show D+(d+1)=(D+d)+1 from rfl,run_equalIn_struct w (D+d) t _ _ (by rw[hf];exact hu) h.1.1.2,hf];have:=OR (D:=D) (OT D d) (as:=as) (bs:=bs) Bv fs.toList 0 w (by rw[ha];exact h.1.2) h.2 (by rw[ha];exact OS _ _ _ h.1.2);simpa using this
def FU(P:Program)(d:Nat)(t:TypeId)(n:Nat):Bool :=
 (match P.underlying t with|some (.struct _)=>true|_=>false)&&decide (d<=10000)&&ry P d t&&(P.cellsOf t==n)
def od.of{t:TypeId}(d:Nat){n:Nat}(h:FU P d t n=true):od P t n:=by
 intro w as bs ha hb;simp only[FU,bb,decide_eq_true_eq,beq_iff_eq]at h;obtain⟨⟨⟨h1,hd⟩,h2⟩,h3⟩:=h;have:=OT (10000-d) d t h2 w as bs Bv Bv;rw[Nat.sub_add_cancel hd]at this;cases hu:P.underlying t with
 |none=>rw[hu]at h1;simp at h1
 |some k =>
  cases k<;>rw[hu]at h1<;>try(simp at h1;done)
  simpa only[rz,hu] using this
end Go.Am
namespace Go.Am
variable {P:Program} {N n0:Nat} {σ:St} {Q:Exit->St->Prop}
def qa(o:Oper):Bool :=
 match o.op with
 |.call c=>match c.callee with
  |.value _=>true
  |_=>false
 |_=>false
def xu(ops:Array Oper):List Nat:=(bp ops.size).filter λi=>match ops[i]? with|some o=>qa o|none=>false
def pg(P:Program)(ops:Array Oper):List Oper->(St->Prop)->St->Prop
 |[],K,σ=>K σ
 |o::r,K,σ=>dO P ops (qa o) o (pg P ops r K) σ
def Nb{ops:Array Oper}{K:St->Prop}:pg P ops [] K σ=K σ:=by simp only[pg]
def Fx{ops:Array Oper}{o:Oper}{r:List Oper}{K:St->Prop}:pg P ops (o::r) K σ=dO P ops (qa o) o (pg P ops r K) σ:=by simp only[pg]
def WJ{ops:Array Oper}{i:Nat}{o:Oper}(h:ops[i]?=some o):(xu ops).contains i=qa o:=by
 have hi:i<ops.size:=(lT.1 h).1;rw[ld,pP];simp only[xu,kF,jA,hi,true_and,h]
def FV{ops:Array Oper}{K:St->Prop}:∀ (l:List Oper) (i:Nat) (σ:St),ops.toList.drop i=l->pg P ops l K σ->n9 P ops (xu ops) i l K σ
 |[],i,σ,_,h=>h
 |o::r,i,σ,hl,h=>by
  have hi:ops[i]?=some o:=by
   have:(ops.toList.drop i)[0]?=some o:=by rw[hl];rfl
   simpa using this
  have hr:ops.toList.drop (i+1)=r:=by
   have:=congrArg By hl;simpa [Bz] using this
  rw[B6,WJ hi];rw[Fx]at h;exact zr (λs hs=>FV r (i+1) s hr hs) h
def B9(ops:Array Oper):Bool:=Cn ops (xu ops)
def Wp{id:Nat}{ops:Array Oper}{y:Code}(hm:P.follows .mixedOrders=true)(hd:dY N ops=true)(ht:B9 ops=true)(h:∀ K:St->Prop,(∀ s,W P N n0 y Q s->K s)->pg P ops ops.toList K σ):
  W P N n0 (.seq (.region id ops true) y) Q σ :=
 ON (xu ops) hm hd ht λK hK=>FV ops.toList 0 σ rfl (h K hK)
def Wq{id:Nat}{ops:Array Oper}(hm:P.follows .mixedOrders=true)(hd:dY N ops=true)(ht:B9 ops=true)(h:∀ K:St->Prop,(∀ s,Q .normal s->K s)->pg P ops ops.toList K σ):
  W P N n0 (.region id ops true) Q σ :=
 BX (xu ops) hm hd ht λK hK=>FV ops.toList 0 σ rfl (h K hK)
def sS:List Oper->Bool
 |[]=>false
 |o::r=>qa o||sS r
def xw(ops:Array Oper):List Nat:=(bp ops.size).filter λi=>match ops[i]? with|some o=>qa o&&sS (ops.toList.drop (i+1))|none=>false
def pf(P:Program)(ops:Array Oper):List Oper->(St->Prop)->St->Prop
 |[],K,σ=>K σ
 |o::r,K,σ=>dO P ops (qa o&&sS r) o (pf P ops r K) σ
def Nc{ops:Array Oper}{K:St->Prop}:pf P ops [] K σ=K σ:=by simp only[pf]
def Fy{ops:Array Oper}{o:Oper}{r:List Oper}{K:St->Prop}:pf P ops (o::r) K σ=dO P ops (qa o&&sS r) o (pf P ops r K) σ:=by simp only[pf]
def WL{ops:Array Oper}{i:Nat}{o:Oper}{r:List Oper}(h:ops[i]?=some o)(hr:ops.toList.drop (i+1)=r):(xw ops).contains i=(qa o&&sS r):=by
 have hi:i<ops.size:=(lT.1 h).1;rw[ld,pP];simp only[xw,kF,jA,hi,true_and,h,hr]
def FW{ops:Array Oper}{K:St->Prop}:∀ (l:List Oper) (i:Nat) (σ:St),ops.toList.drop i=l->pf P ops l K σ->n9 P ops (xw ops) i l K σ
 |[],i,σ,_,h=>h
 |o::r,i,σ,hl,h=>by
  have hi:ops[i]?=some o:=by
   have:(ops.toList.drop i)[0]?=some o:=by rw[hl];rfl
   simpa using this
  have hr:ops.toList.drop (i+1)=r:=by
   have:=congrArg By hl;simpa [Bz] using this
  rw[B6,WL hi hr];rw[Fy]at h;exact zr (λs hs=>FW r (i+1) s hr hs) h
def B8(ops:Array Oper):Bool:=Cn ops (xw ops)
def Wn{id:Nat}{ops:Array Oper}{y:Code}(hm:P.follows .mixedOrders=true)(hd:dY N ops=true)(ht:B8 ops=true)(h:∀ K:St->Prop,(∀ s,W P N n0 y Q s->K s)->pf P ops ops.toList K σ):
  W P N n0 (.seq (.region id ops true) y) Q σ :=
 ON (xw ops) hm hd ht λK hK=>FW ops.toList 0 σ rfl (h K hK)
def Wo{id:Nat}{ops:Array Oper}(hm:P.follows .mixedOrders=true)(hd:dY N ops=true)(ht:B8 ops=true)(h:∀ K:St->Prop,(∀ s,Q .normal s->K s)->pf P ops ops.toList K σ):
  W P N n0 (.region id ops true) Q σ :=
 BX (xw ops) hm hd ht λK hK=>FW ops.toList 0 σ rfl (h K hK)
end Go.Am

