import Derived.Test.YtdipcmigdbnheaaGreatX04
import Derived.Laws.StructEq
set_option linter.all false
set_option maxHeartbeats 0
set_option maxRecDepth 20000
open List renaming contains_cons→I',contains_nil→Ja,getD_cons_zero→fQ,getD_cons_succ→ep,getD_nil→BA,size_toArray→za,map_cons→dJ,map_nil→lX,cons_append→cW,nil_append→da,append_nil→gb,getElem?_cons_zero→rL,getElem?_cons_succ→vH,getElem?_toArray→EG,length_cons→dz,length_nil→mq,all_cons→Bv,all_nil→BB,drop_zero→uj,take_zero→pC,set_cons_zero→qw,set_cons_succ→uk,flatMap_cons→sY,length_append→bR,length_set→bE,length_replicate→sZ,all_eq_true→gz,mem_map→bZ,getD_eq_getElem?_getD→aA,getElem?_append_left→cd,getElem?_append_right→eu,range'→lU,tail→EB,tail_drop→EC,range'_succ→ue,range→aN,range_eq_range'→uf,getElem?_eq_some_iff→aM,getElem?_eq_getElem→bT,getElem?_set→bV,drop_drop→EK,take_append_drop→EE,contains_iff_mem→sV,mem_filter→mz,mem_range→lz,mem_cons→b8,mem_of_getElem?→gf,map_congr_left→kG,mem_append→cj,not_mem_nil→k8
open Bool renaming or_self→Jb,or_false→ze,false_or→mu,or_true→xo,true_or→rQ,false_eq_true→jy,true_and→iq,not_true→lA,not_false→m4,not_eq_true'→jW,or_eq_true→ke,and_eq_true→ba,eq_iff_iff→my,false_and→lY
open Option renaming bind_some→rM,map_some→fR,some→cT
open Nat renaming zero_add→eW,add_zero→jb,zero_mul→zc,mul_one→Jc,one_mul→pz,lt_or_ge→eh
open Int renaming toNat_natCast→gA
open Array renaming replicate→vC,getD_eq_getD_getElem?→eN,getElem?_append_left→Bx,length_toList→rK,getElem?_eq_some_iff→nZ,toList_append→xk
namespace Go.Am
def l9:=abK @BX @BR @Cc @I'.{0} @Ja.{0} @Jb @ze (abK @mu @xo @rQ @jy @if_false.{1} @if_true.{1} @fQ.{0} (abe @ep.{0} @BA.{0}))
def Bc:=abK @BX @BR @Cc @I'.{0} @Ja.{0} @Jb @ze (abK @mu @xo @rQ @jy @if_false.{1} @if_true.{1} @fQ.{0} (abK @ep.{0} @BA.{0} @za.{0} @Array.size_empty.{0} @JM @JN @eq_self.{1} (abK @K9 @K' @J3 @J4 @J5 @J6 @Kb (abK @Kd @Ke @Kf @Kg @Kh @Ki @Kj (abK @Kk @Kl @Km @Kn @Ko @Kp @Kq (abK @Kz @KA @KB @KC @KD @KE @KF (abK @KG @Lz @J8 @Ka @J1 @J2 @true_and (abK @and_true @and_self @dJ.{0,0} @lX.{0,0} @cW.{0} @da.{0} @gb.{0} (abK @ite_true.{1} @ite_false.{1} @Bool.true_eq_false @ne_eq.{1} @not_true_eq_false @not_false_eq_true @false_implies (abK @true_implies @implies_true.{1} @rM.{0,0} @Option.bind_none.{0,0} @rL.{0} @vH.{0} @EG.{0} (abK @dz.{0} @mq.{0} @eW @jb @decide_true @decide_false @Bv.{0} (abK @BB.{0} @Bool.and_true @iq @Int.toNat_zero @lA @m4 @cond_true.{1} (abK @cond_false.{1} @La @Le @Lf @Lb @JE @JG (abK @JH @JF @ux @uw @gA @KJ @KK (abK @KL @KM @KN @KO @zc @Jc @pz (abK @KH @KI @uA @xD @B0 @fR.{0,0} @uj.{0} (abK @List.drop_succ_cons.{0} @List.take_succ_cons.{0} @pC.{0} @qw.{0} @uk.{0} @beq_self_eq_true.{0} @sY.{0,0} (abK @List.flatMap_nil.{0,0} @List.getElem?_nil.{0} @bR.{0} @bE.{0} @sZ.{0} @ni @vZ (abK @pN @JO @JP @JQ @JR @JS @JT (abK @ints_set @E8 @JU @BY @E9 @JV @BZ (abl @E' @zs @JW @JX)))))))))))))))))))))
def x7:=abK @eq_self.{1} @decide_eq_true_eq @decide_eq_false_iff_not @jW @Bool.not_eq_false' @beq_iff_eq.{0} @beq_eq_false_iff_ne.{0} (abK @bne_iff_ne.{0} @bne_eq_false_iff_eq.{0} @ne_eq.{1} @Decidable.not_not @Int.not_lt @Int.not_le @not_true_eq_false (abK @not_false_eq_true @ke @ba @Bool.or_eq_false_iff @Bool.and_eq_false_iff @gt_iff_lt.{0} @ge_iff_le.{0} (abK @Int.ofNat_lt @Int.ofNat_le @Int.ofNat_inj @Nat.not_lt @Nat.not_le @ni @vZ (abk @pN @cond_true.{1} @cond_false.{1}))))
end Go.Am
namespace Go.Am
variable {σ:St}
class Row {α:Type} (enc:α->List AV) (sz:outParam Nat):Prop where
 wid:∀ x,(enc x).length=sz
 ok:∀ x,∀ v∈enc x,(∃ y,v=.lit y/\y.oneCell'=true)\/∃ s r,v=.tree s r
def rowsOf{α:Type}(enc:α->List AV)(xs:List α):List (List AV):=xs.map enc
section
variable {α:Type} {enc:α->List AV} {sz:Nat}
def bW(xs:List α):(rowsOf enc xs).length=xs.length:=by simp[rowsOf]
def hU[Inhabited α](xs:List α)(i:Nat)(h:i<xs.length):(rowsOf enc xs).getD i []=enc (xs.getD i default):=by simp[rowsOf,h]
def uL[Inhabited α](xs:List α)(i:Nat)(h:i<xs.length):(rowsOf enc xs)[i]?=some (enc (xs.getD i default)):=by simp[rowsOf,h]
def LC(xs:List α):(rowsOf enc xs).take xs.length=rowsOf enc xs:=by rw[List.take_of_length_le (by simp[rowsOf])]
def LD(xs ys:List α):rowsOf enc xs++rowsOf enc ys=rowsOf enc (xs++ys):=by simp[rowsOf]
def jM(xs:List α)(x:α):rowsOf enc xs++[enc x]=rowsOf enc (xs++[x]):=by simp[rowsOf]
def x8(xs:List α)(i:Nat)(x:α):(rowsOf enc xs).set i (enc x)=rowsOf enc (xs.set i x):=by simp[rowsOf,List.map_set]
def LF[Row enc sz](x:α):(enc x).all b7=true:=by
 rw[gz];intro v hv;rcases Row.ok (enc:=enc) x v hv with⟨y,rfl,h⟩|⟨s,r,rfl⟩
 ·simpa [b7] using h
 ·rfl
def zX[Row enc sz](xs:List α):((rowsOf enc xs).all λrow=>row.all b7)=true:=by
 simp only[rowsOf,List.all_map,gz];intro x _;exact LF (enc:=enc) x
def Ya{l:List AV}(h:∀ v∈l,eO v=true):gF l=true:=by
 induction l with
 |nil=>rfl
 |cons v l ih=>simp only[gF,ba];exact⟨h v Jd,ih λx hx=>h x (by simp[hx])⟩
def Yb[Row enc sz](x:α):gF (enc x)=true:=Ya λv hv=>by
 rcases Row.ok (enc:=enc) x v hv with⟨y,rfl,_⟩|⟨s,r,rfl⟩<;>rfl
def pU[Row enc sz](ρ:Nat->Nat)(s:Nat)(xs:List α):bH ρ (.arr s (rowsOf enc xs))=.arr s (rowsOf enc xs):=zq (by
 intro row hr;simp only[rowsOf,bZ]at hr;obtain⟨x,_,rfl⟩:=hr;exact Yb (enc:=enc) x)
def jh[Row enc sz](xs:List α):∀ row∈rowsOf enc xs,∀ v∈row,(∃ x,v=AV.lit x)\/∃ s r,v=AV.tree s r:=by
 intro row hr v hv;simp only[rowsOf,bZ]at hr;obtain⟨x,_,rfl⟩:=hr;rcases Row.ok (enc:=enc) x v hv with⟨y,rfl,_⟩|h
 ·exact .inl ⟨_,rfl⟩
 ·exact .inr h
def eF[Row enc sz](xs:List α):∀ row∈rowsOf enc xs,row.length=sz:=by
 intro row hr;simp only[rowsOf,bZ]at hr;obtain⟨x,_,rfl⟩:=hr;exact Row.wid (enc:=enc) x
end
structure br where
 wk:Int
 day:Int
 st:Int
 len:Int
 room:Int
 ch:List (Int×Int)
 deriving Inhabited
structure Pr where
 fst:Int
 snd:Int
 aV:Int
 ay:List Int
 deriving Inhabited
structure Ld where
 cls:Int
 opt:Int
 wt:Int
 deriving Inhabited
structure Ct where
 aV:Int
 aS:List Ld
 most:Int
 bM:Int
 deriving Inhabited
structure aj where
 cls:List (List br)
 ae:List Pr
 ar:List Ct
 rules:Int
 deriving Inhabited
def i64(n:Int):AV:=aa3 n
def bz(c:Int×Int):List AV:=[aa3 c.1,aa3 c.2]
def cw(o:br):List AV:=[aa3 o.wk,aa3 o.day,aa3 o.st,aa3 o.len,aa3 o.room,.tree 2 (rowsOf bz o.ch)]
def bD(l:List br):List AV:=[.tree 6 (rowsOf cw l)]
def bu(p:Pr):List AV:=[aa3 p.fst,aa3 p.snd,aa3 p.aV,.tree 1 (ints p.ay)]
def gL(l:Ld):List AV:=[aa3 l.cls,aa3 l.opt,aa3 l.wt]
def aK(c:Ct):List AV:=[aa3 c.aV,.tree 3 (rowsOf gL c.aS),aa3 c.most,aa3 c.bM]
def av(m:aj):List AV:=[.tree 1 (rowsOf bD m.cls),.tree 4 (rowsOf bu m.ae),.tree 4 (rowsOf aK m.ar),aa3 m.rules]
def uM{l:List AV}(h:(l.all λv=>match v with|.lit y=>y.oneCell'|.tree ..=>true|_=>false)=true):∀ v∈l,(∃ y,v=AV.lit y/\y.oneCell'=true)\/∃ s r,v=AV.tree s r:=by
 intro v hv;have:=gz.1 h v hv;cases v<;>simp at this
 ·exact .inl ⟨_,rfl,this⟩
 ·exact .inr ⟨_,_,rfl⟩
instance:Row bz 2:=⟨λ_=>rfl,λ_=>uM rfl⟩
instance:Row cw 6:=⟨λ_=>rfl,λ_=>uM rfl⟩
instance:Row bD 1:=⟨λ_=>rfl,λ_=>uM rfl⟩
instance:Row bu 4:=⟨λ_=>rfl,λ_=>uM rfl⟩
instance:Row gL 3:=⟨λ_=>rfl,λ_=>uM rfl⟩
instance:Row aK 4:=⟨λ_=>rfl,λ_=>uM rfl⟩
instance:Row av 4:=⟨λ_=>rfl,λ_=>uM rfl⟩
end Go.Am
namespace Go.Am
variable {P:Program}
variable {N n0:Nat} {Q:Exit->St->Prop} {σ:St}
def fJ(P:Program)(n0:Nat)(rs:List ResultVar)(gk:AV->List Ob->Prop):Exit->St->Prop
 |.normal,s=>dQ s P rs λvs=>∃ res bg,gk res bg/\mB n0 s (dK vs) res bg
 |.ret,s=>dQ s P rs λvs=>∃ res bg,gk res bg/\mB n0 s (dK vs) res bg
 |_,_=>False
def ez.Fv {f : FuncId} {fn : Func} {c : Code} {args : List AV} {aa : List Ob} {gk : AV -> List Ob -> Prop} (hf : P.funcs[f]? = some fn) (hb : fn.body = some c) (oV : (fn.name == "runtime.NumGoroutine") = false)
  (hN:args.length<=fn.ntmps) (h:W P fn.ntmps aa.length c (fJ P aa.length fn.results.toList gk) ⟨λk=>args.getD k .undef,aa⟩):ez P f args aa gk:=by
 refine⟨⟨fn,hf,oV,by rw[hb];rfl⟩,?_⟩;intro γ a6 hs;refine calls_of_wp hf hb ?_
 let tm:=γ.tmps++vC (fn.ntmps-γ.tmps.size) Go.undef
 have aR:gl fn.ntmps aa γ ⟨λk=>args.getD k .undef,aa⟩ { tmps:=tm,defers:=[] } γ.w:=by
  refine⟨rfl,by simp[tm];omega,{ γ with tmps:=tm },rfl,rfl,⟨λk=>?_,hs.ei,hs.inj,hs.nz,hs.gD⟩,(Fr.refl _ _).put _⟩;rcases eh k args.length with hk|hk
  ·have:=hs.ax k;have e:tm.getD k Go.undef=γ.tmps.getD k Go.undef:=by
    simp only[tm,eN];rw[Bx I6]
   show az _ _ _ _ _ (tm.getD k Go.undef);rw[e];exact this
  ·have e:args.getD k AV.undef=.undef:=by simp[hk]
   show az _ _ _ _ (args.getD k .undef) _;rw[e];exact .undef _
 refine wp_mono (h aa γ _ γ.w rfl aR) ?_;rintro e a' w'⟨σ',h1,iN,_,aD,rfl,ha,iu,gH⟩;have fin:∀ (K:List AV->Prop),dQ σ' P fn.results.toList K->(∀ vs,K vs->∃ res bg,gk res bg/\mB aa.length σ' (dK vs) res bg) ->
   a'.defers=[]/\∃ v,(results fn a'.tmps).run P aD.w=.ok v aD.w/\∃ res bg cv iw,gk res bg/\Ending.returned v=.returned cv/\iw.w=aD.w/\iw.tmps = #[cv]/\bk ⟨λk=>[res].getD k .undef,bg⟩ iw/\Fr aa γ bg iw:=by
  intro K hK Fw;obtain⟨vs,a7,k1,k2,k3,k4,k5⟩:=Cb iu _ _ hK;obtain⟨res,bg,Fm,ak,snap,r1,r2,r3,r4,r5,r6,r7⟩:=Fw vs k1;refine⟨iN,?_⟩;have eB :∃v,(results fn a'.tmps).run P aD.w=.ok v aD.w/\az σ'.aa aD.w aD.Z aD.blk (dK vs) v:=by
   have hm:(fn.results.mapM λ(r:ResultVar)=>match r with|.tmp t=>(pure (a'.tmps.getD t Go.undef):Sem Value)|.cell a t=>do loadVar t (← asAddr (a'.tmps.getD a Go.undef))).run P aD.w=.ok a7.toArray aD.w:=by
    rw[Array.mapM_eq_mapM_toList,Sem.run_map,<- ha];exact congrArg (λ(r:Result (List Value))=>r.andThen λa w'=>Result.ok a.toArray w') k2
   have hr:(results fn a'.tmps).run P aD.w=.ok (if h:a7.toArray.size=1 then a7.toArray[0] else .tuple a7.toArray) aD.w:=by
    unfold results;rw[Sem.run_bind];exact congrArg (λr=>Result.andThen r λ(a:Array Value) w'=>(pure (if h:a.size=1 then a[0] else Value.tuple a):Sem Value).run P w') hm
   rw[hr]
   match vs,a7,k3,k5 with
   |[],[],_,k5=>exact⟨_,rfl,.bO _ _ rfl (λj x hj=>by simp at hj)⟩
   |[v],[cv],_,k5=>exact⟨cv,Jd,by simpa [dK] using k5 0 v rfl⟩
   |v::v'::vs,cv::ny::a7,k3,k5 =>
    refine⟨.tuple (cv::ny::a7).toArray,Jd,.bO _ _ (by simpa using k3) (λj x hj=>?_)⟩;have:=k5 j x hj;simpa [aA,eN] using this
  obtain⟨v,sd,oW⟩:=eB;obtain⟨iw,e1,e2,e3,e4⟩:=iu.select ak snap bg r1 r2 r3 r4 (λk=>[res].getD k .undef) #[v] (λk=>by
   cases k with
   |zero=>exact .inr ⟨_,r7,by simpa using oW⟩
   |succ k=>left;simp)
  exact⟨v,sd,res,bg,v,iw,Fm,rfl,e1,e2,e3,gH.select r5 r2 r6 e1 e4⟩
 cases e with
 |normal=>exact fin _ h1 (λ_ h=>h)
 |ret=>exact fin _ h1 (λ_ h=>h)
 |exit id=>exact h1.elim
 |goto l=>exact h1.elim
 |panic c=>exact h1.elim
 |outgrown=>exact h1.elim
theorem ez.aF {f:FuncId} {fn:Func} {c:Code} {args:List AV} {aa:List Ob} {gk:AV -> List Ob -> Prop} (N k:Nat) (rs:List ResultVar) (hf:P.funcs[f]?=some fn) (h:W P N k c (fJ P k rs gk) ⟨fun k=>args.getD k .undef,aa⟩) (hb:fn.body=some c:=by rfl) (oV:(fn.name=="runtime.NumGoroutine")=false:=by rfl) (hN:fn.ntmps=N:=by rfl) (zE:fn.results.toList=rs:=by rfl) (hk:aa.length=k:=by rfl) (hl:args.length<=N:=by simp):ez P f args aa gk:=by
 subst hN;subst zE;subst hk;exact ez.Fv hf hb oV hl h
def ma(P:Program)(g:FuncId)(args:List AV)(dst:Option Tmp)(K:St->Prop)(σ:St):Prop:=Fi P g args σ λv σ'=>K (σ'.put dst v)
def sj(P:Program)(o:Oper)(K:St->Prop)(σ:St):Prop :=
 o.guard=none /\
 match o.op with
 |.call { callee:=.value f,args,.. } =>
  match ev σ f with
  |.fn g aT=>ma P g (args.toList.map (ev σ)++aT) o.dst K σ
  |_=>False
 |_=>False
def F3{os:List Ob}{γ0:Cx}{o:Oper}{K:St->Prop}(h:sj P o K σ){a:Act}{w:World}(aR:gl N os γ0 σ a w)(hd:∀ d,o.dst=some d->d<N){Q:Exit->Act->World->Prop}{next:Act->World->Prop}(hn:∀ σ' a' w',K σ'->gl N os γ0 σ' a' w'->next a' w'):o.wp P a w next Q:=by
 obtain⟨iN,a6,γ,rfl,ha,hs,hf⟩:=aR;have qK:∀ d,o.dst=some d->d<a.tmps.size:=λd h=>by rw[a6];exact hd d h
 obtain⟨_,h⟩:=h;split at h
 ·rename_i f args eY dR;split at h
  ·rename_i g aT he;have dE:=sc hs ha f;rw[he]at dE;obtain⟨a7,a9,jX,qL⟩:=dE.K6;have lZ:∀ (j:Nat) d,(args.toList.map (ev σ)++aT)[j]?=some d->az σ.aa γ.w γ.Z γ.blk d (((args.map a.eval)++a7).getD j Go.undef):=by
    intro j d hj;simp only[eN];rcases eh j args.size with bq|lE
    ·rw[cd (by simpa using bq)]at hj;rw[Bx (by simpa using bq)];simp only[List.getElem?_map,Array.getElem?_toList,Array.getElem?_map]at hj ⊢;cases hx:args[j]? with
     |none=>simp[hx]at hj
     |some y=>simp[hx]at hj ⊢;subst hj;exact sc hs ha y
    ·rw[eu (by simpa using lE)]at hj;rw[Array.getElem?_append_right (by simpa using lE)];simp only[List.length_map,rK,Array.size_map]at hj ⊢;have:=qL _ d hj;simpa [eN] using this
   unfold ma at h;have jf:=KV hs (argv:=(args.map a.eval)++a7) (by simp[jX]) lZ h;obtain⟨ak,snap,cV,bJ,gk,⟨⟨fn,th,oV,uF⟩,_⟩,_⟩:=h;unfold Oper.wp;have hr:(execOp a.eval o).run P γ.w=.ok (.enter g ((args.map a.eval)++a7)) γ.w:=by
    have fV : ¬ fn.name = "runtime.NumGoroutine" := by simpa using oV
    have nx:¬ fn.body=none:=by intro e;rw[e]at uF;simp at uF
    simp[execOp,dR,resolve,a9,Deferred.ofValue,invoke,callFunc,th,fV,nx]
   rw[hr];show Calls P g _ _ _;refine jf.mono ?_;rintro e w'⟨cv,v,σ',aD,rfl,rfl,jK,iu,gH,hv,hK,uG⟩;refine hn _ _ _ hK ⟨by rw[put_defers];exact iN,by rw[rW];exact a6,{ aD with tmps:=(a.put o.dst cv).tmps },rfl,rfl,pH iu (by rw[jK,ha]) qK hv,?_⟩;rw[pI];exact(hf.trans gH).put _
  ·exact h.elim
 ·exact h.elim
def zY(ak:List Nat){f:FuncId}{args cV:List AV}{bJ:List Ob}{dst:Option Tmp}{K:St->Prop}{gk:AV->List Ob->Prop}(h:ez P f cV bJ gk)(cu:ak.Nodup)(ho:tc (bm σ.aa.length ak) σ.aa ak bJ)(ha:dS (aE σ (·∈ak) (bm σ.aa.length ak) false) cV args)(hK:∀ res cz,gk res cz->K (({ σ with aa:=dY σ.aa ak (cz.map (bH (bm σ.aa.length ak))) }:St).put dst (aX (bm σ.aa.length ak) res))):ma P f args dst K σ:=by
 obtain⟨h1,h2⟩:=ho.spec;obtain⟨h3,h4⟩:=ha.spec;exact⟨ak,false,cV,bJ,gk,h,⟨cu,h1,h2,h3,h4⟩,λres cz hp=>⟨Jd,hK res cz hp⟩⟩
end Go.Am
namespace Go.Am
variable {P:Program} {N n0:Nat} {σ:St} {Q:Exit->St->Prop}
def oX(P:Program)(ops:Array Oper)(qs:List Nat):Nat->List Oper->(St->Prop)->St->Prop
 |_,[],K,σ=>K σ
 |i,o::r,K,σ=>dN P ops (qs.contains i) o (oX P ops qs (i+1) r K) σ
def LH{ops:Array Oper}{qs:List Nat}{i:Nat}{K:St->Prop}:oX P ops qs i [] K σ=K σ:=by simp only[oX]
def Cy{ops:Array Oper}{qs:List Nat}{i:Nat}{o:Oper}{r:List Oper}{K:St->Prop}:oX P ops qs i (o::r) K σ=dN P ops (qs.contains i) o (oX P ops qs (i+1) r K) σ:=by simp only[oX]
def F4{ops:Array Oper}{qs:List Nat}{K:St->Prop}:∀ (l:List Oper) (i:Nat) (σ:St),ops.toList.drop i=l->oX P ops qs i l K σ->iP P ops qs (iQ (lU i l.length)) K σ
 |[],i,σ,_,h=>h
 |o::r,i,σ,hl,h=>by
  have hi:ops[i]?=some o:=by
   have:(ops.toList.drop i)[0]?=some o:=by rw[hl];rfl
   simpa using this
  have hr:ops.toList.drop (i+1)=r:=by
   have:=congrArg EB hl;simpa [EC] using this
  rw[dz,ue];show cQ P ops qs i (iP P ops qs (iQ (lU (i+1) r.length)) K) σ;unfold cQ;simp only[hi];have hm:∀ s,oX P ops qs (i+1) r K s->iP P ops qs (iQ (lU (i+1) r.length)) K s:=λs hs=>F4 r (i+1) s hr hs;exact zm hm h
def Cz(ops:Array Oper)(qs:List Nat):Bool:=(iQ (aN ops.size)).ok ops qs ops.size (vC ops.size false)
def LI{id:Nat}{ops:Array Oper}{y:Code}(qs:List Nat)(hm:P.follows .mixedOrders=true)(hd:fS N ops=true)(ht:Cz ops qs=true)(h:∀ K:St->Prop,(∀ s,W P N n0 y Q s->K s)->oX P ops qs 0 ops.toList K σ):
  W P N n0 (.seq (.region id ops true) y) Q σ :=
 JC qs _ hm hd ht λK hK=>by
  have:=F4 (P:=P) (ops:=ops) (qs:=qs) ops.toList 0 σ rfl (h K hK);rw[uf];simpa using this
def x9{id:Nat}{ops:Array Oper}(qs:List Nat)(hm:P.follows .mixedOrders=true)(hd:fS N ops=true)(ht:Cz ops qs=true)(h:∀ K:St->Prop,(∀ s,Q .normal s->K s)->oX P ops qs 0 ops.toList K σ):
  W P N n0 (.region id ops true) Q σ :=
 lg qs _ hm hd ht (by
  have:=F4 (P:=P) (ops:=ops) (qs:=qs) ops.toList 0 σ rfl (h _ (λ_ h=>h));rw[uf];simpa using this)
def bF{f:FuncId}{args:List AV}{dst:Option Tmp}{K:St->Prop}{res:AV}(h:an P f args [] res [])(ha:gF args=true)(hr:eO res=true)(hK:K (σ.put dst res)):E0 P f args dst K σ :=
 ⟨res,h,ha,hr,hK⟩
end Go.Am
namespace Go.Am
variable {P:Program} {N n0:Nat} {σ:St} {Q:Exit->St->Prop}
def bk.F5{σ:St}{γ:Cx}(h:bk σ γ){id:Nat}{cells cells':List AV}(ho:σ.aa[id]?=some (.var cells))(hl:cells'.length=cells.length)(hc:∀ (c:Nat) v v',cells[c]?=some v->cells'[c]?=some v'->∀ cv,az σ.aa γ.w γ.Z γ.blk v cv->az σ.aa γ.w γ.Z γ.blk v' cv):bk ⟨σ.env,σ.aa.set id (.var cells')⟩ γ:=by
 obtain⟨b,cap,cur,t,h1,h2,h3,h4⟩:=h.ei id _ ho;have:=h.write (ob':=.var cells') ho Jd (by simp[Ob.dP,hl]) h1 (w':=γ.w) h2 (λ_ _=>rfl) rfl ⟨rfl,by rw[h3,hl],λc v hv=>?_⟩
 ·exact this
 ·have bq:c<cells.length:=by rw[<- hl];exact(aM.1 hv).1
  exact hc c _ v (bT bq) hv _ (h4 c _ (bT bq))
def Fr.F5(os:List Ob)(γ:Cx){id:Nat}{cells cells':List AV}(ho:os[id]?=some (.var cells))(hl:cells'.length=cells.length):Fr os γ (os.set id (.var cells')) γ where
 lB:=rfl
 tape:=rfl
 output:=rfl
 size:=Nat.le_refl _
 aw:=λ_ _ _=>rfl
 z0:=λ_ h=>h
 z1:=λ_ h=>.inl h
 own:=by
  rintro b⟨i,o,c,⟨x,hx,eQ⟩,hb⟩;rw[bV]at hx;split at hx
  ·rename_i e;subst e;exact .inl ⟨id,o,c,⟨_,ho,Jd⟩,hb⟩
  ·exact .inl ⟨i,o,c,⟨x,hx,eQ⟩,hb⟩
 len:=Jd
 ki:=by
  rintro i hi⟨x,hx,eQ⟩;have hx0:=hx;rw[bV]at hx;split at hx
  ·rename_i e;subst e;exact⟨rfl,.var cells,.var cells',ho,by rw[bV];simp[hi],by simp[Ob.dP,hl]⟩
  ·exact⟨rfl,x,x,hx,hx0,Ob.jz eQ⟩
def aB.kN(id c sz:Nat){cells:List AV}(ho:σ.aa[id]?=some (.var cells))(hc:cells[c]?=some (.lit (.slice none 0 0)))(h0:0<sz):
  aB n0 σ ⟨σ.env,(σ.aa++[Ob.arr sz []]).set id (.var (cells.set c (.ref σ.aa.length sz 0 0)))⟩:=by
 intro os γ0 γ _ hs hf;have hp:=hs.we h0;have cP:id<σ.aa.length:=(aM.1 ho).1;have cL:(σ.aa++[Ob.arr sz []])[id]?=some (.var cells):=by rw[cd cP];exact ho
 refine⟨{ γ with blk:=cM γ.blk σ.aa.length none },rfl,rfl,?_,(hf.trans (Fr.we _ _ _)).trans (Fr.F5 _ _ cL (cells':=cells.set c (.ref σ.aa.length sz 0 0)) Jd)⟩;refine hp.F5 cL (cells':=cells.set c (.ref σ.aa.length sz 0 0)) Jd (λk v v' hv n7 cv hr=>?_);rw[bV]at n7;split at n7
 ·rename_i e;subst e;split at n7
  ·simp only[cT.injEq]at n7;subst n7;have hk:cells[c]?=some v:=hv;rw[hc]at hk;simp only[cT.injEq]at hk;subst hk;rw[hr.cH];exact .ll _ _ (List.getElem?_concat_length ..) (by simp[cM])
  ·simp at n7
 ·have hk:cells[k]?=some v':=n7;have bK:cells[k]?=some v:=hv;rw[bK]at hk;simp only[cT.injEq]at hk;subst hk;exact hr
def aB.sk(a id c sz:Nat){cells:List AV}{rows:List (List AV)}(ho:σ.aa[id]?=some (.var cells))(ha:σ.aa[a]?=some (.arr sz rows))(hc:cells[c]?=some (.ref a sz 0 rows.length))(hw:∀ row∈rows,row.length=sz)(kh:∀ row∈rows,∀ v∈row,(∃ x,v=.lit x)\/∃ s r,v=.tree s r):aB n0 σ ⟨σ.env,(σ.aa.set a .gone).set id (.var (cells.set c (.tree sz rows)))⟩:=by
 intro os γ0 γ _ hs hf;have zZ:a≠id:=by intro e;subst e;rw[ho]at ha;simp at ha
 have vQ:id<σ.aa.length:=(aM.1 ho).1;have gp:a<σ.aa.length:=(aM.1 ha).1
 let aD:Cx:={ γ with Z:=λb=>γ.Z b\/∃ o cap,γ.blk a=some (b,o,cap) }
 let dD:=(σ.aa.set a .gone).set id (.var (cells.set c (.tree sz rows)))
 have fD:∀ i,dD[i]?=if i=id then some (.var (cells.set c (.tree sz rows))) else if i=a then some .gone else σ.aa[i]?:=by
  intro i;show((σ.aa.set a .gone).set id _)[i]?=_;rw[bV,bV];by_cases h1:i=id
  ·subst h1;simp[vQ]
  ·by_cases h2:i=a
   ·subst h2;simp[Ne.symm h1,h1,gp]
   ·simp[Ne.symm h1,Ne.symm h2,h1,h2]
 have hR:∀ v cv,az σ.aa γ.w γ.Z γ.blk v cv->az dD aD.w aD.Z aD.blk v cv:=λv cv hv =>
  hv.mono (λb hb=>⟨.inl hb,rfl⟩) (λi o hi=>by
   rw[fD];by_cases h1:i=id
   ·subst h1;rw[ho]at hi;simp only[cT.injEq]at hi;subst hi;right;exact⟨rfl,_,by rw[if_pos rfl],by simp[Ob.dP]⟩
   ·rw[if_neg h1];by_cases h2:i=a
    ·left;rw[if_pos h2]
    ·rw[if_neg h2];by_cases hg:o=.gone
     ·subst hg;exact .inl hi
     ·exact .inr ⟨rfl,o,hi,Ob.jz hg⟩)
 have cp:∀ i,Live dD i->Live σ.aa i/\i≠a:=by
  rintro i⟨o,hi,hg⟩;rw[fD]at hi;split at hi
  ·rename_i h1;subst h1;exact⟨⟨_,ho,Jd⟩,Ne.symm zZ⟩
  ·split at hi
   ·simp at hi;exact absurd hi.symm hg
   ·rename_i h2;exact⟨⟨o,hi,hg⟩,h2⟩
 have m7:Live σ.aa a:=⟨_,ha,Jd⟩;refine⟨aD,rfl,rfl,⟨λk=>hR _ _ (hs.ax k),?_,λi j b o c o' c' hi hj=>hs.inj i j b o c o' c' (cp i hi).1 (cp j hj).1,?_,?_⟩,?_⟩
 ·intro i o hi;have hi':dD[i]?=some o:=hi;rw[fD]at hi';split at hi'
  ·rename_i h1;subst h1;simp only[cT.injEq]at hi';subst hi';obtain⟨b,cap,cur,t,h1,h2,h3,h4⟩:=hs.ei _ _ ho;refine⟨b,cap,cur,t,h1,h2,by simpa using h3,λk v hv=>?_⟩;rw[bV]at hv;split at hv
   ·rename_i e;subst e;split at hv
    ·simp only[cT.injEq]at hv;subst hv;have dE:b9 σ (λx=>x≠a) (.tree sz rows) (.ref a sz 0 rows.length):=b9.flat ha hw rfl Jd kh;exact .bS _ _ (dE.zj hs (γc:=aD) (λb hb=>.inl hb) rfl (λx b o cap cP _ hb=>.inr ⟨o,cap,by rw[show a=x by simpa using(Decidable.not_not.1 cP).symm];exact hb⟩) _ (h4 c _ hc))
    ·simp at hv
   ·exact hR _ _ (h4 k v hv)
  ·split at hi'
   ·simp only[cT.injEq]at hi';subst hi';trivial
   ·by_cases hg:o=.gone
    ·subst hg;trivial
    ·exact(hs.ei i o hi').mono hR rfl (λ_ _ _ _=>rfl)
 ·rintro b ⟨i,o,c',hi,hb⟩ (hz|⟨o',cap,cX⟩)
  ·exact hs.nz b ⟨i,o,c',(cp i hi).1,hb⟩ hz
  ·exact(cp i hi).2 (hs.inj i a b o c' o' cap (cp i hi).1 m7 hb cX)
 ·rintro b (hz|⟨o,cap,hb⟩)
  ·exact hs.gD b hz
  ·exact hs.blt m7 hb
 ·refine⟨hf.lB,hf.tape,hf.output,hf.size,hf.aw,λb hb=>.inl (hf.z0 b hb),?_,?_,by show os.length<=dD.length;simp[dD];exact hf.len,?_⟩
  ·rintro b (hz|⟨o,cap,hb⟩)
   ·exact hf.z1 b hz
   ·exact .inr (hf.own b ⟨a,o,cap,m7,hb⟩)
  ·rintro b ⟨i,o,c',hi,hb⟩;exact hf.own b ⟨i,o,c',(cp i hi).1,hb⟩
  ·intro i hi hl;obtain⟨h1,x,x',hx,cZ,hk⟩:=hf.ki i hi (cp i hl).1;have zI:=(cp i hl).2;have g6:Live dD i:=hl;obtain⟨o,dF,pG⟩:=g6;refine⟨h1,x,o,hx,dF,?_⟩;rw[fD]at dF;split at dF
   ·rename_i e;subst e;rw[ho]at cZ;simp only[cT.injEq]at cZ dF;subst cZ;subst dF;refine Ob.F0 hk (by simp[Ob.dP])
   ·rw[cZ]at dF;simp only[cT.injEq]at dF;subst dF;exact hk
end Go.Am
namespace Go.Am
variable {P:Program}
def uN(P:Program):List Field->Nat->Nat->Bool
 |[],o,n=>o==n
 |f::fs,o,n=>f.offset==o&&uN P fs (o+P.cellsOf f.type) n
def sm(P:Program):Nat->TypeId->Bool
 |0,_=>false
 |d+1,t =>
  match P.underlying t with
  |some (.int .i64)=>P.cellsOf t==1
  | some (.struct fs) => (P.info? t).isSome && !P.stoodInHeld t && uN P fs.toList 0 (P.cellsOf t) && fs.toList.all λf => f.name != "_" && sm P d f.type
  |_=>false
def sn(P:Program)(t:TypeId)(xs:List Int):Value :=
 match P.underlying t with
 |some (.struct _)=>.agg (xs.map (Value.int .i64)).toArray
 |_=>.int .i64 (xs.getD 0 0)
def LJ{as bs:List Int}{o c:Nat}(h:as.length=bs.length):as.drop o=bs.drop o↔(as.drop o).take c=(bs.drop o).take c/\as.drop (o+c)=bs.drop (o+c):=by
 constructor
 ·intro e;refine⟨by rw[e],?_⟩;rw[<- EK,<- EK,e]
 ·rintro⟨e1,e2⟩;rw[<- EK,<- EK]at e2;rw[<- EE c (as.drop o),<- EE c (bs.drop o),e1,e2]
def LK(w:World){d:Nat}{t:TypeId}(h:sm P d t=true){as:List Int}{o:Nat}(ho:o+P.cellsOf t<=as.length):
  (part t (as.map (Value.int .i64)).toArray o).run P w=.ok (sn P t ((as.drop o).take (P.cellsOf t))) w:=by
 cases d with
 |zero=>simp[sm]at h
 |succ d =>
  unfold sm at h;cases hu:P.underlying t with
  |none=>simp[hu]at h
  |some k =>
   rw[hu]at h;cases k<;>try(simp at h;done)
   case int q =>
    cases q<;>try(simp at h;done)
    have hc:P.cellsOf t=1:=by simpa using h
    rw[hc]at ho;have hx:((as.map (Value.int .i64)).toArray)[o]?=some (.int .i64 (as.getD o 0)):=by
     have:o<as.length:=I6;simp[this]
    simp only[part,isAgg,Sem.run_bind,run_underlying hu,Result.andThen_ok,Sem.run_pure,jy,if_false,Sem.run_ite,hx];have:o<as.length:=I6;simp[sn,hu,hc,this]
   case struct fs =>
    simp only[ba]at h;obtain⟨i,hi⟩:=Option.isSome_iff_exists.1 h.1.1.1;have hs:∀ w,(sizeOf t).run P w=.ok (P.cellsOf t) w:=λw=>by
     simp[sizeOf,typeInfo,Program.cellsOf,hi,run_program]
    simp only[part,isAgg,Sem.run_bind,run_underlying hu,Result.andThen_ok,Sem.run_pure,if_true,Sem.run_ite,hs];simp only[sn,hu];congr 2;simp[List.map_take,List.map_drop]
def LL{D d:Nat}(ih:∀ t,sm P d t=true->∀ (w:World) (as bs:List Int),as.length=P.cellsOf t->bs.length=P.cellsOf t->(Op.equalIn (D+d) t (sn P t as) (sn P t bs)).run P w=.ok (decide (as=bs)) w){as bs:List Int}(hl:as.length=bs.length):
  ∀ (fs : List Field) (o : Nat) (w : World), uN P fs o as.length = true -> (fs.all λf => f.name != "_" && sm P d f.type) = true ->
   o+(fs.map λf=>P.cellsOf f.type).sum=as.length->(Op.eqFields (D+d) (as.map (Value.int .i64)).toArray (bs.map (Value.int .i64)).toArray fs).run P w=.ok (decide (as.drop o=bs.drop o)) w
 |[],o,w,ht,_,hs=>by
  have:o=as.length:=by simpa [uN] using ht
  subst this;have:bs.drop as.length=[]:=List.drop_eq_nil_of_le I6;simp[Op.eqFields,this]
 |f::fs,o,w,ht,ha,hs=>by
  simp only[uN,ba,beq_iff_eq]at ht;obtain⟨rfl,ht⟩:=ht;simp only[Bv,ba,bne_iff_ne]at ha;simp only[dJ,List.sum_cons]at hs;have h1:=LK (as:=as) w ha.1.2 (o:=f.offset) I6;have h2:=LK (as:=bs) w ha.1.2 (o:=f.offset) I6;have h3:=ih f.type ha.1.2 w ((as.drop f.offset).take (P.cellsOf f.type)) ((bs.drop f.offset).take (P.cellsOf f.type)) aaZ aaZ;have h4:=LL ih hl fs (f.offset+P.cellsOf f.type) w ht ha.2 I6;simp only[Op.eqFields];rw[if_pos ha.1.1];simp only[Sem.run_bind,h1,h2,h3,Result.andThen_ok,Sem.run_ite,Sem.run_pure,h4];by_cases he:(as.drop f.offset).take (P.cellsOf f.type)=(bs.drop f.offset).take (P.cellsOf f.type)
  ·rw[decide_eq_true he];simp only[lA,jy,if_false];congr 1;rw[decide_eq_decide,LJ (o:=f.offset) (c:=P.cellsOf f.type) hl];simp[he]
  ·rw[decide_eq_false he];simp only[m4,if_true];congr 1;rw[eq_comm,decide_eq_false_iff_not,LJ (o:=f.offset) (c:=P.cellsOf f.type) hl];exact λh=>he h.1
def LM:∀ (fs:List Field) (o n:Nat),uN P fs o n=true->o+(fs.map λf=>P.cellsOf f.type).sum=n
 |[],o,n,h=>by simpa [uN] using h
 |f::fs,o,n,h=>by
  simp only[uN,ba,beq_iff_eq]at h;have:=LM fs _ n h.2;simp only[dJ,List.sum_cons];omega
def LN(D:Nat):∀ (d:Nat) (t:TypeId),sm P d t=true->∀ (w:World) (as bs:List Int),as.length=P.cellsOf t->bs.length=P.cellsOf t->(Op.equalIn (D+d) t (sn P t as) (sn P t bs)).run P w=.ok (decide (as=bs)) w
 |0,t,h=>by simp[sm]at h
 |d+1,t,h=>by
  intro w as bs ha hb;unfold sm at h;cases hu:P.underlying t with
  |none=>simp[hu]at h
  |some k =>
   rw[hu]at h;cases k<;>try(simp at h;done)
   case int q =>
    cases q<;>try(simp at h;done)
    have hc:P.cellsOf t=1:=by simpa using h
    rw[hc]at ha hb
    match as,bs,ha,hb with
    |[a],[b],_,_ =>
     simp only[sn,hu,fQ];rw[show D+(d+1)=(D+d)+1 from rfl,run_equalIn_int w (D+d) t .i64 .i64 a b hu];congr 1;rw[my];simp
   case struct fs =>
    simp only[ba,jW]at h;have hf:P.fieldsOf t=fs:=by simp[Program.fieldsOf,hu]
    simp only[sn,hu];rw[show D+(d+1)=(D+d)+1 from rfl,run_equalIn_struct w (D+d) t _ _ (by rw[hf];exact hu) h.1.1.2,hf];have:=LL (D:=D) (LN D d) (as:=as) (bs:=bs) I6 fs.toList 0 w (by rw[ha];exact h.1.2) h.2 (by rw[ha];exact LM _ _ _ h.1.2);simpa using this
def F6(P:Program)(d:Nat)(t:TypeId)(n:Nat):Bool :=
 (match P.underlying t with|some (.struct _)=>true|_=>false)&&decide (d<=10000)&&sm P d t&&(P.cellsOf t==n)
def uD.of{t:TypeId}(d:Nat){n:Nat}(h:F6 P d t n=true):uD P t n:=by
 intro w as bs ha hb;simp only[F6,ba,decide_eq_true_eq,beq_iff_eq]at h;obtain⟨⟨⟨h1,hd⟩,h2⟩,h3⟩:=h;have:=LN (10000-d) d t h2 w as bs I6 I6;rw[Nat.sub_add_cancel hd]at this;cases hu:P.underlying t with
 |none=>rw[hu]at h1;simp at h1
 |some k =>
  cases k<;>rw[hu]at h1<;>try(simp at h1;done)
  simpa only[sn,hu] using this
end Go.Am
namespace Go.Am
variable {P:Program} {N n0:Nat} {σ:St} {Q:Exit->St->Prop}
def qV(o:Oper):Bool :=
 match o.op with
 |.call c=>match c.callee with
  |.value _=>true
  |_=>false
 |_=>false
def ya(ops:Array Oper):List Nat:=(aN ops.size).filter λi=>match ops[i]? with|some o=>qV o|none=>false
def pV(P:Program)(ops:Array Oper):List Oper->(St->Prop)->St->Prop
 |[],K,σ=>K σ
 |o::r,K,σ=>dN P ops (qV o) o (pV P ops r K) σ
def LP{ops:Array Oper}{K:St->Prop}:pV P ops [] K σ=K σ:=by simp only[pV]
def F7{ops:Array Oper}{o:Oper}{r:List Oper}{K:St->Prop}:pV P ops (o::r) K σ=dN P ops (qV o) o (pV P ops r K) σ:=by simp only[pV]
def Yc{ops:Array Oper}{i:Nat}{o:Oper}(h:ops[i]?=some o):(ya ops).contains i=qV o:=by
 have hi:i<ops.size:=(nZ.1 h).1;rw[my,sV];simp only[ya,mz,lz,hi,true_and,h]
def F8{ops:Array Oper}{K:St->Prop}:∀ (l:List Oper) (i:Nat) (σ:St),ops.toList.drop i=l->pV P ops l K σ->oX P ops (ya ops) i l K σ
 |[],i,σ,_,h=>h
 |o::r,i,σ,hl,h=>by
  have hi:ops[i]?=some o:=by
   have:(ops.toList.drop i)[0]?=some o:=by rw[hl];rfl
   simpa using this
  have hr:ops.toList.drop (i+1)=r:=by
   have:=congrArg EB hl;simpa [EC] using this
  rw[Cy,Yc hi];rw[F7]at h;exact zm (λs hs=>F8 r (i+1) s hr hs) h
def CA(ops:Array Oper):Bool:=Cz ops (ya ops)
def Yd{id:Nat}{ops:Array Oper}{y:Code}(hm:P.follows .mixedOrders=true)(hd:fS N ops=true)(ht:CA ops=true)(h:∀ K:St->Prop,(∀ s,W P N n0 y Q s->K s)->pV P ops ops.toList K σ):
  W P N n0 (.seq (.region id ops true) y) Q σ :=
 LI (ya ops) hm hd ht λK hK=>F8 ops.toList 0 σ rfl (h K hK)
def Ye{id:Nat}{ops:Array Oper}(hm:P.follows .mixedOrders=true)(hd:fS N ops=true)(ht:CA ops=true)(h:∀ K:St->Prop,(∀ s,Q .normal s->K s)->pV P ops ops.toList K σ):
  W P N n0 (.region id ops true) Q σ :=
 x9 (ya ops) hm hd ht λK hK=>F8 ops.toList 0 σ rfl (h K hK)
def tw:List Oper->Bool
 |[]=>false
 |o::r=>qV o||tw r
def yb(ops:Array Oper):List Nat:=(aN ops.size).filter λi=>match ops[i]? with|some o=>qV o&&tw (ops.toList.drop (i+1))|none=>false
def pW(P:Program)(ops:Array Oper):List Oper->(St->Prop)->St->Prop
 |[],K,σ=>K σ
 |o::r,K,σ=>dN P ops (qV o&&tw r) o (pW P ops r K) σ
def LQ{ops:Array Oper}{K:St->Prop}:pW P ops [] K σ=K σ:=by simp only[pW]
def F9{ops:Array Oper}{o:Oper}{r:List Oper}{K:St->Prop}:pW P ops (o::r) K σ=dN P ops (qV o&&tw r) o (pW P ops r K) σ:=by simp only[pW]
def Yf{ops:Array Oper}{i:Nat}{o:Oper}{r:List Oper}(h:ops[i]?=some o)(hr:ops.toList.drop (i+1)=r):(yb ops).contains i=(qV o&&tw r):=by
 have hi:i<ops.size:=(nZ.1 h).1;rw[my,sV];simp only[yb,mz,lz,hi,true_and,h,hr]
def Ga{ops:Array Oper}{K:St->Prop}:∀ (l:List Oper) (i:Nat) (σ:St),ops.toList.drop i=l->pW P ops l K σ->oX P ops (yb ops) i l K σ
 |[],i,σ,_,h=>h
 |o::r,i,σ,hl,h=>by
  have hi:ops[i]?=some o:=by
   have:(ops.toList.drop i)[0]?=some o:=by rw[hl];rfl
   simpa using this
  have hr:ops.toList.drop (i+1)=r:=by
   have:=congrArg EB hl;simpa [EC] using this
  rw[Cy,Yf hi hr];rw[F9]at h;exact zm (λs hs=>Ga r (i+1) s hr hs) h
def CE(ops:Array Oper):Bool:=Cz ops (yb ops)
def Yg{id:Nat}{ops:Array Oper}{y:Code}(hm:P.follows .mixedOrders=true)(hd:fS N ops=true)(ht:CE ops=true)(h:∀ K:St->Prop,(∀ s,W P N n0 y Q s->K s)->pW P ops ops.toList K σ):
  W P N n0 (.seq (.region id ops true) y) Q σ :=
 LI (yb ops) hm hd ht λK hK=>Ga ops.toList 0 σ rfl (h K hK)
def Yh{id:Nat}{ops:Array Oper}(hm:P.follows .mixedOrders=true)(hd:fS N ops=true)(ht:CE ops=true)(h:∀ K:St->Prop,(∀ s,Q .normal s->K s)->pW P ops ops.toList K σ):
  W P N n0 (.region id ops true) Q σ :=
 x9 (yb ops) hm hd ht λK hK=>Ga ops.toList 0 σ rfl (h K hK)
def an.empty{f:FuncId}{sz:Nat}{pre post:List AV}{aa bg:List Ob}{res:AV}(h:∀ a cap,an P f (pre++.lit (.slice a 0 cap)::post) aa res bg):an P f (pre++.tree sz []::post) aa res bg:=by
 refine⟨(h none 0).1,λγ a6 hs=>?_⟩;have jd:=hs.ax pre.length;have he:(pre++.tree sz []::post).getD pre.length .undef=.tree sz []:=Jd;rw[show(⟨λk=>(pre++AV.tree sz []::post).getD k .undef,aa⟩:St).env pre.length=.tree sz [] from he]at jd;obtain⟨a,cap,a9⟩:∃a cap,γ.tmps.getD pre.length Go.undef=.slice a 0 cap:=by
  generalize γ.tmps.getD pre.length Go.undef=cv at jd;have:=jd.v8;cases this with
  |nil _ cap a=>exact⟨a,cap,rfl⟩
  |tree _ _ b o cap f=>exact⟨_,cap,rfl⟩
 refine(h a cap).2 γ (by simpa using a6) ⟨λk=>?_,hs.ei,hs.inj,hs.nz,hs.gD⟩;by_cases hk:k=pre.length
 ·subst hk;show az aa γ.w γ.Z γ.blk ((pre++.lit (.slice a 0 cap)::post).getD pre.length .undef) _;rw[show(pre++AV.lit (.slice a 0 cap)::post).getD pre.length .undef=.lit (.slice a 0 cap) by simp,a9];exact .lit _
 ·have:=hs.ax k;show az aa γ.w γ.Z γ.blk ((pre++.lit (.slice a 0 cap)::post).getD k .undef) _;have e:(pre++AV.lit (.slice a 0 cap)::post).getD k .undef=(pre++AV.tree sz []::post).getD k .undef:=by
   simp only[aA];congr 1;rcases eh k pre.length with h'|h'
   ·rw[cd h',cd h']
   ·rw[eu h',eu h'];obtain⟨j,hj⟩:∃j,k-pre.length=j+1:=⟨k-pre.length-1,I6⟩;rw[hj];simp
  rw[e];exact this
def aB.CF(d sz:Nat){a:Option Addr}{cap:Nat}(h:σ.env d=.lit (.slice a 0 cap)):aB n0 σ ⟨iv σ.env d (.tree sz []),σ.aa⟩:=by
 intro os γ0 γ _ hs hf;refine⟨γ,rfl,rfl,⟨λk=>?_,hs.ei,hs.inj,hs.nz,hs.gD⟩,hf⟩;show az σ.aa γ.w γ.Z γ.blk (iv σ.env d (.tree sz []) k) _;by_cases hk:k=d
 ·subst hk;have:=hs.ax k;rw[h]at this;rw[WV,this.cH];exact .bS _ _ (.nil sz cap a)
 ·rw[iv,if_neg hk];exact hs.ax k
end Go.Am
namespace Go.Am
def CG(k:IntKind)(n:Int):dM (.int k n)=.lit (.int k n):=by first|rfl|(cases b<;>rfl)|(simp only[dM];done)|(unfold eZ;split<;>simp_all)
def CH(b:Bool):dM (.bool b)=.lit (.bool b):=by first|rfl|(cases b<;>rfl)|(simp only[dM];done)|(unfold eZ;split<;>simp_all)
def CJ(a:Option Addr)(n c:Nat):dM (.slice a n c)=.lit (.slice a n c):=by first|rfl|(cases b<;>rfl)|(simp only[dM];done)|(unfold eZ;split<;>simp_all)
def CK(s:ByteArray):dM (.string s)=.lit (.string s):=by first|rfl|(cases b<;>rfl)|(simp only[dM];done)|(unfold eZ;split<;>simp_all)
def CL(s:Array Value):dM (.tuple s)=.lit (.tuple s):=by first|rfl|(cases b<;>rfl)|(simp only[dM];done)|(unfold eZ;split<;>simp_all)
def LR(ρ:Nat->Nat)(v:Value):aX ρ (.lit v)=.lit v:=by first|rfl|(cases b<;>rfl)|(simp only[dM];done)|(unfold eZ;split<;>simp_all)
def LS(ρ:Nat->Nat)(s:Nat)(r:List (List AV)):aX ρ (.tree s r)=.tree s r:=by first|rfl|(cases b<;>rfl)|(simp only[dM];done)|(unfold eZ;split<;>simp_all)
def LU(ρ:Nat->Nat)(r:List AV):aX ρ (.cq r)=.cq r:=by first|rfl|(cases b<;>rfl)|(simp only[dM];done)|(unfold eZ;split<;>simp_all)
def LV(ρ:Nat->Nat):aX ρ .undef=.undef:=by first|rfl|(cases b<;>rfl)|(simp only[dM];done)|(unfold eZ;split<;>simp_all)
def LW(v:Value):cellsOf (.lit v)=[.lit v]:=by first|rfl|(cases b<;>rfl)|(simp only[dM];done)|(unfold eZ;split<;>simp_all)
def LX(s:Nat)(r:List (List AV)):cellsOf (.tree s r)=[.tree s r]:=by first|rfl|(cases b<;>rfl)|(simp only[dM];done)|(unfold eZ;split<;>simp_all)
def LY(r:List AV):cellsOf (.cq r)=[.cq r]:=by first|rfl|(cases b<;>rfl)|(simp only[dM];done)|(unfold eZ;split<;>simp_all)
def LZ(a b c d:Nat):cellsOf (.ref a b c d)=[.ref a b c d]:=by first|rfl|(cases b<;>rfl)|(simp only[dM];done)|(unfold eZ;split<;>simp_all)
def L0(a b c:Nat):cellsOf (.ptr a b c)=[.ptr a b c]:=by first|rfl|(cases b<;>rfl)|(simp only[dM];done)|(unfold eZ;split<;>simp_all)
def L1(id:Nat):cellsOf (.fT id)=[.fT id]:=rfl
def L3(t:TypeId)(v:AV):cellsOf (.gm t v)=[.gm t v]:=rfl
def L4(f:FuncId)(l:List AV):cellsOf (.fn f l)=[.fn f l]:=by first|rfl|(cases b<;>rfl)|(simp only[dM];done)|(unfold eZ;split<;>simp_all)
def L5(t:Bool)(s:Array Value)(b:AV):eZ t (.lit (.tuple s)) b=if t=true then .lit (.tuple s) else b:=by first|rfl|(cases b<;>rfl)|(simp only[dM];done)|(unfold eZ;split<;>simp_all)
def L6(t:Bool)(s:Array Value)(b:AV):eZ t b (.lit (.tuple s))=if t=true then b else .lit (.tuple s):=by first|rfl|(cases b<;>rfl)|(simp only[dM];done)|(unfold eZ;split<;>simp_all)
def L7(t:Bool)(s u:List AV):eZ t (.agg s) (.agg u)=if t=true then .agg s else .agg u:=by first|rfl|(cases b<;>rfl)|(simp only[dM];done)|(unfold eZ;split<;>simp_all)
def L8(l:List AV):b7 (.agg l)=false:=by first|rfl|(cases b<;>rfl)|(simp only[dM];done)|(unfold eZ;split<;>simp_all)
def L9(l:List AV):b7 (.bO l)=false:=by first|rfl|(cases b<;>rfl)|(simp only[dM];done)|(unfold eZ;split<;>simp_all)
def Ma  : b7 .undef=false:=by first|rfl|(cases b<;>rfl)|(simp only[dM];done)|(unfold eZ;split<;>simp_all)
def Mb(k:IntKind)(n:Int):Value.oneCell' (.int k n)=true:=by first|rfl|(cases b<;>rfl)|(simp only[dM];done)|(unfold eZ;split<;>simp_all)
def Mc(b:Bool):Value.oneCell' (.bool b)=true:=by first|rfl|(cases b<;>rfl)|(simp only[dM];done)|(unfold eZ;split<;>simp_all)
def Md(a:Option Addr)(n c:Nat):Value.oneCell' (.slice a n c)=true:=by first|rfl|(cases b<;>rfl)|(simp only[dM];done)|(unfold eZ;split<;>simp_all)
def Me(s:ByteArray):Value.oneCell' (.string s)=true:=by first|rfl|(cases b<;>rfl)|(simp only[dM];done)|(unfold eZ;split<;>simp_all)
def Mf(a:Option Addr):Value.oneCell' (.pointer a)=true:=by first|rfl|(cases b<;>rfl)|(simp only[dM];done)|(unfold eZ;split<;>simp_all)
def Mg(a:Option Nat):Value.oneCell' (.map a)=true:=by first|rfl|(cases b<;>rfl)|(simp only[dM];done)|(unfold eZ;split<;>simp_all)
def Pc:=abK @xE.eq_1 @xE.eq_2 @uB.eq_1 @uB.eq_2 @xF.eq_1 @xF.eq_2 @qE.eq_1 (abK @qE.eq_2 @qE.eq_3 @Fa.eq_1 @Fe.eq_1 @fG.eq_1 @fG.eq_2 @fG.eq_3 (abK @fG.eq_4 @fG.eq_5 @fG.eq_6 @fG.eq_7 @fG.eq_8 @fG.eq_9 @fG.eq_10 (abm @fG.eq_11 @fG.eq_12 @fG.eq_13 @ld.eq_1 @dN.eq_1)))
def Sc:=abK @ev.eq_1 @ev.eq_2 @ev.eq_3 @ev.eq_4 @dM.eq_1 @St.put.eq_1 @St.put.eq_2 (abK @rZ.eq_1 @rZ.eq_2 @r8.eq_1 @r8.eq_2 @eZ.eq_1 @iQ.eq_1 @iQ.eq_2 (abK @dY.eq_1 @dY.eq_2 @aX.eq_1 @aX.eq_2 @aX.eq_3 @aX.eq_4 @aX.eq_5 (abK @aX.eq_6 @nh.eq_1 @nh.eq_2 @bm.eq_1 @rowOf.eq_1 @mC.eq_1 @mF.eq_1 (abK @mF.eq_2 @oR.eq_1 @oR.eq_2 @cellsOf.eq_1 @setCells.eq_1 @setCells.eq_2 @lj.eq_1 (abK @lj.eq_2 @lk.eq_1 @lk.eq_2 @b7.eq_1 @b7.eq_2 @b7.eq_3 @b7.eq_4 (abK @b7.eq_5 @b7.eq_6 @Ty.isAgg.eq_1 @Value.oneCell'.eq_1 @Value.oneCell'.eq_2 @qV.eq_1 @tw.eq_1 (abK @tw.eq_2 @av.eq_1 @cw.eq_1 @bD.eq_1 @bu.eq_1 @gL.eq_1 @aK.eq_1 (abK @bz.eq_1 @nk.eq_1 @nk.eq_2 @Cy @LH @F7 @LP (abK @F9 @LQ @iq @lY @CG @CH @CJ (abK @CK @CL @LR @LS @LU @LV @LW (abK @LX @LY @LZ @L0 @L4 @L5 @L6 (abK @L7 @L8 @L9 @Ma @Mb @Mc @Md (abK @Me @Mf @Mg @b7.eq_7 @L3 @J7 @Kx (abK @Ky @Fb.eq_1 @m9.eq_1 @m9.eq_2 @aX.eq_7 @b7.eq_8 @L1 (abK @Kr @Ks @Kt @Kw @Ku @Kv @J0 (abl @kK.eq_1 @keyOf.eq_1 @keyOf.eq_2 @jA.eq_1))))))))))))))))
def Lc:=abK @ev.eq_1 @ev.eq_2 @ev.eq_3 @ev.eq_4 @dM.eq_1 @St.put.eq_1 @St.put.eq_2 (abm @CG @CH @CJ @CK @CL)
def eG{P:Program}{N n0:Nat}(id:Nat){ops:Array Oper}{d:Bool}{y:Code}{Q:Exit->St->Prop}{σ:St}(h:W P N n0 (.seq (.region id ops d) y) Q σ):W P N n0 (.seq (.region id ops d) y) Q σ:=h
def eH{P:Program}{N n0:Nat}(id:Nat){ops:Array Oper}{d:Bool}{Q:Exit->St->Prop}{σ:St}(h:W P N n0 (.region id ops d) Q σ):W P N n0 (.region id ops d) Q σ:=h
end Go.Am
namespace Go.Am
variable {P:Program} {N n0:Nat} {σ:St}
def uO:Ob->Bool
 |.gone=>false
 |.var cs=>gF cs
 |.arr _ rows=>rows.all gF
 |.mp _ _=>false
def Mh{ρ:Nat->Nat}{o:Ob}(h:uO o=true):bH ρ o=o:=by
 cases o with
 |gone=>simp[uO]at h
 |var cs =>
  have:=xC ρ cs h;rw[s9]at this;simp[bH,this]
 |arr sz rows=>exact zq (by simpa [uO,gz] using h)
 |mp ag L=>simp[uO]at h
def Mi(hd:Nat)(c a:AV):Prop:=(a=c/\eO c=true)\/(c=.ptr 0 0 0/\a=.ptr hd 0 0)
def z4(P:Program)(hd:Nat)(g:FuncId)(args:List AV)(dst:Option Tmp)(K:St->Prop)(σ:St):Prop :=
 ∃ cV D res D',an P g cV [D] res [D']/\uO D=true/\uO D'=true/\σ.aa[hd]?=some D/\eO res=true/\dS (Mi hd) cV args/\K ((⟨σ.env,σ.aa.set hd D'⟩:St).put dst res)
def Yi{hd:Nat}{g:FuncId}{args:List AV}{dst:Option Tmp}{K:St->Prop}(h:z4 P hd g args dst K σ):oQ P g args dst K σ:=by
 obtain⟨cV,D,res,D',h1,h2,h3,h4,h5,h6,h7⟩:=h;obtain⟨h8,h9⟩:=h6.spec;have Yj:bm σ.aa.length [hd] 0=hd:=by simp[bm]
 refine⟨[hd],false,cV,[D],res,[D'],h1,⟨Jd,rfl,λj o hj=>?_,h8,λj c d hc qK=>?_,Jd⟩,?_⟩
 ·cases j with
  |zero=>simp at hj;subst hj;simp[Mh h2,h4]
  |succ j=>simp at hj
 ·rcases h9 j c d hc qK with⟨rfl,hn⟩|⟨rfl,rfl⟩
  ·exact .pure hn
  ·exact .eq (by simp[aX,Yj])
 ·have e:dY σ.aa [hd] ([D'].map (bH (bm σ.aa.length [hd])))=σ.aa.set hd D':=by simp[dY,Mh h3]
  show K (({ σ with aa:=dY σ.aa [hd] ([D'].map (bH (bm σ.aa.length [hd]))) }:St).put dst (aX (bm σ.aa.length [hd]) res));rw[e,vW _ _ h5];exact h7
def uP(hd:Nat)(P:Program)(o:Oper)(σ:St)(K:St->Prop):Prop :=
 match o.op with
 |.call { callee:=.value f,args,.. } =>
  match ev σ f with
  |.fn g aT=>z4 P hd g (args.toList.map (ev σ)++aT) o.dst K σ
  |_=>False
 |_=>False
def Yk{hd:Nat}{o:Oper}{K:St->Prop}(h:uP hd P o σ K):a8 P o σ K:=by
 unfold uP at h;unfold a8;split at h
 ·rename_i f args eY dR;simp only[dR];split at h
  ·rename_i g aT he;simp only[he];exact Yi h
  ·exact h.elim
 ·exact h.elim
def mK(hd:Nat):AV->Bool
 |.ptr id _ _=>id != hd
 |.ref id _ _ _=>id != hd
 |.fT id=>id != hd
 |_=>true
def pX(hd:Nat)(σ:St):List Operand->Bool
 |[]=>true
 |x::l=>mK hd (ev σ x)&&pX hd σ l
def dU(hd:Nat)(q:Bool)(o:Oper)(σ:St):Bool:=q||cls o.op==0||decide (3<=cls o.op)||pX hd σ o.op.operands.toList
def Mj{hd:Nat}:∀ {l:List Operand},pX hd σ l=true->∀ x∈l,qM (ev σ x)≠some hd
 |[],_,x,hx=>by simp at hx
 |y::l,h,x,hx=>by
  simp only[pX,ba]at h;rcases b8.1 hx with rfl|hx
  ·intro e;have h1:=h.1;cases hv:ev σ x<;>rw[hv]at e h1<;>simp[qM,mK]at e h1
   ·exact h1 e
   ·exact h1 e
   ·exact h1 e
  ·exact Mj h.2 x hx
def Gb{hd:Nat}{σ2:St}:∀ {l:List Operand},(∀ x∈l,ev σ2 x=ev σ x)->pX hd σ2 l=pX hd σ l
 |[],_=>rfl
 |y::l,h=>by
  simp only[pX];rw[h y Jd,Gb λx hx=>h x (by simp[hx])]
def jN(P:Program)(ops:Array Oper)(hd:Nat)(q dc:Bool)(o:Oper)(K:St->Prop)(σ:St):Prop :=
 match dc with
 |true=>o.guard=none/\uP hd P o σ K
 |false=>dU hd q o σ=true/\dN P ops q o K σ
def gu(q dc:Bool)(o:Oper):Nat:=if dc then 6 else fj q o
def z5(hd c:Nat)(a b:List Ob):Prop:=if c=6 then ∀ id,id≠hd->b[id]?=a[id]? else jY c a b
def Yl{N:Nat}{os:List Ob}{γ0:Cx}{ops:Array Oper}{hh:Nat}(hd:∀ o∈ops.toList,∀ d,o.dst=some d->d<N){q dc:Bool}{i:Nat}{o:Oper}(hi:ops[i]?=some o){σ:St}{K:St->Prop}(h:jN P ops hh q dc o K σ){a:Act}{w:World}(aR:gl N os γ0 σ a w){Q:Exit->Act->World->Prop}{next:Act->World->Prop}(hn:∀ σ' a' w',K σ'->gl N os γ0 σ' a' w'->next a' w'):wpOp P ops Q i next a w:=by
 cases dc with
 |false=>exact Ju hd hi h.2 aR hn
 |true =>
  have cR:o∈ops.toList:=gf (by simpa using hi);unfold wpOp;simp only[hi];have hw:Region.wanted o (yielded ops a.tmps)=true:=by simp[Region.wanted,h.1]
  rw[if_pos hw];left;exact vR (Yk h.2) aR (hd o cR) hn
def CM{ops:Array Oper}{hh:Nat}{q dc:Bool}{o:Oper}{σ:St}{K:St->Prop}(hW:jN P ops hh q dc o K σ):
  ∃ v os,z5 hh (gu q dc o) σ.aa os/\K ((⟨σ.env,os⟩:St).put o.dst v)/\∀ (e2:Nat->AV) (K2:St->Prop),(∀ t∈o.looksAt ops,e2 t=σ.env t)->K2 ((⟨e2,os⟩:St).put o.dst v)->jN P ops hh q dc o K2 ⟨e2,σ.aa⟩:=by
 cases dc with
 |false =>
  obtain⟨hc,hW⟩:=hW;obtain⟨v,os,h1,h2,h3⟩:=zk hW;refine⟨v,os,?_,h2,λe2 K2 hl hK=>⟨?_,h3 e2 K2 hl hK⟩⟩
  ·unfold z5 gu;simp only[jy,if_false];rw[if_neg]
   ·exact h1
   ·unfold fj;split
    ·omega
    ·unfold cls;split<;>omega
  ·unfold dU at hc ⊢;rw[Gb (σ:=σ) (s6 hl)];exact hc
 |true =>
  obtain⟨hg,hW⟩:=hW;unfold uP at hW;split at hW
  ·rename_i f args eY dR;split at hW
   ·rename_i g aT he;obtain⟨cV,D,res,D',h1,h2,h3,h4,h5,h6,h7⟩:=hW;refine⟨res,σ.aa.set hh D',?_,h7,λe2 K2 hl hK=>⟨hg,?_⟩⟩
    ·unfold z5 gu;simp only[if_true];intro id cP;rw[bV,if_neg (Ne.symm cP)]
    ·unfold uP;simp only[dR];have hx:=s6 (os:=σ.aa) hl;have e1:ev ⟨e2,σ.aa⟩ f=.fn g aT:=by rw[<- he];exact hx f (by simp[dR,Op.operands,Call.operands])
     have e3:args.toList.map (ev ⟨e2,σ.aa⟩)=args.toList.map (ev σ):=kG λy hy=>hx y (by simp only[dR,Op.operands,Call.operands,xk,cj];exact .inr hy);simp only[e1,e3];exact⟨cV,D,res,D',h1,h2,h3,h4,h5,h6,hK⟩
   ·exact hW.elim
  ·exact hW.elim
def Ym{o:Oper}{σ:St}{K:St->Prop}(hc:cls o.op<=2)(hW:a8 P o σ K):
  ∃ v,K (σ.put o.dst v)/\∀ (σ2:St) (K2:St->Prop),(∀ x∈o.op.operands.toList,ev σ2 x=ev σ x)->(∀ x∈o.op.operands.toList,∀ id,qM (ev σ x)=some id->iO (cls o.op) σ.aa[id]? σ2.aa[id]?)->K2 (σ2.put o.dst v)->a8 P o σ2 K2:=by
 unfold a8 at hW ⊢;split at hW
 ·rename_i f args eY dR;rw[dR]at hc;simp[cls]at hc
 ·rename_i r m args eY dR;rw[dR]at hc;simp[cls]at hc
 ·rename_i df;obtain⟨v,h2,h3⟩:=Jw hc hW;refine⟨v,h2,λσ2 K2 hx ho hK=>?_⟩;exact h3 σ2 K2 hx (ho) hK
def Mk{q:Bool}{o:Oper}{σ:St}{K:St->Prop}(hc:fj q o<=2)(hW:kJ q P o σ K):
  ∃ v,K (σ.put o.dst v)/\∀ (σ2:St) (K2:St->Prop),(∀ x∈o.op.operands.toList,ev σ2 x=ev σ x)->(∀ x∈o.op.operands.toList,∀ id,qM (ev σ x)=some id->iO (fj q o) σ.aa[id]? σ2.aa[id]?)->K2 (σ2.put o.dst v)->kJ q P o σ2 K2:=by
 cases q with
 |false=>exact Ym hc hW
 |true =>
  unfold kJ at hW ⊢;simp only at hW ⊢;split at hW
  ·rename_i f args eY dR;simp only[dR];split at hW
   ·rename_i g aT he;obtain⟨res,h1,h2,h3,h4⟩:=hW;refine⟨res,h4,λσ2 K2 hx _ hK=>?_⟩;have e1:ev σ2 f=.fn g aT:=by rw[<- he];exact hx f (by simp[Op.operands,Call.operands])
    have e3:args.toList.map (ev σ2)=args.toList.map (ev σ):=kG λy hy=>hx y (by simp only[Op.operands,Call.operands,xk,cj];exact .inr hy);simp only[e1,e3];exact⟨res,h1,h2,h3,hK⟩
   ·exact hW.elim
  ·rename_i t a dR;obtain⟨x,h1,h2⟩:=E1 hW;refine⟨x,h1,λσ2 K2 hx _ hK=>?_⟩;rw[hx a (by simp[dR,Op.operands])];exact h2 _ K2 hK
  ·exact hW.elim
def Yn{ops:Array Oper}{q:Bool}{o:Oper}{σ:St}{K:St->Prop}(hc:fj q o<=2)(hW:dN P ops q o K σ):
  ∃ v,K (σ.put o.dst v)/\∀ (σ2:St) (K2:St->Prop),(∀ t∈o.looksAt ops,σ2.env t=σ.env t)->(∀ x∈o.op.operands.toList,∀ id,qM (ev σ x)=some id->iO (fj q o) σ.aa[id]? σ2.aa[id]?)->K2 (σ2.put o.dst v)->dN P ops q o K2 σ2:=by
 unfold dN at hW ⊢;cases hg:o.guard with
 |none =>
  simp only[hg]at hW;obtain⟨v,h2,h3⟩:=Mk hc hW;exact⟨v,h2,λσ2 K2 hl ho hK=>h3 σ2 K2 (s6 (e2:=σ2.env) (os:=σ2.aa) hl) ho hK⟩
 |some jw =>
  obtain⟨j,want⟩:=jw;simp only[hg]at hW;cases ee:(ops[j]?).bind (·.dst) with
  |none=>simp[ee]at hW
  |some d =>
   simp only[ee]at hW;split at hW
   ·rename_i b he;by_cases gR:b=want
    ·obtain⟨v,h2,h3⟩:=Mk hc (hW.1 gR);refine⟨v,h2,λσ2 K2 hl ho hK=>?_⟩;have:σ2.env d=.lit (.bool b):=by rw[hl d (s7 hg ee)];exact he
     simp only[ee,this];exact⟨λ_=>h3 σ2 K2 (s6 (e2:=σ2.env) (os:=σ2.aa) hl) ho hK,λhn=>absurd gR hn⟩
    ·refine⟨.lit (.tuple #[]),hW.2 gR,λσ2 K2 hl ho hK=>?_⟩;have:σ2.env d=.lit (.bool b):=by rw[hl d (s7 hg ee)];exact he
     simp only[ee,this];exact⟨λhn=>absurd hn gR,λ_=>hK⟩
   ·rename_i vs he;refine⟨.lit (.tuple #[]),hW.2,λσ2 K2 hl ho hK=>?_⟩;have:σ2.env d=.lit (.tuple vs):=by rw[hl d (s7 hg ee)];exact he
    simp only[ee,this];exact⟨hW.1,hK⟩
   ·exact hW.elim
def Ml{ops:Array Oper}{hh:Nat}{q dc:Bool}{o:Oper}{σ:St}{K:St->Prop}(hc:gu q dc o<=2)(hW:jN P ops hh q dc o K σ):
  ∃ v,K (σ.put o.dst v)/\∀ (σ2:St) (K2:St->Prop),(∀ t∈o.looksAt ops,σ2.env t=σ.env t)->(∀ (id:Nat),id≠hh->iO (gu q dc o) σ.aa[id]? σ2.aa[id]?)->K2 (σ2.put o.dst v)->jN P ops hh q dc o K2 σ2:=by
 cases dc with
 |true=>simp[gu]at hc
 |false =>
  obtain⟨hk,hW⟩:=hW;have jZ:fj q o<=2:=by simpa [gu] using hc
  obtain⟨v,h1,h2⟩:=Yn jZ hW;refine⟨v,h1,λσ2 K2 hl ho hK=>⟨?_,h2 σ2 K2 hl (λx hx id hp=>?_) hK⟩⟩
  ·unfold dU at hk ⊢;rw[Gb (σ:=σ) (s6 (e2:=σ2.env) (os:=σ2.aa) hl)];exact hk
  ·have cL:∀ id,id≠hh->iO (fj q o) σ.aa[id]? σ2.aa[id]?:=by simpa [gu] using ho
   by_cases h0:fj q o=0
   ·rw[h0];simp[iO]
   ·refine cL id λe=>?_;subst e;unfold fj at h0 jZ;split at h0
    ·omega
    ·rename_i hq;simp only[hq]at jZ;have yc:q=false:=by simpa using hq
     subst yc;unfold dU at hk;have xU:cls o.op<=2:=by simpa using jZ
     have h3:decide (3<=cls o.op)=false:=decide_eq_false I6;have h4:(cls o.op==0)=false:=by simpa using h0
     rw[h3,h4]at hk;simp only[mu]at hk;exact Mj hk x hx hp
def CN(ci ck:Nat):Bool:=xz ci ck||(decide (ci<=2)&&ck==6)
def Yo{hh ci ck:Nat}(h:(ci==0||(ci==1&&decide (ck<=4))||(ci==2&&decide (ck<=3))||(decide (ci<=2)&&ck==6))=true){a b:List Ob}(he:z5 hh ck a b)(id:Nat)(cP:id≠hh):iO ci a[id]? b[id]?:=by
 unfold z5 at he;split at he
 ·rename_i h6;subst h6;rw[he id cP];unfold iO;split
  ·trivial
  ·split
   ·intro o ho;exact⟨o,ho,vS o⟩
   ·intro o ho;exact ho
 ·rename_i h6;refine JB ?_ he id;have:(ck==6)=false:=by simpa using h6
  rw[this]at h;simpa using h
def Yp{ops:Array Oper}{hh:Nat}{qi qk di dk:Bool}{oi ok:Oper}(ha:oi.apart ops ok=true)(hi:gu qi di oi<=2)(hc:(gu qi di oi==0||(gu qi di oi==1&&decide (gu qk dk ok<=4))||(gu qi di oi==2&&decide (gu qk dk ok<=3))||(decide (gu qi di oi<=2)&&gu qk dk ok==6))=true){σ:St}{K:St->Prop}(h:jN P ops hh qi di oi (jN P ops hh qk dk ok K) σ):jN P ops hh qk dk ok (jN P ops hh qi di oi K) σ:=by
 obtain⟨a1,a2,a3⟩:=Oper.apart_spec ha;obtain⟨v,h1,run⟩:=Ml hi h;obtain⟨vk,os,vT,h2,zl⟩:=CM h1;rw[BN]at vT zl;refine zl σ.env _ (λt ht=>(uu λd hd e=>a1 d hd (e▸ht)).symm) ?_;refine run _ _ (λt ht=>?_) (λid cP=>?_) ?_
 ·rw[uu λd hd e=>a3 d hd (e▸ht)]
 ·rw[BN];exact Yo hc vT id cP
 ·rw[BO]at h2;rw[BM (λd hd e=>a2 d e hd)];exact h2
def Yq{ops:Array Oper}{hh:Nat}{qi qk di dk:Bool}{oi ok:Oper}(ha:oi.apart ops ok=true)(hk:gu qk dk ok=0){σ:St}{K:St->Prop}(h:jN P ops hh qi di oi (jN P ops hh qk dk ok K) σ):jN P ops hh qk dk ok (jN P ops hh qi di oi K) σ:=by
 obtain⟨a1,a2,a3⟩:=Oper.apart_spec ha;obtain⟨vi,os,vT,h1,run⟩:=CM h;obtain⟨vk,h2,E2⟩:=Ml I6 h1;refine E2 σ _ (λt ht=>(uu (σ:=⟨σ.env,os⟩) λd hd e=>a1 d hd (e▸ht)).symm) (λid _=>by rw[hk];simp[iO]) ?_;rw[JA];refine run _ _ (λt ht=>uu λd hd e=>a3 d hd (e▸ht)) ?_;rw[BO,BM (λd hd e=>a2 d e hd)];exact h2
def Yr{ops:Array Oper}{hh:Nat}{qi qk di dk:Bool}{oi ok:Oper}(ha:oi.apart ops ok=true)(hc:CN (gu qi di oi) (gu qk dk ok)=true){σ:St}{K:St->Prop}(h:jN P ops hh qi di oi (jN P ops hh qk dk ok K) σ):jN P ops hh qk dk ok (jN P ops hh qi di oi K) σ:=by
 by_cases hk:gu qk dk ok=0
 ·exact Yq ha hk h
 ·have jZ:(gu qi di oi==0||(gu qi di oi==1&&decide (gu qk dk ok<=4))||(gu qi di oi==2&&decide (gu qk dk ok<=3))||(decide (gu qi di oi<=2)&&gu qk dk ok==6))=true:=by
   simp only[CN,xz,ke,ba,beq_iff_eq,decide_eq_true_eq]at hc ⊢;rcases hc with(((h|h)|h)|h)|h
   ·exact .inl (.inl (.inl h))
   ·exact absurd h hk
   ·exact .inl (.inl (.inr h))
   ·exact .inl (.inr h)
   ·exact .inr h
  refine Yp ha ?_ jZ h;simp only[ke,ba,beq_iff_eq,decide_eq_true_eq]at jZ;omega
def fK(P:Program)(ops:Array Oper)(hh:Nat)(qs ds:List Nat)(i:Nat)(K:St->Prop)(σ:St):Prop :=
 match ops[i]? with
 |none=>K σ
 |some o=>jN P ops hh (qs.contains i) (ds.contains i) o K σ
def sq(P:Program)(ops:Array Oper)(hh:Nat)(qs ds:List Nat)(K:St->Prop):Nat->Array Bool->St->Prop
 |0,aL,σ=>Region.ready .any ops aL=[]/\K σ
 |n+1,aL,σ=>(Region.ready .any ops aL=[]->K σ)/\∀ i∈Region.ready .any ops aL,fK P ops hh qs ds i (sq P ops hh qs ds K n (aL.setIfInBounds i true)) σ
def Ys{ops:Array Oper}{hh:Nat}{q dc:Bool}{o:Oper}{σ:St}{K K2:St->Prop}(hk:∀ s,K s->K2 s)(h:jN P ops hh q dc o K σ):jN P ops hh q dc o K2 σ:=by
 obtain⟨v,os,_,h2,run⟩:=CM h;exact run σ.env K2 (λ_ _=>rfl) (hk _ h2)
def Yt{ops:Array Oper}{hh:Nat}{q dc:Bool}{o:Oper}{σ:St}{K:St->Prop}(h:jN P ops hh q dc o K σ):∃s,K s:=by
 obtain⟨v,os,_,h2,run⟩:=CM h;exact⟨_,h2⟩
def uQ{ops:Array Oper}{hh:Nat}{qs ds:List Nat}{i:Nat}{σ:St}{K K2:St->Prop}(hk:∀ s,K s->K2 s)(h:fK P ops hh qs ds i K σ):fK P ops hh qs ds i K2 σ:=by
 unfold fK at h ⊢;split at h
 ·exact hk _ h
 ·exact Ys hk h
def Yu{ops:Array Oper}{hh:Nat}{qs ds:List Nat}{i:Nat}{σ:St}{K:St->Prop}(h:fK P ops hh qs ds i K σ):∃s,K s:=by
 unfold fK at h;split at h
 ·exact⟨_,h⟩
 ·exact Yt h
def Gc{os:List Ob}{γ0:Cx}{ops:Array Oper}{hh:Nat}{qs ds:List Nat}(hd:∀ o∈ops.toList,∀ d,o.dst=some d->d<N){K:St->Prop}{Q:Exit->Act->World->Prop}(hQ:∀ σ' a' w',K σ'->gl N os γ0 σ' a' w'->Q .normal a' w'):∀ (n:Nat) (aL:Array Bool) (σ:St) (a:Act) (w:World),sq P ops hh qs ds K n aL σ->gl N os γ0 σ a w->wpAny P .any ops Q n aL a w
 |0,aL,σ,a,w,h,aR=>⟨h.1,hQ _ _ _ h.2 aR⟩
 |n+1,aL,σ,a,w,h,aR=>by
  refine⟨λhr=>hQ _ _ _ (h.1 hr) aR,λi hi=>?_⟩;have:=h.2 i hi;unfold fK at this;split at this
  ·rename_i hi';unfold wpOp;simp only[hi'];exact Gc hd hQ n _ _ _ _ this aR
  ·rename_i o hi';exact Yl hd hi' this aR λσ' a' w' hK eP=>Gc hd hQ n _ _ _ _ hK eP
def Yv{id:Nat}{ops:Array Oper}{Q:Exit->St->Prop}(hh:Nat)(qs ds:List Nat)(hm:P.follows .mixedOrders=true)(hd:fS N ops=true)(h:sq P ops hh qs ds (Q .normal) ops.size (vC ops.size false) σ):W P N n0 (.region id ops true) Q σ:=by
 intro os γ0 a w _ aR;refine wp_region_any hm ?_;exact Gc (pK hd) (K:=Q .normal) (λσ' a' w' hK eP=>⟨σ',hK,eP⟩) _ _ _ _ _ h aR.drawn
def Yw{ops:Array Oper}{hh:Nat}{qs ds:List Nat}{K:St->Prop}{i:Nat}{o:Oper}(hi:ops[i]?=some o)(D:List Nat)(V9:i∈D)(hD:∀ j∈D,j=i\/∃ oj,ops[j]?=some oj/\∃ e∈oj.after,Region.binds .any e=true/\e.on∈D):∀ (fuel:Nat) (aL:Array Bool) (σ:St),(∀ j∈D,aL.getD j true=false) ->
   i∈Region.ready .any ops aL ->
   (∀ j oj,ops[j]?=some oj->aL.getD j true=false->j ∉ D->o.apart ops oj=true/\CN (gu (qs.contains i) (ds.contains i) o) (gu (qs.contains j) (ds.contains j) oj)=true) ->
   fK P ops hh qs ds i (sq P ops hh qs ds K fuel (aL.setIfInBounds i true)) σ->sq P ops hh qs ds K (fuel+1) aL σ:=by
 intro fuel
 induction fuel with
 |zero =>
  intro aL σ hu hr nf h;refine⟨λe=>by rw[e]at hr;simp at hr,λk hk=>?_⟩;by_cases gT:k=i
  ·subst gT;exact h
  ·obtain⟨s,hs⟩:=Yu h;have:=ready_mono hk gT;rw[hs.1]at this;simp at this
 |succ m ih =>
  intro aL σ hu hr nf h;refine⟨λe=>by rw[e]at hr;simp at hr,λk hk=>?_⟩;by_cases gT:k=i
  ·subst gT;exact h
  ·have zn:=mem_ready.1 hk;obtain⟨cr,ok,aR,dO⟩:=zn;have s8:k ∉ D:=by
    intro s8;rcases hD k s8 with e|⟨oj,kj,e,he,hb,vU⟩
    ·exact gT e
    ·rw[aR]at kj;simp only[cT.injEq]at kj;subst kj;have h1:=dO e he hb;have h2:=hu e.on vU;rw[eN]at h1 h2;cases hx:aL[e.on]? with
     |none=>rw[hx]at h1;simp at h1
     |some b=>rw[hx]at h1 h2;simp at h1 h2;rw[h1]at h2;simp at h2
   obtain⟨ha,hc⟩:=nf k ok aR cr s8;have h1:fK P ops hh qs ds i (fK P ops hh qs ds k (sq P ops hh qs ds K m ((aL.setIfInBounds i true).setIfInBounds k true))) σ :=
    uQ (λs hs=>hs.2 k (ready_mono hk gT)) h
   have h2:fK P ops hh qs ds k (fK P ops hh qs ds i (sq P ops hh qs ds K m ((aL.setIfInBounds i true).setIfInBounds k true))) σ:=by
    unfold fK at h1 ⊢;simp only[hi,aR]at h1 ⊢;exact Yr ha hc h1
   refine uQ (λs hs=>?_) h2;refine ih (aL.setIfInBounds k true) s (λj hj=>?_) (ready_mono hr (Ne.symm gT)) (λj oj kj hl pL=>?_) ?_
   ·have df:k≠j:=λe=>s8 (by rw[e];exact hj);rw[getD_set_ne _ df];exact hu j hj
   ·refine nf j oj kj ?_ pL;by_cases zo:k=j
    ·subst zo;exact cr
    ·rwa [getD_set_ne _ zo]at hl
   ·rw[Array.setIfInBounds_comm _ _ (Ne.symm gT)]at hs;exact hs
def Gd(ops:Array Oper)(qs ds:List Nat)(aL:Array Bool)(i:Nat)(D:List Nat):Bool :=
 match ops[i]? with
 |none=>false
 |some o =>
  D.contains i&&D.all (λj=>j==i||match ops[j]? with|some oj=>oj.after.any (λe=>Region.binds .any e&&D.contains e.on)|none=>false) &&
  D.all (λj=>!aL.getD j true)&&o.after.all (λe=>!Region.binds .any e||aL.getD e.on false) &&
  (aN ops.size).all λj=>D.contains j||aL.getD j true||match ops[j]? with|some oj=>o.apart ops oj&&CN (gu (qs.contains i) (ds.contains i) o) (gu (qs.contains j) (ds.contains j) oj)|none=>true
def Yx{ops:Array Oper}{hh:Nat}{qs ds:List Nat}{K:St->Prop}{i:Nat}{D:List Nat}{fuel:Nat}{aL:Array Bool}(h:Gd ops qs ds aL i D=true)(hs:fK P ops hh qs ds i (sq P ops hh qs ds K fuel (aL.setIfInBounds i true)) σ):sq P ops hh qs ds K (fuel+1) aL σ:=by
 unfold Gd at h;cases hi:ops[i]? with
 |none=>simp[hi]at h
 |some o =>
  simp only[hi,ba,gz,sV,ke,beq_iff_eq,jW]at h;obtain⟨⟨⟨⟨h1,h2⟩,h3⟩,h4⟩,h5⟩:=h;refine Yw hi D h1 (λj hj=>?_) fuel aL σ h3 ?_ ?_ hs
  ·rcases h2 j hj with h|h
   ·exact .inl h
   ·right;split at h
    ·rename_i oj kj;rw[Array.any_eq_true']at h;obtain⟨e,he,hb⟩:=h;simp only[ba,sV]at hb;exact⟨oj,kj,e,he,hb.1,hb.2⟩
    ·simp at h
  ·rw[mem_ready];refine⟨h3 i h1,o,hi,λe he hb=>?_⟩;rw[Array.all_eq_true']at h4;have:=h4 e he;simpa [hb] using this
  ·intro j oj kj hl pL;have hj:j<ops.size:=(nZ.1 kj).1;rcases h5 j (lz.2 hj) with(h|h)|h
   ·exact absurd h pL
   ·rw[hl]at h;simp at h
   ·simpa [kj] using h
def PT.nE(ops:Array Oper)(qs ds:List Nat):PT->Nat->Array Bool->Bool
 |.nil,n,aL=>n==0&&(Region.ready .any ops aL).isEmpty
 |.take _ _,0,_=>false
 |.take i t,n+1,aL=>Gd ops qs ds aL i (E4 ops i)&&t.nE ops qs ds n (aL.setIfInBounds i true)
 |.both _ _ _ _,0,_=>false
 |.both i t j u,n+1,aL=>(Region.ready .any ops aL==[i,j])&&t.nE ops qs ds n (aL.setIfInBounds i true)&&u.nE ops qs ds n (aL.setIfInBounds j true)
 |.three _ _ _ _ _ _,0,_=>false
 |.three i t j u k v,n+1,aL=>(Region.ready .any ops aL==[i,j,k])&&t.nE ops qs ds n (aL.setIfInBounds i true)&&u.nE ops qs ds n (aL.setIfInBounds j true)&&v.nE ops qs ds n (aL.setIfInBounds k true)
def lI(P:Program)(ops:Array Oper)(hh:Nat)(qs ds:List Nat):PT->(St->Prop)->St->Prop
 |.nil,K,σ=>K σ
 |.take i t,K,σ=>fK P ops hh qs ds i (lI P ops hh qs ds t K) σ
 |.both i t j u,K,σ=>fK P ops hh qs ds i (lI P ops hh qs ds t K) σ/\fK P ops hh qs ds j (lI P ops hh qs ds u K) σ
 |.three i t j u k v,K,σ=>fK P ops hh qs ds i (lI P ops hh qs ds t K) σ/\fK P ops hh qs ds j (lI P ops hh qs ds u K) σ/\fK P ops hh qs ds k (lI P ops hh qs ds v K) σ
def wB{ops:Array Oper}{hh:Nat}{qs ds:List Nat}{K:St->Prop}:∀ (t:PT) (n:Nat) (aL:Array Bool) (σ:St),t.nE ops qs ds n aL=true->lI P ops hh qs ds t K σ->sq P ops hh qs ds K n aL σ
 |.nil,n,aL,σ,h,hp=>by
  simp only[PT.nE,ba,beq_iff_eq,List.isEmpty_iff]at h;obtain⟨rfl,h⟩:=h;exact⟨h,hp⟩
 |.take _ _,0,_,_,h,_=>by simp[PT.nE]at h
 |.take i t,n+1,aL,σ,h,hp=>by
  simp only[PT.nE,ba]at h;exact Yx h.1 (uQ (λs hs=>wB t n _ s h.2 hs) hp)
 |.both _ _ _ _,0,_,_,h,_=>by simp[PT.nE]at h
 |.both i t j u,n+1,aL,σ,h,hp=>by
  simp only[PT.nE,ba,beq_iff_eq]at h;obtain⟨⟨h1,h2⟩,h3⟩:=h;refine⟨λe=>by rw[h1]at e;simp at e,λk hk=>?_⟩;rw[h1]at hk;simp only[b8,k8,or_false]at hk;rcases hk with rfl|rfl
  ·exact uQ (λs hs=>wB t n _ s h2 hs) hp.1
  ·exact uQ (λs hs=>wB u n _ s h3 hs) hp.2
 |.three _ _ _ _ _ _,0,_,_,h,_=>by simp[PT.nE]at h
 |.three i t j u k v,n+1,aL,σ,h,hp=>by
  simp only[PT.nE,ba,beq_iff_eq]at h;obtain⟨⟨⟨h1,h2⟩,h3⟩,h4⟩:=h;refine⟨λe=>by rw[h1]at e;simp at e,λx hk=>?_⟩;rw[h1]at hk;simp only[b8,k8,or_false]at hk;rcases hk with rfl|rfl|rfl
  ·exact uQ (λs hs=>wB t n _ s h2 hs) hp.1
  ·exact uQ (λs hs=>wB u n _ s h3 hs) hp.2.1
  ·exact uQ (λs hs=>wB v n _ s h4 hs) hp.2.2
def Mm{id:Nat}{ops:Array Oper}{Q:Exit->St->Prop}(hh:Nat)(qs ds:List Nat)(t:PT)(hm:P.follows .mixedOrders=true)(hd:fS N ops=true)(ht:t.nE ops qs ds ops.size (vC ops.size false)=true)(h:lI P ops hh qs ds t (Q .normal) σ):W P N n0 (.region id ops true) Q σ :=
 Yv hh qs ds hm hd (wB t _ _ σ ht h)
def Mn{ops:Array Oper}{hh:Nat}{qs ds:List Nat}{K:St->Prop}:lI P ops hh qs ds .nil K σ=K σ:=rfl
def Mo{ops:Array Oper}{hh:Nat}{qs ds:List Nat}{i:Nat}{t:PT}{K:St->Prop}:lI P ops hh qs ds (.take i t) K σ=fK P ops hh qs ds i (lI P ops hh qs ds t K) σ:=rfl
def Mp{ops:Array Oper}{hh:Nat}{qs ds:List Nat}{i j k:Nat}{t u v:PT}{K:St->Prop}:lI P ops hh qs ds (.three i t j u k v) K σ=(fK P ops hh qs ds i (lI P ops hh qs ds t K) σ/\fK P ops hh qs ds j (lI P ops hh qs ds u K) σ/\fK P ops hh qs ds k (lI P ops hh qs ds v K) σ):=rfl
def Mq{ops:Array Oper}{hh:Nat}{qs ds:List Nat}{i j:Nat}{t u:PT}{K:St->Prop}:lI P ops hh qs ds (.both i t j u) K σ=(fK P ops hh qs ds i (lI P ops hh qs ds t K) σ/\fK P ops hh qs ds j (lI P ops hh qs ds u K) σ):=rfl
def Mr{ops:Array Oper}{hh:Nat}{q:Bool}{o:Oper}{K:St->Prop}:jN P ops hh q true o K σ=(o.guard=none/\uP hh P o σ K):=rfl
def Ms{ops:Array Oper}{hh:Nat}{q:Bool}{o:Oper}{K:St->Prop}:jN P ops hh q false o K σ=(dU hh q o σ=true/\dN P ops q o K σ):=rfl
def Mt(P:Program)(hh:Nat)(dst:Option Tmp)(args:List AV)(K:St->Prop)(σ:St):AV->Prop
 |.fn g aT=>z4 P hh g (args++aT) dst K σ
 |_=>False
def Mu{hh:Nat}{dst:Option Tmp}{args:List AV}{K:St->Prop}{g:FuncId}{aT:List AV}:Mt P hh dst args K σ (.fn g aT)=z4 P hh g (args++aT) dst K σ:=rfl
section
variable {dst:Option Tmp} {tt:TypeId} {p:String} {af:Array Edge} {g:Option (Nat×Bool)} {K:St->Prop} {hh:Nat}
def Mw(f:Operand)(args:Array Operand)(eY:Array TypeId):uP hh P ⟨dst,.call ⟨.value f,args,eY⟩,tt,p,af,g⟩ σ K=Mt P hh dst (args.toList.map (ev σ)) K σ (ev σ f):=by
 simp only[uP];cases ev σ f<;>rfl
def Mx{o:Oper}:dU hh true o σ=true:=by simp[dU]
def My(t:TypeId)(a:Operand):dU hh false ⟨dst,.load t a,tt,p,af,g⟩ σ=mK hh (ev σ a):=by simp[dU,cls,Op.operands,pX]
def Mz(t:TypeId)(a:Operand)(f:Nat):dU hh false ⟨dst,.fieldAddr t a f,tt,p,af,g⟩ σ=mK hh (ev σ a):=by simp[dU,cls,Op.operands,pX]
def MA(a:Operand):dU hh false ⟨dst,.nilCheck a,tt,p,af,g⟩ σ=mK hh (ev σ a):=by simp[dU,cls,Op.operands,pX]
def MC(t:TypeId)(a i:Operand):dU hh false ⟨dst,.indexAddr t a i,tt,p,af,g⟩ σ=(mK hh (ev σ a)&&mK hh (ev σ i)):=by simp[dU,cls,Op.operands,pX]
def MD(x:Operand)(eY:Array TypeId):dU hh false ⟨dst,.call ⟨.builtin .len,#[x],eY⟩,tt,p,af,g⟩ σ=mK hh (ev σ x):=by simp[dU,cls,Op.operands,Call.operands,pX]
def lJ{o:Oper}(h:(cls o.op==0||decide (3<=cls o.op))=true):dU hh false o σ=true:=by simp only[dU,mu,h,rQ]
def ME(id r c:Nat):mK hh (.ptr id r c) = !(id==hh):=rfl
def MF(id a b c:Nat):mK hh (.ref id a b c) = !(id==hh):=rfl
def MG(v:Value):mK hh (.lit v)=true:=rfl
def MH(s:Nat)(r:List (List AV)):mK hh (.tree s r)=true:=rfl
def MI(r:List AV):mK hh (.cq r)=true:=rfl
def MJ(r:List AV):mK hh (.agg r)=true:=rfl
def MK(r:List AV):mK hh (.bO r)=true:=rfl
def ML:mK hh .undef=true:=rfl
def MN(x:Operand):dU hh false ⟨dst,.move x,tt,p,af,g⟩ σ=true:=lJ aa2
def MO(x:Operand):dU hh false ⟨dst,.assign x,tt,p,af,g⟩ σ=true:=lJ aa2
def MP(c a b:Operand):dU hh false ⟨dst,.pick c a b,tt,p,af,g⟩ σ=true:=lJ aa2
def MQ(op:BinOp)(t:TypeId)(x y:Operand)(yt:TypeId):dU hh false ⟨dst,.binOp op t x y yt,tt,p,af,g⟩ σ=true:=lJ aa2
def MR(op:UnOp)(t:TypeId)(x:Operand):dU hh false ⟨dst,.unOp op t x,tt,p,af,g⟩ σ=true:=lJ aa2
def MS(fn:Fn)(a b:Array Operand):dU hh false ⟨dst,.makeFunc fn a b,tt,p,af,g⟩ σ=true:=lJ aa2
def MT(s:TypeId)(x:Operand)(f:Nat):dU hh false ⟨dst,.field s x f,tt,p,af,g⟩ σ=true:=lJ aa2
def MU(x:Operand)(i:Nat):dU hh false ⟨dst,.extract x i,tt,p,af,g⟩ σ=true:=lJ aa2
def MV(t:TypeId)(parts:Array (Nat×Operand)):dU hh false ⟨dst,.build t parts,tt,p,af,g⟩ σ=true:=lJ aa2
def MW(e:TypeId):dU hh false ⟨dst,.alloc e,tt,p,af,g⟩ σ=true:=lJ aa2
def MX(e:TypeId)(x:Operand):dU hh false ⟨dst,.box e x,tt,p,af,g⟩ σ=true:=lJ aa2
def MY(t:TypeId)(l c:Operand):dU hh false ⟨dst,.makeSlice t l c,tt,p,af,g⟩ σ=true:=lJ aa2
def MZ(t:TypeId)(len:Nat)(parts:Array (Nat×Operand)):dU hh false ⟨dst,.buildSlice t len parts,tt,p,af,g⟩ σ=true:=lJ aa2
def M0(t:TypeId)(a x:Operand):dU hh false ⟨dst,.store t a x,tt,p,af,g⟩ σ=true:=lJ aa2
def M1(f:Operand)(args:Array Operand)(eY:Array TypeId):dU hh false ⟨dst,.call ⟨.value f,args,eY⟩,tt,p,af,g⟩ σ=true:=lJ aa2
def M3(args:Array Operand)(eY:Array TypeId):dU hh false ⟨dst,.call ⟨.builtin .append,args,eY⟩,tt,p,af,g⟩ σ=true:=lJ aa2
def M4(args:Array Operand)(eY:Array TypeId):dU hh false ⟨dst,.call ⟨.builtin .min,args,eY⟩,tt,p,af,g⟩ σ=true:=lJ aa2
def M5(args:Array Operand)(eY:Array TypeId):dU hh false ⟨dst,.call ⟨.builtin .max,args,eY⟩,tt,p,af,g⟩ σ=true:=lJ aa2
end
def Hc:=abK @Mn @Mo @Mp @Mq @Mr @Ms @Mu (abK @Mw @Mx @My @Mz @MA @MC @MD (abK @ME @MF @MG @MH @MI @MJ @MK (abK @ML @MN @MO @MP @MQ @MR @MS (abK @MT @MU @MV @MW @MX @MY @MZ (abm @M0 @M1 @M3 @M4 @M5)))))
def z6{hh:Nat}{f:FuncId}{args cV:List AV}{D D':Ob}{dst:Option Tmp}{K:St->Prop}{res:AV}(h:an P f cV [D] res [D'])(h1:uO D=true)(h2:uO D'=true)(h3:σ.aa[hh]?=some D)(h4:eO res=true)(h5:dS (Mi hh) cV args)(hK:K ((⟨σ.env,σ.aa.set hh D'⟩:St).put dst res)):z4 P hh f args dst K σ:=⟨cV,D,res,D',h,h1,h2,h3,h4,h5,hK⟩
def qW{P:Program}{N n0:Nat}{σ:St}{Q:Exit->St->Prop}(n:Nat){id:Nat}{ops:Array Oper}(hd:fS N ops=true)(o:Oper)(ho:ops[n]?=some o)(h:∀ K:St->Prop,(∀ s,Q .normal s->K s)->opsL P ops (ops.toList.take n) (sj P o (opsL P ops (ops.toList.drop (n+1)) K)) σ):W P N n0 (.region id ops false) Q σ:=by
 intro os γ0 a w hn aR;refine wp_region ?_;have Fs:n<ops.size:=(nZ.1 ho).1;have e:aN ops.size=lU 0 (ops.toList.take n).length++(n::lU (n+1) (ops.toList.drop (n+1)).length):=by
  rw[uf,<- ue];have:=List.range'_append (s:=0) (m:=n) (n:=(ops.toList.drop (n+1)).length+1) (step:=1);simp only[eW,pz]at this;rw[show(ops.toList.take n).length=n by simp;omega,this];congr 1;simp;omega
 rw[e];refine v5 _ a w ?_;refine qG (pK hd) (K:=sj P o (opsL P ops (ops.toList.drop (n+1)) (Q .normal))) (λσ' a' w' hk eP=>?_) (ops.toList.take n) 0 σ a w (λk hk=>?_) (h _ (λ_ h=>h)) aR
 ·show wpOps P ops _ _ a' w';rw[wpOps_cons];unfold wpOp;simp only[ho];have hw:Region.wanted o (yielded ops a'.tmps)=true:=by simp[Region.wanted,hk.1]
  rw[if_pos hw];left;refine F3 hk eP (pK hd o (gf (by simpa using ho))) (λσ2 a2 w2 bK z7=>?_);refine qG (pK hd) (K:=Q .normal) (λz8 a3 w3 kq qX=>⟨z8,kq,qX⟩) (ops.toList.drop (n+1)) (n+1) σ2 a2 w2 (λk hk=>?_) bK z7;rw[List.getElem?_drop];simp
 ·simp only[List.length_take,rK]at hk;rw[List.getElem?_take_of_lt I6];simp
end Go.Am

