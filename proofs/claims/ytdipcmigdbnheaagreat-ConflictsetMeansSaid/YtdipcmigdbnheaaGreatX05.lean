import Derived.Test.YtdipcmigdbnheaaGreatX04
import Derived.Laws.StructEq
set_option linter.unusedVariables false
set_option linter.unusedSimpArgs false
set_option linter.unnecessarySimpa false
set_option linter.unusedSectionVars false
set_option maxHeartbeats 64000000
set_option maxRecDepth 20000
open List renaming contains_cons→JH,contains_nil→JI,getD_cons_zero→gb,getD_cons_succ→eJ,getD_nil→B7,size_toArray→zB,map_cons→dO,map_nil→lQ,cons_append→da,nil_append→dh,append_nil→gA,getElem?_cons_zero→sk,getElem?_cons_succ→v7,getElem?_toArray→Ff,length_cons→dH,length_nil→mQ,all_cons→B2,all_nil→B8,drop_zero→uO,take_zero→p5,set_cons_zero→qW,set_cons_succ→uP,flatMap_cons→tF,length_append→bV,length_set→bI,length_replicate→tG,all_eq_true→gU,mem_map→ca,getD_eq_getElem?_getD→aA,getElem?_append_left→cn,getElem?_append_right→eK,range'→mn,tail→E9,tail_drop→E',range'_succ→uJ,range→aN,range_eq_range'→uK,getElem?_eq_some_iff→aQ,getElem?_eq_getElem→bX,getElem?_set→b6,drop_drop→Fj,take_append_drop→Fb,contains_iff_mem→tB,mem_filter→nx,mem_range→lP,mem_cons→cu,mem_of_getElem?→gB,map_congr_left→kU,mem_append→cr,not_mem_nil→ly
open Bool renaming or_self→JJ,or_false→zF,false_or→mS,or_true→wc,true_or→qV,false_eq_true→jF,true_and→ic,not_true→lR,not_false→nw,not_eq_true'→kx,or_eq_true→kv,and_eq_true→bk,eq_iff_iff→oC,false_and→mq
open Option renaming bind_some→sm,map_some→gf,some→cY
open Nat renaming zero_add→fi,add_zero→jr,zero_mul→zD,mul_one→JK,one_mul→pX,lt_or_ge→eF
open Int renaming toNat_natCast→gD
open Array renaming replicate→vZ,getD_eq_getD_getElem?→eY,getElem?_append_left→B4,length_toList→si,getElem?_eq_some_iff→oA,toList_append→xJ
namespace Go.Am
theorem mD:type_of% @Cv∧type_of% @Co∧type_of% @CO∧type_of% @JH.{0}∧type_of% @JI.{0}∧type_of% @JJ∧type_of% @zF∧type_of% @mS∧type_of% @wc∧type_of% @qV∧type_of% @jF∧type_of% @if_false.{1}∧type_of% @if_true.{1}∧type_of% @gb.{0}∧type_of% @eJ.{0}∧type_of% @B7.{0} :=
  ⟨@Cv,@Co,@CO,@JH.{0},@JI.{0},@JJ,@zF,@mS,@wc,@qV,@jF,@if_false.{1},@if_true.{1},@gb.{0},@eJ.{0},@B7.{0}⟩
theorem Bc:type_of% @Cv∧type_of% @Co∧type_of% @CO∧type_of% @JH.{0}∧type_of% @JI.{0}∧type_of% @JJ∧type_of% @zF∧type_of% @mS∧type_of% @wc∧type_of% @qV∧type_of% @jF∧type_of% @if_false.{1}∧type_of% @if_true.{1}∧type_of% @gb.{0}∧type_of% @eJ.{0}∧type_of% @B7.{0}∧type_of% @zB.{0}∧type_of% @Array.size_empty.{0}∧type_of% @Kk∧type_of% @Kl∧type_of% @eq_self.{1}∧type_of% @LM∧type_of% @LN∧type_of% @KB∧type_of% @KC∧type_of% @KD∧type_of% @KE∧type_of% @KK∧type_of% @KL∧type_of% @KM∧type_of% @KN∧type_of% @KO∧type_of% @KP∧type_of% @KQ∧type_of% @KR∧type_of% @KS∧type_of% @KT∧type_of% @KU∧type_of% @KV∧type_of% @KW∧type_of% @KX∧type_of% @KY∧type_of% @K'∧type_of% @La∧type_of% @Lb∧type_of% @Le∧type_of% @Lf∧type_of% @Lh∧type_of% @Li∧type_of% @Lj∧type_of% @Mc∧type_of% @KG∧type_of% @KJ∧type_of% @Kz∧type_of% @KA∧type_of% @true_and∧type_of% @and_true∧type_of% @and_self∧type_of% @dO.{0,0}∧type_of% @lQ.{0,0}∧type_of% @da.{0}∧type_of% @dh.{0}∧type_of% @gA.{0}∧type_of% @ite_true.{1}∧type_of% @ite_false.{1}∧type_of% @Bool.true_eq_false∧type_of% @ne_eq.{1}∧type_of% @not_true_eq_false∧type_of% @not_false_eq_true∧type_of% @false_implies∧type_of% @true_implies∧type_of% @implies_true.{1}∧type_of% @sm.{0,0}∧type_of% @Option.bind_none.{0,0}∧type_of% @sk.{0}∧type_of% @v7.{0}∧type_of% @Ff.{0}∧type_of% @dH.{0}∧type_of% @mQ.{0}∧type_of% @fi∧type_of% @jr∧type_of% @decide_true∧type_of% @decide_false∧type_of% @B2.{0}∧type_of% @B8.{0}∧type_of% @Bool.and_true∧type_of% @ic∧type_of% @Int.toNat_zero∧type_of% @lR∧type_of% @nw∧type_of% @cond_true.{1}∧type_of% @cond_false.{1}∧type_of% @LP∧type_of% @LR∧type_of% @LS∧type_of% @LQ∧type_of% @Kb∧type_of% @Ke∧type_of% @Kf∧type_of% @Kd∧type_of% @uW∧type_of% @uV∧type_of% @gD∧type_of% @Lm∧type_of% @Ln∧type_of% @Lo∧type_of% @Lp∧type_of% @Lr∧type_of% @Ls∧type_of% @zD∧type_of% @JK∧type_of% @pX∧type_of% @Lk∧type_of% @Ll∧type_of% @oD∧type_of% @x5∧type_of% @Cy∧type_of% @gf.{0,0}∧type_of% @uO.{0}∧type_of% @List.drop_succ_cons.{0}∧type_of% @List.take_succ_cons.{0}∧type_of% @p5.{0}∧type_of% @qW.{0}∧type_of% @uP.{0}∧type_of% @beq_self_eq_true.{0}∧type_of% @tF.{0,0}∧type_of% @List.flatMap_nil.{0,0}∧type_of% @List.getElem?_nil.{0}∧type_of% @bV.{0}∧type_of% @bI.{0}∧type_of% @tG.{0}∧type_of% @kd∧type_of% @wB∧type_of% @qh∧type_of% @Km∧type_of% @Kn∧type_of% @Ko∧type_of% @Kp∧type_of% @Kq∧type_of% @Kr∧type_of% @ints_set∧type_of% @FJ∧type_of% @Ks∧type_of% @Cw∧type_of% @FL∧type_of% @Kt∧type_of% @xY∧type_of% @FM∧type_of% @xZ∧type_of% @Ku∧type_of% @Kv :=
  ⟨@Cv,@Co,@CO,@JH.{0},@JI.{0},@JJ,@zF,@mS,@wc,@qV,@jF,@if_false.{1},@if_true.{1},@gb.{0},@eJ.{0},@B7.{0},@zB.{0},@Array.size_empty.{0},@Kk,@Kl,@eq_self.{1},@LM,@LN,@KB,@KC,@KD,@KE,@KK,@KL,@KM,@KN,@KO,@KP,@KQ,@KR,@KS,@KT,@KU,@KV,@KW,@KX,@KY,@K',@La,@Lb,@Le,@Lf,@Lh,@Li,@Lj,@Mc,@KG,@KJ,@Kz,@KA,@true_and,@and_true,@and_self,@dO.{0,0},@lQ.{0,0},@da.{0},@dh.{0},@gA.{0},@ite_true.{1},@ite_false.{1},@Bool.true_eq_false,@ne_eq.{1},@not_true_eq_false,@not_false_eq_true,@false_implies,@true_implies,@implies_true.{1},@sm.{0,0},@Option.bind_none.{0,0},@sk.{0},@v7.{0},@Ff.{0},@dH.{0},@mQ.{0},@fi,@jr,@decide_true,@decide_false,@B2.{0},@B8.{0},@Bool.and_true,@ic,@Int.toNat_zero,@lR,@nw,@cond_true.{1},@cond_false.{1},@LP,@LR,@LS,@LQ,@Kb,@Ke,@Kf,@Kd,@uW,@uV,@gD,@Lm,@Ln,@Lo,@Lp,@Lr,@Ls,@zD,@JK,@pX,@Lk,@Ll,@oD,@x5,@Cy,@gf.{0,0},@uO.{0},@List.drop_succ_cons.{0},@List.take_succ_cons.{0},@p5.{0},@qW.{0},@uP.{0},@beq_self_eq_true.{0},@tF.{0,0},@List.flatMap_nil.{0,0},@List.getElem?_nil.{0},@bV.{0},@bI.{0},@tG.{0},@kd,@wB,@qh,@Km,@Kn,@Ko,@Kp,@Kq,@Kr,@ints_set,@FJ,@Ks,@Cw,@FL,@Kt,@xY,@FM,@xZ,@Ku,@Kv⟩
theorem yw:type_of% @eq_self.{1}∧type_of% @decide_eq_true_eq∧type_of% @decide_eq_false_iff_not∧type_of% @kx∧type_of% @Bool.not_eq_false'∧type_of% @beq_iff_eq.{0}∧type_of% @beq_eq_false_iff_ne.{0}∧type_of% @bne_iff_ne.{0}∧type_of% @bne_eq_false_iff_eq.{0}∧type_of% @ne_eq.{1}∧type_of% @Decidable.not_not∧type_of% @Int.not_lt∧type_of% @Int.not_le∧type_of% @not_true_eq_false∧type_of% @not_false_eq_true∧type_of% @kv∧type_of% @bk∧type_of% @Bool.or_eq_false_iff∧type_of% @Bool.and_eq_false_iff∧type_of% @gt_iff_lt.{0}∧type_of% @ge_iff_le.{0}∧type_of% @Int.ofNat_lt∧type_of% @Int.ofNat_le∧type_of% @Int.ofNat_inj∧type_of% @Nat.not_lt∧type_of% @Nat.not_le∧type_of% @kd∧type_of% @wB∧type_of% @qh∧type_of% @cond_true.{1}∧type_of% @cond_false.{1} :=
  ⟨@eq_self.{1},@decide_eq_true_eq,@decide_eq_false_iff_not,@kx,@Bool.not_eq_false',@beq_iff_eq.{0},@beq_eq_false_iff_ne.{0},@bne_iff_ne.{0},@bne_eq_false_iff_eq.{0},@ne_eq.{1},@Decidable.not_not,@Int.not_lt,@Int.not_le,@not_true_eq_false,@not_false_eq_true,@kv,@bk,@Bool.or_eq_false_iff,@Bool.and_eq_false_iff,@gt_iff_lt.{0},@ge_iff_le.{0},@Int.ofNat_lt,@Int.ofNat_le,@Int.ofNat_inj,@Nat.not_lt,@Nat.not_le,@kd,@wB,@qh,@cond_true.{1},@cond_false.{1}⟩
end Go.Am
namespace Go.Am
variable {σ:St}
class Row {α:Type} (enc:α→List AV) (sz:outParam Nat):Prop where
  wid:∀ x,(enc x).length=sz
  ok:∀ x,∀ v∈enc x,(∃ y,v=.lit y∧y.oneCell'=true)∨∃ s r,v=.tree s r
def rowsOf {α:Type} (enc:α→List AV) (xs:List α):List (List AV):=xs.map enc
section
variable {α:Type} {enc:α→List AV} {sz:Nat}
theorem b8 (xs:List α):(rowsOf enc xs).length=xs.length:=by simp[rowsOf]
theorem iB [Inhabited α] (xs:List α) (i:Nat) (h:i<xs.length):(rowsOf enc xs).getD i []=enc (xs.getD i default):=by simp[rowsOf,h]
theorem vd [Inhabited α] (xs:List α) (i:Nat) (h:i<xs.length):(rowsOf enc xs)[i]?=some (enc (xs.getD i default)):=by simp[rowsOf,h]
theorem Mf (xs:List α):(rowsOf enc xs).take xs.length=rowsOf enc xs:=by rw[List.take_of_length_le (by simp[rowsOf])]
theorem Mg (xs ys:List α):rowsOf enc xs++rowsOf enc ys=rowsOf enc (xs++ys):=by simp[rowsOf]
theorem jW (xs:List α) (x:α):rowsOf enc xs++[enc x]=rowsOf enc (xs++[x]):=by simp[rowsOf]
theorem yx (xs:List α) (i:Nat) (x:α):(rowsOf enc xs).set i (enc x)=rowsOf enc (xs.set i x):=by simp[rowsOf,List.map_set]
theorem Mh [Row enc sz] (x:α):(enc x).all cf=true:=by
  rw[gU]
  intro v hv
  rcases Row.ok (enc:=enc) x v hv with ⟨y,rfl,h⟩ | ⟨s,r,rfl⟩
  · simpa [cf] using h
  · rfl
theorem Aq [Row enc sz] (xs:List α):((rowsOf enc xs).all fun row=>row.all cf)=true:=by
  simp only[rowsOf,List.all_map,gU]
  intro x _
  exact Mh (enc:=enc) x
theorem YO {l:List AV} (h:∀ v∈l,eZ v=true):gX l=true:=by
  induction l with
  | nil=>rfl
  | cons v l ih=>simp only[gX,bk];exact⟨h v (by simp),ih fun x hx=>h x (by simp[hx])⟩
theorem YP [Row enc sz] (x:α):gX (enc x)=true:=YO fun v hv=>by
  rcases Row.ok (enc:=enc) x v hv with ⟨y,rfl,_⟩ | ⟨s,r,rfl⟩<;>rfl
theorem qo [Row enc sz] (ρ:Nat→Nat) (s:Nat) (xs:List α):bO ρ (.arr s (rowsOf enc xs))=.arr s (rowsOf enc xs):=zQ (by
  intro row hr
  simp only[rowsOf,ca] at hr
  obtain ⟨x,_,rfl⟩:=hr
  exact YP (enc:=enc) x)
theorem jy [Row enc sz] (xs:List α):∀ row∈rowsOf enc xs,∀ v∈row,(∃ x,v=AV.lit x)∨∃ s r,v=AV.tree s r:=by
  intro row hr v hv
  simp only[rowsOf,ca] at hr
  obtain ⟨x,_,rfl⟩:=hr
  rcases Row.ok (enc:=enc) x v hv with ⟨y,rfl,_⟩ | h
  · exact .inl ⟨_,rfl⟩
  · exact .inr h
theorem eT [Row enc sz] (xs:List α):∀ row∈rowsOf enc xs,row.length=sz:=by
  intro row hr
  simp only[rowsOf,ca] at hr
  obtain ⟨x,_,rfl⟩:=hr
  exact Row.wid (enc:=enc) x
end
structure bx where
  wk:Int
  day:Int
  st:Int
  len:Int
  room:Int
  ch:List (Int × Int)
  deriving Inhabited
structure Pr where
  fst:Int
  snd:Int
  aV:Int
  az:List Int
  deriving Inhabited
structure Ld where
  cls:Int
  opt:Int
  wt:Int
  deriving Inhabited
structure Ct where
  aV:Int
  aS:List Ld
  most:Int
  bL:Int
  deriving Inhabited
structure aj where
  cls:List (List bx)
  ae:List Pr
  au:List Ct
  rules:Int
  deriving Inhabited
def i64 (n:Int):AV:=.lit (.int .i64 n)
def bA (c:Int × Int):List AV:=[.lit (.int .i64 c.1),.lit (.int .i64 c.2)]
def cD (o:bx):List AV:=[.lit (.int .i64 o.wk),.lit (.int .i64 o.day),.lit (.int .i64 o.st),.lit (.int .i64 o.len),.lit (.int .i64 o.room),.tree 2 (rowsOf bA o.ch)]
def bD (l:List bx):List AV:=[.tree 6 (rowsOf cD l)]
def bu (p:Pr):List AV:=[.lit (.int .i64 p.fst),.lit (.int .i64 p.snd),.lit (.int .i64 p.aV),.tree 1 (ints p.az)]
def g6 (l:Ld):List AV:=[.lit (.int .i64 l.cls),.lit (.int .i64 l.opt),.lit (.int .i64 l.wt)]
def aO (c:Ct):List AV:=[.lit (.int .i64 c.aV),.tree 3 (rowsOf g6 c.aS),.lit (.int .i64 c.most),.lit (.int .i64 c.bL)]
def ar (m:aj):List AV:=[.tree 1 (rowsOf bD m.cls),.tree 4 (rowsOf bu m.ae),.tree 4 (rowsOf aO m.au),.lit (.int .i64 m.rules)]
theorem ve {l:List AV} (h:(l.all fun v=>match v with | .lit y=>y.oneCell' | .tree ..=>true | _=>false)=true):∀ v∈l,(∃ y,v=AV.lit y∧y.oneCell'=true)∨∃ s r,v=AV.tree s r:=by
  intro v hv
  have:=gU.1 h v hv
  cases v<;>simp at this
  · exact .inl ⟨_,rfl,this⟩
  · exact .inr ⟨_,_,rfl⟩
instance:Row bA 2:=⟨fun _=>rfl,fun _=>ve rfl⟩
instance:Row cD 6:=⟨fun _=>rfl,fun _=>ve rfl⟩
instance:Row bD 1:=⟨fun _=>rfl,fun _=>ve rfl⟩
instance:Row bu 4:=⟨fun _=>rfl,fun _=>ve rfl⟩
instance:Row g6 3:=⟨fun _=>rfl,fun _=>ve rfl⟩
instance:Row aO 4:=⟨fun _=>rfl,fun _=>ve rfl⟩
instance:Row ar 4:=⟨fun _=>rfl,fun _=>ve rfl⟩
end Go.Am
namespace Go.Am
variable {P:Program}
variable {N n0:Nat} {Q:Exit→St→Prop} {σ:St}
def fU (P:Program) (n0:Nat) (rs:List ResultVar) (gH:AV→List Ob→Prop):Exit→St→Prop
  | .normal,s=>dX s P rs fun vs=>∃ res a8,gH res a8∧mT n0 s (dQ vs) res a8
  | .ret,s=>dX s P rs fun vs=>∃ res a8,gH res a8∧mT n0 s (dQ vs) res a8
  | _,_=>False
theorem eO.F6 {f : FuncId} {fn : Func} {c : Code} {args : List AV} {aa : List Ob} {gH : AV → List Ob → Prop} (hf : P.funcs[f]? = some fn) (hb : fn.body = some c) (pD : (fn.name == "runtime.NumGoroutine") = false)
    (hN:args.length≤fn.ntmps) (h:W P fn.ntmps aa.length c (fU P aa.length fn.results.toList gH) ⟨fun k=>args.getD k .undef,aa⟩):eO P f args aa gH:=by
  refine⟨⟨fn,hf,pD,by rw[hb];rfl⟩,?_⟩
  intro γ a9 hs
  refine calls_of_wp hf hb ?_
  let tm:=γ.tmps++vZ (fn.ntmps - γ.tmps.size) Go.undef
  have aJ:gI fn.ntmps aa γ ⟨fun k=>args.getD k .undef,aa⟩ { tmps:=tm,defers:=[] } γ.w:=by
    refine⟨rfl,by simp[tm];omega,{ γ with tmps:=tm },rfl,rfl,⟨fun k=>?_,hs.ez,hs.inj,hs.nz,hs.gG⟩,(Fr.refl _ _).put _⟩
    rcases eF k args.length with hk | hk
    · have:=hs.aw k
      have e:tm.getD k Go.undef=γ.tmps.getD k Go.undef:=by
        simp only[tm,eY]
        rw[B4 (by omega)]
      show ay _ _ _ _ _ (tm.getD k Go.undef)
      rw[e];exact this
    · have e:args.getD k AV.undef=.undef:=by simp[hk]
      show ay _ _ _ _ (args.getD k .undef) _
      rw[e];exact .undef _
  refine wp_mono (h aa γ _ γ.w rfl aJ) ?_
  rintro e a' w' ⟨σ',h1,iY,_,aF,rfl,ha,iL,gY⟩
  have fin:∀ (K:List AV→Prop),dX σ' P fn.results.toList K→(∀ vs,K vs→∃ res a8,gH res a8∧mT aa.length σ' (dQ vs) res a8) →
      a'.defers=[]∧∃ v,(results fn a'.tmps).run P aF.w=.ok v aF.w∧∃ res a8 cv iN,gH res a8∧Ending.returned v=.returned cv∧iN.w=aF.w∧iN.tmps = #[cv]∧bq ⟨fun k=>[res].getD k .undef,a8⟩ iN∧Fr aa γ a8 iN:=by
    intro K hK F7
    obtain ⟨vs,aZ,k1,k2,k3,k4,k5⟩:=CN iL _ _ hK
    obtain ⟨res,a8,F0,ak,snap,r1,r2,r3,r4,r5,r6,r7⟩:=F7 vs k1
    refine⟨iY,?_⟩
    have eQ :∃v,(results fn a'.tmps).run P aF.w=.ok v aF.w∧ay σ'.aa aF.w aF.Z aF.blk (dQ vs) v:=by
      have hm:(fn.results.mapM fun (r:ResultVar)=>match r with | .tmp t=>(pure (a'.tmps.getD t Go.undef):Sem Value) | .cell a t=>do loadVar t (← asAddr (a'.tmps.getD a Go.undef))).run P aF.w=.ok aZ.toArray aF.w:=by
        rw[Array.mapM_eq_mapM_toList,Sem.run_map,← ha]
        exact congrArg (fun (r:Result (List Value))=>r.andThen fun a w'=>Result.ok a.toArray w') k2
      have hr:(results fn a'.tmps).run P aF.w=.ok (if h:aZ.toArray.size=1 then aZ.toArray[0] else .tuple aZ.toArray) aF.w:=by
        unfold results
        rw[Sem.run_bind]
        exact congrArg (fun r=>Result.andThen r fun (a:Array Value) w'=>(pure (if h:a.size=1 then a[0] else Value.tuple a):Sem Value).run P w') hm
      rw[hr]
      match vs,aZ,k3,k5 with
      | [],[],_,k5=>exact⟨_,rfl,.bG _ _ rfl (fun j x hj=>by simp at hj)⟩
      | [v],[cv],_,k5=>exact⟨cv,by simp,by simpa [dQ] using k5 0 v rfl⟩
      | v::v'::vs,cv::nO::aZ,k3,k5 =>
        refine⟨.tuple (cv::nO::aZ).toArray,by simp,.bG _ _ (by simpa using k3) (fun j x hj=>?_)⟩
        have:=k5 j x hj
        simpa [aA,eY] using this
    obtain ⟨v,sH,ri⟩:=eQ
    obtain ⟨iN,e1,e2,e3,e4⟩:=iL.select ak snap a8 r1 r2 r3 r4 (fun k=>[res].getD k .undef) #[v] (fun k=>by
      cases k with
      | zero=>exact .inr ⟨_,r7,by simpa using ri⟩
      | succ k=>left;simp)
    exact⟨v,sH,res,a8,v,iN,F0,rfl,e1,e2,e3,gY.select r5 r2 r6 e1 e4⟩
  cases e with
  | normal=>exact fin _ h1 (fun _ h=>h)
  | ret=>exact fin _ h1 (fun _ h=>h)
  | exit id=>exact h1.elim
  | goto l=>exact h1.elim
  | panic c=>exact h1.elim
  | outgrown=>exact h1.elim
theorem eO.aD {f : FuncId} {fn : Func} {c : Code} {args : List AV} {aa : List Ob} {gH : AV → List Ob → Prop} (N k : Nat) (rs : List ResultVar) (hf : P.funcs[f]? = some fn) (hb : fn.body = some c) (pD : (fn.name == "runtime.NumGoroutine") = false)
    (hN:fn.ntmps=N) (oI:fn.results.toList=rs) (hk:aa.length=k) (hl:args.length≤N) (h:W P N k c (fU P k rs gH) ⟨fun k=>args.getD k .undef,aa⟩):eO P f args aa gH:=by
  subst hN;subst oI;subst hk
  exact eO.F6 hf hb pD hl h
def lZ (P:Program) (g:FuncId) (args:List AV) (dst:Option Tmp) (K:St→Prop) (σ:St):Prop:=FV P g args σ fun v σ'=>K (σ'.put dst v)
def sL (P:Program) (o:Oper) (K:St→Prop) (σ:St):Prop :=
  o.guard=none ∧
  match o.op with
  | .call { callee:=.value f,args,.. } =>
    match ev σ f with
    | .fn g aW=>lZ P g (args.toList.map (ev σ)++aW) o.dst K σ
    | _=>False
  | _=>False
theorem GC {os:List Ob} {γ0:Cx} {o:Oper} {K:St→Prop} (h:sL P o K σ) {a:Act} {w:World} (aJ:gI N os γ0 σ a w) (hd:∀ d,o.dst=some d→d<N)
    {Q:Exit→Act→World→Prop} {next:Act→World→Prop} (hn:∀ σ' a' w',K σ'→gI N os γ0 σ' a' w'→next a' w'):o.wp P a w next Q:=by
  obtain ⟨iY,a9,γ,rfl,ha,hs,hf⟩:=aJ
  have rh:∀ d,o.dst=some d→d<a.tmps.size:=fun d h=>by rw[a9];exact hd d h
  obtain ⟨_,h⟩:=h
  split at h
  · rename_i f args fl dP
    split at h
    · rename_i g aW he
      have dK:=sG hs ha f
      rw[he] at dK
      obtain ⟨aZ,bd,j9,pC⟩:=dK.LJ
      have mr:∀ (j:Nat) d,(args.toList.map (ev σ)++aW)[j]?=some d→ay σ.aa γ.w γ.Z γ.blk d (((args.map a.eval)++aZ).getD j Go.undef):=by
        intro j d hj
        simp only[eY]
        rcases eF j args.size with bw | lW
        · rw[cn (by simpa using bw)] at hj
          rw[B4 (by simpa using bw)]
          simp only[List.getElem?_map,Array.getElem?_toList,Array.getElem?_map] at hj ⊢
          cases hx:args[j]? with
          | none=>simp[hx] at hj
          | some y=>simp[hx] at hj ⊢;subst hj;exact sG hs ha y
        · rw[eK (by simpa using lW)] at hj
          rw[Array.getElem?_append_right (by simpa using lW)]
          simp only[List.length_map,si,Array.size_map] at hj ⊢
          have:=pC _ d hj
          simpa [eY] using this
      unfold lZ at h
      have jv:=Lz hs (argv:=(args.map a.eval)++aZ) (by simp[j9]) mr h
      obtain ⟨ak,snap,cZ,bR,gH,⟨⟨fn,tS,pD,u6⟩,_⟩,_⟩:=h
      unfold Oper.wp
      have hr:(execOp a.eval o).run P γ.w=.ok (.enter g ((args.map a.eval)++aZ)) γ.w:=by
        have e9 : ¬ fn.name = "runtime.NumGoroutine" := by simpa using pD
        have nN:¬ fn.body=none:=by intro e;rw[e] at u6;simp at u6
        simp[execOp,dP,resolve,bd,Deferred.ofValue,invoke,callFunc,tS,e9,nN]
      rw[hr]
      show Calls P g _ _ _
      refine jv.mono ?_
      rintro e w' ⟨cv,v,σ',aF,rfl,rfl,jR,iL,gY,hv,hK,u7⟩
      refine hn _ _ _ hK ⟨by rw[put_defers];exact iY,by rw[sy];exact a9,{ aF with tmps:=(a.put o.dst cv).tmps },rfl,rfl,qa iL (by rw[jR,ha]) rh hv,?_⟩
      rw[qb]
      exact (hf.trans gY).put _
    · exact h.elim
  · exact h.elim
theorem yy (ak:List Nat) {f:FuncId} {args cZ:List AV} {bR:List Ob} {dst:Option Tmp} {K:St→Prop} {gH:AV→List Ob→Prop} (h:eO P f cZ bR gH) (cC:ak.Nodup)
    (ho:tO (br σ.aa.length ak) σ.aa ak bR) (ha:dY (aE σ (·∈ak) (br σ.aa.length ak) false) cZ args)
    (hK:∀ res cG,gH res cG→K (({ σ with aa:=dV σ.aa ak (cG.map (bO (br σ.aa.length ak))) }:St).put dst (a6 (br σ.aa.length ak) res))):lZ P f args dst K σ:=by
  obtain ⟨h1,h2⟩:=ho.spec
  obtain ⟨h3,h4⟩:=ha.spec
  exact⟨ak,false,cZ,bR,gH,h,⟨cC,h1,h2,h3,h4⟩,fun res cG hp=>⟨by simp,hK res cG hp⟩⟩
end Go.Am
namespace Go.Am
variable {P:Program} {N n0:Nat} {σ:St} {Q:Exit→St→Prop}
def pE (P:Program) (ops:Array Oper) (qs:List Nat):Nat→List Oper→(St→Prop)→St→Prop
  | _,[],K,σ=>K σ
  | i,o::r,K,σ=>dT P ops (qs.contains i) o (pE P ops qs (i+1) r K) σ
theorem Mi {ops:Array Oper} {qs:List Nat} {i:Nat} {K:St→Prop}:pE P ops qs i [] K σ=K σ:=by simp only[pE]
theorem C8 {ops:Array Oper} {qs:List Nat} {i:Nat} {o:Oper} {r:List Oper} {K:St→Prop}:pE P ops qs i (o::r) K σ=dT P ops (qs.contains i) o (pE P ops qs (i+1) r K) σ:=by simp only[pE]
theorem GD {ops:Array Oper} {qs:List Nat} {K:St→Prop}:∀ (l:List Oper) (i:Nat) (σ:St),ops.toList.drop i=l→pE P ops qs i l K σ→ja P ops qs (jb (mn i l.length)) K σ
  | [],i,σ,_,h=>h
  | o::r,i,σ,hl,h=>by
    have hi:ops[i]?=some o:=by
      have:(ops.toList.drop i)[0]?=some o:=by rw[hl];rfl
      simpa using this
    have hr:ops.toList.drop (i+1)=r:=by
      have:=congrArg E9 hl
      simpa [E'] using this
    rw[dH,uJ]
    show cW P ops qs i (ja P ops qs (jb (mn (i+1) r.length)) K) σ
    unfold cW
    simp only[hi]
    have hm:∀ s,pE P ops qs (i+1) r K s→ja P ops qs (jb (mn (i+1) r.length)) K s:=fun s hs=>GD r (i+1) s hr hs
    exact zL hm h
def C9 (ops:Array Oper) (qs:List Nat):Bool:=(jb (aN ops.size)).ok ops qs ops.size (vZ ops.size false)
theorem Mj {id:Nat} {ops:Array Oper} {y:Code} (qs:List Nat) (hm:P.follows .mixedOrders=true) (hd:gj N ops=true) (ht:C9 ops qs=true) (h:∀ K:St→Prop,(∀ s,W P N n0 y Q s→K s)→pE P ops qs 0 ops.toList K σ) :
    W P N n0 (.seq (.region id ops true) y) Q σ :=
  J' qs _ hm hd ht fun K hK=>by
    have:=GD (P:=P) (ops:=ops) (qs:=qs) ops.toList 0 σ rfl (h K hK)
    rw[uK]
    simpa using this
theorem yz {id:Nat} {ops:Array Oper} (qs:List Nat) (hm:P.follows .mixedOrders=true) (hd:gj N ops=true) (ht:C9 ops qs=true) (h:∀ K:St→Prop,(∀ s,Q .normal s→K s)→pE P ops qs 0 ops.toList K σ) :
    W P N n0 (.region id ops true) Q σ :=
  jT qs _ hm hd ht (by
    have:=GD (P:=P) (ops:=ops) (qs:=qs) ops.toList 0 σ rfl (h _ (fun _ h=>h))
    rw[uK]
    simpa using this)
theorem bH {f:FuncId} {args:List AV} {dst:Option Tmp} {K:St→Prop} {res:AV} (h:an P f args [] res []) (ha:gX args=true) (hr:eZ res=true) (hK:K (σ.put dst res)):FB P f args dst K σ :=
  ⟨res,h,ha,hr,hK⟩
end Go.Am
namespace Go.Am
variable {P:Program} {N n0:Nat} {σ:St} {Q:Exit→St→Prop}
theorem bq.GF {σ:St} {γ:Cx} (h:bq σ γ) {id:Nat} {cells cells':List AV} (ho:σ.aa[id]?=some (.var cells)) (hl:cells'.length=cells.length)
    (hc:∀ (c:Nat) v v',cells[c]?=some v→cells'[c]?=some v'→∀ cv,ay σ.aa γ.w γ.Z γ.blk v cv→ay σ.aa γ.w γ.Z γ.blk v' cv):bq ⟨σ.env,σ.aa.set id (.var cells')⟩ γ:=by
  obtain ⟨b,cap,cur,t,h1,h2,h3,h4⟩:=h.ez id _ ho
  have:=h.write (ob':=.var cells') ho (by simp) (by simp[Ob.dW,hl]) h1 (w':=γ.w) h2 (fun _ _=>rfl) rfl ⟨rfl,by rw[h3,hl],fun c v hv=>?_⟩
  · exact this
  · have bw:c<cells.length:=by rw[← hl];exact (aQ.1 hv).1
    exact hc c _ v (bX bw) hv _ (h4 c _ (bX bw))
theorem Fr.GF (os:List Ob) (γ:Cx) {id:Nat} {cells cells':List AV} (ho:os[id]?=some (.var cells)) (hl:cells'.length=cells.length):Fr os γ (os.set id (.var cells')) γ where
  lS:=rfl
  tape:=rfl
  output:=rfl
  size:=Nat.le_refl _
  ax:=fun _ _ _=>rfl
  z0:=fun _ h=>h
  z1:=fun _ h=>.inl h
  own:=by
    rintro b ⟨i,o,c,⟨x,hx,dy⟩,hb⟩
    rw[b6] at hx
    split at hx
    · rename_i e;subst e;exact .inl ⟨id,o,c,⟨_,ho,by simp⟩,hb⟩
    · exact .inl ⟨i,o,c,⟨x,hx,dy⟩,hb⟩
  len:=by simp
  kA:=by
    rintro i hi ⟨x,hx,dy⟩
    have hx0:=hx
    rw[b6] at hx
    split at hx
    · rename_i e;subst e
      exact⟨rfl,.var cells,.var cells',ho,by rw[b6];simp[hi],by simp[Ob.dW,hl]⟩
    · exact⟨rfl,x,x,hx,hx0,Ob.jG dy⟩
theorem aB.ld (id c sz:Nat) {cells:List AV} (ho:σ.aa[id]?=some (.var cells)) (hc:cells[c]?=some (.lit (.slice none 0 0))) (h0:0<sz) :
    aB n0 σ ⟨σ.env,(σ.aa++[Ob.arr sz []]).set id (.var (cells.set c (.ref σ.aa.length sz 0 0)))⟩:=by
  intro os γ0 γ _ hs hf
  have hp:=hs.wJ h0
  have cV:id<σ.aa.length:=(aQ.1 ho).1
  have cR:(σ.aa++[Ob.arr sz []])[id]?=some (.var cells):=by rw[cn cV];exact ho
  refine⟨{ γ with blk:=cS γ.blk σ.aa.length none },rfl,rfl,?_,(hf.trans (Fr.wJ _ _ _)).trans (Fr.GF _ _ cR (cells':=cells.set c (.ref σ.aa.length sz 0 0)) (by simp))⟩
  refine hp.GF cR (cells':=cells.set c (.ref σ.aa.length sz 0 0)) (by simp) (fun k v v' hv oG cv hr=>?_)
  rw[b6] at oG
  split at oG
  · rename_i e;subst e
    split at oG
    · simp only[cY.injEq] at oG
      subst oG
      have hk:cells[c]?=some v:=hv
      rw[hc] at hk
      simp only[cY.injEq] at hk
      subst hk
      rw[hr.cM]
      exact .lE _ _ (List.getElem?_concat_length ..) (by simp[cS])
    · simp at oG
  · have hk:cells[k]?=some v':=oG
    have bS:cells[k]?=some v:=hv
    rw[bS] at hk
    simp only[cY.injEq] at hk
    subst hk
    exact hr
theorem aB.sM (a id c sz:Nat) {cells:List AV} {rows:List (List AV)} (ho:σ.aa[id]?=some (.var cells)) (ha:σ.aa[a]?=some (.arr sz rows)) (hc:cells[c]?=some (.ref a sz 0 rows.length))
    (hw:∀ row∈rows,row.length=sz) (kz:∀ row∈rows,∀ v∈row,(∃ x,v=.lit x)∨∃ s r,v=.tree s r):aB n0 σ ⟨σ.env,(σ.aa.set a .gone).set id (.var (cells.set c (.tree sz rows)))⟩:=by
  intro os γ0 γ _ hs hf
  have Ar:a≠id:=by intro e;subst e;rw[ho] at ha;simp at ha
  have wm:id<σ.aa.length:=(aQ.1 ho).1
  have fK:a<σ.aa.length:=(aQ.1 ha).1
  let aF:Cx:={ γ with Z:=fun b=>γ.Z b∨∃ o cap,γ.blk a=some (b,o,cap) }
  let dJ:=(σ.aa.set a .gone).set id (.var (cells.set c (.tree sz rows)))
  have fC:∀ i,dJ[i]?=if i=id then some (.var (cells.set c (.tree sz rows))) else if i=a then some .gone else σ.aa[i]?:=by
    intro i
    show ((σ.aa.set a .gone).set id _)[i]?=_
    rw[b6,b6]
    by_cases h1:i=id
    · subst h1;simp[wm]
    · by_cases h2:i=a
      · subst h2;simp[Ne.symm h1,h1,fK]
      · simp[Ne.symm h1,Ne.symm h2,h1,h2]
  have hR:∀ v cv,ay σ.aa γ.w γ.Z γ.blk v cv→ay dJ aF.w aF.Z aF.blk v cv:=fun v cv hv =>
    hv.mono (fun b hb=>⟨.inl hb,rfl⟩) (fun i o hi=>by
      rw[fC]
      by_cases h1:i=id
      · subst h1
        rw[ho] at hi
        simp only[cY.injEq] at hi
        subst hi
        right
        exact⟨rfl,_,by rw[if_pos rfl],by simp[Ob.dW]⟩
      · rw[if_neg h1]
        by_cases h2:i=a
        · left;rw[if_pos h2]
        · rw[if_neg h2]
          by_cases hg:o=.gone
          · subst hg;exact .inl hi
          · exact .inr ⟨rfl,o,hi,Ob.jG hg⟩)
  have cz:∀ i,Live dJ i→Live σ.aa i∧i≠a:=by
    rintro i ⟨o,hi,hg⟩
    rw[fC] at hi
    split at hi
    · rename_i h1;subst h1;exact⟨⟨_,ho,by simp⟩,Ne.symm Ar⟩
    · split at hi
      · simp at hi;exact absurd hi.symm hg
      · rename_i h2;exact⟨⟨o,hi,hg⟩,h2⟩
  have nB:Live σ.aa a:=⟨_,ha,by simp⟩
  refine⟨aF,rfl,rfl,⟨fun k=>hR _ _ (hs.aw k),?_,fun i j b o c o' c' hi hj=>hs.inj i j b o c o' c' (cz i hi).1 (cz j hj).1,?_,?_⟩,?_⟩
  · intro i o hi
    have hi':dJ[i]?=some o:=hi
    rw[fC] at hi'
    split at hi'
    · rename_i h1
      subst h1
      simp only[cY.injEq] at hi'
      subst hi'
      obtain ⟨b,cap,cur,t,h1,h2,h3,h4⟩:=hs.ez _ _ ho
      refine⟨b,cap,cur,t,h1,h2,by simpa using h3,fun k v hv=>?_⟩
      rw[b6] at hv
      split at hv
      · rename_i e
        subst e
        split at hv
        · simp only[cY.injEq] at hv
          subst hv
          have dK:cg σ (fun x=>x≠a) (.tree sz rows) (.ref a sz 0 rows.length):=cg.flat ha hw rfl (by simp) kz
          exact .bW _ _ (dK.zI hs (γc:=aF) (fun b hb=>.inl hb) rfl (fun x b o cap cV _ hb=>.inr ⟨o,cap,by rw[show a=x by simpa using (Decidable.not_not.1 cV).symm];exact hb⟩) _ (h4 c _ hc))
        · simp at hv
      · exact hR _ _ (h4 k v hv)
    · split at hi'
      · simp only[cY.injEq] at hi';subst hi';trivial
      · by_cases hg:o=.gone
        · subst hg;trivial
        · exact (hs.ez i o hi').mono hR rfl (fun _ _ _ _=>rfl)
  · rintro b ⟨i,o,c',hi,hb⟩ (hz | ⟨o',cap,db⟩)
    · exact hs.nz b ⟨i,o,c',(cz i hi).1,hb⟩ hz
    · exact (cz i hi).2 (hs.inj i a b o c' o' cap (cz i hi).1 nB hb db)
  · rintro b (hz | ⟨o,cap,hb⟩)
    · exact hs.gG b hz
    · exact hs.blt nB hb
  · refine⟨hf.lS,hf.tape,hf.output,hf.size,hf.ax,fun b hb=>.inl (hf.z0 b hb),?_,?_,by show os.length≤dJ.length;simp[dJ];exact hf.len,?_⟩
    · rintro b (hz | ⟨o,cap,hb⟩)
      · exact hf.z1 b hz
      · exact .inr (hf.own b ⟨a,o,cap,nB,hb⟩)
    · rintro b ⟨i,o,c',hi,hb⟩
      exact hf.own b ⟨i,o,c',(cz i hi).1,hb⟩
    · intro i hi hl
      obtain ⟨h1,x,x',hx,df,hk⟩:=hf.kA i hi (cz i hl).1
      have z':=(cz i hl).2
      have ix:Live dJ i:=hl
      obtain ⟨o,dL,p9⟩:=ix
      refine⟨h1,x,o,hx,dL,?_⟩
      rw[fC] at dL
      split at dL
      · rename_i e
        subst e
        rw[ho] at df
        simp only[cY.injEq] at df dL
        subst df;subst dL
        refine Ob.Gz hk (by simp[Ob.dW])
      · rw[df] at dL
        simp only[cY.injEq] at dL
        subst dL;exact hk
end Go.Am
namespace Go.Am
variable {P:Program}
def vf (P:Program):List Field→Nat→Nat→Bool
  | [],o,n=>o == n
  | f::fs,o,n=>f.offset == o && vf P fs (o+P.cellsOf f.type) n
def sN (P:Program):Nat→TypeId→Bool
  | 0,_=>false
  | d+1,t =>
    match P.underlying t with
    | some (.int .i64)=>P.cellsOf t == 1
    | some (.struct fs) => (P.info? t).isSome && !P.stoodInHeld t && vf P fs.toList 0 (P.cellsOf t) && fs.toList.all fun f => f.name != "_" && sN P d f.type
    | _=>false
def sO (P:Program) (t:TypeId) (xs:List Int):Value :=
  match P.underlying t with
  | some (.struct _)=>.agg (xs.map (Value.int .i64)).toArray
  | _=>.int .i64 (xs.getD 0 0)
theorem Mk {as bs:List Int} {o c:Nat} (h:as.length=bs.length):as.drop o=bs.drop o↔(as.drop o).take c=(bs.drop o).take c∧as.drop (o+c)=bs.drop (o+c):=by
  constructor
  · intro e
    refine⟨by rw[e],?_⟩
    rw[← Fj,← Fj,e]
  · rintro ⟨e1,e2⟩
    rw[← Fj,← Fj] at e2
    rw[← Fb c (as.drop o),← Fb c (bs.drop o),e1,e2]
theorem Ml (w:World) {d:Nat} {t:TypeId} (h:sN P d t=true) {as:List Int} {o:Nat} (ho:o+P.cellsOf t≤as.length) :
    (part t (as.map (Value.int .i64)).toArray o).run P w=.ok (sO P t ((as.drop o).take (P.cellsOf t))) w:=by
  cases d with
  | zero=>simp[sN] at h
  | succ d =>
    unfold sN at h
    cases hu:P.underlying t with
    | none=>simp[hu] at h
    | some k =>
      rw[hu] at h
      cases k<;>try (simp at h;done)
      case int q =>
        cases q<;>try (simp at h;done)
        have hc:P.cellsOf t=1:=by simpa using h
        rw[hc] at ho
        have hx:((as.map (Value.int .i64)).toArray)[o]?=some (.int .i64 (as.getD o 0)):=by
          have:o<as.length:=by omega
          simp[this]
        simp only[part,isAgg,Sem.run_bind,run_underlying hu,Result.andThen_ok,Sem.run_pure,jF,if_false,Sem.run_ite,hx]
        have:o<as.length:=by omega
        simp[sO,hu,hc,this]
      case struct fs =>
        simp only[bk] at h
        obtain ⟨i,hi⟩:=Option.isSome_iff_exists.1 h.1.1.1
        have hs:∀ w,(sizeOf t).run P w=.ok (P.cellsOf t) w:=fun w=>by
          simp[sizeOf,typeInfo,Program.cellsOf,hi,run_program]
        simp only[part,isAgg,Sem.run_bind,run_underlying hu,Result.andThen_ok,Sem.run_pure,if_true,Sem.run_ite,hs]
        simp only[sO,hu]
        congr 2
        simp[List.map_take,List.map_drop]
theorem Mm {D d:Nat} (ih:∀ t,sN P d t=true→∀ (w:World) (as bs:List Int),as.length=P.cellsOf t→bs.length=P.cellsOf t→(Op.equalIn (D+d) t (sO P t as) (sO P t bs)).run P w=.ok (decide (as=bs)) w) {as bs:List Int} (hl:as.length=bs.length) :
    ∀ (fs : List Field) (o : Nat) (w : World), vf P fs o as.length = true → (fs.all fun f => f.name != "_" && sN P d f.type) = true →
      o+(fs.map fun f=>P.cellsOf f.type).sum=as.length→(Op.eqFields (D+d) (as.map (Value.int .i64)).toArray (bs.map (Value.int .i64)).toArray fs).run P w=.ok (decide (as.drop o=bs.drop o)) w
  | [],o,w,ht,_,hs=>by
    have:o=as.length:=by simpa [vf] using ht
    subst this
    have:bs.drop as.length=[]:=List.drop_eq_nil_of_le (by omega)
    simp[Op.eqFields,this]
  | f::fs,o,w,ht,ha,hs=>by
    simp only[vf,bk,beq_iff_eq] at ht
    obtain ⟨rfl,ht⟩:=ht
    simp only[B2,bk,bne_iff_ne] at ha
    simp only[dO,List.sum_cons] at hs
    have h1:=Ml (as:=as) w ha.1.2 (o:=f.offset) (by omega)
    have h2:=Ml (as:=bs) w ha.1.2 (o:=f.offset) (by omega)
    have h3:=ih f.type ha.1.2 w ((as.drop f.offset).take (P.cellsOf f.type)) ((bs.drop f.offset).take (P.cellsOf f.type)) (by simp;omega) (by simp;omega)
    have h4:=Mm ih hl fs (f.offset+P.cellsOf f.type) w ht ha.2 (by omega)
    simp only[Op.eqFields]
    rw[if_pos ha.1.1]
    simp only[Sem.run_bind,h1,h2,h3,Result.andThen_ok,Sem.run_ite,Sem.run_pure,h4]
    by_cases he:(as.drop f.offset).take (P.cellsOf f.type)=(bs.drop f.offset).take (P.cellsOf f.type)
    · rw[decide_eq_true he]
      simp only[lR,jF,if_false]
      congr 1
      rw[decide_eq_decide,Mk (o:=f.offset) (c:=P.cellsOf f.type) hl]
      simp[he]
    · rw[decide_eq_false he]
      simp only[nw,if_true]
      congr 1
      rw[eq_comm,decide_eq_false_iff_not,Mk (o:=f.offset) (c:=P.cellsOf f.type) hl]
      exact fun h=>he h.1
theorem Mn:∀ (fs:List Field) (o n:Nat),vf P fs o n=true→o+(fs.map fun f=>P.cellsOf f.type).sum=n
  | [],o,n,h=>by simpa [vf] using h
  | f::fs,o,n,h=>by
    simp only[vf,bk,beq_iff_eq] at h
    have:=Mn fs _ n h.2
    simp only[dO,List.sum_cons];omega
theorem Mo (D:Nat):∀ (d:Nat) (t:TypeId),sN P d t=true→∀ (w:World) (as bs:List Int),as.length=P.cellsOf t→bs.length=P.cellsOf t→(Op.equalIn (D+d) t (sO P t as) (sO P t bs)).run P w=.ok (decide (as=bs)) w
  | 0,t,h=>by simp[sN] at h
  | d+1,t,h=>by
    intro w as bs ha hb
    unfold sN at h
    cases hu:P.underlying t with
    | none=>simp[hu] at h
    | some k =>
      rw[hu] at h
      cases k<;>try (simp at h;done)
      case int q =>
        cases q<;>try (simp at h;done)
        have hc:P.cellsOf t=1:=by simpa using h
        rw[hc] at ha hb
        match as,bs,ha,hb with
        | [a],[b],_,_ =>
          simp only[sO,hu,gb]
          rw[show D+(d+1)=(D+d)+1 from rfl,run_equalIn_int w (D+d) t .i64 .i64 a b hu]
          congr 1
          rw[oC];simp
      case struct fs =>
        simp only[bk,kx] at h
        have hf:P.fieldsOf t=fs:=by simp[Program.fieldsOf,hu]
        simp only[sO,hu]
        rw[show D+(d+1)=(D+d)+1 from rfl,run_equalIn_struct w (D+d) t _ _ (by rw[hf];exact hu) h.1.1.2,hf]
        have:=Mm (D:=D) (Mo D d) (as:=as) (bs:=bs) (by omega) fs.toList 0 w (by rw[ha];exact h.1.2) h.2 (by rw[ha];exact Mn _ _ _ h.1.2)
        simpa using this
def GG (P:Program) (d:Nat) (t:TypeId) (n:Nat):Bool :=
  (match P.underlying t with | some (.struct _)=>true | _=>false) && decide (d≤10000) && sN P d t && (P.cellsOf t == n)
theorem u4.of {t:TypeId} (d:Nat) {n:Nat} (h:GG P d t n=true):u4 P t n:=by
  intro w as bs ha hb
  simp only[GG,bk,decide_eq_true_eq,beq_iff_eq] at h
  obtain ⟨⟨⟨h1,hd⟩,h2⟩,h3⟩:=h
  have:=Mo (10000 - d) d t h2 w as bs (by omega) (by omega)
  rw[Nat.sub_add_cancel hd] at this
  cases hu:P.underlying t with
  | none=>rw[hu] at h1;simp at h1
  | some k =>
    cases k<;>rw[hu] at h1<;>try (simp at h1;done)
    simpa only[sO,hu] using this
end Go.Am
namespace Go.Am
variable {P:Program} {N n0:Nat} {σ:St} {Q:Exit→St→Prop}
def rC (o:Oper):Bool :=
  match o.op with
  | .call c=>match c.callee with
    | .value _=>true
    | _=>false
  | _=>false
def yA (ops:Array Oper):List Nat:=(aN ops.size).filter fun i=>match ops[i]? with | some o=>rC o | none=>false
def qq (P:Program) (ops:Array Oper):List Oper→(St→Prop)→St→Prop
  | [],K,σ=>K σ
  | o::r,K,σ=>dT P ops (rC o) o (qq P ops r K) σ
theorem Mp {ops:Array Oper} {K:St→Prop}:qq P ops [] K σ=K σ:=by simp only[qq]
theorem GH {ops:Array Oper} {o:Oper} {r:List Oper} {K:St→Prop}:qq P ops (o::r) K σ=dT P ops (rC o) o (qq P ops r K) σ:=by simp only[qq]
theorem YQ {ops:Array Oper} {i:Nat} {o:Oper} (h:ops[i]?=some o):(yA ops).contains i=rC o:=by
  have hi:i<ops.size:=(oA.1 h).1
  rw[oC,tB]
  simp only[yA,nx,lP,hi,true_and,h]
theorem GJ {ops:Array Oper} {K:St→Prop}:∀ (l:List Oper) (i:Nat) (σ:St),ops.toList.drop i=l→qq P ops l K σ→pE P ops (yA ops) i l K σ
  | [],i,σ,_,h=>h
  | o::r,i,σ,hl,h=>by
    have hi:ops[i]?=some o:=by
      have:(ops.toList.drop i)[0]?=some o:=by rw[hl];rfl
      simpa using this
    have hr:ops.toList.drop (i+1)=r:=by
      have:=congrArg E9 hl
      simpa [E'] using this
    rw[C8,YQ hi]
    rw[GH] at h
    exact zL (fun s hs=>GJ r (i+1) s hr hs) h
def Da (ops:Array Oper):Bool:=C9 ops (yA ops)
theorem YR {id:Nat} {ops:Array Oper} {y:Code} (hm:P.follows .mixedOrders=true) (hd:gj N ops=true) (ht:Da ops=true) (h:∀ K:St→Prop,(∀ s,W P N n0 y Q s→K s)→qq P ops ops.toList K σ) :
    W P N n0 (.seq (.region id ops true) y) Q σ :=
  Mj (yA ops) hm hd ht fun K hK=>GJ ops.toList 0 σ rfl (h K hK)
theorem YS {id:Nat} {ops:Array Oper} (hm:P.follows .mixedOrders=true) (hd:gj N ops=true) (ht:Da ops=true) (h:∀ K:St→Prop,(∀ s,Q .normal s→K s)→qq P ops ops.toList K σ) :
    W P N n0 (.region id ops true) Q σ :=
  yz (yA ops) hm hd ht fun K hK=>GJ ops.toList 0 σ rfl (h K hK)
def tZ:List Oper→Bool
  | []=>false
  | o::r=>rC o || tZ r
def yB (ops:Array Oper):List Nat:=(aN ops.size).filter fun i=>match ops[i]? with | some o=>rC o && tZ (ops.toList.drop (i+1)) | none=>false
def qt (P:Program) (ops:Array Oper):List Oper→(St→Prop)→St→Prop
  | [],K,σ=>K σ
  | o::r,K,σ=>dT P ops (rC o && tZ r) o (qt P ops r K) σ
theorem Mq {ops:Array Oper} {K:St→Prop}:qt P ops [] K σ=K σ:=by simp only[qt]
theorem GK {ops:Array Oper} {o:Oper} {r:List Oper} {K:St→Prop}:qt P ops (o::r) K σ=dT P ops (rC o && tZ r) o (qt P ops r K) σ:=by simp only[qt]
theorem YT {ops:Array Oper} {i:Nat} {o:Oper} {r:List Oper} (h:ops[i]?=some o) (hr:ops.toList.drop (i+1)=r):(yB ops).contains i=(rC o && tZ r):=by
  have hi:i<ops.size:=(oA.1 h).1
  rw[oC,tB]
  simp only[yB,nx,lP,hi,true_and,h,hr]
theorem GL {ops:Array Oper} {K:St→Prop}:∀ (l:List Oper) (i:Nat) (σ:St),ops.toList.drop i=l→qt P ops l K σ→pE P ops (yB ops) i l K σ
  | [],i,σ,_,h=>h
  | o::r,i,σ,hl,h=>by
    have hi:ops[i]?=some o:=by
      have:(ops.toList.drop i)[0]?=some o:=by rw[hl];rfl
      simpa using this
    have hr:ops.toList.drop (i+1)=r:=by
      have:=congrArg E9 hl
      simpa [E'] using this
    rw[C8,YT hi hr]
    rw[GK] at h
    exact zL (fun s hs=>GL r (i+1) s hr hs) h
def Db (ops:Array Oper):Bool:=C9 ops (yB ops)
theorem YU {id:Nat} {ops:Array Oper} {y:Code} (hm:P.follows .mixedOrders=true) (hd:gj N ops=true) (ht:Db ops=true) (h:∀ K:St→Prop,(∀ s,W P N n0 y Q s→K s)→qt P ops ops.toList K σ) :
    W P N n0 (.seq (.region id ops true) y) Q σ :=
  Mj (yB ops) hm hd ht fun K hK=>GL ops.toList 0 σ rfl (h K hK)
theorem YV {id:Nat} {ops:Array Oper} (hm:P.follows .mixedOrders=true) (hd:gj N ops=true) (ht:Db ops=true) (h:∀ K:St→Prop,(∀ s,Q .normal s→K s)→qt P ops ops.toList K σ) :
    W P N n0 (.region id ops true) Q σ :=
  yz (yB ops) hm hd ht fun K hK=>GL ops.toList 0 σ rfl (h K hK)
theorem an.empty {f:FuncId} {sz:Nat} {pre post:List AV} {aa a8:List Ob} {res:AV} (h:∀ a cap,an P f (pre++.lit (.slice a 0 cap)::post) aa res a8):an P f (pre++.tree sz []::post) aa res a8:=by
  refine⟨(h none 0).1,fun γ a9 hs=>?_⟩
  have jt:=hs.aw pre.length
  have he:(pre++.tree sz []::post).getD pre.length .undef=.tree sz []:=by simp
  rw[show (⟨fun k=>(pre++AV.tree sz []::post).getD k .undef,aa⟩:St).env pre.length=.tree sz [] from he] at jt
  obtain ⟨a,cap,bd⟩ :∃a cap,γ.tmps.getD pre.length Go.undef=.slice a 0 cap:=by
    generalize γ.tmps.getD pre.length Go.undef=cv at jt
    have:=jt.wF
    cases this with
    | nil _ cap a=>exact⟨a,cap,rfl⟩
    | tree _ _ b o cap f=>exact⟨_,cap,rfl⟩
  refine (h a cap).2 γ (by simpa using a9) ⟨fun k=>?_,hs.ez,hs.inj,hs.nz,hs.gG⟩
  by_cases hk:k=pre.length
  · subst hk
    show ay aa γ.w γ.Z γ.blk ((pre++.lit (.slice a 0 cap)::post).getD pre.length .undef) _
    rw[show (pre++AV.lit (.slice a 0 cap)::post).getD pre.length .undef=.lit (.slice a 0 cap) by simp,bd]
    exact .lit _
  · have:=hs.aw k
    show ay aa γ.w γ.Z γ.blk ((pre++.lit (.slice a 0 cap)::post).getD k .undef) _
    have e:(pre++AV.lit (.slice a 0 cap)::post).getD k .undef=(pre++AV.tree sz []::post).getD k .undef:=by
      simp only[aA]
      congr 1
      rcases eF k pre.length with h' | h'
      · rw[cn h',cn h']
      · rw[eK h',eK h']
        obtain ⟨j,hj⟩ :∃j,k - pre.length=j+1:=⟨k - pre.length - 1,by omega⟩
        rw[hj];simp
    rw[e];exact this
theorem aB.As (d sz:Nat) {a:Option Addr} {cap:Nat} (h:σ.env d=.lit (.slice a 0 cap)):aB n0 σ ⟨iM σ.env d (.tree sz []),σ.aa⟩:=by
  intro os γ0 γ _ hs hf
  refine⟨γ,rfl,rfl,⟨fun k=>?_,hs.ez,hs.inj,hs.nz,hs.gG⟩,hf⟩
  show ay σ.aa γ.w γ.Z γ.blk (iM σ.env d (.tree sz []) k) _
  by_cases hk:k=d
  · subst hk
    have:=hs.aw k
    rw[h] at this
    rw[XU,this.cM]
    exact .bW _ _ (.nil sz cap a)
  · rw[iM,if_neg hk];exact hs.aw k
end Go.Am
namespace Go.Am
theorem Dc (k:IntKind) (n:Int):dS (.int k n)=.lit (.int k n):=by first|rfl|(cases b<;>rfl)|(simp only[dS];done)|(unfold fm;split<;>simp_all)
theorem Dd (b:Bool):dS (.bool b)=.lit (.bool b):=by first|rfl|(cases b<;>rfl)|(simp only[dS];done)|(unfold fm;split<;>simp_all)
theorem De (a:Option Addr) (n c:Nat):dS (.slice a n c)=.lit (.slice a n c):=by first|rfl|(cases b<;>rfl)|(simp only[dS];done)|(unfold fm;split<;>simp_all)
theorem Df (s:ByteArray):dS (.string s)=.lit (.string s):=by first|rfl|(cases b<;>rfl)|(simp only[dS];done)|(unfold fm;split<;>simp_all)
theorem Dg (s:Array Value):dS (.tuple s)=.lit (.tuple s):=by first|rfl|(cases b<;>rfl)|(simp only[dS];done)|(unfold fm;split<;>simp_all)
theorem Mr (ρ:Nat→Nat) (v:Value):a6 ρ (.lit v)=.lit v:=by first|rfl|(cases b<;>rfl)|(simp only[dS];done)|(unfold fm;split<;>simp_all)
theorem Ms (ρ:Nat→Nat) (s:Nat) (r:List (List AV)):a6 ρ (.tree s r)=.tree s r:=by first|rfl|(cases b<;>rfl)|(simp only[dS];done)|(unfold fm;split<;>simp_all)
theorem Mt (ρ:Nat→Nat) (r:List AV):a6 ρ (.b7 r)=.b7 r:=by first|rfl|(cases b<;>rfl)|(simp only[dS];done)|(unfold fm;split<;>simp_all)
theorem Mu (ρ:Nat→Nat):a6 ρ .undef=.undef:=by first|rfl|(cases b<;>rfl)|(simp only[dS];done)|(unfold fm;split<;>simp_all)
theorem Mw (v:Value):cellsOf (.lit v)=[.lit v]:=by first|rfl|(cases b<;>rfl)|(simp only[dS];done)|(unfold fm;split<;>simp_all)
theorem Mx (s:Nat) (r:List (List AV)):cellsOf (.tree s r)=[.tree s r]:=by first|rfl|(cases b<;>rfl)|(simp only[dS];done)|(unfold fm;split<;>simp_all)
theorem My (r:List AV):cellsOf (.b7 r)=[.b7 r]:=by first|rfl|(cases b<;>rfl)|(simp only[dS];done)|(unfold fm;split<;>simp_all)
theorem Mz (a b c d:Nat):cellsOf (.ref a b c d)=[.ref a b c d]:=by first|rfl|(cases b<;>rfl)|(simp only[dS];done)|(unfold fm;split<;>simp_all)
theorem MA (a b c:Nat):cellsOf (.ptr a b c)=[.ptr a b c]:=by first|rfl|(cases b<;>rfl)|(simp only[dS];done)|(unfold fm;split<;>simp_all)
theorem MC (id:Nat):cellsOf (.gk id)=[.gk id]:=rfl
theorem MD (t:TypeId) (v:AV):cellsOf (.gJ t v)=[.gJ t v]:=rfl
theorem ME (f:FuncId) (l:List AV):cellsOf (.fn f l)=[.fn f l]:=by first|rfl|(cases b<;>rfl)|(simp only[dS];done)|(unfold fm;split<;>simp_all)
theorem MF (t:Bool) (s:Array Value) (b:AV):fm t (.lit (.tuple s)) b=if t=true then .lit (.tuple s) else b:=by first|rfl|(cases b<;>rfl)|(simp only[dS];done)|(unfold fm;split<;>simp_all)
theorem MG (t:Bool) (s:Array Value) (b:AV):fm t b (.lit (.tuple s))=if t=true then b else .lit (.tuple s):=by first|rfl|(cases b<;>rfl)|(simp only[dS];done)|(unfold fm;split<;>simp_all)
theorem MH (t:Bool) (s u:List AV):fm t (.agg s) (.agg u)=if t=true then .agg s else .agg u:=by first|rfl|(cases b<;>rfl)|(simp only[dS];done)|(unfold fm;split<;>simp_all)
theorem MI (l:List AV):cf (.agg l)=false:=by first|rfl|(cases b<;>rfl)|(simp only[dS];done)|(unfold fm;split<;>simp_all)
theorem MJ (l:List AV):cf (.bG l)=false:=by first|rfl|(cases b<;>rfl)|(simp only[dS];done)|(unfold fm;split<;>simp_all)
theorem MK  : cf .undef=false:=by first|rfl|(cases b<;>rfl)|(simp only[dS];done)|(unfold fm;split<;>simp_all)
theorem ML (k:IntKind) (n:Int):Value.oneCell' (.int k n)=true:=by first|rfl|(cases b<;>rfl)|(simp only[dS];done)|(unfold fm;split<;>simp_all)
theorem MN (b:Bool):Value.oneCell' (.bool b)=true:=by first|rfl|(cases b<;>rfl)|(simp only[dS];done)|(unfold fm;split<;>simp_all)
theorem MO (a:Option Addr) (n c:Nat):Value.oneCell' (.slice a n c)=true:=by first|rfl|(cases b<;>rfl)|(simp only[dS];done)|(unfold fm;split<;>simp_all)
theorem MP (s:ByteArray):Value.oneCell' (.string s)=true:=by first|rfl|(cases b<;>rfl)|(simp only[dS];done)|(unfold fm;split<;>simp_all)
theorem MQ (a:Option Addr):Value.oneCell' (.pointer a)=true:=by first|rfl|(cases b<;>rfl)|(simp only[dS];done)|(unfold fm;split<;>simp_all)
theorem MR (a:Option Nat):Value.oneCell' (.map a)=true:=by first|rfl|(cases b<;>rfl)|(simp only[dS];done)|(unfold fm;split<;>simp_all)
theorem Pc:type_of% @x6.eq_1∧type_of% @x6.eq_2∧type_of% @uZ.eq_1∧type_of% @uZ.eq_2∧type_of% @x7.eq_1∧type_of% @x7.eq_2∧type_of% @q7.eq_1∧type_of% @q7.eq_2∧type_of% @q7.eq_3∧type_of% @FN.eq_1∧type_of% @FQ.eq_1∧type_of% @fP.eq_1∧type_of% @fP.eq_2∧type_of% @fP.eq_3∧type_of% @fP.eq_4∧type_of% @fP.eq_5∧type_of% @fP.eq_6∧type_of% @fP.eq_7∧type_of% @fP.eq_8∧type_of% @fP.eq_9∧type_of% @fP.eq_10∧type_of% @fP.eq_11∧type_of% @fP.eq_12∧type_of% @fP.eq_13∧type_of% @lA.eq_1∧type_of% @dT.eq_1 :=
  ⟨@x6.eq_1,@x6.eq_2,@uZ.eq_1,@uZ.eq_2,@x7.eq_1,@x7.eq_2,@q7.eq_1,@q7.eq_2,@q7.eq_3,@FN.eq_1,@FQ.eq_1,@fP.eq_1,@fP.eq_2,@fP.eq_3,@fP.eq_4,@fP.eq_5,@fP.eq_6,@fP.eq_7,@fP.eq_8,@fP.eq_9,@fP.eq_10,@fP.eq_11,@fP.eq_12,@fP.eq_13,@lA.eq_1,@dT.eq_1⟩
theorem Sc:type_of% @ev.eq_1∧type_of% @ev.eq_2∧type_of% @ev.eq_3∧type_of% @ev.eq_4∧type_of% @dS.eq_1∧type_of% @St.put.eq_1∧type_of% @St.put.eq_2∧type_of% @sC.eq_1∧type_of% @sC.eq_2∧type_of% @sE.eq_1∧type_of% @sE.eq_2∧type_of% @fm.eq_1∧type_of% @jb.eq_1∧type_of% @jb.eq_2∧type_of% @dV.eq_1∧type_of% @dV.eq_2∧type_of% @a6.eq_1∧type_of% @a6.eq_2∧type_of% @a6.eq_3∧type_of% @a6.eq_4∧type_of% @a6.eq_5∧type_of% @a6.eq_6∧type_of% @nF.eq_1∧type_of% @nF.eq_2∧type_of% @br.eq_1∧type_of% @rowOf.eq_1∧type_of% @mU.eq_1∧type_of% @mW.eq_1∧type_of% @mW.eq_2∧type_of% @py.eq_1∧type_of% @py.eq_2∧type_of% @cellsOf.eq_1∧type_of% @setCells.eq_1∧type_of% @setCells.eq_2∧type_of% @lC.eq_1∧type_of% @lC.eq_2∧type_of% @lD.eq_1∧type_of% @lD.eq_2∧type_of% @cf.eq_1∧type_of% @cf.eq_2∧type_of% @cf.eq_3∧type_of% @cf.eq_4∧type_of% @cf.eq_5∧type_of% @cf.eq_6∧type_of% @Ty.isAgg.eq_1∧type_of% @Value.oneCell'.eq_1∧type_of% @Value.oneCell'.eq_2∧type_of% @rC.eq_1∧type_of% @tZ.eq_1∧type_of% @tZ.eq_2∧type_of% @ar.eq_1∧type_of% @cD.eq_1∧type_of% @bD.eq_1∧type_of% @bu.eq_1∧type_of% @g6.eq_1∧type_of% @aO.eq_1∧type_of% @bA.eq_1∧type_of% @nH.eq_1∧type_of% @nH.eq_2∧type_of% @C8∧type_of% @Mi∧type_of% @GH∧type_of% @Mp∧type_of% @GK∧type_of% @Mq∧type_of% @ic∧type_of% @mq∧type_of% @Dc∧type_of% @Dd∧type_of% @De∧type_of% @Df∧type_of% @Dg∧type_of% @Mr∧type_of% @Ms∧type_of% @Mt∧type_of% @Mu∧type_of% @Mw∧type_of% @Mx∧type_of% @My∧type_of% @Mz∧type_of% @MA∧type_of% @ME∧type_of% @MF∧type_of% @MG∧type_of% @MH∧type_of% @MI∧type_of% @MJ∧type_of% @MK∧type_of% @ML∧type_of% @MN∧type_of% @MO∧type_of% @MP∧type_of% @MQ∧type_of% @MR∧type_of% @cf.eq_7∧type_of% @MD∧type_of% @KF∧type_of% @K8∧type_of% @K9∧type_of% @FO.eq_1∧type_of% @nD.eq_1∧type_of% @nD.eq_2∧type_of% @a6.eq_7∧type_of% @cf.eq_8∧type_of% @MC∧type_of% @KZ∧type_of% @K3∧type_of% @K4∧type_of% @K7∧type_of% @K5∧type_of% @K6∧type_of% @Ky∧type_of% @kZ.eq_1∧type_of% @keyOf.eq_1∧type_of% @keyOf.eq_2∧type_of% @jH.eq_1 :=
  ⟨@ev.eq_1,@ev.eq_2,@ev.eq_3,@ev.eq_4,@dS.eq_1,@St.put.eq_1,@St.put.eq_2,@sC.eq_1,@sC.eq_2,@sE.eq_1,@sE.eq_2,@fm.eq_1,@jb.eq_1,@jb.eq_2,@dV.eq_1,@dV.eq_2,@a6.eq_1,@a6.eq_2,@a6.eq_3,@a6.eq_4,@a6.eq_5,@a6.eq_6,@nF.eq_1,@nF.eq_2,@br.eq_1,@rowOf.eq_1,@mU.eq_1,@mW.eq_1,@mW.eq_2,@py.eq_1,@py.eq_2,@cellsOf.eq_1,@setCells.eq_1,@setCells.eq_2,@lC.eq_1,@lC.eq_2,@lD.eq_1,@lD.eq_2,@cf.eq_1,@cf.eq_2,@cf.eq_3,@cf.eq_4,@cf.eq_5,@cf.eq_6,@Ty.isAgg.eq_1,@Value.oneCell'.eq_1,@Value.oneCell'.eq_2,@rC.eq_1,@tZ.eq_1,@tZ.eq_2,@ar.eq_1,@cD.eq_1,@bD.eq_1,@bu.eq_1,@g6.eq_1,@aO.eq_1,@bA.eq_1,@nH.eq_1,@nH.eq_2,@C8,@Mi,@GH,@Mp,@GK,@Mq,@ic,@mq,@Dc,@Dd,@De,@Df,@Dg,@Mr,@Ms,@Mt,@Mu,@Mw,@Mx,@My,@Mz,@MA,@ME,@MF,@MG,@MH,@MI,@MJ,@MK,@ML,@MN,@MO,@MP,@MQ,@MR,@cf.eq_7,@MD,@KF,@K8,@K9,@FO.eq_1,@nD.eq_1,@nD.eq_2,@a6.eq_7,@cf.eq_8,@MC,@KZ,@K3,@K4,@K7,@K5,@K6,@Ky,@kZ.eq_1,@keyOf.eq_1,@keyOf.eq_2,@jH.eq_1⟩
theorem Lc:type_of% @ev.eq_1∧type_of% @ev.eq_2∧type_of% @ev.eq_3∧type_of% @ev.eq_4∧type_of% @dS.eq_1∧type_of% @St.put.eq_1∧type_of% @St.put.eq_2∧type_of% @Dc∧type_of% @Dd∧type_of% @De∧type_of% @Df∧type_of% @Dg :=
  ⟨@ev.eq_1,@ev.eq_2,@ev.eq_3,@ev.eq_4,@dS.eq_1,@St.put.eq_1,@St.put.eq_2,@Dc,@Dd,@De,@Df,@Dg⟩
theorem ej {P:Program} {N n0:Nat} (id:Nat) {ops:Array Oper} {d:Bool} {y:Code} {Q:Exit→St→Prop} {σ:St} (h:W P N n0 (.seq (.region id ops d) y) Q σ):W P N n0 (.seq (.region id ops d) y) Q σ:=h
theorem ek {P:Program} {N n0:Nat} (id:Nat) {ops:Array Oper} {d:Bool} {Q:Exit→St→Prop} {σ:St} (h:W P N n0 (.region id ops d) Q σ):W P N n0 (.region id ops d) Q σ:=h
end Go.Am
namespace Go.Am
variable {P:Program} {N n0:Nat} {σ:St}
def vg:Ob→Bool
  | .gone=>false
  | .var cs=>gX cs
  | .arr _ rows=>rows.all gX
  | .mp _ _=>false
theorem MS {ρ:Nat→Nat} {o:Ob} (h:vg o=true):bO ρ o=o:=by
  cases o with
  | gone=>simp[vg] at h
  | var cs =>
    have:=xX ρ cs h
    rw[tM] at this
    simp[bO,this]
  | arr sz rows=>exact zQ (by simpa [vg,gU] using h)
  | mp ag L=>simp[vg] at h
def MT (hd:Nat) (c a:AV):Prop:=(a=c∧eZ c=true)∨(c=.ptr 0 0 0∧a=.ptr hd 0 0)
def Au (P:Program) (hd:Nat) (g:FuncId) (args:List AV) (dst:Option Tmp) (K:St→Prop) (σ:St):Prop :=
  ∃ cZ D res D',an P g cZ [D] res [D']∧vg D=true∧vg D'=true∧σ.aa[hd]?=some D∧eZ res=true∧dY (MT hd) cZ args∧K ((⟨σ.env,σ.aa.set hd D'⟩:St).put dst res)
theorem YW {hd:Nat} {g:FuncId} {args:List AV} {dst:Option Tmp} {K:St→Prop} (h:Au P hd g args dst K σ):pt P g args dst K σ:=by
  obtain ⟨cZ,D,res,D',h1,h2,h3,h4,h5,h6,h7⟩:=h
  obtain ⟨h8,h9⟩:=h6.spec
  have YX:br σ.aa.length [hd] 0=hd:=by simp[br]
  refine⟨[hd],false,cZ,[D],res,[D'],h1,⟨by simp,rfl,fun j o hj=>?_,h8,fun j c d hc rh=>?_,by simp⟩,?_⟩
  · cases j with
    | zero=>simp at hj;subst hj;simp[MS h2,h4]
    | succ j=>simp at hj
  · rcases h9 j c d hc rh with ⟨rfl,hn⟩ | ⟨rfl,rfl⟩
    · exact .pure hn
    · exact .eq (by simp[a6,YX])
  · have e:dV σ.aa [hd] ([D'].map (bO (br σ.aa.length [hd])))=σ.aa.set hd D':=by simp[dV,MS h3]
    show K (({ σ with aa:=dV σ.aa [hd] ([D'].map (bO (br σ.aa.length [hd]))) }:St).put dst (a6 (br σ.aa.length [hd]) res))
    rw[e,wy _ _ h5];exact h7
def vh (hd:Nat) (P:Program) (o:Oper) (σ:St) (K:St→Prop):Prop :=
  match o.op with
  | .call { callee:=.value f,args,.. } =>
    match ev σ f with
    | .fn g aW=>Au P hd g (args.toList.map (ev σ)++aW) o.dst K σ
    | _=>False
  | _=>False
theorem YY {hd:Nat} {o:Oper} {K:St→Prop} (h:vh hd P o σ K):ba P o σ K:=by
  unfold vh at h
  unfold ba
  split at h
  · rename_i f args fl dP
    simp only[dP]
    split at h
    · rename_i g aW he
      simp only[he]
      exact YW h
    · exact h.elim
  · exact h.elim
def m5 (hd:Nat):AV→Bool
  | .ptr id _ _=>id != hd
  | .ref id _ _ _=>id != hd
  | .gk id=>id != hd
  | _=>true
def qu (hd:Nat) (σ:St):List Operand→Bool
  | []=>true
  | x::l=>m5 hd (ev σ x) && qu hd σ l
def ec (hd:Nat) (q:Bool) (o:Oper) (σ:St):Bool:=q || cls o.op == 0 || decide (3≤cls o.op) || qu hd σ o.op.operands.toList
theorem MU {hd:Nat}:∀ {l:List Operand},qu hd σ l=true→∀ x∈l,rj (ev σ x)≠some hd
  | [],_,x,hx=>by simp at hx
  | y::l,h,x,hx=>by
    simp only[qu,bk] at h
    rcases cu.1 hx with rfl | hx
    · intro e
      have h1:=h.1
      cases hv:ev σ x<;>rw[hv] at e h1<;>simp[rj,m5] at e h1
      · exact h1 e
      · exact h1 e
      · exact h1 e
    · exact MU h.2 x hx
theorem GM {hd:Nat} {σ2:St}:∀ {l:List Operand},(∀ x∈l,ev σ2 x=ev σ x)→qu hd σ2 l=qu hd σ l
  | [],_=>rfl
  | y::l,h=>by
    simp only[qu]
    rw[h y (by simp),GM fun x hx=>h x (by simp[hx])]
def jX (P:Program) (ops:Array Oper) (hd:Nat) (q dc:Bool) (o:Oper) (K:St→Prop) (σ:St):Prop :=
  match dc with
  | true=>o.guard=none∧vh hd P o σ K
  | false=>ec hd q o σ=true∧dT P ops q o K σ
def gL (q dc:Bool) (o:Oper):Nat:=if dc then 6 else fD q o
def Av (hd c:Nat) (a b:List Ob):Prop:=if c=6 then ∀ id,id≠hd→b[id]?=a[id]? else j' c a b
theorem YZ {N:Nat} {os:List Ob} {γ0:Cx} {ops:Array Oper} {hh:Nat} (hd:∀ o∈ops.toList,∀ d,o.dst=some d→d<N) {q dc:Bool} {i:Nat} {o:Oper} (hi:ops[i]?=some o) {σ:St} {K:St→Prop}
    (h:jX P ops hh q dc o K σ) {a:Act} {w:World} (aJ:gI N os γ0 σ a w) {Q:Exit→Act→World→Prop} {next:Act→World→Prop} (hn:∀ σ' a' w',K σ'→gI N os γ0 σ' a' w'→next a' w'):wpOp P ops Q i next a w:=by
  cases dc with
  | false=>exact J2 hd hi h.2 aJ hn
  | true =>
    have cX:o∈ops.toList:=gB (by simpa using hi)
    unfold wpOp
    simp only[hi]
    have hw:Region.wanted o (yielded ops a.tmps)=true:=by simp[Region.wanted,h.1]
    rw[if_pos hw]
    left
    exact wo (YY h.2) aJ (hd o cX) hn
theorem Dh {ops:Array Oper} {hh:Nat} {q dc:Bool} {o:Oper} {σ:St} {K:St→Prop} (hW:jX P ops hh q dc o K σ) :
    ∃ v os,Av hh (gL q dc o) σ.aa os∧K ((⟨σ.env,os⟩:St).put o.dst v)∧∀ (e2:Nat→AV) (K2:St→Prop),(∀ t∈o.looksAt ops,e2 t=σ.env t)→K2 ((⟨e2,os⟩:St).put o.dst v)→jX P ops hh q dc o K2 ⟨e2,σ.aa⟩:=by
  cases dc with
  | false =>
    obtain ⟨hc,hW⟩:=hW
    obtain ⟨v,os,h1,h2,h3⟩:=zJ hW
    refine⟨v,os,?_,h2,fun e2 K2 hl hK=>⟨?_,h3 e2 K2 hl hK⟩⟩
    · unfold Av gL
      simp only[jF,if_false]
      rw[if_neg]
      · exact h1
      · unfold fD
        split
        · omega
        · unfold cls;split<;>omega
    · unfold ec at hc ⊢
      rw[GM (σ:=σ) (tJ hl)];exact hc
  | true =>
    obtain ⟨hg,hW⟩:=hW
    unfold vh at hW
    split at hW
    · rename_i f args fl dP
      split at hW
      · rename_i g aW he
        obtain ⟨cZ,D,res,D',h1,h2,h3,h4,h5,h6,h7⟩:=hW
        refine⟨res,σ.aa.set hh D',?_,h7,fun e2 K2 hl hK=>⟨hg,?_⟩⟩
        · unfold Av gL
          simp only[if_true]
          intro id cV
          rw[b6,if_neg (Ne.symm cV)]
        · unfold vh
          simp only[dP]
          have hx:=tJ (os:=σ.aa) hl
          have e1:ev ⟨e2,σ.aa⟩ f=.fn g aW:=by rw[← he];exact hx f (by simp[dP,Op.operands,Call.operands])
          have e3:args.toList.map (ev ⟨e2,σ.aa⟩)=args.toList.map (ev σ):=kU fun y hy=>hx y (by simp only[dP,Op.operands,Call.operands,xJ,cr];exact .inr hy)
          simp only[e1,e3]
          exact⟨cZ,D,res,D',h1,h2,h3,h4,h5,h6,hK⟩
      · exact hW.elim
    · exact hW.elim
theorem Y0 {o:Oper} {σ:St} {K:St→Prop} (hc:cls o.op≤2) (hW:ba P o σ K) :
    ∃ v,K (σ.put o.dst v)∧∀ (σ2:St) (K2:St→Prop),(∀ x∈o.op.operands.toList,ev σ2 x=ev σ x)→(∀ x∈o.op.operands.toList,∀ id,rj (ev σ x)=some id→iZ (cls o.op) σ.aa[id]? σ2.aa[id]?)→K2 (σ2.put o.dst v)→ba P o σ2 K2:=by
  unfold ba at hW ⊢
  split at hW
  · rename_i f args fl dP
    rw[dP] at hc
    simp[cls] at hc
  · rename_i r m args fl dP
    rw[dP] at hc
    simp[cls] at hc
  · rename_i dm
    obtain ⟨v,h2,h3⟩:=J4 hc hW
    refine⟨v,h2,fun σ2 K2 hx ho hK=>?_⟩
    exact h3 σ2 K2 hx (ho) hK
theorem MV {q:Bool} {o:Oper} {σ:St} {K:St→Prop} (hc:fD q o≤2) (hW:kY q P o σ K) :
    ∃ v,K (σ.put o.dst v)∧∀ (σ2:St) (K2:St→Prop),(∀ x∈o.op.operands.toList,ev σ2 x=ev σ x)→(∀ x∈o.op.operands.toList,∀ id,rj (ev σ x)=some id→iZ (fD q o) σ.aa[id]? σ2.aa[id]?)→K2 (σ2.put o.dst v)→kY q P o σ2 K2:=by
  cases q with
  | false=>exact Y0 hc hW
  | true =>
    unfold kY at hW ⊢
    simp only at hW ⊢
    split at hW
    · rename_i f args fl dP
      simp only[dP]
      split at hW
      · rename_i g aW he
        obtain ⟨res,h1,h2,h3,h4⟩:=hW
        refine⟨res,h4,fun σ2 K2 hx _ hK=>?_⟩
        have e1:ev σ2 f=.fn g aW:=by rw[← he];exact hx f (by simp[Op.operands,Call.operands])
        have e3:args.toList.map (ev σ2)=args.toList.map (ev σ):=kU fun y hy=>hx y (by simp only[Op.operands,Call.operands,xJ,cr];exact .inr hy)
        simp only[e1,e3]
        exact⟨res,h1,h2,h3,hK⟩
      · exact hW.elim
    · rename_i t a dP
      obtain ⟨x,h1,h2⟩:=FC hW
      refine⟨x,h1,fun σ2 K2 hx _ hK=>?_⟩
      rw[hx a (by simp[dP,Op.operands])]
      exact h2 _ K2 hK
    · exact hW.elim
theorem Y1 {ops:Array Oper} {q:Bool} {o:Oper} {σ:St} {K:St→Prop} (hc:fD q o≤2) (hW:dT P ops q o K σ) :
    ∃ v,K (σ.put o.dst v)∧∀ (σ2:St) (K2:St→Prop),(∀ t∈o.looksAt ops,σ2.env t=σ.env t)→(∀ x∈o.op.operands.toList,∀ id,rj (ev σ x)=some id→iZ (fD q o) σ.aa[id]? σ2.aa[id]?)→K2 (σ2.put o.dst v)→dT P ops q o K2 σ2:=by
  unfold dT at hW ⊢
  cases hg:o.guard with
  | none =>
    simp only[hg] at hW
    obtain ⟨v,h2,h3⟩:=MV hc hW
    exact⟨v,h2,fun σ2 K2 hl ho hK=>h3 σ2 K2 (tJ (e2:=σ2.env) (os:=σ2.aa) hl) ho hK⟩
  | some jw =>
    obtain ⟨j,want⟩:=jw
    simp only[hg] at hW
    cases eA:(ops[j]?).bind (·.dst) with
    | none=>simp[eA] at hW
    | some d =>
      simp only[eA] at hW
      split at hW
      · rename_i b he
        by_cases ig:b=want
        · obtain ⟨v,h2,h3⟩:=MV hc (hW.1 ig)
          refine⟨v,h2,fun σ2 K2 hl ho hK=>?_⟩
          have:σ2.env d=.lit (.bool b):=by rw[hl d (tK hg eA)];exact he
          simp only[eA,this]
          exact⟨fun _=>h3 σ2 K2 (tJ (e2:=σ2.env) (os:=σ2.aa) hl) ho hK,fun hn=>absurd ig hn⟩
        · refine⟨.lit (.tuple #[]),hW.2 ig,fun σ2 K2 hl ho hK=>?_⟩
          have:σ2.env d=.lit (.bool b):=by rw[hl d (tK hg eA)];exact he
          simp only[eA,this]
          exact⟨fun hn=>absurd hn ig,fun _=>hK⟩
      · rename_i vs he
        refine⟨.lit (.tuple #[]),hW.2,fun σ2 K2 hl ho hK=>?_⟩
        have:σ2.env d=.lit (.tuple vs):=by rw[hl d (tK hg eA)];exact he
        simp only[eA,this]
        exact⟨hW.1,hK⟩
      · exact hW.elim
theorem MW {ops:Array Oper} {hh:Nat} {q dc:Bool} {o:Oper} {σ:St} {K:St→Prop} (hc:gL q dc o≤2) (hW:jX P ops hh q dc o K σ) :
    ∃ v,K (σ.put o.dst v)∧∀ (σ2:St) (K2:St→Prop),(∀ t∈o.looksAt ops,σ2.env t=σ.env t)→(∀ (id:Nat),id≠hh→iZ (gL q dc o) σ.aa[id]? σ2.aa[id]?)→K2 (σ2.put o.dst v)→jX P ops hh q dc o K2 σ2:=by
  cases dc with
  | true=>simp[gL] at hc
  | false =>
    obtain ⟨hk,hW⟩:=hW
    have ka:fD q o≤2:=by simpa [gL] using hc
    obtain ⟨v,h1,h2⟩:=Y1 ka hW
    refine⟨v,h1,fun σ2 K2 hl ho hK=>⟨?_,h2 σ2 K2 hl (fun x hx id hp=>?_) hK⟩⟩
    · unfold ec at hk ⊢
      rw[GM (σ:=σ) (tJ (e2:=σ2.env) (os:=σ2.aa) hl)];exact hk
    · have cR:∀ id,id≠hh→iZ (fD q o) σ.aa[id]? σ2.aa[id]?:=by simpa [gL] using ho
      by_cases h0:fD q o=0
      · rw[h0];simp[iZ]
      · refine cR id fun e=>?_
        subst e
        unfold fD at h0 ka
        split at h0
        · omega
        · rename_i hq
          simp only[hq] at ka
          have yC:q=false:=by simpa using hq
          subst yC
          unfold ec at hk
          have ym:cls o.op≤2:=by simpa using ka
          have h3:decide (3≤cls o.op)=false:=decide_eq_false (by omega)
          have h4:(cls o.op == 0)=false:=by simpa using h0
          rw[h3,h4] at hk
          simp only[mS] at hk
          exact MU hk x hx hp
def Di (ci ck:Nat):Bool:=xU ci ck || (decide (ci≤2) && ck == 6)
theorem Y2 {hh ci ck:Nat} (h:(ci == 0 || (ci == 1 && decide (ck≤4)) || (ci == 2 && decide (ck≤3)) || (decide (ci≤2) && ck == 6))=true) {a b:List Ob} (he:Av hh ck a b) (id:Nat) (cV:id≠hh):iZ ci a[id]? b[id]?:=by
  unfold Av at he
  split at he
  · rename_i h6
    subst h6
    rw[he id cV]
    unfold iZ
    split
    · trivial
    · split
      · intro o ho;exact⟨o,ho,wq o⟩
      · intro o ho;exact ho
  · rename_i h6
    refine J9 ?_ he id
    have:(ck == 6)=false:=by simpa using h6
    rw[this] at h
    simpa using h
theorem Y3 {ops:Array Oper} {hh:Nat} {qi qk di dk:Bool} {oi ok:Oper} (ha:oi.apart ops ok=true) (hi:gL qi di oi≤2)
    (hc:(gL qi di oi == 0 || (gL qi di oi == 1 && decide (gL qk dk ok≤4)) || (gL qi di oi == 2 && decide (gL qk dk ok≤3)) || (decide (gL qi di oi≤2) && gL qk dk ok == 6))=true) {σ:St} {K:St→Prop}
    (h:jX P ops hh qi di oi (jX P ops hh qk dk ok K) σ):jX P ops hh qk dk ok (jX P ops hh qi di oi K) σ:=by
  obtain ⟨a1,a2,a3⟩:=Oper.apart_spec ha
  obtain ⟨v,h1,run⟩:=MW hi h
  obtain ⟨vk,os,wu,h2,zK⟩:=Dh h1
  rw[Ck] at wu zK
  refine zK σ.env _ (fun t ht=>(uT fun d hd e=>a1 d hd (e ▸ ht)).symm) ?_
  refine run _ _ (fun t ht=>?_) (fun id cV=>?_) ?_
  · rw[uT fun d hd e=>a3 d hd (e ▸ ht)]
  · rw[Ck];exact Y2 hc wu id cV
  · rw[Cl] at h2
    rw[Cj (fun d hd e=>a2 d e hd)]
    exact h2
theorem Y4 {ops:Array Oper} {hh:Nat} {qi qk di dk:Bool} {oi ok:Oper} (ha:oi.apart ops ok=true) (hk:gL qk dk ok=0) {σ:St} {K:St→Prop}
    (h:jX P ops hh qi di oi (jX P ops hh qk dk ok K) σ):jX P ops hh qk dk ok (jX P ops hh qi di oi K) σ:=by
  obtain ⟨a1,a2,a3⟩:=Oper.apart_spec ha
  obtain ⟨vi,os,wu,h1,run⟩:=Dh h
  obtain ⟨vk,h2,FD⟩:=MW (by omega) h1
  refine FD σ _ (fun t ht=>(uT (σ:=⟨σ.env,os⟩) fun d hd e=>a1 d hd (e ▸ ht)).symm) (fun id _=>by rw[hk];simp[iZ]) ?_
  rw[J8]
  refine run _ _ (fun t ht=>uT fun d hd e=>a3 d hd (e ▸ ht)) ?_
  rw[Cl,Cj (fun d hd e=>a2 d e hd)]
  exact h2
theorem Y5 {ops:Array Oper} {hh:Nat} {qi qk di dk:Bool} {oi ok:Oper} (ha:oi.apart ops ok=true) (hc:Di (gL qi di oi) (gL qk dk ok)=true) {σ:St} {K:St→Prop}
    (h:jX P ops hh qi di oi (jX P ops hh qk dk ok K) σ):jX P ops hh qk dk ok (jX P ops hh qi di oi K) σ:=by
  by_cases hk:gL qk dk ok=0
  · exact Y4 ha hk h
  · have ka:(gL qi di oi == 0 || (gL qi di oi == 1 && decide (gL qk dk ok≤4)) || (gL qi di oi == 2 && decide (gL qk dk ok≤3)) || (decide (gL qi di oi≤2) && gL qk dk ok == 6))=true:=by
      simp only[Di,xU,kv,bk,beq_iff_eq,decide_eq_true_eq] at hc ⊢
      rcases hc with (((h | h) | h) | h) | h
      · exact .inl (.inl (.inl h))
      · exact absurd h hk
      · exact .inl (.inl (.inr h))
      · exact .inl (.inr h)
      · exact .inr h
    refine Y3 ha ?_ ka h
    simp only[kv,bk,beq_iff_eq,decide_eq_true_eq] at ka
    omega
def fV (P:Program) (ops:Array Oper) (hh:Nat) (qs ds:List Nat) (i:Nat) (K:St→Prop) (σ:St):Prop :=
  match ops[i]? with
  | none=>K σ
  | some o=>jX P ops hh (qs.contains i) (ds.contains i) o K σ
def sP (P:Program) (ops:Array Oper) (hh:Nat) (qs ds:List Nat) (K:St→Prop):Nat→Array Bool→St→Prop
  | 0,aP,σ=>Region.ready .any ops aP=[]∧K σ
  | n+1,aP,σ=>(Region.ready .any ops aP=[]→K σ)∧∀ i∈Region.ready .any ops aP,fV P ops hh qs ds i (sP P ops hh qs ds K n (aP.setIfInBounds i true)) σ
theorem Y6 {ops:Array Oper} {hh:Nat} {q dc:Bool} {o:Oper} {σ:St} {K K2:St→Prop} (hk:∀ s,K s→K2 s) (h:jX P ops hh q dc o K σ):jX P ops hh q dc o K2 σ:=by
  obtain ⟨v,os,_,h2,run⟩:=Dh h
  exact run σ.env K2 (fun _ _=>rfl) (hk _ h2)
theorem Y7 {ops:Array Oper} {hh:Nat} {q dc:Bool} {o:Oper} {σ:St} {K:St→Prop} (h:jX P ops hh q dc o K σ) :∃s,K s:=by
  obtain ⟨v,os,_,h2,run⟩:=Dh h
  exact⟨_,h2⟩
theorem vj {ops:Array Oper} {hh:Nat} {qs ds:List Nat} {i:Nat} {σ:St} {K K2:St→Prop} (hk:∀ s,K s→K2 s) (h:fV P ops hh qs ds i K σ):fV P ops hh qs ds i K2 σ:=by
  unfold fV at h ⊢
  split at h
  · exact hk _ h
  · exact Y6 hk h
theorem Y8 {ops:Array Oper} {hh:Nat} {qs ds:List Nat} {i:Nat} {σ:St} {K:St→Prop} (h:fV P ops hh qs ds i K σ) :∃s,K s:=by
  unfold fV at h
  split at h
  · exact⟨_,h⟩
  · exact Y7 h
theorem GN {os:List Ob} {γ0:Cx} {ops:Array Oper} {hh:Nat} {qs ds:List Nat} (hd:∀ o∈ops.toList,∀ d,o.dst=some d→d<N) {K:St→Prop} {Q:Exit→Act→World→Prop}
    (hQ:∀ σ' a' w',K σ'→gI N os γ0 σ' a' w'→Q .normal a' w'):∀ (n:Nat) (aP:Array Bool) (σ:St) (a:Act) (w:World),sP P ops hh qs ds K n aP σ→gI N os γ0 σ a w→wpAny P .any ops Q n aP a w
  | 0,aP,σ,a,w,h,aJ=>⟨h.1,hQ _ _ _ h.2 aJ⟩
  | n+1,aP,σ,a,w,h,aJ=>by
    refine⟨fun hr=>hQ _ _ _ (h.1 hr) aJ,fun i hi=>?_⟩
    have:=h.2 i hi
    unfold fV at this
    split at this
    · rename_i hi'
      unfold wpOp
      simp only[hi']
      exact GN hd hQ n _ _ _ _ this aJ
    · rename_i o hi'
      exact YZ hd hi' this aJ fun σ' a' w' hK e7=>GN hd hQ n _ _ _ _ hK e7
theorem Y9 {id:Nat} {ops:Array Oper} {Q:Exit→St→Prop} (hh:Nat) (qs ds:List Nat) (hm:P.follows .mixedOrders=true) (hd:gj N ops=true)
    (h:sP P ops hh qs ds (Q .normal) ops.size (vZ ops.size false) σ):W P N n0 (.region id ops true) Q σ:=by
  intro os γ0 a w _ aJ
  refine wp_region_any hm ?_
  exact GN (qd hd) (K:=Q .normal) (fun σ' a' w' hK e7=>⟨σ',hK,e7⟩) _ _ _ _ _ h aJ.drawn
theorem Y' {ops:Array Oper} {hh:Nat} {qs ds:List Nat} {K:St→Prop} {i:Nat} {o:Oper} (hi:ops[i]?=some o) (D:List Nat) (WS:i∈D)
    (hD:∀ j∈D,j=i∨∃ oj,ops[j]?=some oj∧∃ e∈oj.after,Region.binds .any e=true∧e.on∈D):∀ (fuel:Nat) (aP:Array Bool) (σ:St),(∀ j∈D,aP.getD j true=false) →
      i∈Region.ready .any ops aP →
      (∀ j oj,ops[j]?=some oj→aP.getD j true=false→j ∉ D→o.apart ops oj=true∧Di (gL (qs.contains i) (ds.contains i) o) (gL (qs.contains j) (ds.contains j) oj)=true) →
      fV P ops hh qs ds i (sP P ops hh qs ds K fuel (aP.setIfInBounds i true)) σ→sP P ops hh qs ds K (fuel+1) aP σ:=by
  intro fuel
  induction fuel with
  | zero =>
    intro aP σ hu hr lT h
    refine⟨fun e=>by rw[e] at hr;simp at hr,fun k hk=>?_⟩
    by_cases ij:k=i
    · subst ij;exact h
    · obtain ⟨s,hs⟩:=Y8 h
      have:=ready_mono hk ij
      rw[hs.1] at this
      simp at this
  | succ m ih =>
    intro aP σ hu hr lT h
    refine⟨fun e=>by rw[e] at hr;simp at hr,fun k hk=>?_⟩
    by_cases ij:k=i
    · subst ij;exact h
    · have zN:=mem_ready.1 hk
      obtain ⟨cw,ok,aJ,dU⟩:=zN
      have tL:k ∉ D:=by
        intro tL
        rcases hD k tL with e | ⟨oj,kB,e,he,hb,wv⟩
        · exact ij e
        · rw[aJ] at kB
          simp only[cY.injEq] at kB
          subst kB
          have h1:=dU e he hb
          have h2:=hu e.on wv
          rw[eY] at h1 h2
          cases hx:aP[e.on]? with
          | none=>rw[hx] at h1;simp at h1
          | some b=>rw[hx] at h1 h2;simp at h1 h2;rw[h1] at h2;simp at h2
      obtain ⟨ha,hc⟩:=lT k ok aJ cw tL
      have h1:fV P ops hh qs ds i (fV P ops hh qs ds k (sP P ops hh qs ds K m ((aP.setIfInBounds i true).setIfInBounds k true))) σ :=
        vj (fun s hs=>hs.2 k (ready_mono hk ij)) h
      have h2:fV P ops hh qs ds k (fV P ops hh qs ds i (sP P ops hh qs ds K m ((aP.setIfInBounds i true).setIfInBounds k true))) σ:=by
        unfold fV at h1 ⊢
        simp only[hi,aJ] at h1 ⊢
        exact Y5 ha hc h1
      refine vj (fun s hs=>?_) h2
      refine ih (aP.setIfInBounds k true) s (fun j hj=>?_) (ready_mono hr (Ne.symm ij)) (fun j oj kB hl qf=>?_) ?_
      · have dm:k≠j:=fun e=>tL (by rw[e];exact hj)
        rw[getD_set_ne _ dm];exact hu j hj
      · refine lT j oj kB ?_ qf
        by_cases zO:k=j
        · subst zO;exact cw
        · rwa [getD_set_ne _ zO] at hl
      · rw[Array.setIfInBounds_comm _ _ (Ne.symm ij)] at hs
        exact hs
def GO (ops:Array Oper) (qs ds:List Nat) (aP:Array Bool) (i:Nat) (D:List Nat):Bool :=
  match ops[i]? with
  | none=>false
  | some o =>
    D.contains i && D.all (fun j=>j == i || match ops[j]? with | some oj=>oj.after.any (fun e=>Region.binds .any e && D.contains e.on) | none=>false) &&
    D.all (fun j=>!aP.getD j true) && o.after.all (fun e=>!Region.binds .any e || aP.getD e.on false) &&
    (aN ops.size).all fun j=>D.contains j || aP.getD j true || match ops[j]? with | some oj=>o.apart ops oj && Di (gL (qs.contains i) (ds.contains i) o) (gL (qs.contains j) (ds.contains j) oj) | none=>true
theorem Za {ops:Array Oper} {hh:Nat} {qs ds:List Nat} {K:St→Prop} {i:Nat} {D:List Nat} {fuel:Nat} {aP:Array Bool} (h:GO ops qs ds aP i D=true)
    (hs:fV P ops hh qs ds i (sP P ops hh qs ds K fuel (aP.setIfInBounds i true)) σ):sP P ops hh qs ds K (fuel+1) aP σ:=by
  unfold GO at h
  cases hi:ops[i]? with
  | none=>simp[hi] at h
  | some o =>
    simp only[hi,bk,gU,tB,kv,beq_iff_eq,kx] at h
    obtain ⟨⟨⟨⟨h1,h2⟩,h3⟩,h4⟩,h5⟩:=h
    refine Y' hi D h1 (fun j hj=>?_) fuel aP σ h3 ?_ ?_ hs
    · rcases h2 j hj with h | h
      · exact .inl h
      · right
        split at h
        · rename_i oj kB
          rw[Array.any_eq_true'] at h
          obtain ⟨e,he,hb⟩:=h
          simp only[bk,tB] at hb
          exact⟨oj,kB,e,he,hb.1,hb.2⟩
        · simp at h
    · rw[mem_ready]
      refine⟨h3 i h1,o,hi,fun e he hb=>?_⟩
      rw[Array.all_eq_true'] at h4
      have:=h4 e he
      simpa [hb] using this
    · intro j oj kB hl qf
      have hj:j<ops.size:=(oA.1 kB).1
      rcases h5 j (lP.2 hj) with (h | h) | h
      · exact absurd h qf
      · rw[hl] at h;simp at h
      · simpa [kB] using h
def PT.nS (ops:Array Oper) (qs ds:List Nat):PT→Nat→Array Bool→Bool
  | .nil,n,aP=>n == 0 && (Region.ready .any ops aP).isEmpty
  | .take _ _,0,_=>false
  | .take i t,n+1,aP=>GO ops qs ds aP i (FF ops i) && t.nS ops qs ds n (aP.setIfInBounds i true)
  | .both _ _ _ _,0,_=>false
  | .both i t j u,n+1,aP=>(Region.ready .any ops aP == [i,j]) && t.nS ops qs ds n (aP.setIfInBounds i true) && u.nS ops qs ds n (aP.setIfInBounds j true)
  | .three _ _ _ _ _ _,0,_=>false
  | .three i t j u k v,n+1,aP=>(Region.ready .any ops aP == [i,j,k]) && t.nS ops qs ds n (aP.setIfInBounds i true) && u.nS ops qs ds n (aP.setIfInBounds j true) && v.nS ops qs ds n (aP.setIfInBounds k true)
def l4 (P:Program) (ops:Array Oper) (hh:Nat) (qs ds:List Nat):PT→(St→Prop)→St→Prop
  | .nil,K,σ=>K σ
  | .take i t,K,σ=>fV P ops hh qs ds i (l4 P ops hh qs ds t K) σ
  | .both i t j u,K,σ=>fV P ops hh qs ds i (l4 P ops hh qs ds t K) σ∧fV P ops hh qs ds j (l4 P ops hh qs ds u K) σ
  | .three i t j u k v,K,σ=>fV P ops hh qs ds i (l4 P ops hh qs ds t K) σ∧fV P ops hh qs ds j (l4 P ops hh qs ds u K) σ∧fV P ops hh qs ds k (l4 P ops hh qs ds v K) σ
theorem wW {ops:Array Oper} {hh:Nat} {qs ds:List Nat} {K:St→Prop}:∀ (t:PT) (n:Nat) (aP:Array Bool) (σ:St),t.nS ops qs ds n aP=true→l4 P ops hh qs ds t K σ→sP P ops hh qs ds K n aP σ
  | .nil,n,aP,σ,h,hp=>by
    simp only[PT.nS,bk,beq_iff_eq,List.isEmpty_iff] at h
    obtain ⟨rfl,h⟩:=h
    exact⟨h,hp⟩
  | .take _ _,0,_,_,h,_=>by simp[PT.nS] at h
  | .take i t,n+1,aP,σ,h,hp=>by
    simp only[PT.nS,bk] at h
    exact Za h.1 (vj (fun s hs=>wW t n _ s h.2 hs) hp)
  | .both _ _ _ _,0,_,_,h,_=>by simp[PT.nS] at h
  | .both i t j u,n+1,aP,σ,h,hp=>by
    simp only[PT.nS,bk,beq_iff_eq] at h
    obtain ⟨⟨h1,h2⟩,h3⟩:=h
    refine⟨fun e=>by rw[h1] at e;simp at e,fun k hk=>?_⟩
    rw[h1] at hk
    simp only[cu,ly,or_false] at hk
    rcases hk with rfl | rfl
    · exact vj (fun s hs=>wW t n _ s h2 hs) hp.1
    · exact vj (fun s hs=>wW u n _ s h3 hs) hp.2
  | .three _ _ _ _ _ _,0,_,_,h,_=>by simp[PT.nS] at h
  | .three i t j u k v,n+1,aP,σ,h,hp=>by
    simp only[PT.nS,bk,beq_iff_eq] at h
    obtain ⟨⟨⟨h1,h2⟩,h3⟩,h4⟩:=h
    refine⟨fun e=>by rw[h1] at e;simp at e,fun x hk=>?_⟩
    rw[h1] at hk
    simp only[cu,ly,or_false] at hk
    rcases hk with rfl | rfl | rfl
    · exact vj (fun s hs=>wW t n _ s h2 hs) hp.1
    · exact vj (fun s hs=>wW u n _ s h3 hs) hp.2.1
    · exact vj (fun s hs=>wW v n _ s h4 hs) hp.2.2
theorem MX {id:Nat} {ops:Array Oper} {Q:Exit→St→Prop} (hh:Nat) (qs ds:List Nat) (t:PT) (hm:P.follows .mixedOrders=true) (hd:gj N ops=true) (ht:t.nS ops qs ds ops.size (vZ ops.size false)=true)
    (h:l4 P ops hh qs ds t (Q .normal) σ):W P N n0 (.region id ops true) Q σ :=
  Y9 hh qs ds hm hd (wW t _ _ σ ht h)
theorem MY {ops:Array Oper} {hh:Nat} {qs ds:List Nat} {K:St→Prop}:l4 P ops hh qs ds .nil K σ=K σ:=rfl
theorem MZ {ops:Array Oper} {hh:Nat} {qs ds:List Nat} {i:Nat} {t:PT} {K:St→Prop}:l4 P ops hh qs ds (.take i t) K σ=fV P ops hh qs ds i (l4 P ops hh qs ds t K) σ:=rfl
theorem M0 {ops:Array Oper} {hh:Nat} {qs ds:List Nat} {i j k:Nat} {t u v:PT} {K:St→Prop}:l4 P ops hh qs ds (.three i t j u k v) K σ=(fV P ops hh qs ds i (l4 P ops hh qs ds t K) σ∧fV P ops hh qs ds j (l4 P ops hh qs ds u K) σ∧fV P ops hh qs ds k (l4 P ops hh qs ds v K) σ):=rfl
theorem M1 {ops:Array Oper} {hh:Nat} {qs ds:List Nat} {i j:Nat} {t u:PT} {K:St→Prop}:l4 P ops hh qs ds (.both i t j u) K σ=(fV P ops hh qs ds i (l4 P ops hh qs ds t K) σ∧fV P ops hh qs ds j (l4 P ops hh qs ds u K) σ):=rfl
theorem M3 {ops:Array Oper} {hh:Nat} {q:Bool} {o:Oper} {K:St→Prop}:jX P ops hh q true o K σ=(o.guard=none∧vh hh P o σ K):=rfl
theorem M4 {ops:Array Oper} {hh:Nat} {q:Bool} {o:Oper} {K:St→Prop}:jX P ops hh q false o K σ=(ec hh q o σ=true∧dT P ops q o K σ):=rfl
def M5 (P:Program) (hh:Nat) (dst:Option Tmp) (args:List AV) (K:St→Prop) (σ:St):AV→Prop
  | .fn g aW=>Au P hh g (args++aW) dst K σ
  | _=>False
theorem M6 {hh:Nat} {dst:Option Tmp} {args:List AV} {K:St→Prop} {g:FuncId} {aW:List AV}:M5 P hh dst args K σ (.fn g aW)=Au P hh g (args++aW) dst K σ:=rfl
section
variable {dst:Option Tmp} {tt:TypeId} {p:String} {af:Array Edge} {g:Option (Nat × Bool)} {K:St→Prop} {hh:Nat}
theorem M7 (f:Operand) (args:Array Operand) (fl:Array TypeId):vh hh P ⟨dst,.call ⟨.value f,args,fl⟩,tt,p,af,g⟩ σ K=M5 P hh dst (args.toList.map (ev σ)) K σ (ev σ f):=by
  simp only[vh]
  cases ev σ f<;>rfl
theorem M8 {o:Oper}:ec hh true o σ=true:=by simp[ec]
theorem M9 (t:TypeId) (a:Operand):ec hh false ⟨dst,.load t a,tt,p,af,g⟩ σ=m5 hh (ev σ a):=by simp[ec,cls,Op.operands,qu]
theorem M' (t:TypeId) (a:Operand) (f:Nat):ec hh false ⟨dst,.fieldAddr t a f,tt,p,af,g⟩ σ=m5 hh (ev σ a):=by simp[ec,cls,Op.operands,qu]
theorem Na (a:Operand):ec hh false ⟨dst,.nilCheck a,tt,p,af,g⟩ σ=m5 hh (ev σ a):=by simp[ec,cls,Op.operands,qu]
theorem Nb (t:TypeId) (a i:Operand):ec hh false ⟨dst,.indexAddr t a i,tt,p,af,g⟩ σ=(m5 hh (ev σ a) && m5 hh (ev σ i)):=by simp[ec,cls,Op.operands,qu]
theorem Nc (x:Operand) (fl:Array TypeId):ec hh false ⟨dst,.call ⟨.builtin .len,#[x],fl⟩,tt,p,af,g⟩ σ=m5 hh (ev σ x):=by simp[ec,cls,Op.operands,Call.operands,qu]
theorem l5 {o:Oper} (h:(cls o.op == 0 || decide (3≤cls o.op))=true):ec hh false o σ=true:=by simp only[ec,mS,h,qV]
theorem Nf (id r c:Nat):m5 hh (.ptr id r c) = !(id == hh):=rfl
theorem Ng (id a b c:Nat):m5 hh (.ref id a b c) = !(id == hh):=rfl
theorem Nh (v:Value):m5 hh (.lit v)=true:=rfl
theorem Ni (s:Nat) (r:List (List AV)):m5 hh (.tree s r)=true:=rfl
theorem Nj (r:List AV):m5 hh (.b7 r)=true:=rfl
theorem Nk (r:List AV):m5 hh (.agg r)=true:=rfl
theorem Nl (r:List AV):m5 hh (.bG r)=true:=rfl
theorem Nn:m5 hh .undef=true:=rfl
theorem Np (x:Operand):ec hh false ⟨dst,.move x,tt,p,af,g⟩ σ=true:=l5 (by rfl)
theorem Nq (x:Operand):ec hh false ⟨dst,.assign x,tt,p,af,g⟩ σ=true:=l5 (by rfl)
theorem Nr (c a b:Operand):ec hh false ⟨dst,.pick c a b,tt,p,af,g⟩ σ=true:=l5 (by rfl)
theorem Ns (op:BinOp) (t:TypeId) (x y:Operand) (yt:TypeId):ec hh false ⟨dst,.binOp op t x y yt,tt,p,af,g⟩ σ=true:=l5 (by rfl)
theorem Nt (op:UnOp) (t:TypeId) (x:Operand):ec hh false ⟨dst,.unOp op t x,tt,p,af,g⟩ σ=true:=l5 (by rfl)
theorem Nu (fn:Fn) (a b:Array Operand):ec hh false ⟨dst,.makeFunc fn a b,tt,p,af,g⟩ σ=true:=l5 (by rfl)
theorem Nv (s:TypeId) (x:Operand) (f:Nat):ec hh false ⟨dst,.field s x f,tt,p,af,g⟩ σ=true:=l5 (by rfl)
theorem Nw (x:Operand) (i:Nat):ec hh false ⟨dst,.extract x i,tt,p,af,g⟩ σ=true:=l5 (by rfl)
theorem Nx (t:TypeId) (parts:Array (Nat × Operand)):ec hh false ⟨dst,.build t parts,tt,p,af,g⟩ σ=true:=l5 (by rfl)
theorem Ny (e:TypeId):ec hh false ⟨dst,.alloc e,tt,p,af,g⟩ σ=true:=l5 (by rfl)
theorem Nz (e:TypeId) (x:Operand):ec hh false ⟨dst,.box e x,tt,p,af,g⟩ σ=true:=l5 (by rfl)
theorem NA (t:TypeId) (l c:Operand):ec hh false ⟨dst,.makeSlice t l c,tt,p,af,g⟩ σ=true:=l5 (by rfl)
theorem NC (t:TypeId) (len:Nat) (parts:Array (Nat × Operand)):ec hh false ⟨dst,.buildSlice t len parts,tt,p,af,g⟩ σ=true:=l5 (by rfl)
theorem ND (t:TypeId) (a x:Operand):ec hh false ⟨dst,.store t a x,tt,p,af,g⟩ σ=true:=l5 (by rfl)
theorem NF (f:Operand) (args:Array Operand) (fl:Array TypeId):ec hh false ⟨dst,.call ⟨.value f,args,fl⟩,tt,p,af,g⟩ σ=true:=l5 (by rfl)
theorem NG (args:Array Operand) (fl:Array TypeId):ec hh false ⟨dst,.call ⟨.builtin .append,args,fl⟩,tt,p,af,g⟩ σ=true:=l5 (by rfl)
theorem NH (args:Array Operand) (fl:Array TypeId):ec hh false ⟨dst,.call ⟨.builtin .min,args,fl⟩,tt,p,af,g⟩ σ=true:=l5 (by rfl)
theorem NI (args:Array Operand) (fl:Array TypeId):ec hh false ⟨dst,.call ⟨.builtin .max,args,fl⟩,tt,p,af,g⟩ σ=true:=l5 (by rfl)
end
theorem Hc:type_of% @MY∧type_of% @MZ∧type_of% @M0∧type_of% @M1∧type_of% @M3∧type_of% @M4∧type_of% @M6∧type_of% @M7∧type_of% @M8∧type_of% @M9∧type_of% @M'∧type_of% @Na∧type_of% @Nb∧type_of% @Nc∧type_of% @Nf∧type_of% @Ng∧type_of% @Nh∧type_of% @Ni∧type_of% @Nj∧type_of% @Nk∧type_of% @Nl∧type_of% @Nn∧type_of% @Np∧type_of% @Nq∧type_of% @Nr∧type_of% @Ns∧type_of% @Nt∧type_of% @Nu∧type_of% @Nv∧type_of% @Nw∧type_of% @Nx∧type_of% @Ny∧type_of% @Nz∧type_of% @NA∧type_of% @NC∧type_of% @ND∧type_of% @NF∧type_of% @NG∧type_of% @NH∧type_of% @NI :=
  ⟨@MY,@MZ,@M0,@M1,@M3,@M4,@M6,@M7,@M8,@M9,@M',@Na,@Nb,@Nc,@Nf,@Ng,@Nh,@Ni,@Nj,@Nk,@Nl,@Nn,@Np,@Nq,@Nr,@Ns,@Nt,@Nu,@Nv,@Nw,@Nx,@Ny,@Nz,@NA,@NC,@ND,@NF,@NG,@NH,@NI⟩
theorem Aw {hh:Nat} {f:FuncId} {args cZ:List AV} {D D':Ob} {dst:Option Tmp} {K:St→Prop} {res:AV} (h:an P f cZ [D] res [D']) (h1:vg D=true) (h2:vg D'=true) (h3:σ.aa[hh]?=some D) (h4:eZ res=true)
    (h5:dY (MT hh) cZ args) (hK:K ((⟨σ.env,σ.aa.set hh D'⟩:St).put dst res)):Au P hh f args dst K σ:=⟨cZ,D,res,D',h,h1,h2,h3,h4,h5,hK⟩
theorem qv {P:Program} {N n0:Nat} {σ:St} {Q:Exit→St→Prop} (n:Nat) {id:Nat} {ops:Array Oper} (hd:gj N ops=true) (o:Oper) (ho:ops[n]?=some o)
    (h:∀ K:St→Prop,(∀ s,Q .normal s→K s)→opsL P ops (ops.toList.take n) (sL P o (opsL P ops (ops.toList.drop (n+1)) K)) σ):W P N n0 (.region id ops false) Q σ:=by
  intro os γ0 a w hn aJ
  refine wp_region ?_
  have F4:n<ops.size:=(oA.1 ho).1
  have e:aN ops.size=mn 0 (ops.toList.take n).length++(n::mn (n+1) (ops.toList.drop (n+1)).length):=by
    rw[uK,← uJ]
    have:=List.range'_append (s:=0) (m:=n) (n:=(ops.toList.drop (n+1)).length+1) (step:=1)
    simp only[fi,pX] at this
    rw[show (ops.toList.take n).length=n by simp;omega,this]
    congr 1
    simp;omega
  rw[e]
  refine wD _ a w ?_
  refine q8 (qd hd) (K:=sL P o (opsL P ops (ops.toList.drop (n+1)) (Q .normal))) (fun σ' a' w' hk e7=>?_) (ops.toList.take n) 0 σ a w (fun k hk=>?_) (h _ (fun _ h=>h)) aJ
  · show wpOps P ops _ _ a' w'
    rw[wpOps_cons]
    unfold wpOp
    simp only[ho]
    have hw:Region.wanted o (yielded ops a'.tmps)=true:=by simp[Region.wanted,hk.1]
    rw[if_pos hw]
    left
    refine GC hk e7 (qd hd o (gB (by simpa using ho))) (fun σ2 a2 w2 bS Ax=>?_)
    refine q8 (qd hd) (K:=Q .normal) (fun Ay a3 w3 kG mF=>⟨Ay,kG,mF⟩) (ops.toList.drop (n+1)) (n+1) σ2 a2 w2 (fun k hk=>?_) bS Ax
    rw[List.getElem?_drop]
    simp
  · simp only[List.length_take,si] at hk
    rw[List.getElem?_take_of_lt (by omega)]
    simp
end Go.Am

