import Derived.Test.YtdipcmigdbnheaaGreatX05
set_option linter.unusedVariables false
set_option linter.unusedSimpArgs false
set_option linter.unnecessarySimpa false
set_option linter.unusedSectionVars false
set_option maxHeartbeats 64000000
set_option maxRecDepth 20000
open List renaming all_eq_true→eW,mem_map→bV,getElem?_append_left→dH,range'→lU,range_eq_range'→vU,getElem?_eq_some_iff→aY,getElem?_eq_getElem→bm,getElem?_set→bO
open Array renaming replicate→xK,getD_eq_getD_getElem?→eY,getElem?_append_left→D1
open Nat renaming lt_or_ge→dG
open Option renaming some→dw
namespace Go.Am
variable {σ:St}
class Row {α:Type} (enc:α→List AV) (sz:outParam Nat):Prop where
  wid:∀ x,(enc x).length=sz
  ok:∀ x,∀ v∈enc x,(∃ y,v=.lit y∧y.oneCell'=true)∨∃ s r,v=.tree s r
def rowsOf {α:Type} (enc:α→List AV) (xs:List α):List (List AV):=xs.map enc
section
variable {α:Type} {enc:α→List AV} {sz:Nat}
theorem eP (xs:List α):(rowsOf enc xs).length=xs.length:=by simp[rowsOf]
theorem jL [Inhabited α] (xs:List α) (i:Nat) (h:i<xs.length):(rowsOf enc xs).getD i []=enc (xs.getD i default):=by simp[rowsOf,h]
theorem Ox [Inhabited α] (xs:List α) (i:Nat) (h:i<xs.length):(rowsOf enc xs)[i]?=some (enc (xs.getD i default)):=by simp[rowsOf,h]
theorem Oy (xs:List α):(rowsOf enc xs).take xs.length=rowsOf enc xs:=by rw[List.take_of_length_le (by simp[rowsOf])]
theorem Il (xs ys:List α):rowsOf enc xs++rowsOf enc ys=rowsOf enc (xs++ys):=by simp[rowsOf]
theorem qZ (xs:List α) (x:α):rowsOf enc xs++[enc x]=rowsOf enc (xs++[x]):=by simp[rowsOf]
theorem Oz (xs:List α) (i:Nat) (x:α):(rowsOf enc xs).set i (enc x)=rowsOf enc (xs.set i x):=by simp[rowsOf,List.map_set]
theorem OA [Row enc sz] (x:α):(enc x).all cm=true:=by
  rw[eW]
  intro v hv
  rcases Row.ok (enc:=enc) x v hv with ⟨y,rfl,h⟩ | ⟨s,r,rfl⟩
  · simpa [cm] using h
  · rfl
theorem Im [Row enc sz] (xs:List α):((rowsOf enc xs).all fun row=>row.all cm)=true:=by
  simp only[rowsOf,List.all_map,eW]
  intro x _
  exact OA (enc:=enc) x
theorem abe {l:List AV} (h:∀ v∈l,gy v=true):jl l=true:=by
  induction l with
  | nil=>rfl
  | cons v l ih=>simp only[jl,Bool.and_eq_true];exact⟨h v (by simp),ih fun x hx=>h x (by simp[hx])⟩
theorem abf [Row enc sz] (x:α):jl (enc x)=true:=abe fun v hv=>by
  rcases Row.ok (enc:=enc) x v hv with ⟨y,rfl,_⟩ | ⟨s,r,rfl⟩<;>rfl
theorem Ai [Row enc sz] (ρ:Nat→Nat) (s:Nat) (xs:List α):bD ρ (.arr s (rowsOf enc xs))=.arr s (rowsOf enc xs):=BN (by
  intro row hr
  simp only[rowsOf,bV] at hr
  obtain ⟨x,_,rfl⟩:=hr
  exact abf (enc:=enc) x)
theorem tL [Row enc sz] (xs:List α):∀ row∈rowsOf enc xs,∀ v∈row,(∃ x,v=AV.lit x)∨∃ s r,v=AV.tree s r:=by
  intro row hr v hv
  simp only[rowsOf,bV] at hr
  obtain ⟨x,_,rfl⟩:=hr
  rcases Row.ok (enc:=enc) x v hv with ⟨y,rfl,_⟩ | h
  · exact .inl ⟨_,rfl⟩
  · exact .inr h
theorem kC [Row enc sz] (xs:List α):∀ row∈rowsOf enc xs,row.length=sz:=by
  intro row hr
  simp only[rowsOf,bV] at hr
  obtain ⟨x,_,rfl⟩:=hr
  exact Row.wid (enc:=enc) x
end
structure cB where
  wk:Int
  day:Int
  st:Int
  len:Int
  room:Int
  ch:List (Int × Int)
  deriving Inhabited
structure Pr where
  fst:Int
  snd:Int
  db:Int
  aP:List Int
  deriving Inhabited
structure Ld where
  cls:Int
  opt:Int
  wt:Int
  deriving Inhabited
structure Ct where
  db:Int
  aA:List Ld
  most:Int
  bg:Int
  deriving Inhabited
structure ae where
  cls:List (List cB)
  ah:List Pr
  av:List Ct
  rules:Int
  deriving Inhabited
def i64 (n:Int):AV:=.lit (.int .i64 n)
def bP (c:Int × Int):List AV:=[.lit (.int .i64 c.1),.lit (.int .i64 c.2)]
def dJ (o:cB):List AV:=[.lit (.int .i64 o.wk),.lit (.int .i64 o.day),.lit (.int .i64 o.st),.lit (.int .i64 o.len),.lit (.int .i64 o.room),.tree 2 (rowsOf bP o.ch)]
def bA (l:List cB):List AV:=[.tree 6 (rowsOf dJ l)]
def bc (p:Pr):List AV:=[.lit (.int .i64 p.fst),.lit (.int .i64 p.snd),.lit (.int .i64 p.db),.tree 1 (ints p.aP)]
def dF (l:Ld):List AV:=[.lit (.int .i64 l.cls),.lit (.int .i64 l.opt),.lit (.int .i64 l.wt)]
def bu (c:Ct):List AV:=[.lit (.int .i64 c.db),.tree 3 (rowsOf dF c.aA),.lit (.int .i64 c.most),.lit (.int .i64 c.bg)]
def au (m:ae):List AV:=[.tree 1 (rowsOf bA m.cls),.tree 4 (rowsOf bc m.ah),.tree 4 (rowsOf bu m.av),.lit (.int .i64 m.rules)]
theorem wD {l:List AV} (h:(l.all fun v=>match v with | .lit y=>y.oneCell' | .tree ..=>true | _=>false)=true):∀ v∈l,(∃ y,v=AV.lit y∧y.oneCell'=true)∨∃ s r,v=AV.tree s r:=by
  intro v hv
  have:=eW.1 h v hv
  cases v<;>simp at this
  · exact .inl ⟨_,rfl,this⟩
  · exact .inr ⟨_,_,rfl⟩
instance:Row bP 2:=⟨fun _=>rfl,fun _=>wD rfl⟩
instance:Row dJ 6:=⟨fun _=>rfl,fun _=>wD rfl⟩
instance:Row bA 1:=⟨fun _=>rfl,fun _=>wD rfl⟩
instance:Row bc 4:=⟨fun _=>rfl,fun _=>wD rfl⟩
instance:Row dF 3:=⟨fun _=>rfl,fun _=>wD rfl⟩
instance:Row bu 4:=⟨fun _=>rfl,fun _=>wD rfl⟩
instance:Row au 4:=⟨fun _=>rfl,fun _=>wD rfl⟩
end Go.Am
namespace Go.Am
variable {P:Program}
variable {N n0:Nat} {Q:Exit→St→Prop} {σ:St}
def iU (P:Program) (n0:Nat) (rs:List ResultVar) (iC:AV→List Ob→Prop):Exit→St→Prop
  | .normal,s=>fi s P rs fun vs=>∃ res bh,iC res bh∧nK n0 s (ew vs) res bh
  | .ret,s=>fi s P rs fun vs=>∃ res bh,iC res bh∧nK n0 s (ew vs) res bh
  | _,_=>False
theorem il.HQ {f : FuncId} {fn : Func} {c : Code} {args : List AV} {aa : List Ob} {iC : AV → List Ob → Prop} (hf : P.funcs[f]? = some fn) (hb : fn.body = some c) (qf : (fn.name == "runtime.NumGoroutine") = false)
    (hN:args.length≤fn.ntmps) (h:W P fn.ntmps aa.length c (iU P aa.length fn.results.toList iC) ⟨fun k=>args.getD k .undef,aa⟩):il P f args aa iC:=by
  refine⟨⟨fn,hf,qf,by rw[hb];rfl⟩,?_⟩
  intro γ a5 hs
  refine calls_of_wp hf hb ?_
  let tm:=γ.tmps++xK (fn.ntmps - γ.tmps.size) Go.undef
  have aC:gF fn.ntmps aa γ ⟨fun k=>args.getD k .undef,aa⟩ { tmps:=tm,defers:=[] } γ.w:=by
    refine⟨rfl,by simp[tm];omega,{ γ with tmps:=tm },rfl,rfl,⟨fun k=>?_,hs.eN,hs.inj,hs.nz,hs.iq⟩,(Fr.refl _ _).put _⟩
    rcases dG k args.length with hk | hk
    · have:=hs.aw k
      have e:tm.getD k Go.undef=γ.tmps.getD k Go.undef:=by
        simp only[tm,eY]
        rw[D1 (by omega)]
      show aB _ _ _ _ _ (tm.getD k Go.undef)
      rw[e];exact this
    · have e:args.getD k AV.undef=.undef:=by simp[hk]
      show aB _ _ _ _ (args.getD k .undef) _
      rw[e];exact .undef _
  refine wp_mono (h aa γ _ γ.w rfl aC) ?_
  rintro e a' w' ⟨σ',h1,iB,_,aI,rfl,ha,jV,gl⟩
  have fin:∀ (K:List AV→Prop),fi σ' P fn.results.toList K→(∀ vs,K vs→∃ res bh,iC res bh∧nK aa.length σ' (ew vs) res bh) →
      a'.defers=[]∧∃ v,(results fn a'.tmps).run P aI.w=.ok v aI.w∧∃ res bh cv iM,iC res bh∧Ending.returned v=.returned cv∧iM.w=aI.w∧iM.tmps = #[cv]∧bj ⟨fun k=>[res].getD k .undef,bh⟩ iM∧Fr aa γ bh iM:=by
    intro K hK HR
    obtain ⟨vs,a8,k1,k2,k3,k4,k5⟩:=ED jV _ _ hK
    obtain ⟨res,bh,HK,an,snap,r1,r2,r3,r4,r5,r6,r7⟩:=HR vs k1
    refine⟨iB,?_⟩
    have eO :∃v,(results fn a'.tmps).run P aI.w=.ok v aI.w∧aB σ'.aa aI.w aI.Z aI.blk (ew vs) v:=by
      have hm:(fn.results.mapM fun (r:ResultVar)=>match r with | .tmp t=>(pure (a'.tmps.getD t Go.undef):Sem Value) | .cell a t=>do loadVar t (← asAddr (a'.tmps.getD a Go.undef))).run P aI.w=.ok a8.toArray aI.w:=by
        rw[Array.mapM_eq_mapM_toList,Sem.run_map,← ha]
        exact congrArg (fun (r:Result (List Value))=>r.andThen fun a w'=>Result.ok a.toArray w') k2
      have hr:(results fn a'.tmps).run P aI.w=.ok (if h:a8.toArray.size=1 then a8.toArray[0] else .tuple a8.toArray) aI.w:=by
        unfold results
        rw[Sem.run_bind]
        exact congrArg (fun r=>Result.andThen r fun (a:Array Value) w'=>(pure (if h:a.size=1 then a[0] else Value.tuple a):Sem Value).run P w') hm
      rw[hr]
      match vs,a8,k3,k5 with
      | [],[],_,k5=>exact⟨_,rfl,.bM _ _ rfl (fun j x hj=>by simp at hj)⟩
      | [v],[cv],_,k5=>exact⟨cv,by simp,by simpa [ew] using k5 0 v rfl⟩
      | v::v'::vs,cv::oG::a8,k3,k5 =>
        refine⟨.tuple (cv::oG::a8).toArray,by simp,.bM _ _ (by simpa using k3) (fun j x hj=>?_)⟩
        have:=k5 j x hj
        simpa [List.getD_eq_getElem?_getD,eY] using this
    obtain ⟨v,qU,z6⟩:=eO
    obtain ⟨iM,e1,e2,e3,e4⟩:=jV.select an snap bh r1 r2 r3 r4 (fun k=>[res].getD k .undef) #[v] (fun k=>by
      cases k with
      | zero=>exact .inr ⟨_,r7,by simpa using z6⟩
      | succ k=>left;simp)
    exact⟨v,qU,res,bh,v,iM,HK,rfl,e1,e2,e3,gl.select r5 r2 r6 e1 e4⟩
  cases e with
  | normal=>exact fin _ h1 (fun _ h=>h)
  | ret=>exact fin _ h1 (fun _ h=>h)
  | exit id=>exact h1.elim
  | goto l=>exact h1.elim
  | panic c=>exact h1.elim
  | outgrown=>exact h1.elim
theorem il.aD {f : FuncId} {fn : Func} {c : Code} {args : List AV} {aa : List Ob} {iC : AV → List Ob → Prop} (N k : Nat) (rs : List ResultVar) (hf : P.funcs[f]? = some fn) (hb : fn.body = some c) (qf : (fn.name == "runtime.NumGoroutine") = false)
    (hN:fn.ntmps=N) (BY:fn.results.toList=rs) (hk:aa.length=k) (hl:args.length≤N) (h:W P N k c (iU P k rs iC) ⟨fun k=>args.getD k .undef,aa⟩):il P f args aa iC:=by
  subst hN;subst BY;subst hk
  exact il.HQ hf hb qf hl h
def pB (P:Program) (g:FuncId) (args:List AV) (dst:Option Tmp) (K:St→Prop) (σ:St):Prop:=HG P g args σ fun v σ'=>K (σ'.put dst v)
def tM (P:Program) (o:Oper) (K:St→Prop) (σ:St):Prop :=
  o.guard=none ∧
  match o.op with
  | .call { callee:=.value f,args,.. } =>
    match ev σ f with
    | .fn g bJ=>pB P g (args.toList.map (ev σ)++bJ) o.dst K σ
    | _=>False
  | _=>False
theorem Io {os:List Ob} {γ0:Cx} {o:Oper} {K:St→Prop} (h:tM P o K σ) {a:Act} {w:World} (aC:gF N os γ0 σ a w) (hd:∀ d,o.dst=some d→d<N)
    {Q:Exit→Act→World→Prop} {next:Act→World→Prop} (hn:∀ σ' a' w',K σ'→gF N os γ0 σ' a' w'→next a' w'):o.wp P a w next Q:=by
  obtain ⟨iB,a5,γ,rfl,ha,hs,hf⟩:=aC
  have ss:∀ d,o.dst=some d→d<a.tmps.size:=fun d h=>by rw[a5];exact hd d h
  obtain ⟨_,h⟩:=h
  split at h
  · rename_i f args fD cO
    split at h
    · rename_i g bJ he
      have eE:=tI hs ha f
      rw[he] at eE
      obtain ⟨a8,aZ,eZ,oE⟩:=eE.N3
      have m4:∀ (j:Nat) d,(args.toList.map (ev σ)++bJ)[j]?=some d→aB σ.aa γ.w γ.Z γ.blk d (((args.map a.eval)++a8).getD j Go.undef):=by
        intro j d hj
        simp only[eY]
        rcases dG j args.size with aT | l9
        · rw[dH (by simpa using aT)] at hj
          rw[D1 (by simpa using aT)]
          simp only[List.getElem?_map,Array.getElem?_toList,Array.getElem?_map] at hj ⊢
          cases hx:args[j]? with
          | none=>simp[hx] at hj
          | some y=>simp[hx] at hj ⊢;subst hj;exact tI hs ha y
        · rw[List.getElem?_append_right (by simpa using l9)] at hj
          rw[Array.getElem?_append_right (by simpa using l9)]
          simp only[List.length_map,Array.length_toList,Array.size_map] at hj ⊢
          have:=oE _ d hj
          simpa [eY] using this
      unfold pB at h
      have fe:=NW hs (argv:=(args.map a.eval)++a8) (by simp[eZ]) m4 h
      obtain ⟨an,snap,cU,bN,iC,⟨⟨fn,u3,qf,wx⟩,_⟩,_⟩:=h
      unfold Oper.wp
      have hr:(execOp a.eval o).run P γ.w=.ok (.enter g ((args.map a.eval)++a8)) γ.w:=by
        have eh : ¬ fn.name = "runtime.NumGoroutine" := by simpa using qf
        have oF:¬ fn.body=none:=by intro e;rw[e] at wx;simp at wx
        simp[execOp,cO,resolve,aZ,Deferred.ofValue,invoke,callFunc,u3,eh,oF]
      rw[hr]
      show Calls P g _ _ _
      refine fe.mono ?_
      rintro e w' ⟨cv,v,σ',aI,rfl,rfl,jU,jV,gl,hv,hK,wy⟩
      refine hn _ _ _ hK ⟨by rw[put_defers];exact iB,by rw[tC];exact a5,{ aI with tmps:=(a.put o.dst cv).tmps },rfl,rfl,qM jV (by rw[jU,ha]) ss hv,?_⟩
      rw[qN]
      exact (hf.trans gl).put _
    · exact h.elim
  · exact h.elim
theorem Aj (an:List Nat) {f:FuncId} {args cU:List AV} {bN:List Ob} {dst:Option Tmp} {K:St→Prop} {iC:AV→List Ob→Prop} (h:il P f cU bN iC) (bC:an.Nodup)
    (ho:uR (a9 σ.aa.length an) σ.aa an bN) (ha:iK (aO σ (·∈an) (a9 σ.aa.length an) false) cU args)
    (hK:∀ res cA,iC res cA→K (({ σ with aa:=dQ σ.aa an (cA.map (bD (a9 σ.aa.length an))) }:St).put dst (aX (a9 σ.aa.length an) res))):pB P f args dst K σ:=by
  obtain ⟨h1,h2⟩:=ho.spec
  obtain ⟨h3,h4⟩:=ha.spec
  exact⟨an,false,cU,bN,iC,h,⟨bC,h1,h2,h3,h4⟩,fun res cA hp=>⟨by simp,hK res cA hp⟩⟩
end Go.Am
namespace Go.Am
variable {P:Program} {N n0:Nat} {σ:St} {Q:Exit→St→Prop}
def qh (P:Program) (ops:Array Oper) (qs:List Nat):Nat→List Oper→(St→Prop)→St→Prop
  | _,[],K,σ=>K σ
  | i,o::r,K,σ=>dS P ops (qs.contains i) o (qh P ops qs (i+1) r K) σ
theorem OB {ops:Array Oper} {qs:List Nat} {i:Nat} {K:St→Prop}:qh P ops qs i [] K σ=K σ:=by simp only[qh]
theorem EU {ops:Array Oper} {qs:List Nat} {i:Nat} {o:Oper} {r:List Oper} {K:St→Prop}:qh P ops qs i (o::r) K σ=dS P ops (qs.contains i) o (qh P ops qs (i+1) r K) σ:=by simp only[qh]
theorem Ip {ops:Array Oper} {qs:List Nat} {K:St→Prop}:∀ (l:List Oper) (i:Nat) (σ:St),ops.toList.drop i=l→qh P ops qs i l K σ→iS P ops qs (iT (lU i l.length)) K σ
  | [],i,σ,_,h=>h
  | o::r,i,σ,hl,h=>by
    have hi:ops[i]?=some o:=by
      have:(ops.toList.drop i)[0]?=some o:=by rw[hl];rfl
      simpa using this
    have hr:ops.toList.drop (i+1)=r:=by
      have:=congrArg List.tail hl
      simpa [List.tail_drop] using this
    rw[List.length_cons,List.range'_succ]
    show cL P ops qs i (iS P ops qs (iT (lU (i+1) r.length)) K) σ
    unfold cL
    simp only[hi]
    have hm:∀ s,qh P ops qs (i+1) r K s→iS P ops qs (iT (lU (i+1) r.length)) K s:=fun s hs=>Ip r (i+1) s hr hs
    exact BK hm h
def EV (ops:Array Oper) (qs:List Nat):Bool:=(iT (List.range ops.size)).ok ops qs ops.size (xK ops.size false)
theorem OC {id:Nat} {ops:Array Oper} {y:Code} (qs:List Nat) (hm:P.follows .mixedOrders=true) (hd:gz N ops=true) (ht:EV ops qs=true) (h:∀ K:St→Prop,(∀ s,W P N n0 y Q s→K s)→qh P ops qs 0 ops.toList K σ) :
    W P N n0 (.seq (.region id ops true) y) Q σ :=
  NK qs _ hm hd ht fun K hK=>by
    have:=Ip (P:=P) (ops:=ops) (qs:=qs) ops.toList 0 σ rfl (h K hK)
    rw[vU]
    simpa using this
theorem Ak {id:Nat} {ops:Array Oper} (qs:List Nat) (hm:P.follows .mixedOrders=true) (hd:gz N ops=true) (ht:EV ops qs=true) (h:∀ K:St→Prop,(∀ s,Q .normal s→K s)→qh P ops qs 0 ops.toList K σ) :
    W P N n0 (.region id ops true) Q σ :=
  sj qs _ hm hd ht (by
    have:=Ip (P:=P) (ops:=ops) (qs:=qs) ops.toList 0 σ rfl (h _ (fun _ h=>h))
    rw[vU]
    simpa using this)
theorem bZ {f:FuncId} {args:List AV} {dst:Option Tmp} {K:St→Prop} {res:AV} (h:ao P f args [] res []) (ha:jl args=true) (hr:gy res=true) (hK:K (σ.put dst res)):Hs P f args dst K σ :=
  ⟨res,h,ha,hr,hK⟩
end Go.Am
namespace Go.Am
variable {P:Program} {N n0:Nat} {σ:St} {Q:Exit→St→Prop}
theorem bj.Iq {σ:St} {γ:Cx} (h:bj σ γ) {id:Nat} {cells cells':List AV} (ho:σ.aa[id]?=some (.var cells)) (hl:cells'.length=cells.length)
    (hc:∀ (c:Nat) v v',cells[c]?=some v→cells'[c]?=some v'→∀ cv,aB σ.aa γ.w γ.Z γ.blk v cv→aB σ.aa γ.w γ.Z γ.blk v' cv):bj ⟨σ.env,σ.aa.set id (.var cells')⟩ γ:=by
  obtain ⟨b,cap,cur,t,h1,h2,h3,h4⟩:=h.eN id _ ho
  have:=h.write (ob':=.var cells') ho (by simp) (by simp[Ob.dU,hl]) h1 (w':=γ.w) h2 (fun _ _=>rfl) rfl ⟨rfl,by rw[h3,hl],fun c v hv=>?_⟩
  · exact this
  · have aT:c<cells.length:=by rw[← hl];exact (aY.1 hv).1
    exact hc c _ v (bm aT) hv _ (h4 c _ (bm aT))
theorem Fr.Iq (os:List Ob) (γ:Cx) {id:Nat} {cells cells':List AV} (ho:os[id]?=some (.var cells)) (hl:cells'.length=cells.length):Fr os γ (os.set id (.var cells')) γ where
  m5:=rfl
  tape:=rfl
  output:=rfl
  size:=Nat.le_refl _
  fV:=fun _ _ _=>rfl
  z0:=fun _ h=>h
  z1:=fun _ h=>.inl h
  own:=by
    rintro b ⟨i,o,c,⟨x,hx,dD⟩,hb⟩
    rw[bO] at hx
    split at hx
    · rename_i e;subst e;exact .inl ⟨id,o,c,⟨_,ho,by simp⟩,hb⟩
    · exact .inl ⟨i,o,c,⟨x,hx,dD⟩,hb⟩
  len:=by simp
  kz:=by
    rintro i hi ⟨x,hx,dD⟩
    have hx0:=hx
    rw[bO] at hx
    split at hx
    · rename_i e;subst e
      exact⟨rfl,.var cells,.var cells',ho,by rw[bO];simp[hi],by simp[Ob.dU,hl]⟩
    · exact⟨rfl,x,x,hx,hx0,Ob.jY dD⟩
theorem aQ.q7 (id c sz:Nat) {cells:List AV} (ho:σ.aa[id]?=some (.var cells)) (hc:cells[c]?=some (.lit (.slice none 0 0))) (h0:0<sz) :
    aQ n0 σ ⟨σ.env,(σ.aa++[Ob.arr sz []]).set id (.var (cells.set c (.ref σ.aa.length sz 0 0)))⟩:=by
  intro os γ0 γ _ hs hf
  have hp:=hs.yl h0
  have cT:id<σ.aa.length:=(aY.1 ho).1
  have cp:(σ.aa++[Ob.arr sz []])[id]?=some (.var cells):=by rw[dH cT];exact ho
  refine⟨{ γ with blk:=cK γ.blk σ.aa.length none },rfl,rfl,?_,(hf.trans (Fr.yl _ _ _)).trans (Fr.Iq _ _ cp (cells':=cells.set c (.ref σ.aa.length sz 0 0)) (by simp))⟩
  refine hp.Iq cp (cells':=cells.set c (.ref σ.aa.length sz 0 0)) (by simp) (fun k v v' hv sk cv hr=>?_)
  rw[bO] at sk
  split at sk
  · rename_i e;subst e
    split at sk
    · simp only[dw.injEq] at sk
      subst sk
      have hk:cells[c]?=some v:=hv
      rw[hc] at hk
      simp only[dw.injEq] at hk
      subst hk
      rw[hr.cH]
      exact .l7 _ _ (List.getElem?_concat_length ..) (by simp[cK])
    · simp at sk
  · have hk:cells[k]?=some v':=sk
    have bG:cells[k]?=some v:=hv
    rw[bG] at hk
    simp only[dw.injEq] at hk
    subst hk
    exact hr
theorem aQ.EW (a id c sz:Nat) {cells:List AV} {rows:List (List AV)} (ho:σ.aa[id]?=some (.var cells)) (ha:σ.aa[a]?=some (.arr sz rows)) (hc:cells[c]?=some (.ref a sz 0 rows.length))
    (hw:∀ row∈rows,row.length=sz) (tw:∀ row∈rows,∀ v∈row,(∃ x,v=.lit x)∨∃ s r,v=.tree s r):aQ n0 σ ⟨σ.env,(σ.aa.set a .gone).set id (.var (cells.set c (.tree sz rows)))⟩:=by
  intro os γ0 γ _ hs hf
  have Cg:a≠id:=by intro e;subst e;rw[ho] at ha;simp at ha
  have Ch:id<σ.aa.length:=(aY.1 ho).1
  have sm:a<σ.aa.length:=(aY.1 ha).1
  let aI:Cx:={ γ with Z:=fun b=>γ.Z b∨∃ o cap,γ.blk a=some (b,o,cap) }
  let fO:=(σ.aa.set a .gone).set id (.var (cells.set c (.tree sz rows)))
  have gX:∀ i,fO[i]?=if i=id then some (.var (cells.set c (.tree sz rows))) else if i=a then some .gone else σ.aa[i]?:=by
    intro i
    show ((σ.aa.set a .gone).set id _)[i]?=_
    rw[bO,bO]
    by_cases h1:i=id
    · subst h1;simp[Ch]
    · by_cases h2:i=a
      · subst h2;simp[Ne.symm h1,h1,sm]
      · simp[Ne.symm h1,Ne.symm h2,h1,h2]
  have hR:∀ v cv,aB σ.aa γ.w γ.Z γ.blk v cv→aB fO aI.w aI.Z aI.blk v cv:=fun v cv hv =>
    hv.mono (fun b hb=>⟨.inl hb,rfl⟩) (fun i o hi=>by
      rw[gX]
      by_cases h1:i=id
      · subst h1
        rw[ho] at hi
        simp only[dw.injEq] at hi
        subst hi
        right
        exact⟨rfl,_,by rw[if_pos rfl],by simp[Ob.dU]⟩
      · rw[if_neg h1]
        by_cases h2:i=a
        · left;rw[if_pos h2]
        · rw[if_neg h2]
          by_cases hg:o=.gone
          · subst hg;exact .inl hi
          · exact .inr ⟨rfl,o,hi,Ob.jY hg⟩)
  have cM:∀ i,Live fO i→Live σ.aa i∧i≠a:=by
    rintro i ⟨o,hi,hg⟩
    rw[gX] at hi
    split at hi
    · rename_i h1;subst h1;exact⟨⟨_,ho,by simp⟩,Ne.symm Cg⟩
    · split at hi
      · simp at hi;exact absurd hi.symm hg
      · rename_i h2;exact⟨⟨o,hi,hg⟩,h2⟩
  have sG:Live σ.aa a:=⟨_,ha,by simp⟩
  refine⟨aI,rfl,rfl,⟨fun k=>hR _ _ (hs.aw k),?_,fun i j b o c o' c' hi hj=>hs.inj i j b o c o' c' (cM i hi).1 (cM j hj).1,?_,?_⟩,?_⟩
  · intro i o hi
    have ax:fO[i]?=some o:=hi
    rw[gX] at ax
    split at ax
    · rename_i h1
      subst h1
      simp only[dw.injEq] at ax
      subst ax
      obtain ⟨b,cap,cur,t,h1,h2,h3,h4⟩:=hs.eN _ _ ho
      refine⟨b,cap,cur,t,h1,h2,by simpa using h3,fun k v hv=>?_⟩
      rw[bO] at hv
      split at hv
      · rename_i e
        subst e
        split at hv
        · simp only[dw.injEq] at hv
          subst hv
          have eE:cw σ (fun x=>x≠a) (.tree sz rows) (.ref a sz 0 rows.length):=cw.flat ha hw rfl (by simp) tw
          exact .cI _ _ (eE.Ex hs (γc:=aI) (fun b hb=>.inl hb) rfl (fun x b o cap cT _ hb=>.inr ⟨o,cap,by rw[show a=x by simpa using (Decidable.not_not.1 cT).symm];exact hb⟩) _ (h4 c _ hc))
        · simp at hv
      · exact hR _ _ (h4 k v hv)
    · split at ax
      · simp only[dw.injEq] at ax;subst ax;trivial
      · by_cases hg:o=.gone
        · subst hg;trivial
        · exact (hs.eN i o ax).mono hR rfl (fun _ _ _ _=>rfl)
  · rintro b ⟨i,o,c',hi,hb⟩ (hz | ⟨o',cap,da⟩)
    · exact hs.nz b ⟨i,o,c',(cM i hi).1,hb⟩ hz
    · exact (cM i hi).2 (hs.inj i a b o c' o' cap (cM i hi).1 sG hb da)
  · rintro b (hz | ⟨o,cap,hb⟩)
    · exact hs.iq b hz
    · exact hs.blt sG hb
  · refine⟨hf.m5,hf.tape,hf.output,hf.size,hf.fV,fun b hb=>.inl (hf.z0 b hb),?_,?_,by show os.length≤fO.length;simp[fO];exact hf.len,?_⟩
    · rintro b (hz | ⟨o,cap,hb⟩)
      · exact hf.z1 b hz
      · exact .inr (hf.own b ⟨a,o,cap,sG,hb⟩)
    · rintro b ⟨i,o,c',hi,hb⟩
      exact hf.own b ⟨i,o,c',(cM i hi).1,hb⟩
    · intro i hi hl
      obtain ⟨h1,x,x',hx,cP,hk⟩:=hf.kz i hi (cM i hl).1
      have B2:=(cM i hl).2
      have kY:Live fO i:=hl
      obtain ⟨o,fh,tF⟩:=kY
      refine⟨h1,x,o,hx,fh,?_⟩
      rw[gX] at fh
      split at fh
      · rename_i e
        subst e
        rw[ho] at cP
        simp only[dw.injEq] at cP fh
        subst cP;subst fh
        refine Ob.Ik hk (by simp[Ob.dU])
      · rw[cP] at fh
        simp only[dw.injEq] at fh
        subst fh;exact hk
end Go.Am

