import Derived.Test.YtmhloinjpcabcaaGreatX06
set_option linter.unusedVariables false
set_option linter.unusedSimpArgs false
set_option linter.unnecessarySimpa false
set_option linter.unusedSectionVars false
set_option maxHeartbeats 64000000
set_option maxRecDepth 20000
namespace Go.Am
variable {P:Program} {dst:Option Tmp} {tt:TypeId} {p:String} {af:Array Edge} {g:Option (Nat × Bool)} {σ:St} {K:St→Prop}
def liveO:Option Ob→Prop
  | some (.var _)=>True
  | some (.arr _ _)=>True
  | some (.mp _ _)=>True
  | _=>False
theorem liveO_mp (a:Nat) (L:List (List Int × AV)):liveO (some (.mp a L))=True:=by simp only[liveO]
theorem liveO_var (c:List AV):liveO (some (.var c))=True:=by simp only[liveO]
theorem liveO_arr (s:Nat) (c:List (List AV)):liveO (some (.arr s c))=True:=by simp only[liveO]
def nilK (σ:St) (dst:Option Tmp) (K:St→Prop):AV→Prop
  | .ptr id r c=>liveO σ.objs[id]?∧K (σ.put dst (.ptr id r c))
  | .taddr cells=>K (σ.put dst (.taddr cells))
  | _=>False
theorem opG_nilCheck (x:Operand):opG P ⟨dst,.nilCheck x,tt,p,af,g⟩ σ K=nilK σ dst K (ev σ x):=by
  simp only[opG,opW]
  cases ev σ x<;>simp only[nilK]
  rename_i id r c
  cases h:σ.objs[id]? with
  | none=>simp[liveO]
  | some o=>cases o<;>simp[liveO]
def faK (σ:St) (dst:Option Tmp) (K:St→Prop) (off:Nat):AV→Prop
  | .ptr id r c=>liveO σ.objs[id]?∧K (σ.put dst (.ptr id r (c+off)))
  | .taddr cells=>K (σ.put dst (.taddr (cells.drop off)))
  | _=>False
def faT (σ:St) (dst:Option Tmp) (K:St→Prop) (v:AV) (kind:Nat):Option (Nat × Nat × Nat)→Prop
  | some (off,_,size)=>kind=3∧0<size∧faK σ dst K off v
  | none=>False
theorem opG_fieldAddr (s:TypeId) (x:Operand) (f:Nat):opG P ⟨dst,.fieldAddr s x f,tt,p,af,g⟩ σ K=faT σ dst K (ev σ x) (ty P s).kind (ty P s).flds[f]?:=by
  simp only[opG,opW]
  split
  · rename_i off ft size hk hf
    rw[hk,hf]
    simp only[faT,true_and]
    cases ev σ x<;>simp only[faK]
    rename_i id r c
    cases h:σ.objs[id]? with
    | none=>simp[liveO]
    | some o=>cases o<;>simp[liveO]
  · rename_i hne
    cases hf:(ty P s).flds[f]? with
    | none=>simp[faT]
    | some q =>
      obtain ⟨off,ft,size⟩:=q
      simp only[faT]
      have:(ty P s).kind≠3:=fun e=>hne off ft size e hf
      simp[this]
def iaA (t:Ty) (e:Ty) (σ:St) (dst:Option Tmp) (K:St→Prop):AV→AV→Prop
  | .ref id sz off len,.lit (.int _ n) =>
    t.kind=1 ∧
    match σ.objs[id]? with
    | some (.arr sz' _)=>(sz'=sz∧sz=e.size∧e.kind≠99∧0≤n∧n<len)∧K (σ.put dst (.ptr id (off+n.toNat) 0))
    | _=>False
  | .tree sz rows,.lit (.int _ n)=>t.kind=1∧(sz=e.size∧e.kind≠99∧0≤n∧n<rows.length)∧K (σ.put dst (.taddr (rows.getD n.toNat [])))
  | .ptr id r c,.lit (.int _ n)=>t.kind=2∧liveO σ.objs[id]?∧(e.kind≠99∧0≤n∧n<t.len)∧K (σ.put dst (.ptr id r (c+n.toNat * e.size)))
  | _,_=>False
theorem opG_indexAddr (t:TypeId) (x i:Operand):opG P ⟨dst,.indexAddr t x i,tt,p,af,g⟩ σ K=iaA (ty P t) (ty P (ty P t).elem) σ dst K (ev σ x) (ev σ i):=by
  simp only[opG,opW]
  split
  · rename_i id sz off len k n hk hx hi
    rw[hx,hi];simp only[iaA,hk,true_and]
    cases σ.objs[id]? with
    | none=>rfl
    | some o=>cases o<;>rfl
  · rename_i sz rows k n hk hx hi
    rw[hx,hi];simp only[iaA,hk,true_and]
  · rename_i id r c k n hk hx hi
    rw[hx,hi];simp only[iaA,hk,true_and]
    cases h:σ.objs[id]? with
    | none=>simp[liveO]
    | some o=>cases o<;>simp[liveO]
  · rename_i h1 h2 h3
    unfold iaA
    split
    · rename_i id sz off len k n hx hi
      simp only[eq_iff_iff,false_iff]
      rintro ⟨hk,_⟩
      exact h1 id sz off len k n hk hx hi
    · rename_i sz rows k n hx hi
      simp only[eq_iff_iff,false_iff]
      rintro ⟨hk,_⟩
      exact h2 sz rows k n hk hx hi
    · rename_i id r c k n hx hi
      simp only[eq_iff_iff,false_iff]
      rintro ⟨hk,_⟩
      exact h3 id r c k n hk hx hi
    · rfl
def callV (P:Program) (dst:Option Tmp) (args:List AV) (K:St→Prop) (σ:St):AV→Prop
  | .fn g caps=>callK P g (args++caps) dst K σ
  | _=>False
theorem opG_call (f:Operand) (args:Array Operand) (ats:Array TypeId):opG P ⟨dst,.call ⟨.value f,args,ats⟩,tt,p,af,g⟩ σ K=callV P dst (args.toList.map (ev σ)) K σ (ev σ f):=by
  simp only[opG]
  cases ev σ f<;>rfl
def invV (P:Program) (dst:Option Tmp) (args:List AV) (K:St→Prop) (σ:St) (m:String):AV→Prop
  | .ifc t v=>recvK P σ v (fun g x=>callK P g (x::args) dst K σ) (methT P t m)
  | _=>False
theorem opG_invoke (r:Operand) (m:String) (args:Array Operand) (ats:Array TypeId):opG P ⟨dst,.call ⟨.invoke r m,args,ats⟩,tt,p,af,g⟩ σ K=invV P dst (args.toList.map (ev σ)) K σ m (ev σ r):=by
  simp only[opG]
  cases ev σ r<;>rfl
def callVQ (P:Program) (dst:Option Tmp) (args:List AV) (K:St→Prop) (σ:St):AV→Prop
  | .fn g caps=>callQ P g (args++caps) dst K σ
  | _=>False
theorem opGm_call (f:Operand) (args:Array Operand) (ats:Array TypeId):opGm true P ⟨dst,.call ⟨.value f,args,ats⟩,tt,p,af,g⟩ σ K=callVQ P dst (args.toList.map (ev σ)) K σ (ev σ f):=by
  simp only[opGm]
  cases ev σ f<;>rfl
def evP (σ:St):List (Nat × Operand)→List (Nat × AV)
  | []=>[]
  | q::l=>(q.1,ev σ q.2)::evP σ l
def scalP (σ:St):List (Nat × Operand)→Bool
  | []=>true
  | q::l=>(cellsOf (ev σ q.2)).all scal && scalP σ l
theorem evP_eq (σ:St) (l:List (Nat × Operand)):evP σ l=l.map fun q=>(q.1,ev σ q.2):=by
  induction l with
  | nil=>rfl
  | cons q l ih=>simp only[evP,ih,List.map_cons]
theorem scalP_eq (σ:St) (l:List (Nat × Operand)):scalP σ l=l.all fun q=>(cellsOf (ev σ q.2)).all scal:=by
  induction l with
  | nil=>rfl
  | cons q l ih=>simp only[scalP,ih,List.all_cons]
theorem opGm_no (o:Oper):opGm false P o σ K=opG P o σ K:=by simp only[opGm]
theorem opG_move (x:Operand):opG P ⟨dst,.move x,tt,p,af,g⟩ σ K =
    (K (σ.put dst (ev σ x))):=by unfold opG opW;rfl
theorem opG_assign (x:Operand):opG P ⟨dst,.assign x,tt,p,af,g⟩ σ K =
    (K (σ.put dst (ev σ x))):=by unfold opG opW;rfl
theorem opG_pick (c a b:Operand):opG P ⟨dst,.pick c a b,tt,p,af,g⟩ σ K =
    (match ev σ c with
      | .lit (.bool t)=>K (σ.put dst (pickV t (ev σ a) (ev σ b)))
      | _=>False):=by unfold opG opW;rfl
theorem opG_alloc (e:TypeId):opG P ⟨dst,.alloc e,tt,p,af,g⟩ σ K =
    ((ty P e).kind≠99 ∧
      match (ty P e).zero with
      | some z=>K (({ σ with objs:=σ.objs++[.var (z.map .lit)] }:St).put dst (.ptr σ.objs.length 0 0))
      | none=>False):=by unfold opG opW;rfl
theorem opG_box (e:TypeId) (x:Operand):opG P ⟨dst,.box e x,tt,p,af,g⟩ σ K =
    ((cellsOf (ev σ x)).all scal=true∧K (({ σ with objs:=σ.objs++[.var (cellsOf (ev σ x))] }:St).put dst (.ptr σ.objs.length 0 0))):=by unfold opG opW;rfl
theorem opG_build (t:TypeId) (parts:Array (Nat × Operand)):opG P ⟨dst,.build t parts,tt,p,af,g⟩ σ K =
    (match (ty P t).kind,(ty P t).zero with
      | 3,some z =>
        match fillA (fun i=>((ty P t).flds[i]?).map fun f=>(f.1,f.2.2)) (z.map .lit) (evP σ parts.toList) with
        | some cs=>(scalP σ parts.toList=true∧((ty P t).flds.all fun f=>decide (0<f.2.2))=true)∧K (σ.put dst (.agg cs))
        | none=>False
      | 2,some z =>
        match fillA (fun i=>some (i * (ty P (ty P t).elem).size,(ty P (ty P t).elem).size)) (z.map .lit) (evP σ parts.toList) with
        | some cs=>(scalP σ parts.toList=true∧(ty P (ty P t).elem).kind≠99)∧K (σ.put dst (.agg cs))
        | none=>False
      | _,_=>False):=by rw[evP_eq,scalP_eq];unfold opG opW;rfl
theorem opG_buildSlice (t:TypeId) (len:Nat) (parts:Array (Nat × Operand)):opG P ⟨dst,.buildSlice t len parts,tt,p,af,g⟩ σ K =
    (match (ty P t).kind,(ty P (ty P t).elem).zero with
      | 1,some z =>
        match fillA (fun i=>some (i * (ty P (ty P t).elem).size,(ty P (ty P t).elem).size)) ((List.range len).flatMap fun _=>z.map .lit) (evP σ parts.toList) with
        | some cs=>((ty P (ty P t).elem).kind≠99∧0<(ty P (ty P t).elem).size∧z.length=(ty P (ty P t).elem).size∧len * (ty P (ty P t).elem).size≤16777216∧scalP σ parts.toList=true) ∧
            K (({ σ with objs:=σ.objs++[.arr (ty P (ty P t).elem).size (toRows (ty P (ty P t).elem).size len cs)] }:St).put dst (.ref σ.objs.length (ty P (ty P t).elem).size 0 len))
        | none=>False
      | _,_=>False):=by rw[evP_eq,scalP_eq];unfold opG opW;rfl
theorem opG_load (t:TypeId) (a:Operand):opG P ⟨dst,.load t a,tt,p,af,g⟩ σ K =
    ((ty P t).kind≠99 ∧
      match ev σ a with
      | .ptr id r c =>
        match rowOf σ id r with
        | some row=>loadA (ty P t) row c fun v=>K (σ.put dst v)
        | none=>False
      | .taddr cells=>loadA (ty P t) cells 0 fun v=>K (σ.put dst v)
      | _=>False):=by unfold opG opW;rfl
theorem opG_store (t:TypeId) (a x:Operand):opG P ⟨dst,.store t a x,tt,p,af,g⟩ σ K =
    ((ty P t).kind≠99 ∧
      match ev σ a with
      | .ptr id r c =>
        match rowOf σ id r with
        | some row=>((cellsOf (ev σ x)).length=(ty P t).size∧c+(ty P t).size≤row.length∧(cellsOf (ev σ x)).all scal=true)∧K ((setRowOf σ id r (setCells row c (cellsOf (ev σ x)))).put dst .undef)
        | none=>False
      | _=>False):=by unfold opG opW;rfl
theorem opG_binOp (op:BinOp) (t:TypeId) (x y:Operand) (yt:TypeId):opG P ⟨dst,.binOp op t x y yt,tt,p,af,g⟩ σ K =
    (match ev σ x,ev σ y with
      | .lit (.int k a),.lit (.int k' b)=>k=k'∧intW op k a b fun v=>K (σ.put dst (.lit v))
      | .lit (.bool a),.lit (.bool b) =>
        (ty P t).kind=6 ∧
        match op with
        | .eql=>K (σ.put dst (.lit (.bool (a == b))))
        | .neq=>K (σ.put dst (.lit (.bool (a != b))))
        | _=>False
      | .tree _ rows,.lit (.slice none 0 0) =>
        ((ty P t).kind=1∧0<rows.length) ∧
        match op with
        | .eql=>K (σ.put dst (.lit (.bool false)))
        | .neq=>K (σ.put dst (.lit (.bool true)))
        | _=>False
      | .lit (.slice a _ _),.lit (.slice none 0 0) =>
        (ty P t).kind=1 ∧
        match op with
        | .eql=>K (σ.put dst (.lit (.bool a.isNone)))
        | .neq=>K (σ.put dst (.lit (.bool (!a.isNone))))
        | _=>False
      | .agg cs,.agg ds =>
        match intsOf cs,intsOf ds with
        | some as,some bs =>
          (EqT P t as.length∧bs.length=as.length∧P.eqGuardType P.depth t=false) ∧
          match op with
          | .eql=>K (σ.put dst (.lit (.bool (decide (as=bs)))))
          | .neq=>K (σ.put dst (.lit (.bool (!decide (as=bs)))))
          | _=>False
        | _,_=>False
      | _,_=>False):=by unfold opG opW;rfl
theorem opG_unOp (op:UnOp) (t:TypeId) (x:Operand):opG P ⟨dst,.unOp op t x,tt,p,af,g⟩ σ K =
    (match op,ev σ x with
      | .not,.lit (.bool b)=>K (σ.put dst (.lit (.bool !b)))
      | .neg,.lit (.int k a)=>(k.min≤-a∧-a≤k.max)∧K (σ.put dst (.lit (.int k (-a))))
      | _,_=>False):=by unfold opG opW;rfl
theorem opG_makeFunc (fn:Fn) (first captured:Array Operand):opG P ⟨dst,.makeFunc fn first captured,tt,p,af,g⟩ σ K =
    (match fn with
      | .func f=>first.size=0∧K (σ.put dst (.fn f (captured.toList.map (ev σ))))
      | _=>False):=by unfold opG opW;rfl
theorem opG_makeSlice (t:TypeId) (l c:Operand):opG P ⟨dst,.makeSlice t l c,tt,p,af,g⟩ σ K =
    (match (ty P t).kind,(ty P (ty P t).elem).zero,ev σ l,ev σ c with
      | 1,some z,.lit (.int k n),.lit (.int k' n') =>
        ((ty P (ty P t).elem).kind≠99∧0<(ty P (ty P t).elem).size∧z.length=(ty P (ty P t).elem).size∧n'=n∧0≤n∧n≤1099511627776∧(ty P (ty P t).elem).bytes≤128∧k=k) ∧
          K (({ σ with objs:=σ.objs++[.arr (ty P (ty P t).elem).size (List.replicate n.toNat (z.map .lit))] }:St).put dst (.ref σ.objs.length (ty P (ty P t).elem).size 0 n.toNat))∧k'=k'
      | _,_,_,_=>False):=by unfold opG opW;rfl
theorem opG_slice (t:TypeId) (x:Operand) (lo hi mx:Option Operand):opG P ⟨dst,.slice t x lo hi mx,tt,p,af,g⟩ σ K =
    ((ty P t).kind=1∧(ty P (ty P t).elem).kind≠99∧mx=none ∧
      match ev σ x with
      | .ref id sz off len =>
        match σ.objs[id]? with
        | some (.arr sz' rows) =>
          sz'=sz∧sz=(ty P (ty P t).elem).size ∧
          match lo.map (ev σ),hi.map (ev σ) with
          | none,none=>K (σ.put dst (.ref id sz off len))
          | some (.lit (.int _ l)),none=>(0≤l∧l≤len∧rows.length=rows.length)∧K (σ.put dst (.ref id sz (off+l.toNat) (len - l.toNat)))
          | none,some (.lit (.int _ h))=>(0≤h∧h≤len)∧K (σ.put dst (.ref id sz off h.toNat))
          | some (.lit (.int _ l)),some (.lit (.int _ h))=>(0≤l∧l≤h∧h≤len)∧K (σ.put dst (.ref id sz (off+l.toNat) (h.toNat - l.toNat)))
          | _,_=>False
        | _=>False
      | .tree sz rows =>
          (rows≠[]→sz=(ty P (ty P t).elem).size) ∧
          match lo.map (ev σ),hi.map (ev σ) with
          | none,none=>K (σ.put dst (.tree sz rows))
          | some (.lit (.int _ l)),none=>(0≤l∧l≤rows.length)∧K (σ.put dst (.tree sz (rows.drop l.toNat)))
          | none,some (.lit (.int _ h))=>(0≤h∧h≤rows.length)∧K (σ.put dst (.tree sz (rows.take h.toNat)))
          | some (.lit (.int _ l)),some (.lit (.int _ h))=>(0≤l∧l≤h∧h≤rows.length)∧K (σ.put dst (.tree sz ((rows.take h.toNat).drop l.toNat)))
          | _,_=>False
      | _=>False):=by unfold opG opW;rfl
theorem opG_field (s:TypeId) (x:Operand) (f:Nat):opG P ⟨dst,.field s x f,tt,p,af,g⟩ σ K =
    (match (ty P s).kind,(ty P s).flds[f]? with
      | 3,some (off,t,size) =>
        (ty P t).kind≠99∧size=(ty P t).size ∧
        match ev σ x with
        | .agg cs=>if (ty P t).isAgg then off+size≤cs.length∧K (σ.put dst (.agg ((cs.drop off).take size))) else
            match cs[off]? with
            | some v=>K (σ.put dst v)
            | none=>False
        | _=>False
      | _,_=>False):=by unfold opG opW;rfl
theorem opG_makeMap (t:TypeId) (r:Option Operand):opG P ⟨dst,.makeMap t r,tt,p,af,g⟩ σ K =
    ((r=none∧(ty P t).kind=8)∧K (({ σ with objs:=σ.objs++[.mp (kAg P t) []] }:St).put dst (.mref σ.objs.length))):=by unfold opG opW;rfl
theorem opG_lookup (t:TypeId) (x i:Operand) (ok:Bool):opG P ⟨dst,.lookup t x i ok,tt,p,af,g⟩ σ K =
    (match keyOf (ev σ i),mpOf σ (ev σ x),zeroV P (ty P t).elem with
      | some (ag,l),some (_,ag',L),some z=>(KeyM P t ag∧ag'=ag∧l.length=kLen ag∧(ty P t).kind=8∧ok=false)∧K (σ.put dst ((getA l L).getD (.lit z)))
      | _,_,_=>False):=by unfold opG opW;rfl
theorem opG_mapUpdate (t:TypeId) (m k x:Operand):opG P ⟨dst,.mapUpdate t m k x,tt,p,af,g⟩ σ K =
    (match keyOf (ev σ k),mpOf σ (ev σ m) with
      | some (ag,l),some (id,ag',L)=>(KeyM P t ag∧ag'=ag∧l.length=kLen ag)∧K (({ σ with objs:=σ.objs.set id (.mp ag (setA l (ev σ x) L)) }:St).put dst .undef)
      | _,_=>False):=by unfold opG opW;rfl
theorem opG_mapEntry (t:TypeId) (m k:Operand):opG P ⟨dst,.mapEntry t m k,tt,p,af,g⟩ σ K =
    (match keyOf (ev σ k),mpOf σ (ev σ m),zeroV P (ty P t).elem with
      | some (ag,l),some (id,ag',L),some z=>(KeyM P t ag∧ag'=ag∧l.length=kLen ag∧(ty P t).kind=8) ∧
        K (({ σ with objs:=σ.objs.set id (.mp ag (setA l ((getA l L).getD (.lit z)) L)) }:St).put dst (.tup [(getA l L).getD (.lit z),.lit (.int .i64 (idxA l L:Nat))]))
      | _,_,_=>False):=by unfold opG opW;rfl
theorem opG_entryStore (t:TypeId) (m s x:Operand):opG P ⟨dst,.entryStore t m s x,tt,p,af,g⟩ σ K =
    (match ev σ s,mpOf σ (ev σ m) with
      | .lit (.int .i64 n),some (id,ag,L)=>(0≤n∧n<L.length)∧K (({ σ with objs:=σ.objs.set id (.mp ag (putA n.toNat (ev σ x) L)) }:St).put dst .undef)
      | _,_=>False):=by unfold opG opW;rfl
theorem opG_index (t:TypeId) (x i:Operand):opG P ⟨dst,.index t x i,tt,p,af,g⟩ σ K =
    (match ev σ x,ev σ i with
      | .lit (.string s),.lit (.int _ n)=>(P.underlying t=some .string∧0≤n∧n<s.size)∧K (σ.put dst (.lit (.int .u8 (strB s n.toNat))))
      | _,_=>False):=by unfold opG opW;rfl
theorem opG_makeInterface (t:TypeId) (x:Operand):opG P ⟨dst,.makeInterface t x,tt,p,af,g⟩ σ K =
    (ifaceB P t=false∧K (σ.put dst (.ifc t (ev σ x)))):=by unfold opG opW;rfl
theorem opG_typeAssert (x:Operand) (xt asserted:TypeId) (ok:Bool):opG P ⟨dst,.typeAssert x xt asserted ok,tt,p,af,g⟩ σ K =
    (match ev σ x with
      | .ifc t v=>(ifaceB P asserted=false∧t=asserted∧ok=false)∧K (σ.put dst v)
      | _=>False):=by unfold opG opW;rfl
theorem opG_extract (x:Operand) (i:Nat):opG P ⟨dst,.extract x i,tt,p,af,g⟩ σ K =
    (match ev σ x with
      | .tup vs =>
        match vs[i]? with
        | some v=>K (σ.put dst v)
        | none=>False
      | _=>False):=by unfold opG opW;rfl
theorem opG_b_len (args:Array Operand) (argTypes:Array TypeId):opG P ⟨dst,.call ⟨.builtin .len,args,argTypes⟩,tt,p,af,g⟩ σ K =
    (match args.toList,argTypes.toList with
      | [x],[t] =>
        match ev σ x with
        | .ref id sz _ len =>
          (ty P t).kind=1 ∧
          match σ.objs[id]? with
          | some (.arr sz' _)=>sz'=sz∧K (σ.put dst (.lit (.int .i64 len)))
          | _=>False
        | .tree _ rows=>(ty P t).kind=1∧K (σ.put dst (.lit (.int .i64 rows.length)))
        | .lit (.slice none 0 0)=>(ty P t).kind=1∧K (σ.put dst (.lit (.int .i64 0)))
        | .mref id =>
          (ty P t).kind=8 ∧
          match σ.objs[id]? with
          | some (.mp _ L)=>K (σ.put dst (.lit (.int .i64 L.length)))
          | _=>False
        | _=>False
      | _,_=>False):=by unfold opG opW;rfl
theorem opG_b_append (args:Array Operand) (argTypes:Array TypeId):opG P ⟨dst,.call ⟨.builtin .append,args,argTypes⟩,tt,p,af,g⟩ σ K =
    (match args.toList,argTypes.toList with
      | [s,x],[t,t'] =>
        match (ty P t).kind,(ty P (ty P t).elem).zero,dstRows σ (ty P (ty P t).elem).size (ev σ s),srcRows σ (ev σ x) with
        | 1,some z,some (pre,σ1),some (sz,src) =>
          (t'=t∧(ty P (ty P t).elem).kind≠99∧sz=(ty P (ty P t).elem).size∧0<sz∧z.length=sz∧pre.length+src.length≤549755813888∧(ty P (ty P t).elem).bytes≤128∧(src.all fun row=>row.all scal)=true) ∧
            K (({ σ1 with objs:=σ1.objs++[.arr sz (pre++src)] }:St).put dst (.ref σ1.objs.length sz 0 (pre.length+src.length)))
        | _,_,_,_=>False
      | _,_=>False):=by unfold opG opW;rfl
theorem opG_b_min (args:Array Operand) (argTypes:Array TypeId):opG P ⟨dst,.call ⟨.builtin .min,args,argTypes⟩,tt,p,af,g⟩ σ K =
    (match args.toList with
      | [x,y] =>
        match ev σ x,ev σ y with
        | .lit (.int k a),.lit (.int k' b)=>k=k'∧K (σ.put dst (.lit (.int k (min a b))))
        | _,_=>False
      | _=>False):=by unfold opG opW;rfl
theorem opG_b_max (args:Array Operand) (argTypes:Array TypeId):opG P ⟨dst,.call ⟨.builtin .max,args,argTypes⟩,tt,p,af,g⟩ σ K =
    (match args.toList with
      | [x,y] =>
        match ev σ x,ev σ y with
        | .lit (.int k a),.lit (.int k' b)=>k=k'∧K (σ.put dst (.lit (.int k (max a b))))
        | _,_=>False
      | _=>False):=by unfold opG opW;rfl
theorem opG_b_copy (args:Array Operand) (argTypes:Array TypeId):opG P ⟨dst,.call ⟨.builtin .copy,args,argTypes⟩,tt,p,af,g⟩ σ K =
    (match args.toList,argTypes.toList with
      | [s,x],[t,_] =>
        match ev σ s,srcRows σ (ev σ x) with
        | .ref id sz off len,some (sz',src) =>
          match σ.objs[id]? with
          | some (.arr sz'' rows) =>
            ((ty P t).kind=1∧(ty P (ty P t).elem).kind≠99∧sz'=sz∧sz''=sz∧sz=(ty P (ty P t).elem).size∧0<sz∧(src.all fun row=>row.all scal)=true) ∧
              K (({ σ with objs:=σ.objs.set id (.arr sz (rows.take off++src.take (min src.length len)++rows.drop (off+min src.length len))) }:St).put dst (.lit (.int .i64 (min src.length len:Nat))))
          | _=>False
        | _,_=>False
      | _,_=>False):=by unfold opG opW;rfl
theorem opG_convert (s d:TypeId) (x:Operand):opG P ⟨dst,.convert s d x,tt,p,af,g⟩ σ K =
    (match P.underlying d,ev σ x with
      | some (.int k),.lit (.int _ n)=>(P.underlying s).isSome=true∧K (σ.put dst (.lit (.int k (k.wrap n))))
      | _,_=>False):=by unfold opG opW;rfl
end Go.Am
namespace Go.Am
variable {P:Program} {N n0:Nat} {σ:St} {Q:Exit→St→Prop}
theorem RetOK_sel (sel:List Nat) (snap:Bool) {v res:AV} {objs':List Ob} (hnd:sel.Nodup) (ho:SelO (rho σ.objs.length sel) σ.objs sel objs') (hn:n0≤sel.length) (hid:∀ i,i<n0→sel.getD i 0=i)
    (h:ArgR σ (kept sel objs') (rho σ.objs.length sel) snap res v):RetOK n0 σ v res objs':=by
  obtain ⟨h1,h2,h3⟩:=ho.spec
  exact⟨sel,snap,hnd,h1,h2,h3,hn,hid,h⟩
theorem RetOK_all {e:Nat→AV} {os:List Ob} {v res:AV} {objs':List Ob} (ho:os=objs') (hn:n0≤objs'.length) (h:v=res):RetOK n0 ⟨e,os⟩ v res objs':=by
  subst ho;subst h
  let σ:St:=⟨e,os⟩
  show RetOK n0 σ v v σ.objs
  have hn:n0≤σ.objs.length:=hn
  refine⟨List.range σ.objs.length,false,List.nodup_range,by simp,fun j o hj=>.inr ?_,by simp,by simpa using hn,fun i hi=>?_,?_⟩
  · have hlt:=(List.getElem?_eq_some_iff.1 hj).1
    rw[rho_id,renO_id]
    simpa [List.getD_eq_getElem?_getD,List.getElem?_range hlt] using hj
  · have:i<σ.objs.length:=by omega
    simp[List.getD_eq_getElem?_getD,List.getElem?_range this]
  · exact .eq (by rw[rho_id,ren_id])
end Go.Am
namespace Go.Am
variable {P:Program} {N n0:Nat} {σ:St} {Q:Exit→St→Prop}
theorem not_kept {sel:List Nat} {co:List Ob} {id:Nat} (h:id ∉ sel):¬ kept sel co id:=by
  rintro ⟨j,hj,he,_⟩
  apply h
  rw[← he,List.getD_eq_getElem?_getD,List.getElem?_eq_getElem hj]
  exact List.getElem_mem hj
def SelX (ρ:Nat→Nat) (os:List Ob):List Nat→List Ob→Prop
  | [],[]=>True
  | i::sel,o::co=>os[i]?=some (renO ρ o)∧SelX ρ os sel co
  | _,_=>False
theorem SelX.spec {ρ:Nat→Nat} {os:List Ob}:∀ {sel:List Nat} {co:List Ob},SelX ρ os sel co→co.length=sel.length∧∀ (j:Nat) o,co[j]?=some o→os[sel.getD j 0]?=some (renO ρ o)
  | [],[],_=>⟨rfl,by simp⟩
  | i::sel,o::co,h=>by
    obtain ⟨h1,h3⟩:=h
    obtain ⟨a,b⟩:=SelX.spec h3
    refine⟨by simp[a],fun j o' hj=>?_⟩
    cases j with
    | zero=>simp at hj;subst hj;simpa using h1
    | succ j=>simpa using b j o' (by simpa using hj)
def ArgsR (R:AV→AV→Prop):List AV→List AV→Prop
  | [],[]=>True
  | c::cs,d::ds=>R c d∧ArgsR R cs ds
  | _,_=>False
theorem ArgsR.spec {R:AV→AV→Prop}:∀ {cs ds:List AV},ArgsR R cs ds→cs.length=ds.length∧∀ (j:Nat) c d,cs[j]?=some c→ds[j]?=some d→R c d
  | [],[],_=>⟨rfl,by simp⟩
  | c::cs,d::ds,h=>by
    obtain ⟨a,b⟩:=ArgsR.spec h.2
    refine⟨by simp[a],fun j c' d' hc hd=>?_⟩
    cases j with
    | zero=>simp at hc hd;subst hc;subst hd;exact h.1
    | succ j=>exact b j c' d' (by simpa using hc) (by simpa using hd)
theorem ArgR.tup2 {kp:Nat→Prop} {ρ:Nat→Nat} {snap:Bool} {a b c d:AV} (h:ArgR σ kp ρ snap a c) (k:ArgR σ kp ρ snap b d):ArgR σ kp ρ snap (.tup [a,b]) (.tup [c,d]) :=
  .tup _ _ rfl (ArgsR.spec (R:=ArgR σ kp ρ snap) (cs:=[a,b]) (ds:=[c,d]) ⟨h,k,trivial⟩).2
theorem callK_sel (sel:List Nat) {f:FuncId} {args cargs:List AV} {cobjs:List Ob} {dst:Option Tmp} {K:St→Prop} {res:AV} {cobjs':List Ob} (h:Holds P f cargs cobjs res cobjs') (hnd:sel.Nodup)
    (ho:SelX (rho σ.objs.length sel) σ.objs sel cobjs) (ha:ArgsR (ArgR σ (·∈sel) (rho σ.objs.length sel) false) cargs args)
    (hK:K (({ σ with objs:=mergeO σ.objs sel (cobjs'.map (renO (rho σ.objs.length sel))) }:St).put dst (ren (rho σ.objs.length sel) res))):callK P f args dst K σ:=by
  obtain ⟨h1,h2⟩:=ho.spec
  obtain ⟨h3,h4⟩:=ha.spec
  exact⟨sel,false,cargs,cobjs,res,cobjs',h,⟨hnd,h1,h2,h3,h4,by simp⟩,hK⟩
theorem callK_snap (sel:List Nat) {f:FuncId} {args cargs:List AV} {cobjs:List Ob} {dst:Option Tmp} {K:St→Prop} {res:AV} {cobjs':List Ob} (h:Holds P f cargs cobjs res cobjs') (hnd:sel.Nodup)
    (ho:SelX (rho σ.objs.length sel) σ.objs sel cobjs) (ha:ArgsR (ArgR σ (·∈sel) (rho σ.objs.length sel) true) cargs args) (hf:flat res=true) (hfo:∀ o∈cobjs',flatO o)
    (hK:K (({ σ with objs:=mergeO σ.objs sel (cobjs'.map (renO (rho σ.objs.length sel))) }:St).put dst (ren (rho σ.objs.length sel) res))):callK P f args dst K σ:=by
  obtain ⟨h1,h2⟩:=ho.spec
  obtain ⟨h3,h4⟩:=ha.spec
  exact⟨sel,true,cargs,cobjs,res,cobjs',h,⟨hnd,h1,h2,h3,h4,fun _=>⟨hf,hfo⟩⟩,hK⟩
theorem renO_var {ρ:Nat→Nat} (cs:List AV):renO ρ (.var cs)=.var (cs.map (ren ρ)):=by simp only[renO]
theorem renO_gone' {ρ:Nat→Nat}:renO ρ .gone=.gone:=by simp only[renO]
theorem range1:List.range 1=[0]:=by decide
theorem range2:List.range 2=[0,1]:=by decide
theorem range3:List.range 3=[0,1,2]:=by decide
theorem ints_take (xs:List Int):(ints xs).take xs.length=ints xs:=by rw[List.take_of_length_le (by simp[ints])]
theorem bools_take (xs:List Bool):(bools xs).take xs.length=bools xs:=by rw[List.take_of_length_le (by simp[bools])]
theorem intss_take (xs:List (List Int)):(intss xs).take xs.length=intss xs:=by rw[List.take_of_length_le (by simp[intss])]
theorem join_here {y:Code} {Q0 Q1:Exit→St→Prop} {G:Prop} (S0:St) (hn:∀ s,W P N n0 y Q0 s→Q1 .normal s) (hm:W P N n0 y Q0 S0) (h:(∀ s,Turns n0 s S0→Q1 .normal s)→G):G :=
  h fun s ht=>hn s (W_turn ht hm)
end Go.Am

