import Derived.Test.YtdipcmigdbnheaaGreatX04
set_option linter.unusedVariables false
set_option linter.unusedSimpArgs false
set_option linter.unnecessarySimpa false
set_option linter.unusedSectionVars false
set_option maxHeartbeats 64000000
set_option maxRecDepth 20000
open List renaming range→aT,replicate→bq,getElem?_eq_some_iff→aS,getD_eq_getElem?_getD→ay,getElem?_range→j3,getElem?_eq_getElem→bI,take_of_length_le→dC,range'→mz,length_take→ez
open Array renaming getD_eq_getD_getElem?→eQ,length_toList→sr
namespace Go.Am
variable {P:Program} {dst:Option Tmp} {tt:TypeId} {p:String} {af:Array Edge} {g:Option (Nat × Bool)} {σ:St} {K:St→Prop}
def nM:Option Ob→Prop
  | some (.var _)=>True
  | some (.arr _ _)=>True
  | some (.mp _ _)=>True
  | _=>False
theorem Lh (a:Nat) (L:List (List Int × AV)):nM (some (.mp a L))=True:=by simp only[nM]
theorem Li (c:List AV):nM (some (.var c))=True:=by simp only[nM]
theorem Lj (s:Nat) (c:List (List AV)):nM (some (.arr s c))=True:=by simp only[nM]
def yH (σ:St) (dst:Option Tmp) (K:St→Prop):AV→Prop
  | .ptr id r c=>nM σ.aa[id]?∧K (σ.put dst (.ptr id r c))
  | .db cells=>K (σ.put dst (.db cells))
  | _=>False
theorem Lk (x:Operand):bf P ⟨dst,.nilCheck x,tt,p,af,g⟩ σ K=yH σ dst K (ev σ x):=by
  simp only[bf,b8]
  cases ev σ x<;>simp only[yH]
  rename_i id r c
  cases h:σ.aa[id]? with
  | none=>simp[nM]
  | some o=>cases o<;>simp[nM]
def yI (σ:St) (dst:Option Tmp) (K:St→Prop) (off:Nat):AV→Prop
  | .ptr id r c=>nM σ.aa[id]?∧K (σ.put dst (.ptr id r (c+off)))
  | .db cells=>K (σ.put dst (.db (cells.drop off)))
  | _=>False
def vo (σ:St) (dst:Option Tmp) (K:St→Prop) (v:AV) (kind:Nat):Option (Nat × Nat × Nat)→Prop
  | some (off,_,size)=>kind=3∧0<size∧yI σ dst K off v
  | none=>False
theorem Ll (s:TypeId) (x:Operand) (f:Nat):bf P ⟨dst,.fieldAddr s x f,tt,p,af,g⟩ σ K=vo σ dst K (ev σ x) (ty P s).kind (ty P s).aL[f]?:=by
  simp only[bf,b8]
  split
  · rename_i off ft size hk hf
    rw[hk,hf]
    simp only[vo,true_and]
    cases ev σ x<;>simp only[yI]
    rename_i id r c
    cases h:σ.aa[id]? with
    | none=>simp[nM]
    | some o=>cases o<;>simp[nM]
  · rename_i dL
    cases hf:(ty P s).aL[f]? with
    | none=>simp[vo]
    | some q =>
      obtain ⟨off,ft,size⟩:=q
      simp only[vo]
      have:(ty P s).kind≠3:=fun e=>dL off ft size e hf
      simp[this]
def rm (t:Ty) (e:Ty) (σ:St) (dst:Option Tmp) (K:St→Prop):AV→AV→Prop
  | .ref id sz off len,.lit (.int _ n) =>
    t.kind=1 ∧
    match σ.aa[id]? with
    | some (.arr cJ _)=>(cJ=sz∧sz=e.size∧e.kind≠99∧0≤n∧n<len)∧K (σ.put dst (.ptr id (off+n.toNat) 0))
    | _=>False
  | .tree sz rows,.lit (.int _ n)=>t.kind=1∧(sz=e.size∧e.kind≠99∧0≤n∧n<rows.length)∧K (σ.put dst (.db (rows.getD n.toNat [])))
  | .ptr id r c,.lit (.int _ n)=>t.kind=2∧nM σ.aa[id]?∧(e.kind≠99∧0≤n∧n<t.len)∧K (σ.put dst (.ptr id r (c+n.toNat * e.size)))
  | _,_=>False
theorem Lm (t:TypeId) (x i:Operand):bf P ⟨dst,.indexAddr t x i,tt,p,af,g⟩ σ K=rm (ty P t) (ty P (ty P t).elem) σ dst K (ev σ x) (ev σ i):=by
  simp only[bf,b8]
  split
  · rename_i id sz off len k n hk hx hi
    rw[hx,hi];simp only[rm,hk,true_and]
    cases σ.aa[id]? with
    | none=>rfl
    | some o=>cases o<;>rfl
  · rename_i sz rows k n hk hx hi
    rw[hx,hi];simp only[rm,hk,true_and]
  · rename_i id r c k n hk hx hi
    rw[hx,hi];simp only[rm,hk,true_and]
    cases h:σ.aa[id]? with
    | none=>simp[nM]
    | some o=>cases o<;>simp[nM]
  · rename_i h1 h2 h3
    unfold rm
    split
    · rename_i id sz off len k n hx hi
      simp only[eq_iff_iff,false_iff]
      rintro ⟨hk,_⟩
      exact h1 id sz off len k n hk hx hi
    · rename_i sz rows k n hx hi
      simp only[eq_iff_iff,false_iff]
      rintro ⟨hk,_⟩
      exact h2 sz rows k n hk hx hi
    · rename_i id r c k n hx hi
      simp only[eq_iff_iff,false_iff]
      rintro ⟨hk,_⟩
      exact h3 id r c k n hk hx hi
    · rfl
def GJ (P:Program) (dst:Option Tmp) (args:List AV) (K:St→Prop) (σ:St):AV→Prop
  | .fn g bk=>pD P g (args++bk) dst K σ
  | _=>False
theorem Ln (f:Operand) (args:Array Operand) (fc:Array TypeId):bf P ⟨dst,.call ⟨.value f,args,fc⟩,tt,p,af,g⟩ σ K=GJ P dst (args.toList.map (ev σ)) K σ (ev σ f):=by
  simp only[bf]
  cases ev σ f<;>rfl
def GK (P:Program) (dst:Option Tmp) (args:List AV) (K:St→Prop) (σ:St) (m:String):AV→Prop
  | .gz t v=>nN P σ v (fun g x=>pD P g (x::args) dst K σ) (vp P t m)
  | _=>False
theorem Lo (r:Operand) (m:String) (args:Array Operand) (fc:Array TypeId):bf P ⟨dst,.call ⟨.invoke r m,args,fc⟩,tt,p,af,g⟩ σ K=GK P dst (args.toList.map (ev σ)) K σ m (ev σ r):=by
  simp only[bf]
  cases ev σ r<;>rfl
def GL (P:Program) (dst:Option Tmp) (args:List AV) (K:St→Prop) (σ:St):AV→Prop
  | .fn g bk=>GM P g (args++bk) dst K σ
  | _=>False
theorem Lp (f:Operand) (args:Array Operand) (fc:Array TypeId):kX true P ⟨dst,.call ⟨.value f,args,fc⟩,tt,p,af,g⟩ σ K=GL P dst (args.toList.map (ev σ)) K σ (ev σ f):=by
  simp only[kX]
  cases ev σ f<;>rfl
def sF (σ:St):List (Nat × Operand)→List (Nat × AV)
  | []=>[]
  | q::l=>(q.1,ev σ q.2)::sF σ l
def sG (σ:St):List (Nat × Operand)→Bool
  | []=>true
  | q::l=>(cellsOf (ev σ q.2)).all cm && sG σ l
theorem Lr (σ:St) (l:List (Nat × Operand)):sF σ l=l.map fun q=>(q.1,ev σ q.2):=by
  induction l with
  | nil=>rfl
  | cons q l ih=>simp only[sF,ih,List.map_cons]
theorem Ls (σ:St) (l:List (Nat × Operand)):sG σ l=l.all fun q=>(cellsOf (ev σ q.2)).all cm:=by
  induction l with
  | nil=>rfl
  | cons q l ih=>simp only[sG,ih,List.all_cons]
theorem Lt (o:Oper):kX false P o σ K=bf P o σ K:=by simp only[kX]
theorem Lu (x:Operand):bf P ⟨dst,.move x,tt,p,af,g⟩ σ K =
    (K (σ.put dst (ev σ x))):=by unfold bf b8;rfl
theorem Lv (x:Operand):bf P ⟨dst,.assign x,tt,p,af,g⟩ σ K =
    (K (σ.put dst (ev σ x))):=by unfold bf b8;rfl
theorem Lw (c a b:Operand):bf P ⟨dst,.pick c a b,tt,p,af,g⟩ σ K =
    (match ev σ c with
      | .lit (.bool t)=>K (σ.put dst (fe t (ev σ a) (ev σ b)))
      | _=>False):=by unfold bf b8;rfl
theorem Lx (e:TypeId):bf P ⟨dst,.alloc e,tt,p,af,g⟩ σ K =
    ((ty P e).kind≠99 ∧
      match (ty P e).zero with
      | some z=>K (({ σ with aa:=σ.aa++[.var (z.map .lit)] }:St).put dst (.ptr σ.aa.length 0 0))
      | none=>False):=by unfold bf b8;rfl
theorem Ly (e:TypeId) (x:Operand):bf P ⟨dst,.box e x,tt,p,af,g⟩ σ K =
    ((cellsOf (ev σ x)).all cm=true∧K (({ σ with aa:=σ.aa++[.var (cellsOf (ev σ x))] }:St).put dst (.ptr σ.aa.length 0 0))):=by unfold bf b8;rfl
theorem Lz (t:TypeId) (parts:Array (Nat × Operand)):bf P ⟨dst,.build t parts,tt,p,af,g⟩ σ K =
    (match (ty P t).kind,(ty P t).zero with
      | 3,some z =>
        match lz (fun i=>((ty P t).aL[i]?).map fun f=>(f.1,f.2.2)) (z.map .lit) (sF σ parts.toList) with
        | some cs=>(sG σ parts.toList=true∧((ty P t).aL.all fun f=>decide (0<f.2.2))=true)∧K (σ.put dst (.agg cs))
        | none=>False
      | 2,some z =>
        match lz (fun i=>some (i * (ty P (ty P t).elem).size,(ty P (ty P t).elem).size)) (z.map .lit) (sF σ parts.toList) with
        | some cs=>(sG σ parts.toList=true∧(ty P (ty P t).elem).kind≠99)∧K (σ.put dst (.agg cs))
        | none=>False
      | _,_=>False):=by rw[Lr,Ls];unfold bf b8;rfl
theorem LA (t:TypeId) (len:Nat) (parts:Array (Nat × Operand)):bf P ⟨dst,.buildSlice t len parts,tt,p,af,g⟩ σ K =
    (match (ty P t).kind,(ty P (ty P t).elem).zero with
      | 1,some z =>
        match lz (fun i=>some (i * (ty P (ty P t).elem).size,(ty P (ty P t).elem).size)) ((aT len).flatMap fun _=>z.map .lit) (sF σ parts.toList) with
        | some cs=>((ty P (ty P t).elem).kind≠99∧0<(ty P (ty P t).elem).size∧z.length=(ty P (ty P t).elem).size∧len * (ty P (ty P t).elem).size≤16777216∧sG σ parts.toList=true) ∧
            K (({ σ with aa:=σ.aa++[.arr (ty P (ty P t).elem).size (lA (ty P (ty P t).elem).size len cs)] }:St).put dst (.ref σ.aa.length (ty P (ty P t).elem).size 0 len))
        | none=>False
      | _,_=>False):=by rw[Lr,Ls];unfold bf b8;rfl
theorem LB (t:TypeId) (a:Operand):bf P ⟨dst,.load t a,tt,p,af,g⟩ σ K =
    ((ty P t).kind≠99 ∧
      match ev σ a with
      | .ptr id r c =>
        match rowOf σ id r with
        | some row=>lB (ty P t) row c fun v=>K (σ.put dst v)
        | none=>False
      | .db cells=>lB (ty P t) cells 0 fun v=>K (σ.put dst v)
      | _=>False):=by unfold bf b8;rfl
theorem LC (t:TypeId) (a x:Operand):bf P ⟨dst,.store t a x,tt,p,af,g⟩ σ K =
    ((ty P t).kind≠99 ∧
      match ev σ a with
      | .ptr id r c =>
        match rowOf σ id r with
        | some row=>((cellsOf (ev σ x)).length=(ty P t).size∧c+(ty P t).size≤row.length∧(cellsOf (ev σ x)).all cm=true)∧K ((mZ σ id r (setCells row c (cellsOf (ev σ x)))).put dst .undef)
        | none=>False
      | _=>False):=by unfold bf b8;rfl
theorem LD (op:BinOp) (t:TypeId) (x y:Operand) (yt:TypeId):bf P ⟨dst,.binOp op t x y yt,tt,p,af,g⟩ σ K =
    (match ev σ x,ev σ y with
      | .lit (.int k a),.lit (.int k' b)=>k=k'∧fS op k a b fun v=>K (σ.put dst (.lit v))
      | .lit (.bool a),.lit (.bool b) =>
        (ty P t).kind=6 ∧
        match op with
        | .eql=>K (σ.put dst (.lit (.bool (a == b))))
        | .neq=>K (σ.put dst (.lit (.bool (a != b))))
        | _=>False
      | .tree _ rows,.lit (.slice none 0 0) =>
        ((ty P t).kind=1∧0<rows.length) ∧
        match op with
        | .eql=>K (σ.put dst (.lit (.bool false)))
        | .neq=>K (σ.put dst (.lit (.bool true)))
        | _=>False
      | .lit (.slice a _ _),.lit (.slice none 0 0) =>
        (ty P t).kind=1 ∧
        match op with
        | .eql=>K (σ.put dst (.lit (.bool a.isNone)))
        | .neq=>K (σ.put dst (.lit (.bool (!a.isNone))))
        | _=>False
      | .agg cs,.agg ds =>
        match jy cs,jy ds with
        | some as,some bs =>
          (oQ P t as.length∧bs.length=as.length∧P.eqGuardType P.depth t=false) ∧
          match op with
          | .eql=>K (σ.put dst (.lit (.bool (decide (as=bs)))))
          | .neq=>K (σ.put dst (.lit (.bool (!decide (as=bs)))))
          | _=>False
        | _,_=>False
      | _,_=>False):=by unfold bf b8;rfl
theorem LF (op:UnOp) (t:TypeId) (x:Operand):bf P ⟨dst,.unOp op t x,tt,p,af,g⟩ σ K =
    (match op,ev σ x with
      | .not,.lit (.bool b)=>K (σ.put dst (.lit (.bool !b)))
      | .neg,.lit (.int k a)=>(k.min≤-a∧-a≤k.max)∧K (σ.put dst (.lit (.int k (-a))))
      | _,_=>False):=by unfold bf b8;rfl
theorem LH (fn:Fn) (first captured:Array Operand):bf P ⟨dst,.makeFunc fn first captured,tt,p,af,g⟩ σ K =
    (match fn with
      | .func f=>first.size=0∧K (σ.put dst (.fn f (captured.toList.map (ev σ))))
      | _=>False):=by unfold bf b8;rfl
theorem LI (t:TypeId) (l c:Operand):bf P ⟨dst,.makeSlice t l c,tt,p,af,g⟩ σ K =
    (match (ty P t).kind,(ty P (ty P t).elem).zero,ev σ l,ev σ c with
      | 1,some z,.lit (.int k n),.lit (.int k' n') =>
        ((ty P (ty P t).elem).kind≠99∧0<(ty P (ty P t).elem).size∧z.length=(ty P (ty P t).elem).size∧n'=n∧0≤n∧n≤1099511627776∧(ty P (ty P t).elem).bytes≤128∧k=k) ∧
          K (({ σ with aa:=σ.aa++[.arr (ty P (ty P t).elem).size (bq n.toNat (z.map .lit))] }:St).put dst (.ref σ.aa.length (ty P (ty P t).elem).size 0 n.toNat))∧k'=k'
      | _,_,_,_=>False):=by unfold bf b8;rfl
theorem LJ (t:TypeId) (x:Operand) (lo hi mx:Option Operand):bf P ⟨dst,.slice t x lo hi mx,tt,p,af,g⟩ σ K =
    ((ty P t).kind=1∧(ty P (ty P t).elem).kind≠99∧mx=none ∧
      match ev σ x with
      | .ref id sz off len =>
        match σ.aa[id]? with
        | some (.arr cJ rows) =>
          cJ=sz∧sz=(ty P (ty P t).elem).size ∧
          match lo.map (ev σ),hi.map (ev σ) with
          | none,none=>K (σ.put dst (.ref id sz off len))
          | some (.lit (.int _ l)),none=>(0≤l∧l≤len∧rows.length=rows.length)∧K (σ.put dst (.ref id sz (off+l.toNat) (len - l.toNat)))
          | none,some (.lit (.int _ h))=>(0≤h∧h≤len)∧K (σ.put dst (.ref id sz off h.toNat))
          | some (.lit (.int _ l)),some (.lit (.int _ h))=>(0≤l∧l≤h∧h≤len)∧K (σ.put dst (.ref id sz (off+l.toNat) (h.toNat - l.toNat)))
          | _,_=>False
        | _=>False
      | .tree sz rows =>
          (rows≠[]→sz=(ty P (ty P t).elem).size) ∧
          match lo.map (ev σ),hi.map (ev σ) with
          | none,none=>K (σ.put dst (.tree sz rows))
          | some (.lit (.int _ l)),none=>(0≤l∧l≤rows.length)∧K (σ.put dst (.tree sz (rows.drop l.toNat)))
          | none,some (.lit (.int _ h))=>(0≤h∧h≤rows.length)∧K (σ.put dst (.tree sz (rows.take h.toNat)))
          | some (.lit (.int _ l)),some (.lit (.int _ h))=>(0≤l∧l≤h∧h≤rows.length)∧K (σ.put dst (.tree sz ((rows.take h.toNat).drop l.toNat)))
          | _,_=>False
      | _=>False):=by unfold bf b8;rfl
theorem LK (s:TypeId) (x:Operand) (f:Nat):bf P ⟨dst,.field s x f,tt,p,af,g⟩ σ K =
    (match (ty P s).kind,(ty P s).aL[f]? with
      | 3,some (off,t,size) =>
        (ty P t).kind≠99∧size=(ty P t).size ∧
        match ev σ x with
        | .agg cs=>if (ty P t).isAgg then off+size≤cs.length∧K (σ.put dst (.agg ((cs.drop off).take size))) else
            match cs[off]? with
            | some v=>K (σ.put dst v)
            | none=>False
        | _=>False
      | _,_=>False):=by unfold bf b8;rfl
theorem LL (t:TypeId) (r:Option Operand):bf P ⟨dst,.makeMap t r,tt,p,af,g⟩ σ K =
    ((r=none∧(ty P t).kind=8)∧K (({ σ with aa:=σ.aa++[.mp (yJ P t) []] }:St).put dst (.gl σ.aa.length))):=by unfold bf b8;rfl
theorem LM (t:TypeId) (x i:Operand) (ok:Bool):bf P ⟨dst,.lookup t x i ok,tt,p,af,g⟩ σ K =
    (match keyOf (ev σ i),kY σ (ev σ x),zeroV P (ty P t).elem with
      | some (ag,l),some (_,hJ,L),some z=>(j7 P t ag∧hJ=ag∧l.length=jz ag∧(ty P t).kind=8∧ok=false)∧K (σ.put dst ((m0 l L).getD (.lit z)))
      | _,_,_=>False):=by unfold bf b8;rfl
theorem LN (t:TypeId) (m k x:Operand):bf P ⟨dst,.mapUpdate t m k x,tt,p,af,g⟩ σ K =
    (match keyOf (ev σ k),kY σ (ev σ m) with
      | some (ag,l),some (id,hJ,L)=>(j7 P t ag∧hJ=ag∧l.length=jz ag)∧K (({ σ with aa:=σ.aa.set id (.mp ag (fh l (ev σ x) L)) }:St).put dst .undef)
      | _,_=>False):=by unfold bf b8;rfl
theorem LP (t:TypeId) (m k:Operand):bf P ⟨dst,.mapEntry t m k,tt,p,af,g⟩ σ K =
    (match keyOf (ev σ k),kY σ (ev σ m),zeroV P (ty P t).elem with
      | some (ag,l),some (id,hJ,L),some z=>(j7 P t ag∧hJ=ag∧l.length=jz ag∧(ty P t).kind=8) ∧
        K (({ σ with aa:=σ.aa.set id (.mp ag (fh l ((m0 l L).getD (.lit z)) L)) }:St).put dst (.bL [(m0 l L).getD (.lit z),.lit (.int .i64 (yK l L:Nat))]))
      | _,_,_=>False):=by unfold bf b8;rfl
theorem LQ (t:TypeId) (m s x:Operand):bf P ⟨dst,.entryStore t m s x,tt,p,af,g⟩ σ K =
    (match ev σ s,kY σ (ev σ m) with
      | .lit (.int .i64 n),some (id,ag,L)=>(0≤n∧n<L.length)∧K (({ σ with aa:=σ.aa.set id (.mp ag (oR n.toNat (ev σ x) L)) }:St).put dst .undef)
      | _,_=>False):=by unfold bf b8;rfl
theorem LR (t:TypeId) (x i:Operand):bf P ⟨dst,.index t x i,tt,p,af,g⟩ σ K =
    (match ev σ x,ev σ i with
      | .lit (.string s),.lit (.int _ n)=>(P.underlying t=some .string∧0≤n∧n<s.size)∧K (σ.put dst (.lit (.int .u8 (GN s n.toNat))))
      | _,_=>False):=by unfold bf b8;rfl
theorem LS (t:TypeId) (x:Operand):bf P ⟨dst,.makeInterface t x,tt,p,af,g⟩ σ K =
    (tW P t=false∧K (σ.put dst (.gz t (ev σ x)))):=by unfold bf b8;rfl
theorem LU (x:Operand) (xt asserted:TypeId) (ok:Bool):bf P ⟨dst,.typeAssert x xt asserted ok,tt,p,af,g⟩ σ K =
    (match ev σ x with
      | .gz t v=>(tW P asserted=false∧t=asserted∧ok=false)∧K (σ.put dst v)
      | _=>False):=by unfold bf b8;rfl
theorem LV (x:Operand) (i:Nat):bf P ⟨dst,.extract x i,tt,p,af,g⟩ σ K =
    (match ev σ x with
      | .bL vs =>
        match vs[i]? with
        | some v=>K (σ.put dst v)
        | none=>False
      | _=>False):=by unfold bf b8;rfl
theorem LW (args:Array Operand) (argTypes:Array TypeId):bf P ⟨dst,.call ⟨.builtin .len,args,argTypes⟩,tt,p,af,g⟩ σ K =
    (match args.toList,argTypes.toList with
      | [x],[t] =>
        match ev σ x with
        | .ref id sz _ len =>
          (ty P t).kind=1 ∧
          match σ.aa[id]? with
          | some (.arr cJ _)=>cJ=sz∧K (σ.put dst (.lit (.int .i64 len)))
          | _=>False
        | .tree _ rows=>(ty P t).kind=1∧K (σ.put dst (.lit (.int .i64 rows.length)))
        | .lit (.slice none 0 0)=>(ty P t).kind=1∧K (σ.put dst (.lit (.int .i64 0)))
        | .gl id =>
          (ty P t).kind=8 ∧
          match σ.aa[id]? with
          | some (.mp _ L)=>K (σ.put dst (.lit (.int .i64 L.length)))
          | _=>False
        | _=>False
      | _,_=>False):=by unfold bf b8;rfl
theorem LX (args:Array Operand) (argTypes:Array TypeId):bf P ⟨dst,.call ⟨.builtin .append,args,argTypes⟩,tt,p,af,g⟩ σ K =
    (match args.toList,argTypes.toList with
      | [s,x],[t,t'] =>
        match (ty P t).kind,(ty P (ty P t).elem).zero,pE σ (ty P (ty P t).elem).size (ev σ s),m4 σ (ev σ x) with
        | 1,some z,some (pre,σ1),some (sz,src) =>
          (t'=t∧(ty P (ty P t).elem).kind≠99∧sz=(ty P (ty P t).elem).size∧0<sz∧z.length=sz∧pre.length+src.length≤549755813888∧(ty P (ty P t).elem).bytes≤128∧(src.all fun row=>row.all cm)=true) ∧
            K (({ σ1 with aa:=σ1.aa++[.arr sz (pre++src)] }:St).put dst (.ref σ1.aa.length sz 0 (pre.length+src.length)))
        | _,_,_,_=>False
      | _,_=>False):=by unfold bf b8;rfl
theorem LY (args:Array Operand) (argTypes:Array TypeId):bf P ⟨dst,.call ⟨.builtin .min,args,argTypes⟩,tt,p,af,g⟩ σ K =
    (match args.toList with
      | [x,y] =>
        match ev σ x,ev σ y with
        | .lit (.int k a),.lit (.int k' b)=>k=k'∧K (σ.put dst (.lit (.int k (min a b))))
        | _,_=>False
      | _=>False):=by unfold bf b8;rfl
theorem LZ (args:Array Operand) (argTypes:Array TypeId):bf P ⟨dst,.call ⟨.builtin .max,args,argTypes⟩,tt,p,af,g⟩ σ K =
    (match args.toList with
      | [x,y] =>
        match ev σ x,ev σ y with
        | .lit (.int k a),.lit (.int k' b)=>k=k'∧K (σ.put dst (.lit (.int k (max a b))))
        | _,_=>False
      | _=>False):=by unfold bf b8;rfl
theorem L1 (args:Array Operand) (argTypes:Array TypeId):bf P ⟨dst,.call ⟨.builtin .copy,args,argTypes⟩,tt,p,af,g⟩ σ K =
    (match args.toList,argTypes.toList with
      | [s,x],[t,_] =>
        match ev σ s,m4 σ (ev σ x) with
        | .ref id sz off len,some (cJ,src) =>
          match σ.aa[id]? with
          | some (.arr j8 rows) =>
            ((ty P t).kind=1∧(ty P (ty P t).elem).kind≠99∧cJ=sz∧j8=sz∧sz=(ty P (ty P t).elem).size∧0<sz∧(src.all fun row=>row.all cm)=true) ∧
              K (({ σ with aa:=σ.aa.set id (.arr sz (rows.take off++src.take (min src.length len)++rows.drop (off+min src.length len))) }:St).put dst (.lit (.int .i64 (min src.length len:Nat))))
          | _=>False
        | _,_=>False
      | _,_=>False):=by unfold bf b8;rfl
theorem L3 (args:Array Operand) (argTypes:Array TypeId):bf P ⟨dst,.call ⟨.builtin .clear,args,argTypes⟩,tt,p,af,g⟩ σ K =
    (match args.toList,argTypes.toList with
      | [s],[t] =>
        match ev σ s,(ty P (ty P t).elem).zero with
        | .ref id sz off len,some z =>
          match σ.aa[id]? with
          | some (.arr cJ rows) =>
            ((ty P t).kind=1∧(ty P (ty P t).elem).kind≠99∧cJ=sz∧z.length=sz∧0<sz∧(z.all fun u=>u.oneCell')=true) ∧
              K (({ σ with aa:=σ.aa.set id (.arr sz (rows.take off++bq len (z.map AV.lit)++rows.drop (off+len))) }:St).put dst (.lit (.tuple #[])))
          | _=>False
        | _,_=>False
      | _,_=>False):=by unfold bf b8;rfl
theorem L4 (s d:TypeId) (x:Operand):bf P ⟨dst,.convert s d x,tt,p,af,g⟩ σ K =
    (match P.underlying d,ev σ x with
      | some (.int k),.lit (.int _ n)=>(P.underlying s).isSome=true∧K (σ.put dst (.lit (.int k (k.wrap n))))
      | _,_=>False):=by unfold bf b8;rfl
end Go.Am
namespace Go.Am
variable {P:Program} {N n0:Nat} {σ:St} {Q:Exit→St→Prop}
theorem eA (aj:List Nat) (snap:Bool) {v res:AV} {ba:List Ob} (bR:aj.Nodup) (ho:nQ (bd σ.aa.length aj) σ.aa aj ba) (hn:n0≤aj.length) (cN:∀ i,i<n0→aj.getD i 0=i)
    (h:aN σ (kept aj ba) (bd σ.aa.length aj) snap res v):m5 n0 σ v res ba:=by
  obtain ⟨h1,h2,h3⟩:=ho.spec
  exact⟨aj,snap,bR,h1,h2,h3,hn,cN,h⟩
theorem gR {e:Nat→AV} {os:List Ob} {v res:AV} {ba:List Ob} (ho:os=ba) (hn:n0≤ba.length) (h:v=res):m5 n0 ⟨e,os⟩ v res ba:=by
  subst ho;subst h
  let σ:St:=⟨e,os⟩
  show m5 n0 σ v v σ.aa
  have hn:n0≤σ.aa.length:=hn
  refine⟨aT σ.aa.length,false,List.nodup_range,by simp,fun j o hj=>.inr ?_,by simp,by simpa using hn,fun i hi=>?_,?_⟩
  · have bj:=(aS.1 hj).1
    rw[vq,AG]
    simpa [ay,j3 bj] using hj
  · have:i<σ.aa.length:=by omega
    simp[ay,j3 this]
  · exact .eq (by rw[vq,vr])
end Go.Am
namespace Go.Am
variable {P:Program} {N n0:Nat} {σ:St} {Q:Exit→St→Prop}
theorem hU {aj:List Nat} {co:List Ob} {id:Nat} (h:id ∉ aj):¬ kept aj co id:=by
  rintro ⟨j,hj,he,_⟩
  apply h
  rw[← he,ay,bI hj]
  exact List.getElem_mem hj
def tX (ρ:Nat→Nat) (os:List Ob):List Nat→List Ob→Prop
  | [],[]=>True
  | i::aj,o::co=>os[i]?=some (bC ρ o)∧tX ρ os aj co
  | _,_=>False
theorem tX.spec {ρ:Nat→Nat} {os:List Ob}:∀ {aj:List Nat} {co:List Ob},tX ρ os aj co→co.length=aj.length∧∀ (j:Nat) o,co[j]?=some o→os[aj.getD j 0]?=some (bC ρ o)
  | [],[],_=>⟨rfl,by simp⟩
  | i::aj,o::co,h=>by
    obtain ⟨h1,h3⟩:=h
    obtain ⟨a,b⟩:=tX.spec h3
    refine⟨by simp[a],fun j o' hj=>?_⟩
    cases j with
    | zero=>simp at hj;subst hj;simpa using h1
    | succ j=>simpa using b j o' (by simpa using hj)
def fD (R:AV→AV→Prop):List AV→List AV→Prop
  | [],[]=>True
  | c::cs,d::ds=>R c d∧fD R cs ds
  | _,_=>False
theorem fD.spec {R:AV→AV→Prop}:∀ {cs ds:List AV},fD R cs ds→cs.length=ds.length∧∀ (j:Nat) c d,cs[j]?=some c→ds[j]?=some d→R c d
  | [],[],_=>⟨rfl,by simp⟩
  | c::cs,d::ds,h=>by
    obtain ⟨a,b⟩:=fD.spec h.2
    refine⟨by simp[a],fun j c' d' hc hd=>?_⟩
    cases j with
    | zero=>simp at hc hd;subst hc;subst hd;exact h.1
    | succ j=>exact b j c' d' (by simpa using hc) (by simpa using hd)
theorem aN.oS {kp:Nat→Prop} {ρ:Nat→Nat} {snap:Bool} {a b c d:AV} (h:aN σ kp ρ snap a c) (k:aN σ kp ρ snap b d):aN σ kp ρ snap (.bL [a,b]) (.bL [c,d]) :=
  .bL _ _ rfl (fD.spec (R:=aN σ kp ρ snap) (cs:=[a,b]) (ds:=[c,d]) ⟨h,k,trivial⟩).2
theorem ic (aj:List Nat) {f:FuncId} {args cW:List AV} {bM:List Ob} {dst:Option Tmp} {K:St→Prop} {res:AV} {cz:List Ob} (h:ao P f cW bM res cz) (bR:aj.Nodup)
    (ho:tX (bd σ.aa.length aj) σ.aa aj bM) (ha:fD (aN σ (·∈aj) (bd σ.aa.length aj) false) cW args)
    (hK:K (({ σ with aa:=dM σ.aa aj (cz.map (bC (bd σ.aa.length aj))) }:St).put dst (aX (bd σ.aa.length aj) res))):pD P f args dst K σ:=by
  obtain ⟨h1,h2⟩:=ho.spec
  obtain ⟨h3,h4⟩:=ha.spec
  exact⟨aj,false,cW,bM,res,cz,h,⟨bR,h1,h2,h3,h4,by simp⟩,hK⟩
theorem nR (aj:List Nat) {f:FuncId} {args cW:List AV} {bM:List Ob} {dst:Option Tmp} {K:St→Prop} {res:AV} {cz:List Ob} (h:ao P f cW bM res cz) (bR:aj.Nodup)
    (ho:tX (bd σ.aa.length aj) σ.aa aj bM) (ha:fD (aN σ (·∈aj) (bd σ.aa.length aj) true) cW args) (hf:flat res=true) (wM:∀ o∈cz,tY o)
    (hK:K (({ σ with aa:=dM σ.aa aj (cz.map (bC (bd σ.aa.length aj))) }:St).put dst (aX (bd σ.aa.length aj) res))):pD P f args dst K σ:=by
  obtain ⟨h1,h2⟩:=ho.spec
  obtain ⟨h3,h4⟩:=ha.spec
  exact⟨aj,true,cW,bM,res,cz,h,⟨bR,h1,h2,h3,h4,fun _=>⟨hf,wM⟩⟩,hK⟩
theorem L5 {ρ:Nat→Nat} (cs:List AV):bC ρ (.var cs)=.var (cs.map (aX ρ)):=by simp only[bC]
theorem L6 {ρ:Nat→Nat}:bC ρ .gone=.gone:=by simp only[bC]
theorem L7:aT 1=[0]:=by decide
theorem L8:aT 2=[0,1]:=by decide
theorem L9:aT 3=[0,1,2]:=by decide
theorem Ma (xs:List Int):(ints xs).take xs.length=ints xs:=by rw[dC (by simp[ints])]
theorem Mb (xs:List Bool):(bg xs).take xs.length=bg xs:=by rw[dC (by simp[bg])]
theorem Mc (xs:List (List Int)):(j9 xs).take xs.length=j9 xs:=by rw[dC (by simp[j9])]
theorem vt {y:Code} {Q0 Q1:Exit→St→Prop} {G:Prop} (S0:St) (hn:∀ s,W P N n0 y Q0 s→Q1 .normal s) (hm:W P N n0 y Q0 S0) (h:(∀ s,aA n0 s S0→Q1 .normal s)→G):G :=
  h fun s ht=>hn s (cA ht hm)
end Go.Am
namespace Go.Am
variable {P:Program} {N n0:Nat} {σ:St} {Q:Exit→St→Prop}
def Md (P:Program) (ops:Array Oper) (Q:Exit→Act→World→Prop) (js:List Nat):Exit→Act→World→Prop
  | .normal,a,w=>wpOps P ops Q js a w
  | e,a,w=>Q e a w
theorem Oper.XS {o:Oper} {a:Act} {w:World} {K:Act→World→Prop} {Q Q':Exit→Act→World→Prop} (hq:∀ e a w,e≠.normal→Q e a w→Q' e a w) (hl:LetsOut Q→LetsOut Q')
    (hh:o.wp P a w K Q):o.wp P a w K Q':=by
  unfold Oper.wp at *
  generalize (execOp a.eval o).run P w=r at *
  cases r with
  | ok n w' =>
    cases n<;>simp only[Oper.upon] at hh⊢<;>
      first
        | exact hh
        | exact Calls.mono hh (fun e w'' he=>by
            cases e with
            | returned v=>exact he
            | panicked c=>exact hq _ _ _ (by simp) he
            | outgrown=>exact hl he)
  | halt x w'=>cases x<;>simp only[Oper.upon] at hh ⊢<;>first|exact hh|exact hq _ _ _ (by simp) hh
theorem wN {ops:Array Oper} {Q:Exit→Act→World→Prop} {js:List Nat}:∀ (is:List Nat) (a:Act) (w:World),wpOps P ops (Md P ops Q js) is a w→wpOps P ops Q (is++js) a w
  | [],a,w,h=>h
  | i::is,a,w,h=>by
    rw[List.cons_append,wpOps_cons]
    rw[wpOps_cons] at h
    have hl:LetsOut (Md P ops Q js)→LetsOut Q:=fun h=>h
    unfold wpOp at h ⊢
    cases ho:ops[i]? with
    | none=>simp only[ho] at h ⊢;exact wN is a w h
    | some o =>
      simp only[ho] at h ⊢
      by_cases hw:Region.wanted o (yielded ops a.tmps)=true
      · rw[if_pos hw] at h ⊢
        rcases h with h | ⟨h1,h2⟩
        · left
          exact Oper.XS (fun e a w he hq=>by cases e<;>first|exact absurd rfl he|exact hq) hl (Oper.wp_mono (fun a w=>wN is a w) h)
        · exact .inr ⟨h1,hl h2⟩
      · rw[if_neg hw] at h ⊢
        exact wN is _ w h
theorem rn {N:Nat} {os:List Ob} {γ0:Cx} {ops:Array Oper} (hd:∀ o∈ops.toList,∀ d,o.dst=some d→d<N) {K:St→Prop} {Q:Exit→Act→World→Prop}
    (hQ:∀ σ' a' w',K σ'→gA N os γ0 σ' a' w'→Q .normal a' w'):∀ (l:List Oper) (i:Nat) (σ:St) (a:Act) (w:World),(∀ k,k<l.length→ops[i+k]?=l[k]?)→opsL P ops l K σ→gA N os γ0 σ a w →
      wpOps P ops Q (mz i l.length) a w
  | [],i,σ,a,w,_,h,aQ=>by simpa [wpOps] using hQ _ _ _ h aQ
  | o::r,i,σ,a,w,hl,h,aQ=>by
    have hi:ops[i]?=some o:=by simpa using hl 0 (by simp)
    have hr:∀ k,k<r.length→ops[i+1+k]?=r[k]?:=fun k hk=>by
      have:=hl (k+1) (by simpa using hk)
      rw[show i+1+k=i+(k+1) by omega,this];simp
    have cp:o∈ops.toList:=List.mem_of_getElem? (by simpa using hi)
    rw[List.length_cons,List.range'_succ,wpOps_cons]
    unfold wpOp
    simp only[hi]
    unfold opsL at h
    cases hg:o.guard with
    | none =>
      simp only[hg] at h
      have hw:Region.wanted o (yielded ops a.tmps)=true:=by simp[Region.wanted,hg]
      rw[if_pos hw]
      left
      exact wO h aQ (hd o cp) (fun σ' a' w' hK eU=>rn hd hQ r (i+1) σ' a' w' hr hK eU)
    | some jw =>
      obtain ⟨j,want⟩:=jw
      simp only[hg] at h
      cases ep:(ops[j]?).bind (·.dst) with
      | none=>simp[ep] at h
      | some d =>
        simp only[ep] at h
        split at h
        · rename_i b he
          obtain ⟨ig,aW,γ,rfl,ha,hs,hf⟩:=aQ
          have jd:=hs.av d
          rw[he,ha] at jd
          have hv:=jd.cH
          have hy:yielded ops a.tmps j=some b:=by
            unfold yielded
            rw[ep]
            have:a.tmps[d]?=some (.bool b):=by
              rw[eQ] at hv
              cases hx:a.tmps[d]? with
              | none=>rw[hx] at hv;simp[Go.undef] at hv
              | some y=>rw[hx] at hv;simp at hv;rw[hv]
            simp[this]
          by_cases gY:b=want
          · have hw:Region.wanted o (yielded ops a.tmps)=true:=by simp[Region.wanted,hg,hy,gY]
            rw[if_pos hw]
            left
            exact wO (h.1 gY) ⟨ig,aW,γ,rfl,ha,hs,hf⟩ (hd o cp) (fun σ' a' w' hK eU=>rn hd hQ r (i+1) σ' a' w' hr hK eU)
          · have hw:Region.wanted o (yielded ops a.tmps)=false:=by simp[Region.wanted,hg,hy,gY]
            rw[if_neg (by rw[hw];simp)]
            refine rn hd hQ r (i+1) _ _ _ hr (h.2 gY) ⟨by rw[put_defers];exact ig,by rw[sH];exact aW,{ γ with tmps:=(a.put o.dst Go.undef).tmps },rfl,rfl,qg hs ha (fun d h=>by rw[aW];exact hd o cp d h) (.lit _),?_⟩
            rw[qh];exact hf.put _
        · rename_i vs he
          obtain ⟨ig,aW,γ,rfl,ha,hs,hf⟩:=aQ
          have jd:=hs.av d
          rw[he,ha] at jd
          have hv:=jd.cH
          have hy:yielded ops a.tmps j=none:=by
            unfold yielded
            rw[ep]
            rw[eQ] at hv
            cases hx:a.tmps[d]? with
            | none=>simp[hx]
            | some y=>rw[hx] at hv;simp at hv;subst hv;simp[hx]
          have hw:Region.wanted o (yielded ops a.tmps)=false:=by simp[Region.wanted,hg,hy]
          rw[if_neg (by rw[hw];simp)]
          refine rn hd hQ r (i+1) _ _ _ hr h.2 ⟨by rw[put_defers];exact ig,by rw[sH];exact aW,{ γ with tmps:=(a.put o.dst Go.undef).tmps },rfl,rfl,qg hs ha (fun d h=>by rw[aW];exact hd o cp d h) (.lit _),?_⟩
          rw[qh];exact hf.put _
        · exact h.elim
theorem XT {os:List Ob} {γ0:Cx} {ops:Array Oper} (hd:∀ o∈ops.toList,∀ d,o.dst=some d→d<N) {K K1:St→Prop} {Q:Exit→Act→World→Prop} (hn:os.length=n0)
    (hQ:∀ σ' a' w',K σ'→gA N os γ0 σ' a' w'→Q .normal a' w') (n:Nat) (hK:∀ s,K1 s→∃ s1,aA n0 s s1∧opsL P ops (ops.toList.drop n) K s1) (σ:St) (a:Act) (w:World)
    (h:opsL P ops (ops.toList.take n) K1 σ) (aQ:gA N os γ0 σ a w):wpOps P ops Q (aT ops.size) a w:=by
  have e:aT ops.size=mz 0 (ops.toList.take n).length++mz (ops.toList.take n).length (ops.toList.drop n).length:=by
    rw[List.range_eq_range']
    have:=List.range'_append (s:=0) (m:=(ops.toList.take n).length) (n:=(ops.toList.drop n).length) (step:=1)
    simp only[Nat.zero_add,Nat.one_mul] at this
    rw[this]
    congr 1
    rw[← List.length_append,List.take_append_drop];simp
  rw[e]
  refine wN _ a w ?_
  refine rn hd (K:=K1) (fun σ' a' w' hk eU=>?_) (ops.toList.take n) 0 σ a w (fun k hk=>?_) h aQ
  · obtain ⟨s1,ht,ho⟩:=hK σ' hk
    obtain ⟨h1,h2,γ,rfl,h3,h4,h5⟩:=eU
    obtain ⟨aB,e1,e2,e3,e4⟩:=ht os γ0 γ hn h4 h5
    refine rn hd hQ (ops.toList.drop n) _ s1 a' γ.w (fun k hk=>?_) ho ⟨h1,h2,aB,e1,e2.trans h3,e3,e4⟩
    rw[List.getElem?_drop]
    simp only[List.length_drop,sr] at hk
    rw[ez,sr,Nat.min_eq_left (by omega)]
    simp
  · simp only[ez,sr] at hk
    rw[List.getElem?_take_of_lt (by omega)]
    simp
end Go.Am
namespace Go.Am
variable {σ:St}
def iF (R:AV→AV→Prop):List (List AV)→List (List AV)→Prop
  | [],[]=>True
  | c::cs,d::ds=>fD R c d∧iF R cs ds
  | _,_=>False
theorem iF.spec {R:AV→AV→Prop}:∀ {cs ds:List (List AV)},iF R cs ds→cs.length=ds.length∧∀ (r c:Nat) v,cellAt cs r c=some v→cellAt ds r c=some ((cellAt ds r c).getD .undef)∧R v ((cellAt ds r c).getD .undef)
  | [],[],_=>⟨rfl,by simp[cellAt]⟩
  | c::cs,d::ds,h=>by
    obtain ⟨a,b⟩:=iF.spec h.2
    refine⟨by simp[a],fun r j v hv=>?_⟩
    cases r with
    | zero =>
      simp only[cellAt,List.getElem?_cons_zero,Option.bind_some] at hv ⊢
      obtain ⟨e1,e2⟩:=h.1.spec
      have hj:j<d.length:=by rw[← e1];exact (aS.1 hv).1
      rw[bI hj]
      exact⟨rfl,e2 j v _ hv (bI hj)⟩
    | succ r =>
      have:=b r j v (by simpa [cellAt] using hv)
      simpa [cellAt] using this
theorem bV.mk {kp:Nat→Prop} {id sz len:Nat} {rows fT:List (List AV)} (ho:σ.aa[id]?=some (.arr sz rows)) (hl:len=rows.length) (qj:¬ kp id) (hw:∀ row∈fT,row.length=sz) (h:iF (bV σ kp) fT rows):bV σ kp (.tree sz fT) (.ref id sz 0 len):=by
  obtain ⟨a,b⟩:=h.spec
  subst hl
  refine .ref id sz 0 rows.length rows fT (fun r c=>(cellAt rows r c).getD .undef) ho qj (by simp[a]) hw (fun r c v hv=>?_) (fun r c v hv=>?_)
  · simpa using (b r c v hv).1
  · exact (b r c v hv).2
end Go.Am

