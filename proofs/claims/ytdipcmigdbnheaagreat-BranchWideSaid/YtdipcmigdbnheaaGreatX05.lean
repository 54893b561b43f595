import Derived.Test.YtdipcmigdbnheaaGreatX04
set_option linter.unusedVariables false
set_option linter.unusedSimpArgs false
set_option linter.unnecessarySimpa false
set_option linter.unusedSectionVars false
set_option maxHeartbeats 64000000
set_option maxRecDepth 20000
open List renaming map_cons→du,all_cons→DW,range→bn,replicate→aW,getElem?_eq_some_iff→aY,getD_eq_getElem?_getD→ay,getElem?_range→jT,getElem?_eq_getElem→bm,take_of_length_le→dN,cons_append→fB,range'→lU,length_cons→dI,length_append→bU,length_take→eX,getElem?_cons_zero→uK,contains_cons→G0,contains_nil→LP,getD_cons_zero→fT,getD_cons_succ→ep,getD_nil→DY,size_toArray→By,map_nil→lV,nil_append→fU,append_nil→oe,getElem?_cons_succ→uL,getElem?_toArray→G1,length_nil→pj,drop_zero→zE,take_zero→lW,set_cons_zero→mY,set_cons_succ→tj,flatMap_cons→pV,length_set→bF,length_replicate→mo
open Array renaming getD_eq_getD_getElem?→eY,length_toList→th
open Nat renaming zero_add→eK,one_mul→tg,add_zero→gU,zero_mul→Bz
open Option renaming bind_some→xJ,map_some→eC
open Bool renaming or_self→LQ,or_false→zD,false_or→lA,or_true→vV,true_or→rU,false_eq_true→iJ,and_true→DZ,true_and→gV,not_true→hU,not_false→kl,not_eq_true'→jh,or_eq_true→jE,and_eq_true→a7
open Int renaming toNat_natCast→dg,ofNat_inj→LR
namespace Go.Am
variable {P:Program} {dst:Option Tmp} {tt:TypeId} {p:String} {af:Array Edge} {g:Option (Nat × Bool)} {σ:St} {K:St→Prop}
def ou:Option Ob→Prop
  | some (.var _)=>True
  | some (.arr _ _)=>True
  | some (.mp _ _)=>True
  | _=>False
theorem Mf (a:Nat) (L:List (List Int × AV)):ou (some (.mp a L))=True:=by simp only[ou]
theorem Mg (c:List AV):ou (some (.var c))=True:=by simp only[ou]
theorem Mh (s:Nat) (c:List (List AV)):ou (some (.arr s c))=True:=by simp only[ou]
def zP (σ:St) (dst:Option Tmp) (K:St→Prop):AV→Prop
  | .ptr id r c=>ou σ.aa[id]?∧K (σ.put dst (.ptr id r c))
  | .dz cells=>K (σ.put dst (.dz cells))
  | _=>False
theorem Mi (x:Operand):bb P ⟨dst,.nilCheck x,tt,p,af,g⟩ σ K=zP σ dst K (ev σ x):=by
  simp only[bb,cg]
  cases ev σ x<;>simp only[zP]
  rename_i id r c
  cases h:σ.aa[id]? with
  | none=>simp[ou]
  | some o=>cases o<;>simp[ou]
def zQ (σ:St) (dst:Option Tmp) (K:St→Prop) (off:Nat):AV→Prop
  | .ptr id r c=>ou σ.aa[id]?∧K (σ.put dst (.ptr id r (c+off)))
  | .dz cells=>K (σ.put dst (.dz (cells.drop off)))
  | _=>False
def v5 (σ:St) (dst:Option Tmp) (K:St→Prop) (v:AV) (kind:Nat):Option (Nat × Nat × Nat)→Prop
  | some (off,_,size)=>kind=3∧0<size∧zQ σ dst K off v
  | none=>False
theorem Mj (s:TypeId) (x:Operand) (f:Nat):bb P ⟨dst,.fieldAddr s x f,tt,p,af,g⟩ σ K=v5 σ dst K (ev σ x) (ty P s).kind (ty P s).aN[f]?:=by
  simp only[bb,cg]
  split
  · rename_i off ft size hk hf
    rw[hk,hf]
    simp only[v5,true_and]
    cases ev σ x<;>simp only[zQ]
    rename_i id r c
    cases h:σ.aa[id]? with
    | none=>simp[ou]
    | some o=>cases o<;>simp[ou]
  · rename_i b8
    cases hf:(ty P s).aN[f]? with
    | none=>simp[v5]
    | some q =>
      obtain ⟨off,ft,size⟩:=q
      simp only[v5]
      have:(ty P s).kind≠3:=fun e=>b8 off ft size e hf
      simp[this]
def r9 (t:Ty) (e:Ty) (σ:St) (dst:Option Tmp) (K:St→Prop):AV→AV→Prop
  | .ref id sz off len,.lit (.int _ n) =>
    t.kind=1 ∧
    match σ.aa[id]? with
    | some (.arr cJ _)=>(cJ=sz∧sz=e.size∧e.kind≠99∧0≤n∧n<len)∧K (σ.put dst (.ptr id (off+n.toNat) 0))
    | _=>False
  | .tree sz rows,.lit (.int _ n)=>t.kind=1∧(sz=e.size∧e.kind≠99∧0≤n∧n<rows.length)∧K (σ.put dst (.dz (rows.getD n.toNat [])))
  | .ptr id r c,.lit (.int _ n)=>t.kind=2∧ou σ.aa[id]?∧(e.kind≠99∧0≤n∧n<t.len)∧K (σ.put dst (.ptr id r (c+n.toNat * e.size)))
  | _,_=>False
theorem Mk (t:TypeId) (x i:Operand):bb P ⟨dst,.indexAddr t x i,tt,p,af,g⟩ σ K=r9 (ty P t) (ty P (ty P t).elem) σ dst K (ev σ x) (ev σ i):=by
  simp only[bb,cg]
  split
  · rename_i id sz off len k n hk hx hi
    rw[hx,hi];simp only[r9,hk,true_and]
    cases σ.aa[id]? with
    | none=>rfl
    | some o=>cases o<;>rfl
  · rename_i sz rows k n hk hx hi
    rw[hx,hi];simp only[r9,hk,true_and]
  · rename_i id r c k n hk hx hi
    rw[hx,hi];simp only[r9,hk,true_and]
    cases h:σ.aa[id]? with
    | none=>simp[ou]
    | some o=>cases o<;>simp[ou]
  · rename_i h1 h2 h3
    unfold r9
    split
    · rename_i id sz off len k n hx hi
      simp only[eq_iff_iff,false_iff]
      rintro ⟨hk,_⟩
      exact h1 id sz off len k n hk hx hi
    · rename_i sz rows k n hx hi
      simp only[eq_iff_iff,false_iff]
      rintro ⟨hk,_⟩
      exact h2 sz rows k n hk hx hi
    · rename_i id r c k n hx hi
      simp only[eq_iff_iff,false_iff]
      rintro ⟨hk,_⟩
      exact h3 id r c k n hk hx hi
    · rfl
def Hn (P:Program) (dst:Option Tmp) (args:List AV) (K:St→Prop) (σ:St):AV→Prop
  | .fn g bJ=>p7 P g (args++bJ) dst K σ
  | _=>False
theorem Ml (f:Operand) (args:Array Operand) (fD:Array TypeId):bb P ⟨dst,.call ⟨.value f,args,fD⟩,tt,p,af,g⟩ σ K=Hn P dst (args.toList.map (ev σ)) K σ (ev σ f):=by
  simp only[bb]
  cases ev σ f<;>rfl
def Ho (P:Program) (dst:Option Tmp) (args:List AV) (K:St→Prop) (σ:St) (m:String):AV→Prop
  | .er t v=>ov P σ v (fun g x=>p7 P g (x::args) dst K σ) (v7 P t m)
  | _=>False
theorem Mm (r:Operand) (m:String) (args:Array Operand) (fD:Array TypeId):bb P ⟨dst,.call ⟨.invoke r m,args,fD⟩,tt,p,af,g⟩ σ K=Ho P dst (args.toList.map (ev σ)) K σ m (ev σ r):=by
  simp only[bb]
  cases ev σ r<;>rfl
def Hq (P:Program) (dst:Option Tmp) (args:List AV) (K:St→Prop) (σ:St):AV→Prop
  | .fn g bJ=>Hs P g (args++bJ) dst K σ
  | _=>False
theorem Mn (f:Operand) (args:Array Operand) (fD:Array TypeId):lB true P ⟨dst,.call ⟨.value f,args,fD⟩,tt,p,af,g⟩ σ K=Hq P dst (args.toList.map (ev σ)) K σ (ev σ f):=by
  simp only[lB]
  cases ev σ f<;>rfl
def tz (σ:St):List (Nat × Operand)→List (Nat × AV)
  | []=>[]
  | q::l=>(q.1,ev σ q.2)::tz σ l
def tA (σ:St):List (Nat × Operand)→Bool
  | []=>true
  | q::l=>(cellsOf (ev σ q.2)).all cm && tA σ l
theorem Mo (σ:St) (l:List (Nat × Operand)):tz σ l=l.map fun q=>(q.1,ev σ q.2):=by
  induction l with
  | nil=>rfl
  | cons q l ih=>simp only[tz,ih,du]
theorem Mp (σ:St) (l:List (Nat × Operand)):tA σ l=l.all fun q=>(cellsOf (ev σ q.2)).all cm:=by
  induction l with
  | nil=>rfl
  | cons q l ih=>simp only[tA,ih,DW]
theorem Mq (o:Oper):lB false P o σ K=bb P o σ K:=by simp only[lB]
theorem Mr (x:Operand):bb P ⟨dst,.move x,tt,p,af,g⟩ σ K =
    (K (σ.put dst (ev σ x))):=by unfold bb cg;rfl
theorem Ms (x:Operand):bb P ⟨dst,.assign x,tt,p,af,g⟩ σ K =
    (K (σ.put dst (ev σ x))):=by unfold bb cg;rfl
theorem Mt (c a b:Operand):bb P ⟨dst,.pick c a b,tt,p,af,g⟩ σ K =
    (match ev σ c with
      | .lit (.bool t)=>K (σ.put dst (fE t (ev σ a) (ev σ b)))
      | _=>False):=by unfold bb cg;rfl
theorem Mu (e:TypeId):bb P ⟨dst,.alloc e,tt,p,af,g⟩ σ K =
    ((ty P e).kind≠99 ∧
      match (ty P e).zero with
      | some z=>K (({ σ with aa:=σ.aa++[.var (z.map .lit)] }:St).put dst (.ptr σ.aa.length 0 0))
      | none=>False):=by unfold bb cg;rfl
theorem Mw (e:TypeId) (x:Operand):bb P ⟨dst,.box e x,tt,p,af,g⟩ σ K =
    ((cellsOf (ev σ x)).all cm=true∧K (({ σ with aa:=σ.aa++[.var (cellsOf (ev σ x))] }:St).put dst (.ptr σ.aa.length 0 0))):=by unfold bb cg;rfl
theorem Mx (t:TypeId) (parts:Array (Nat × Operand)):bb P ⟨dst,.build t parts,tt,p,af,g⟩ σ K =
    (match (ty P t).kind,(ty P t).zero with
      | 3,some z =>
        match l4 (fun i=>((ty P t).aN[i]?).map fun f=>(f.1,f.2.2)) (z.map .lit) (tz σ parts.toList) with
        | some cs=>(tA σ parts.toList=true∧((ty P t).aN.all fun f=>decide (0<f.2.2))=true)∧K (σ.put dst (.agg cs))
        | none=>False
      | 2,some z =>
        match l4 (fun i=>some (i * (ty P (ty P t).elem).size,(ty P (ty P t).elem).size)) (z.map .lit) (tz σ parts.toList) with
        | some cs=>(tA σ parts.toList=true∧(ty P (ty P t).elem).kind≠99)∧K (σ.put dst (.agg cs))
        | none=>False
      | _,_=>False):=by rw[Mo,Mp];unfold bb cg;rfl
theorem My (t:TypeId) (len:Nat) (parts:Array (Nat × Operand)):bb P ⟨dst,.buildSlice t len parts,tt,p,af,g⟩ σ K =
    (match (ty P t).kind,(ty P (ty P t).elem).zero with
      | 1,some z =>
        match l4 (fun i=>some (i * (ty P (ty P t).elem).size,(ty P (ty P t).elem).size)) ((bn len).flatMap fun _=>z.map .lit) (tz σ parts.toList) with
        | some cs=>((ty P (ty P t).elem).kind≠99∧0<(ty P (ty P t).elem).size∧z.length=(ty P (ty P t).elem).size∧len * (ty P (ty P t).elem).size≤16777216∧tA σ parts.toList=true) ∧
            K (({ σ with aa:=σ.aa++[.arr (ty P (ty P t).elem).size (l5 (ty P (ty P t).elem).size len cs)] }:St).put dst (.ref σ.aa.length (ty P (ty P t).elem).size 0 len))
        | none=>False
      | _,_=>False):=by rw[Mo,Mp];unfold bb cg;rfl
theorem Mz (t:TypeId) (a:Operand):bb P ⟨dst,.load t a,tt,p,af,g⟩ σ K =
    ((ty P t).kind≠99 ∧
      match ev σ a with
      | .ptr id r c =>
        match rowOf σ id r with
        | some row=>l6 (ty P t) row c fun v=>K (σ.put dst v)
        | none=>False
      | .dz cells=>l6 (ty P t) cells 0 fun v=>K (σ.put dst v)
      | _=>False):=by unfold bb cg;rfl
theorem MA (t:TypeId) (a x:Operand):bb P ⟨dst,.store t a x,tt,p,af,g⟩ σ K =
    ((ty P t).kind≠99 ∧
      match ev σ a with
      | .ptr id r c =>
        match rowOf σ id r with
        | some row=>((cellsOf (ev σ x)).length=(ty P t).size∧c+(ty P t).size≤row.length∧(cellsOf (ev σ x)).all cm=true)∧K ((nG σ id r (setCells row c (cellsOf (ev σ x)))).put dst .undef)
        | none=>False
      | _=>False):=by unfold bb cg;rfl
theorem MC (op:BinOp) (t:TypeId) (x y:Operand) (yt:TypeId):bb P ⟨dst,.binOp op t x y yt,tt,p,af,g⟩ σ K =
    (match ev σ x,ev σ y with
      | .lit (.int k a),.lit (.int k' b)=>k=k'∧gj op k a b fun v=>K (σ.put dst (.lit v))
      | .lit (.bool a),.lit (.bool b) =>
        (ty P t).kind=6 ∧
        match op with
        | .eql=>K (σ.put dst (.lit (.bool (a == b))))
        | .neq=>K (σ.put dst (.lit (.bool (a != b))))
        | _=>False
      | .tree _ rows,.lit (.slice none 0 0) =>
        ((ty P t).kind=1∧0<rows.length) ∧
        match op with
        | .eql=>K (σ.put dst (.lit (.bool false)))
        | .neq=>K (σ.put dst (.lit (.bool true)))
        | _=>False
      | .lit (.slice a _ _),.lit (.slice none 0 0) =>
        (ty P t).kind=1 ∧
        match op with
        | .eql=>K (σ.put dst (.lit (.bool a.isNone)))
        | .neq=>K (σ.put dst (.lit (.bool (!a.isNone))))
        | _=>False
      | .agg cs,.agg ds =>
        match ow cs,ow ds with
        | some as,some bs =>
          (v8 P t as.length∧bs.length=as.length∧P.eqGuardType P.depth t=false) ∧
          match op with
          | .eql=>K (σ.put dst (.lit (.bool (decide (as=bs)))))
          | .neq=>K (σ.put dst (.lit (.bool (!decide (as=bs)))))
          | _=>False
        | _,_=>False
      | _,_=>False):=by unfold bb cg;rfl
theorem MD (op:UnOp) (t:TypeId) (x:Operand):bb P ⟨dst,.unOp op t x,tt,p,af,g⟩ σ K =
    (match op,ev σ x with
      | .not,.lit (.bool b)=>K (σ.put dst (.lit (.bool !b)))
      | .neg,.lit (.int k a)=>(k.min≤-a∧-a≤k.max)∧K (σ.put dst (.lit (.int k (-a))))
      | _,_=>False):=by unfold bb cg;rfl
theorem ME (fn:Fn) (first captured:Array Operand):bb P ⟨dst,.makeFunc fn first captured,tt,p,af,g⟩ σ K =
    (match fn with
      | .func f=>first.size=0∧K (σ.put dst (.fn f (captured.toList.map (ev σ))))
      | _=>False):=by unfold bb cg;rfl
theorem MF (t:TypeId) (l c:Operand):bb P ⟨dst,.makeSlice t l c,tt,p,af,g⟩ σ K =
    (match (ty P t).kind,(ty P (ty P t).elem).zero,ev σ l,ev σ c with
      | 1,some z,.lit (.int k n),.lit (.int k' n') =>
        ((ty P (ty P t).elem).kind≠99∧0<(ty P (ty P t).elem).size∧z.length=(ty P (ty P t).elem).size∧n'=n∧0≤n∧n≤1099511627776∧(ty P (ty P t).elem).bytes≤128∧k=k) ∧
          K (({ σ with aa:=σ.aa++[.arr (ty P (ty P t).elem).size (aW n.toNat (z.map .lit))] }:St).put dst (.ref σ.aa.length (ty P (ty P t).elem).size 0 n.toNat))∧k'=k'
      | _,_,_,_=>False):=by unfold bb cg;rfl
theorem MG (t:TypeId) (x:Operand) (lo hi mx:Option Operand):bb P ⟨dst,.slice t x lo hi mx,tt,p,af,g⟩ σ K =
    ((ty P t).kind=1∧(ty P (ty P t).elem).kind≠99∧mx=none ∧
      match ev σ x with
      | .ref id sz off len =>
        match σ.aa[id]? with
        | some (.arr cJ rows) =>
          cJ=sz∧sz=(ty P (ty P t).elem).size ∧
          match lo.map (ev σ),hi.map (ev σ) with
          | none,none=>K (σ.put dst (.ref id sz off len))
          | some (.lit (.int _ l)),none=>(0≤l∧l≤len∧rows.length=rows.length)∧K (σ.put dst (.ref id sz (off+l.toNat) (len - l.toNat)))
          | none,some (.lit (.int _ h))=>(0≤h∧h≤len)∧K (σ.put dst (.ref id sz off h.toNat))
          | some (.lit (.int _ l)),some (.lit (.int _ h))=>(0≤l∧l≤h∧h≤len)∧K (σ.put dst (.ref id sz (off+l.toNat) (h.toNat - l.toNat)))
          | _,_=>False
        | _=>False
      | .tree sz rows =>
          (rows≠[]→sz=(ty P (ty P t).elem).size) ∧
          match lo.map (ev σ),hi.map (ev σ) with
          | none,none=>K (σ.put dst (.tree sz rows))
          | some (.lit (.int _ l)),none=>(0≤l∧l≤rows.length)∧K (σ.put dst (.tree sz (rows.drop l.toNat)))
          | none,some (.lit (.int _ h))=>(0≤h∧h≤rows.length)∧K (σ.put dst (.tree sz (rows.take h.toNat)))
          | some (.lit (.int _ l)),some (.lit (.int _ h))=>(0≤l∧l≤h∧h≤rows.length)∧K (σ.put dst (.tree sz ((rows.take h.toNat).drop l.toNat)))
          | _,_=>False
      | _=>False):=by unfold bb cg;rfl
theorem MH (s:TypeId) (x:Operand) (f:Nat):bb P ⟨dst,.field s x f,tt,p,af,g⟩ σ K =
    (match (ty P s).kind,(ty P s).aN[f]? with
      | 3,some (off,t,size) =>
        (ty P t).kind≠99∧size=(ty P t).size ∧
        match ev σ x with
        | .agg cs=>if (ty P t).isAgg then off+size≤cs.length∧K (σ.put dst (.agg ((cs.drop off).take size))) else
            match cs[off]? with
            | some v=>K (σ.put dst v)
            | none=>False
        | _=>False
      | _,_=>False):=by unfold bb cg;rfl
theorem MI (t:TypeId) (r:Option Operand):bb P ⟨dst,.makeMap t r,tt,p,af,g⟩ σ K =
    ((r=none∧(ty P t).kind=8)∧K (({ σ with aa:=σ.aa++[.mp (zR P t) []] }:St).put dst (.fL σ.aa.length))):=by unfold bb cg;rfl
theorem MJ (t:TypeId) (x i:Operand) (ok:Bool):bb P ⟨dst,.lookup t x i ok,tt,p,af,g⟩ σ K =
    (match keyOf (ev σ i),lC σ (ev σ x),zeroV P (ty P t).elem with
      | some (ag,l),some (_,iA,L),some z=>(ko P t ag∧iA=ag∧l.length=jF ag∧(ty P t).kind=8∧ok=false)∧K (σ.put dst ((nH l L).getD (.lit z)))
      | _,_,_=>False):=by unfold bb cg;rfl
theorem MK (t:TypeId) (m k x:Operand):bb P ⟨dst,.mapUpdate t m k x,tt,p,af,g⟩ σ K =
    (match keyOf (ev σ k),lC σ (ev σ m) with
      | some (ag,l),some (id,iA,L)=>(ko P t ag∧iA=ag∧l.length=jF ag)∧K (({ σ with aa:=σ.aa.set id (.mp ag (dY l (ev σ x) L)) }:St).put dst .undef)
      | _,_=>False):=by unfold bb cg;rfl
theorem ML (t:TypeId) (m k:Operand):bb P ⟨dst,.mapEntry t m k,tt,p,af,g⟩ σ K =
    (match keyOf (ev σ k),lC σ (ev σ m),zeroV P (ty P t).elem with
      | some (ag,l),some (id,iA,L),some z=>(ko P t ag∧iA=ag∧l.length=jF ag∧(ty P t).kind=8) ∧
        K (({ σ with aa:=σ.aa.set id (.mp ag (dY l ((nH l L).getD (.lit z)) L)) }:St).put dst (.bM [(nH l L).getD (.lit z),.lit (.int .i64 (tB l L:Nat))]))
      | _,_,_=>False):=by unfold bb cg;rfl
theorem MN (t:TypeId) (m s x:Operand):bb P ⟨dst,.entryStore t m s x,tt,p,af,g⟩ σ K =
    (match ev σ s,lC σ (ev σ m) with
      | .lit (.int .i64 n),some (id,ag,L)=>(0≤n∧n<L.length)∧K (({ σ with aa:=σ.aa.set id (.mp ag (nI n.toNat (ev σ x) L)) }:St).put dst .undef)
      | _,_=>False):=by unfold bb cg;rfl
theorem MO (t:TypeId) (x i:Operand):bb P ⟨dst,.index t x i,tt,p,af,g⟩ σ K =
    (match ev σ x,ev σ i with
      | .lit (.string s),.lit (.int _ n)=>(P.underlying t=some .string∧0≤n∧n<s.size)∧K (σ.put dst (.lit (.int .u8 (Ht s n.toNat))))
      | _,_=>False):=by unfold bb cg;rfl
theorem MP (t:TypeId) (x:Operand):bb P ⟨dst,.makeInterface t x,tt,p,af,g⟩ σ K =
    (uQ P t=false∧K (σ.put dst (.er t (ev σ x)))):=by unfold bb cg;rfl
theorem MQ (x:Operand) (xt asserted:TypeId) (ok:Bool):bb P ⟨dst,.typeAssert x xt asserted ok,tt,p,af,g⟩ σ K =
    (match ev σ x with
      | .er t v=>(uQ P asserted=false∧t=asserted∧ok=false)∧K (σ.put dst v)
      | _=>False):=by unfold bb cg;rfl
theorem MR (x:Operand) (i:Nat):bb P ⟨dst,.extract x i,tt,p,af,g⟩ σ K =
    (match ev σ x with
      | .bM vs =>
        match vs[i]? with
        | some v=>K (σ.put dst v)
        | none=>False
      | _=>False):=by unfold bb cg;rfl
theorem MS (args:Array Operand) (argTypes:Array TypeId):bb P ⟨dst,.call ⟨.builtin .len,args,argTypes⟩,tt,p,af,g⟩ σ K =
    (match args.toList,argTypes.toList with
      | [x],[t] =>
        match ev σ x with
        | .ref id sz _ len =>
          (ty P t).kind=1 ∧
          match σ.aa[id]? with
          | some (.arr cJ _)=>cJ=sz∧K (σ.put dst (.lit (.int .i64 len)))
          | _=>False
        | .tree _ rows=>(ty P t).kind=1∧K (σ.put dst (.lit (.int .i64 rows.length)))
        | .lit (.slice none 0 0)=>(ty P t).kind=1∧K (σ.put dst (.lit (.int .i64 0)))
        | .fL id =>
          (ty P t).kind=8 ∧
          match σ.aa[id]? with
          | some (.mp _ L)=>K (σ.put dst (.lit (.int .i64 L.length)))
          | _=>False
        | _=>False
      | _,_=>False):=by unfold bb cg;rfl
theorem MT (args:Array Operand) (argTypes:Array TypeId):bb P ⟨dst,.call ⟨.builtin .append,args,argTypes⟩,tt,p,af,g⟩ σ K =
    (match args.toList,argTypes.toList with
      | [s,x],[t,t'] =>
        match (ty P t).kind,(ty P (ty P t).elem).zero,p8 σ (ty P (ty P t).elem).size (ev σ s),nJ σ (ev σ x) with
        | 1,some z,some (pre,σ1),some (sz,src) =>
          (t'=t∧(ty P (ty P t).elem).kind≠99∧sz=(ty P (ty P t).elem).size∧0<sz∧z.length=sz∧pre.length+src.length≤549755813888∧(ty P (ty P t).elem).bytes≤128∧(src.all fun row=>row.all cm)=true) ∧
            K (({ σ1 with aa:=σ1.aa++[.arr sz (pre++src)] }:St).put dst (.ref σ1.aa.length sz 0 (pre.length+src.length)))
        | _,_,_,_=>False
      | _,_=>False):=by unfold bb cg;rfl
theorem MU (args:Array Operand) (argTypes:Array TypeId):bb P ⟨dst,.call ⟨.builtin .min,args,argTypes⟩,tt,p,af,g⟩ σ K =
    (match args.toList with
      | [x,y] =>
        match ev σ x,ev σ y with
        | .lit (.int k a),.lit (.int k' b)=>k=k'∧K (σ.put dst (.lit (.int k (min a b))))
        | _,_=>False
      | _=>False):=by unfold bb cg;rfl
theorem MV (args:Array Operand) (argTypes:Array TypeId):bb P ⟨dst,.call ⟨.builtin .max,args,argTypes⟩,tt,p,af,g⟩ σ K =
    (match args.toList with
      | [x,y] =>
        match ev σ x,ev σ y with
        | .lit (.int k a),.lit (.int k' b)=>k=k'∧K (σ.put dst (.lit (.int k (max a b))))
        | _,_=>False
      | _=>False):=by unfold bb cg;rfl
theorem MW (args:Array Operand) (argTypes:Array TypeId):bb P ⟨dst,.call ⟨.builtin .copy,args,argTypes⟩,tt,p,af,g⟩ σ K =
    (match args.toList,argTypes.toList with
      | [s,x],[t,_] =>
        match ev σ s,nJ σ (ev σ x) with
        | .ref id sz off len,some (cJ,src) =>
          match σ.aa[id]? with
          | some (.arr kq rows) =>
            ((ty P t).kind=1∧(ty P (ty P t).elem).kind≠99∧cJ=sz∧kq=sz∧sz=(ty P (ty P t).elem).size∧0<sz∧(src.all fun row=>row.all cm)=true) ∧
              K (({ σ with aa:=σ.aa.set id (.arr sz (rows.take off++src.take (min src.length len)++rows.drop (off+min src.length len))) }:St).put dst (.lit (.int .i64 (min src.length len:Nat))))
          | _=>False
        | _,_=>False
      | _,_=>False):=by unfold bb cg;rfl
theorem MX (args:Array Operand) (argTypes:Array TypeId):bb P ⟨dst,.call ⟨.builtin .clear,args,argTypes⟩,tt,p,af,g⟩ σ K =
    (match args.toList,argTypes.toList with
      | [s],[t] =>
        match ev σ s,(ty P (ty P t).elem).zero with
        | .ref id sz off len,some z =>
          match σ.aa[id]? with
          | some (.arr cJ rows) =>
            ((ty P t).kind=1∧(ty P (ty P t).elem).kind≠99∧cJ=sz∧z.length=sz∧0<sz∧(z.all fun u=>u.oneCell')=true) ∧
              K (({ σ with aa:=σ.aa.set id (.arr sz (rows.take off++aW len (z.map AV.lit)++rows.drop (off+len))) }:St).put dst (.lit (.tuple #[])))
          | _=>False
        | _,_=>False
      | _,_=>False):=by unfold bb cg;rfl
theorem MY (s d:TypeId) (x:Operand):bb P ⟨dst,.convert s d x,tt,p,af,g⟩ σ K =
    (match P.underlying d,ev σ x with
      | some (.int k),.lit (.int _ n)=>(P.underlying s).isSome=true∧K (σ.put dst (.lit (.int k (k.wrap n))))
      | _,_=>False):=by unfold bb cg;rfl
end Go.Am
namespace Go.Am
variable {P:Program} {N n0:Nat} {σ:St} {Q:Exit→St→Prop}
theorem dR (an:List Nat) (snap:Bool) {v res:AV} {bh:List Ob} (bC:an.Nodup) (ho:ox (a9 σ.aa.length an) σ.aa an bh) (hn:n0≤an.length) (cT:∀ i,i<n0→an.getD i 0=i)
    (h:aO σ (kept an bh) (a9 σ.aa.length an) snap res v):nK n0 σ v res bh:=by
  obtain ⟨h1,h2,h3⟩:=ho.spec
  exact⟨an,snap,bC,h1,h2,h3,hn,cT,h⟩
theorem fW {e:Nat→AV} {os:List Ob} {v res:AV} {bh:List Ob} (ho:os=bh) (hn:n0≤bh.length) (h:v=res):nK n0 ⟨e,os⟩ v res bh:=by
  subst ho;subst h
  let σ:St:=⟨e,os⟩
  show nK n0 σ v v σ.aa
  have hn:n0≤σ.aa.length:=hn
  refine⟨bn σ.aa.length,false,List.nodup_range,by simp,fun j o hj=>.inr ?_,by simp,by simpa using hn,fun i hi=>?_,?_⟩
  · have aT:=(aY.1 hj).1
    rw[v9,BH]
    simpa [ay,jT aT] using hj
  · have:i<σ.aa.length:=by omega
    simp[ay,jT this]
  · exact .eq (by rw[v9,wa])
end Go.Am
namespace Go.Am
variable {P:Program} {N n0:Nat} {σ:St} {Q:Exit→St→Prop}
theorem jk {an:List Nat} {co:List Ob} {id:Nat} (h:id ∉ an):¬ kept an co id:=by
  rintro ⟨j,hj,he,_⟩
  apply h
  rw[← he,ay,bm hj]
  exact List.getElem_mem hj
def uR (ρ:Nat→Nat) (os:List Ob):List Nat→List Ob→Prop
  | [],[]=>True
  | i::an,o::co=>os[i]?=some (bD ρ o)∧uR ρ os an co
  | _,_=>False
theorem uR.spec {ρ:Nat→Nat} {os:List Ob}:∀ {an:List Nat} {co:List Ob},uR ρ os an co→co.length=an.length∧∀ (j:Nat) o,co[j]?=some o→os[an.getD j 0]?=some (bD ρ o)
  | [],[],_=>⟨rfl,by simp⟩
  | i::an,o::co,h=>by
    obtain ⟨h1,h3⟩:=h
    obtain ⟨a,b⟩:=uR.spec h3
    refine⟨by simp[a],fun j o' hj=>?_⟩
    cases j with
    | zero=>simp at hj;subst hj;simpa using h1
    | succ j=>simpa using b j o' (by simpa using hj)
def iK (R:AV→AV→Prop):List AV→List AV→Prop
  | [],[]=>True
  | c::cs,d::ds=>R c d∧iK R cs ds
  | _,_=>False
theorem iK.spec {R:AV→AV→Prop}:∀ {cs ds:List AV},iK R cs ds→cs.length=ds.length∧∀ (j:Nat) c d,cs[j]?=some c→ds[j]?=some d→R c d
  | [],[],_=>⟨rfl,by simp⟩
  | c::cs,d::ds,h=>by
    obtain ⟨a,b⟩:=iK.spec h.2
    refine⟨by simp[a],fun j c' d' hc hd=>?_⟩
    cases j with
    | zero=>simp at hc hd;subst hc;subst hd;exact h.1
    | succ j=>exact b j c' d' (by simpa using hc) (by simpa using hd)
theorem aO.qL {kp:Nat→Prop} {ρ:Nat→Nat} {snap:Bool} {a b c d:AV} (h:aO σ kp ρ snap a c) (k:aO σ kp ρ snap b d):aO σ kp ρ snap (.bM [a,b]) (.bM [c,d]) :=
  .bM _ _ rfl (iK.spec (R:=aO σ kp ρ snap) (cs:=[a,b]) (ds:=[c,d]) ⟨h,k,trivial⟩).2
theorem ig (an:List Nat) {f:FuncId} {args cU:List AV} {bN:List Ob} {dst:Option Tmp} {K:St→Prop} {res:AV} {cA:List Ob} (h:ao P f cU bN res cA) (bC:an.Nodup)
    (ho:uR (a9 σ.aa.length an) σ.aa an bN) (ha:iK (aO σ (·∈an) (a9 σ.aa.length an) false) cU args)
    (hK:K (({ σ with aa:=dQ σ.aa an (cA.map (bD (a9 σ.aa.length an))) }:St).put dst (aX (a9 σ.aa.length an) res))):p7 P f args dst K σ:=by
  obtain ⟨h1,h2⟩:=ho.spec
  obtain ⟨h3,h4⟩:=ha.spec
  exact⟨an,false,cU,bN,res,cA,h,⟨bC,h1,h2,h3,h4,by simp⟩,hK⟩
theorem oz (an:List Nat) {f:FuncId} {args cU:List AV} {bN:List Ob} {dst:Option Tmp} {K:St→Prop} {res:AV} {cA:List Ob} (h:ao P f cU bN res cA) (bC:an.Nodup)
    (ho:uR (a9 σ.aa.length an) σ.aa an bN) (ha:iK (aO σ (·∈an) (a9 σ.aa.length an) true) cU args) (hf:flat res=true) (xU:∀ o∈cA,uS o)
    (hK:K (({ σ with aa:=dQ σ.aa an (cA.map (bD (a9 σ.aa.length an))) }:St).put dst (aX (a9 σ.aa.length an) res))):p7 P f args dst K σ:=by
  obtain ⟨h1,h2⟩:=ho.spec
  obtain ⟨h3,h4⟩:=ha.spec
  exact⟨an,true,cU,bN,res,cA,h,⟨bC,h1,h2,h3,h4,fun _=>⟨hf,xU⟩⟩,hK⟩
theorem MZ {ρ:Nat→Nat} (cs:List AV):bD ρ (.var cs)=.var (cs.map (aX ρ)):=by simp only[bD]
theorem M0 {ρ:Nat→Nat}:bD ρ .gone=.gone:=by simp only[bD]
theorem M1:bn 1=[0]:=by decide
theorem M3:bn 2=[0,1]:=by decide
theorem M4:bn 3=[0,1,2]:=by decide
theorem M5 (xs:List Int):(ints xs).take xs.length=ints xs:=by rw[dN (by simp[ints])]
theorem M6 (xs:List Bool):(bf xs).take xs.length=bf xs:=by rw[dN (by simp[bf])]
theorem M7 (xs:List (List Int)):(kr xs).take xs.length=kr xs:=by rw[dN (by simp[kr])]
theorem xV {y:Code} {Q0 Q1:Exit→St→Prop} {G:Prop} (S0:St) (hn:∀ s,W P N n0 y Q0 s→Q1 .normal s) (hm:W P N n0 y Q0 S0) (h:(∀ s,aQ n0 s S0→Q1 .normal s)→G):G :=
  h fun s ht=>hn s (dO ht hm)
end Go.Am
namespace Go.Am
variable {P:Program} {N n0:Nat} {σ:St} {Q:Exit→St→Prop}
def M8 (P:Program) (ops:Array Oper) (Q:Exit→Act→World→Prop) (js:List Nat):Exit→Act→World→Prop
  | .normal,a,w=>wpOps P ops Q js a w
  | e,a,w=>Q e a w
theorem Oper.Zu {o:Oper} {a:Act} {w:World} {K:Act→World→Prop} {Q Q':Exit→Act→World→Prop} (hq:∀ e a w,e≠.normal→Q e a w→Q' e a w) (hl:LetsOut Q→LetsOut Q')
    (hh:o.wp P a w K Q):o.wp P a w K Q':=by
  unfold Oper.wp at *
  generalize (execOp a.eval o).run P w=r at *
  cases r with
  | ok n w' =>
    cases n<;>simp only[Oper.upon] at hh⊢<;>
      first
        | exact hh
        | exact Calls.mono hh (fun e w'' he=>by
            cases e with
            | returned v=>exact he
            | panicked c=>exact hq _ _ _ (by simp) he
            | outgrown=>exact hl he)
  | halt x w'=>cases x<;>simp only[Oper.upon] at hh ⊢<;>first|exact hh|exact hq _ _ _ (by simp) hh
theorem xW {ops:Array Oper} {Q:Exit→Act→World→Prop} {js:List Nat}:∀ (is:List Nat) (a:Act) (w:World),wpOps P ops (M8 P ops Q js) is a w→wpOps P ops Q (is++js) a w
  | [],a,w,h=>h
  | i::is,a,w,h=>by
    rw[fB,wpOps_cons]
    rw[wpOps_cons] at h
    have hl:LetsOut (M8 P ops Q js)→LetsOut Q:=fun h=>h
    unfold wpOp at h ⊢
    cases ho:ops[i]? with
    | none=>simp only[ho] at h ⊢;exact xW is a w h
    | some o =>
      simp only[ho] at h ⊢
      by_cases hw:Region.wanted o (yielded ops a.tmps)=true
      · rw[if_pos hw] at h ⊢
        rcases h with h | ⟨h1,h2⟩
        · left
          exact Oper.Zu (fun e a w he hq=>by cases e<;>first|exact absurd rfl he|exact hq) hl (Oper.wp_mono (fun a w=>xW is a w) h)
        · exact .inr ⟨h1,hl h2⟩
      · rw[if_neg hw] at h ⊢
        exact xW is _ w h
theorem sc {N:Nat} {os:List Ob} {γ0:Cx} {ops:Array Oper} (hd:∀ o∈ops.toList,∀ d,o.dst=some d→d<N) {K:St→Prop} {Q:Exit→Act→World→Prop}
    (hQ:∀ σ' a' w',K σ'→gF N os γ0 σ' a' w'→Q .normal a' w'):∀ (l:List Oper) (i:Nat) (σ:St) (a:Act) (w:World),(∀ k,k<l.length→ops[i+k]?=l[k]?)→opsL P ops l K σ→gF N os γ0 σ a w →
      wpOps P ops Q (lU i l.length) a w
  | [],i,σ,a,w,_,h,aC=>by simpa [wpOps] using hQ _ _ _ h aC
  | o::r,i,σ,a,w,hl,h,aC=>by
    have hi:ops[i]?=some o:=by simpa using hl 0 (by simp)
    have hr:∀ k,k<r.length→ops[i+1+k]?=r[k]?:=fun k hk=>by
      have:=hl (k+1) (by simpa using hk)
      rw[show i+1+k=i+(k+1) by omega,this];simp
    have cd:o∈ops.toList:=List.mem_of_getElem? (by simpa using hi)
    rw[dI,List.range'_succ,wpOps_cons]
    unfold wpOp
    simp only[hi]
    unfold opsL at h
    cases hg:o.guard with
    | none =>
      simp only[hg] at h
      have hw:Region.wanted o (yielded ops a.tmps)=true:=by simp[Region.wanted,hg]
      rw[if_pos hw]
      left
      exact xX h aC (hd o cd) (fun σ' a' w' hK e7=>sc hd hQ r (i+1) σ' a' w' hr hK e7)
    | some jw =>
      obtain ⟨j,want⟩:=jw
      simp only[hg] at h
      cases eu:(ops[j]?).bind (·.dst) with
      | none=>simp[eu] at h
      | some d =>
        simp only[eu] at h
        split at h
        · rename_i b he
          obtain ⟨iB,a5,γ,rfl,ha,hs,hf⟩:=aC
          have jW:=hs.aw d
          rw[he,ha] at jW
          have hv:=jW.cH
          have hy:yielded ops a.tmps j=some b:=by
            unfold yielded
            rw[eu]
            have:a.tmps[d]?=some (.bool b):=by
              rw[eY] at hv
              cases hx:a.tmps[d]? with
              | none=>rw[hx] at hv;simp[Go.undef] at hv
              | some y=>rw[hx] at hv;simp at hv;rw[hv]
            simp[this]
          by_cases ij:b=want
          · have hw:Region.wanted o (yielded ops a.tmps)=true:=by simp[Region.wanted,hg,hy,ij]
            rw[if_pos hw]
            left
            exact xX (h.1 ij) ⟨iB,a5,γ,rfl,ha,hs,hf⟩ (hd o cd) (fun σ' a' w' hK e7=>sc hd hQ r (i+1) σ' a' w' hr hK e7)
          · have hw:Region.wanted o (yielded ops a.tmps)=false:=by simp[Region.wanted,hg,hy,ij]
            rw[if_neg (by rw[hw];simp)]
            refine sc hd hQ r (i+1) _ _ _ hr (h.2 ij) ⟨by rw[put_defers];exact iB,by rw[tC];exact a5,{ γ with tmps:=(a.put o.dst Go.undef).tmps },rfl,rfl,qM hs ha (fun d h=>by rw[a5];exact hd o cd d h) (.lit _),?_⟩
            rw[qN];exact hf.put _
        · rename_i vs he
          obtain ⟨iB,a5,γ,rfl,ha,hs,hf⟩:=aC
          have jW:=hs.aw d
          rw[he,ha] at jW
          have hv:=jW.cH
          have hy:yielded ops a.tmps j=none:=by
            unfold yielded
            rw[eu]
            rw[eY] at hv
            cases hx:a.tmps[d]? with
            | none=>simp[hx]
            | some y=>rw[hx] at hv;simp at hv;subst hv;simp[hx]
          have hw:Region.wanted o (yielded ops a.tmps)=false:=by simp[Region.wanted,hg,hy]
          rw[if_neg (by rw[hw];simp)]
          refine sc hd hQ r (i+1) _ _ _ hr h.2 ⟨by rw[put_defers];exact iB,by rw[tC];exact a5,{ γ with tmps:=(a.put o.dst Go.undef).tmps },rfl,rfl,qM hs ha (fun d h=>by rw[a5];exact hd o cd d h) (.lit _),?_⟩
          rw[qN];exact hf.put _
        · exact h.elim
theorem Zv {os:List Ob} {γ0:Cx} {ops:Array Oper} (hd:∀ o∈ops.toList,∀ d,o.dst=some d→d<N) {K K1:St→Prop} {Q:Exit→Act→World→Prop} (hn:os.length=n0)
    (hQ:∀ σ' a' w',K σ'→gF N os γ0 σ' a' w'→Q .normal a' w') (n:Nat) (hK:∀ s,K1 s→∃ s1,aQ n0 s s1∧opsL P ops (ops.toList.drop n) K s1) (σ:St) (a:Act) (w:World)
    (h:opsL P ops (ops.toList.take n) K1 σ) (aC:gF N os γ0 σ a w):wpOps P ops Q (bn ops.size) a w:=by
  have e:bn ops.size=lU 0 (ops.toList.take n).length++lU (ops.toList.take n).length (ops.toList.drop n).length:=by
    rw[List.range_eq_range']
    have:=List.range'_append (s:=0) (m:=(ops.toList.take n).length) (n:=(ops.toList.drop n).length) (step:=1)
    simp only[eK,tg] at this
    rw[this]
    congr 1
    rw[← bU,List.take_append_drop];simp
  rw[e]
  refine xW _ a w ?_
  refine sc hd (K:=K1) (fun σ' a' w' hk e7=>?_) (ops.toList.take n) 0 σ a w (fun k hk=>?_) h aC
  · obtain ⟨s1,ht,ho⟩:=hK σ' hk
    obtain ⟨h1,h2,γ,rfl,h3,h4,h5⟩:=e7
    obtain ⟨aI,e1,e2,e3,e4⟩:=ht os γ0 γ hn h4 h5
    refine sc hd hQ (ops.toList.drop n) _ s1 a' γ.w (fun k hk=>?_) ho ⟨h1,h2,aI,e1,e2.trans h3,e3,e4⟩
    rw[List.getElem?_drop]
    simp only[List.length_drop,th] at hk
    rw[eX,th,Nat.min_eq_left (by omega)]
    simp
  · simp only[eX,th] at hk
    rw[List.getElem?_take_of_lt (by omega)]
    simp
end Go.Am
namespace Go.Am
variable {σ:St}
def iL (R:AV→AV→Prop):List (List AV)→List (List AV)→Prop
  | [],[]=>True
  | c::cs,d::ds=>iK R c d∧iL R cs ds
  | _,_=>False
theorem iL.spec {R:AV→AV→Prop}:∀ {cs ds:List (List AV)},iL R cs ds→cs.length=ds.length∧∀ (r c:Nat) v,cellAt cs r c=some v→cellAt ds r c=some ((cellAt ds r c).getD .undef)∧R v ((cellAt ds r c).getD .undef)
  | [],[],_=>⟨rfl,by simp[cellAt]⟩
  | c::cs,d::ds,h=>by
    obtain ⟨a,b⟩:=iL.spec h.2
    refine⟨by simp[a],fun r j v hv=>?_⟩
    cases r with
    | zero =>
      simp only[cellAt,uK,xJ] at hv ⊢
      obtain ⟨e1,e2⟩:=h.1.spec
      have hj:j<d.length:=by rw[← e1];exact (aY.1 hv).1
      rw[bm hj]
      exact⟨rfl,e2 j v _ hv (bm hj)⟩
    | succ r =>
      have:=b r j v (by simpa [cellAt] using hv)
      simpa [cellAt] using this
theorem cw.mk {kp:Nat→Prop} {id sz len:Nat} {rows gk:List (List AV)} (ho:σ.aa[id]?=some (.arr sz rows)) (hl:len=rows.length) (qO:¬ kp id) (hw:∀ row∈gk,row.length=sz) (h:iL (cw σ kp) gk rows):cw σ kp (.tree sz gk) (.ref id sz 0 len):=by
  obtain ⟨a,b⟩:=h.spec
  subst hl
  refine .ref id sz 0 rows.length rows gk (fun r c=>(cellAt rows r c).getD .undef) ho qO (by simp[a]) hw (fun r c v hv=>?_) (fun r c v hv=>?_)
  · simpa using (b r c v hv).1
  · exact (b r c v hv).2
end Go.Am
namespace Go.Am
theorem sg:type_of% @Ed∧type_of% @Ee∧type_of% @Ef∧type_of% @G0.{0}∧type_of% @LP.{0}∧type_of% @LQ∧type_of% @zD∧type_of% @lA∧type_of% @vV∧type_of% @rU∧type_of% @iJ∧type_of% @if_false.{1}∧type_of% @if_true.{1}∧type_of% @fT.{0}∧type_of% @ep.{0}∧type_of% @DY.{0} :=
  ⟨@Ed,@Ee,@Ef,@G0.{0},@LP.{0},@LQ,@zD,@lA,@vV,@rU,@iJ,@if_false.{1},@if_true.{1},@fT.{0},@ep.{0},@DY.{0}⟩
theorem Bc:type_of% @Ed∧type_of% @Ee∧type_of% @Ef∧type_of% @G0.{0}∧type_of% @LP.{0}∧type_of% @LQ∧type_of% @zD∧type_of% @lA∧type_of% @vV∧type_of% @rU∧type_of% @iJ∧type_of% @if_false.{1}∧type_of% @if_true.{1}∧type_of% @fT.{0}∧type_of% @ep.{0}∧type_of% @DY.{0}∧type_of% @By.{0}∧type_of% @Array.size_empty.{0}∧type_of% @M9∧type_of% @M'∧type_of% @eq_self.{1}∧type_of% @Na∧type_of% @Nb∧type_of% @Mi∧type_of% @Mj∧type_of% @Mk∧type_of% @Ml∧type_of% @Mr∧type_of% @Ms∧type_of% @Mt∧type_of% @Mu∧type_of% @Mw∧type_of% @Mx∧type_of% @My∧type_of% @Mz∧type_of% @MA∧type_of% @MC∧type_of% @MD∧type_of% @ME∧type_of% @MF∧type_of% @MG∧type_of% @MH∧type_of% @MR∧type_of% @MS∧type_of% @MT∧type_of% @MU∧type_of% @MV∧type_of% @MW∧type_of% @MX∧type_of% @MY∧type_of% @Nc∧type_of% @Mn∧type_of% @Mq∧type_of% @Mg∧type_of% @Mh∧type_of% @true_and∧type_of% @and_true∧type_of% @and_self∧type_of% @du.{0,0}∧type_of% @lV.{0,0}∧type_of% @fB.{0}∧type_of% @fU.{0}∧type_of% @oe.{0}∧type_of% @ite_true.{1}∧type_of% @ite_false.{1}∧type_of% @Bool.true_eq_false∧type_of% @ne_eq.{1}∧type_of% @not_true_eq_false∧type_of% @not_false_eq_true∧type_of% @false_implies∧type_of% @true_implies∧type_of% @implies_true.{1}∧type_of% @xJ.{0,0}∧type_of% @Option.bind_none.{0,0}∧type_of% @uK.{0}∧type_of% @uL.{0}∧type_of% @G1.{0}∧type_of% @dI.{0}∧type_of% @pj.{0}∧type_of% @eK∧type_of% @gU∧type_of% @decide_true∧type_of% @decide_false∧type_of% @DW.{0}∧type_of% @List.all_nil.{0}∧type_of% @DZ∧type_of% @gV∧type_of% @Int.toNat_zero∧type_of% @hU∧type_of% @kl∧type_of% @cond_true.{1}∧type_of% @cond_false.{1}∧type_of% @Nf∧type_of% @Ng∧type_of% @Nh∧type_of% @Ni∧type_of% @Nj∧type_of% @Nk∧type_of% @Nl∧type_of% @Nn∧type_of% @wc∧type_of% @we∧type_of% @dg∧type_of% @M1∧type_of% @M3∧type_of% @M4∧type_of% @M5∧type_of% @M6∧type_of% @M7∧type_of% @Bz∧type_of% @Nat.mul_one∧type_of% @tg∧type_of% @MZ∧type_of% @M0∧type_of% @wg∧type_of% @xY∧type_of% @Eg∧type_of% @eC.{0,0}∧type_of% @zE.{0}∧type_of% @List.drop_succ_cons.{0}∧type_of% @List.take_succ_cons.{0}∧type_of% @lW.{0}∧type_of% @mY.{0}∧type_of% @tj.{0}∧type_of% @beq_self_eq_true.{0}∧type_of% @pV.{0,0}∧type_of% @List.flatMap_nil.{0,0}∧type_of% @List.getElem?_nil.{0}∧type_of% @bU.{0}∧type_of% @bF.{0}∧type_of% @mo.{0}∧type_of% @xZ∧type_of% @zS∧type_of% @Eh∧type_of% @Np∧type_of% @Nq∧type_of% @Nr∧type_of% @Ns∧type_of% @Nt∧type_of% @Nu∧type_of% @ints_set∧type_of% @tD∧type_of% @Nv∧type_of% @Ei∧type_of% @Nw∧type_of% @Hu∧type_of% @Ej∧type_of% @Hv∧type_of% @Ek∧type_of% @Nx∧type_of% @Ny :=
  ⟨@Ed,@Ee,@Ef,@G0.{0},@LP.{0},@LQ,@zD,@lA,@vV,@rU,@iJ,@if_false.{1},@if_true.{1},@fT.{0},@ep.{0},@DY.{0},@By.{0},@Array.size_empty.{0},@M9,@M',@eq_self.{1},@Na,@Nb,@Mi,@Mj,@Mk,@Ml,@Mr,@Ms,@Mt,@Mu,@Mw,@Mx,@My,@Mz,@MA,@MC,@MD,@ME,@MF,@MG,@MH,@MR,@MS,@MT,@MU,@MV,@MW,@MX,@MY,@Nc,@Mn,@Mq,@Mg,@Mh,@true_and,@and_true,@and_self,@du.{0,0},@lV.{0,0},@fB.{0},@fU.{0},@oe.{0},@ite_true.{1},@ite_false.{1},@Bool.true_eq_false,@ne_eq.{1},@not_true_eq_false,@not_false_eq_true,@false_implies,@true_implies,@implies_true.{1},@xJ.{0,0},@Option.bind_none.{0,0},@uK.{0},@uL.{0},@G1.{0},@dI.{0},@pj.{0},@eK,@gU,@decide_true,@decide_false,@DW.{0},@List.all_nil.{0},@DZ,@gV,@Int.toNat_zero,@hU,@kl,@cond_true.{1},@cond_false.{1},@Nf,@Ng,@Nh,@Ni,@Nj,@Nk,@Nl,@Nn,@wc,@we,@dg,@M1,@M3,@M4,@M5,@M6,@M7,@Bz,@Nat.mul_one,@tg,@MZ,@M0,@wg,@xY,@Eg,@eC.{0,0},@zE.{0},@List.drop_succ_cons.{0},@List.take_succ_cons.{0},@lW.{0},@mY.{0},@tj.{0},@beq_self_eq_true.{0},@pV.{0,0},@List.flatMap_nil.{0,0},@List.getElem?_nil.{0},@bU.{0},@bF.{0},@mo.{0},@xZ,@zS,@Eh,@Np,@Nq,@Nr,@Ns,@Nt,@Nu,@ints_set,@tD,@Nv,@Ei,@Nw,@Hu,@Ej,@Hv,@Ek,@Nx,@Ny⟩
theorem zT:type_of% @eq_self.{1}∧type_of% @decide_eq_true_eq∧type_of% @decide_eq_false_iff_not∧type_of% @jh∧type_of% @Bool.not_eq_false'∧type_of% @beq_iff_eq.{0}∧type_of% @beq_eq_false_iff_ne.{0}∧type_of% @bne_iff_ne.{0}∧type_of% @bne_eq_false_iff_eq.{0}∧type_of% @ne_eq.{1}∧type_of% @Decidable.not_not∧type_of% @Int.not_lt∧type_of% @Int.not_le∧type_of% @not_true_eq_false∧type_of% @not_false_eq_true∧type_of% @jE∧type_of% @a7∧type_of% @Bool.or_eq_false_iff∧type_of% @Bool.and_eq_false_iff∧type_of% @gt_iff_lt.{0}∧type_of% @ge_iff_le.{0}∧type_of% @Int.ofNat_lt∧type_of% @Int.ofNat_le∧type_of% @LR∧type_of% @Nat.not_lt∧type_of% @Nat.not_le∧type_of% @xZ∧type_of% @zS∧type_of% @Eh∧type_of% @cond_true.{1}∧type_of% @cond_false.{1} :=
  ⟨@eq_self.{1},@decide_eq_true_eq,@decide_eq_false_iff_not,@jh,@Bool.not_eq_false',@beq_iff_eq.{0},@beq_eq_false_iff_ne.{0},@bne_iff_ne.{0},@bne_eq_false_iff_eq.{0},@ne_eq.{1},@Decidable.not_not,@Int.not_lt,@Int.not_le,@not_true_eq_false,@not_false_eq_true,@jE,@a7,@Bool.or_eq_false_iff,@Bool.and_eq_false_iff,@gt_iff_lt.{0},@ge_iff_le.{0},@Int.ofNat_lt,@Int.ofNat_le,@LR,@Nat.not_lt,@Nat.not_le,@xZ,@zS,@Eh,@cond_true.{1},@cond_false.{1}⟩
end Go.Am

