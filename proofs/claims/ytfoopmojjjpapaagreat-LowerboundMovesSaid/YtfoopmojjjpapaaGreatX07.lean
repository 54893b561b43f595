import Derived.Test.YtfoopmojjjpapaaGreatX06
set_option linter.all false
set_option maxHeartbeats 0
set_option maxRecDepth 20000
open List renaming range→bn,replicate→aJ,getElem?_eq_some_iff→aR,getD_eq_getElem?_getD→aB,getElem?_range→qQ,getElem?_eq_getElem→bT,take_of_length_le→c8,range'→lH,length_take→e8
open Array renaming getD_eq_getD_getElem?→ek,length_toList→qR
namespace Go.Am
variable {P:Program} {dst:Option Tmp} {tt:TypeId} {p:String} {af:Array Edge} {g:Option (Nat×Bool)} {σ:St} {K:St->Prop}
def oW:Option Ob->Prop
 |some (.var _)=>True
 |some (.arr _ _)=>True
 |some (.mp _ _)=>True
 |_=>False
def Od(a:Nat)(L:List (List Int×AV)):oW (some (.mp a L))=True:=by simp only[oW]
def Oe(c:List AV):oW (some (.var c))=True:=by simp only[oW]
def Of(s:Nat)(c:List (List AV)):oW (some (.arr s c))=True:=by simp only[oW]
def AW(σ:St)(dst:Option Tmp)(K:St->Prop):AV->Prop
 |.ptr id r c=>oW σ.aa[id]?/\K (σ.put dst (.ptr id r c))
 |.cd cells=>K (σ.put dst (.cd cells))
 |_=>False
def Og(x:Operand):aI P ⟨dst,.nilCheck x,tt,p,af,g⟩ σ K=AW σ dst K (ev σ x):=by
 simp only[aI,bW];cases ev σ x<;>simp only[AW];rename_i id r c;cases h:σ.aa[id]? with
 |none=>simp[oW]
 |some o=>cases o<;>simp[oW]
def AX(σ:St)(dst:Option Tmp)(K:St->Prop)(off:Nat):AV->Prop
 |.ptr id r c=>oW σ.aa[id]?/\K (σ.put dst (.ptr id r (c+off)))
 |.cd cells=>K (σ.put dst (.cd (cells.drop off)))
 |_=>False
def xM(σ:St)(dst:Option Tmp)(K:St->Prop)(v:AV)(kind:Nat):Option (Nat×Nat×Nat)->Prop
 |some (off,_,size)=>kind=3/\0<size/\AX σ dst K off v
 |none=>False
def Oh(s:TypeId)(x:Operand)(f:Nat):aI P ⟨dst,.fieldAddr s x f,tt,p,af,g⟩ σ K=xM σ dst K (ev σ x) (ty P s).kind (ty P s).aM[f]?:=by
 simp only[aI,bW];split
 ·rename_i off ft size hk hf;rw[hk,hf];simp only[xM,true_and];cases ev σ x<;>simp only[AX];rename_i id r c;cases h:σ.aa[id]? with
  |none=>simp[oW]
  |some o=>cases o<;>simp[oW]
 ·rename_i cA;cases hf:(ty P s).aM[f]? with
  |none=>simp[xM]
  |some q =>
   obtain⟨off,ft,size⟩:=q;simp only[xM];have:(ty P s).kind≠3:=λe=>cA off ft size e hf;simp[this]
def pX(t:Ty)(e:Ty)(σ:St)(dst:Option Tmp)(K:St->Prop):AV->AV->Prop
 |.ref id sz off len,.lit (.int _ n) =>
  t.kind=1 /\
  match σ.aa[id]? with
  |some (.arr cX _)=>(cX=sz/\sz=e.size/\e.kind≠99/\0<=n/\n<len)/\K (σ.put dst (.ptr id (off+n.toNat) 0))
  |_=>False
 |.tree sz rows,.lit (.int _ n)=>t.kind=1/\(sz=e.size/\e.kind≠99/\0<=n/\n<rows.length)/\K (σ.put dst (.cd (rows.getD n.toNat [])))
 |.ptr id r c,.lit (.int _ n)=>t.kind=2/\oW σ.aa[id]?/\(e.kind≠99/\0<=n/\n<t.len)/\K (σ.put dst (.ptr id r (c+n.toNat*e.size)))
 |.cd cells,.lit (.int _ n)=>t.kind=2/\(e.kind≠99/\0<=n/\n<t.len)/\K (σ.put dst (.cd (cells.drop (n.toNat*e.size))))
 |_,_=>False
def Oi(t:TypeId)(x i:Operand):aI P ⟨dst,.indexAddr t x i,tt,p,af,g⟩ σ K=pX (ty P t) (ty P (ty P t).elem) σ dst K (ev σ x) (ev σ i):=by
 simp only[aI,bW];split
 ·rename_i id sz off len k n hk hx hi;rw[hx,hi];simp only[pX,hk,true_and];cases σ.aa[id]? with
  |none=>rfl
  |some o=>cases o<;>rfl
 ·rename_i sz rows k n hk hx hi;rw[hx,hi];simp only[pX,hk,true_and]
 ·rename_i id r c k n hk hx hi;rw[hx,hi];simp only[pX,hk,true_and];cases h:σ.aa[id]? with
  |none=>simp[oW]
  |some o=>cases o<;>simp[oW]
 ·rename_i cells k n hk hx hi;rw[hx,hi];simp only[pX,hk,true_and]
 ·rename_i h1 h2 h3 h4;unfold pX;split
  ·rename_i id sz off len k n hx hi;simp only[eq_iff_iff,false_iff];rintro⟨hk,_⟩;exact h1 id sz off len k n hk hx hi
  ·rename_i sz rows k n hx hi;simp only[eq_iff_iff,false_iff];rintro⟨hk,_⟩;exact h2 sz rows k n hk hx hi
  ·rename_i id r c k n hx hi;simp only[eq_iff_iff,false_iff];rintro⟨hk,_⟩;exact h3 id r c k n hk hx hi
  ·rename_i cells k n hx hi;simp only[eq_iff_iff,false_iff];rintro⟨hk,_⟩;exact h4 cells k n hk hx hi
  ·rfl
def IL(P:Program)(dst:Option Tmp)(args:List AV)(K:St->Prop)(σ:St):AV->Prop
 |.fn g bk=>r8 P g (args++bk) dst K σ
 |_=>False
def Oj(f:Operand)(args:Array Operand)(cp:Array TypeId):aI P ⟨dst,.call ⟨.value f,args,cp⟩,tt,p,af,g⟩ σ K=IL P dst (args.toList.map (ev σ)) K σ (ev σ f):=by
 simp only[aI];cases ev σ f<;>rfl
def IM(P:Program)(dst:Option Tmp)(args:List AV)(K:St->Prop)(σ:St)(m:String):AV->Prop
 |.gZ t v=>oX P σ v (λg x=>r8 P g (x::args) dst K σ) (E' P t m)
 |_=>False
def Ol(r:Operand)(m:String)(args:Array Operand)(cp:Array TypeId):aI P ⟨dst,.call ⟨.invoke r m,args,cp⟩,tt,p,af,g⟩ σ K=IM P dst (args.toList.map (ev σ)) K σ m (ev σ r):=by
 simp only[aI];cases ev σ r<;>rfl
def IN(P:Program)(dst:Option Tmp)(args:List AV)(K:St->Prop)(σ:St):AV->Prop
 |.fn g bk=>IP P g (args++bk) dst K σ
 |_=>False
def Om(f:Operand)(args:Array Operand)(cp:Array TypeId):lJ true P ⟨dst,.call ⟨.value f,args,cp⟩,tt,p,af,g⟩ σ K=IN P dst (args.toList.map (ev σ)) K σ (ev σ f):=by
 simp only[lJ];cases ev σ f<;>rfl
def vd(σ:St):List (Nat×Operand)->List (Nat×AV)
 |[]=>[]
 |q::l=>(q.1,ev σ q.2)::vd σ l
def vf(σ:St):List (Nat×Operand)->Bool
 |[]=>true
 |q::l=>(cellsOf (ev σ q.2)).all cV&&vf σ l
def On(σ:St)(l:List (Nat×Operand)):vd σ l=l.map λq=>(q.1,ev σ q.2):=by
 induction l with
 |nil=>rfl
 |cons q l ih=>simp only[vd,ih,List.map_cons]
def Oo(σ:St)(l:List (Nat×Operand)):vf σ l=l.all λq=>(cellsOf (ev σ q.2)).all cV:=by
 induction l with
 |nil=>rfl
 |cons q l ih=>simp only[vf,ih,List.all_cons]
def Oq(o:Oper):lJ false P o σ K=aI P o σ K:=by simp only[lJ]
def Ot(x:Operand):aI P ⟨dst,.move x,tt,p,af,g⟩ σ K =
  (K (σ.put dst (ev σ x))):=by unfold aI bW;rfl
def Ou(x:Operand):aI P ⟨dst,.assign x,tt,p,af,g⟩ σ K =
  (K (σ.put dst (ev σ x))):=by unfold aI bW;rfl
def Ov(c a b:Operand):aI P ⟨dst,.pick c a b,tt,p,af,g⟩ σ K =
  (match ev σ c with
   |.lit (.bool t)=>K (σ.put dst (fP t (ev σ a) (ev σ b)))
   |_=>False):=by unfold aI bW;rfl
def Ow (e:TypeId):aI P ⟨dst,.alloc e,tt,p,af,g⟩ σ K =
    ((ty P e).kind≠99 /\
      match (ty P e).zero with
      | some z=>K (({ σ with aa:=σ.aa++[.var (z.map .lit)] }:St).put dst (.ptr σ.aa.length 0 0))
      | none=>False):=by unfold aI bW;rfl
def Ox(e:TypeId)(x:Operand):aI P ⟨dst,.box e x,tt,p,af,g⟩ σ K =
  ((cellsOf (ev σ x)).all cV=true/\K (({ σ with aa:=σ.aa++[.var (cellsOf (ev σ x))] }:St).put dst (.ptr σ.aa.length 0 0))):=by unfold aI bW;rfl
def Oy(t:TypeId)(parts:Array (Nat×Operand)):aI P ⟨dst,.build t parts,tt,p,af,g⟩ σ K =
  (match (ty P t).kind,(ty P t).zero with
   |3,some z =>
    match mh (λi=>((ty P t).aM[i]?).map λf=>(f.1,f.2.2)) (z.map .lit) (vd σ parts.toList) with
    |some cs=>(vf σ parts.toList=true/\((ty P t).aM.all λf=>decide (0<f.2.2))=true)/\K (σ.put dst (.agg cs))
    |none=>False
   |2,some z =>
    match mh (λi=>some (i*(ty P (ty P t).elem).size,(ty P (ty P t).elem).size)) (z.map .lit) (vd σ parts.toList) with
    |some cs=>(vf σ parts.toList=true/\(ty P (ty P t).elem).kind≠99)/\K (σ.put dst (.agg cs))
    |none=>False
   |_,_=>False):=by rw[On,Oo];unfold aI bW;rfl
def Oz(t:TypeId)(len:Nat)(parts:Array (Nat×Operand)):aI P ⟨dst,.buildSlice t len parts,tt,p,af,g⟩ σ K =
  (match (ty P t).kind,(ty P (ty P t).elem).zero with
   |1,some z =>
    match mh (λi=>some (i*(ty P (ty P t).elem).size,(ty P (ty P t).elem).size)) ((bn len).flatMap λ_=>z.map .lit) (vd σ parts.toList) with
    |some cs=>((ty P (ty P t).elem).kind≠99/\0<(ty P (ty P t).elem).size/\z.length=(ty P (ty P t).elem).size/\len*(ty P (ty P t).elem).size<=16777216/\vf σ parts.toList=true) /\
      K (({ σ with aa:=σ.aa++[.arr (ty P (ty P t).elem).size (mj (ty P (ty P t).elem).size len cs)] }:St).put dst (.ref σ.aa.length (ty P (ty P t).elem).size 0 len))
    |none=>False
   |_,_=>False):=by rw[On,Oo];unfold aI bW;rfl
def OA (t:TypeId) (a:Operand):aI P ⟨dst,.load t a,tt,p,af,g⟩ σ K =
    ((ty P t).kind≠99 /\
      match ev σ a with
      | .ptr id r c =>
        match rowOf σ id r with
        | some row=>ml (ty P t) row c λv=>K (σ.put dst v)
        | none=>False
      | .cd cells=>ml (ty P t) cells 0 λv=>K (σ.put dst v)
      | _=>False):=by unfold aI bW;rfl
def OB (t:TypeId) (a x:Operand):aI P ⟨dst,.store t a x,tt,p,af,g⟩ σ K =
    ((ty P t).kind≠99 /\
      match ev σ a with
      | .ptr id r c =>
        match rowOf σ id r with
        | some row=>((cellsOf (ev σ x)).length=(ty P t).size/\c+(ty P t).size<=row.length/\(cellsOf (ev σ x)).all cV=true)/\K ((nV σ id r (setCells row c (cellsOf (ev σ x)))).put dst .undef)
        | none=>False
      | _=>False):=by unfold aI bW;rfl
def OC(op:BinOp)(t:TypeId)(x y:Operand)(yt:TypeId):aI P ⟨dst,.binOp op t x y yt,tt,p,af,g⟩ σ K =
  (match ev σ x,ev σ y with
   |.lit (.int k a),.lit (.int k' b)=>k=k'/\gy op k a b λv=>K (σ.put dst (.lit v))
   |.lit (.bool a),.lit (.bool b) =>
    (ty P t).kind=6 /\
    match op with
    |.eql=>K (σ.put dst (.lit (.bool (a==b))))
    |.neq=>K (σ.put dst (.lit (.bool (a != b))))
    |_=>False
   |.tree _ rows,.lit (.slice none 0 0) =>
    ((ty P t).kind=1/\0<rows.length) /\
    match op with
    |.eql=>K (σ.put dst (.lit (.bool false)))
    |.neq=>K (σ.put dst (.lit (.bool true)))
    |_=>False
   |.lit (.slice a _ _),.lit (.slice none 0 0) =>
    (ty P t).kind=1 /\
    match op with
    |.eql=>K (σ.put dst (.lit (.bool a.isNone)))
    |.neq=>K (σ.put dst (.lit (.bool (!a.isNone))))
    |_=>False
   |.agg cs,.agg ds =>
    match oY cs,oY ds with
    |some as,some bs =>
     (vg P t as.length/\bs.length=as.length/\P.eqGuardType P.depth t=false) /\
     match op with
     |.eql=>K (σ.put dst (.lit (.bool (decide (as=bs)))))
     |.neq=>K (σ.put dst (.lit (.bool (!decide (as=bs)))))
     |_=>False
    |_,_=>False
   |_,_=>False):=by unfold aI bW;rfl
def OD(op:UnOp)(t:TypeId)(x:Operand):aI P ⟨dst,.unOp op t x,tt,p,af,g⟩ σ K =
  (match op,ev σ x with
   |.not,.lit (.bool b)=>K (σ.put dst (.lit (.bool !b)))
   |.neg,.lit (.int k a)=>tQ k a λv=>K (σ.put dst (.lit v))
   |_,_=>False):=by unfold aI bW;rfl
def OE(fn:Fn)(first captured:Array Operand):aI P ⟨dst,.makeFunc fn first captured,tt,p,af,g⟩ σ K =
  (match fn with
   |.func f=>first.size=0/\K (σ.put dst (.fn f (captured.toList.map (ev σ))))
   |_=>False):=by unfold aI bW;rfl
def OF (t:TypeId) (l c:Operand):aI P ⟨dst,.makeSlice t l c,tt,p,af,g⟩ σ K =
    (match (ty P t).kind,(ty P (ty P t).elem).zero,ev σ l,ev σ c with
      | 1,some z,.lit (.int k n),.lit (.int k' n') =>
        ((ty P (ty P t).elem).kind≠99/\0<(ty P (ty P t).elem).size/\z.length=(ty P (ty P t).elem).size/\n'=n/\0<=n/\n<=1099511627776/\(ty P (ty P t).elem).bytes<=128/\k=k) /\
          K (({ σ with aa:=σ.aa++[.arr (ty P (ty P t).elem).size (aJ n.toNat (z.map .lit))] }:St).put dst (.ref σ.aa.length (ty P (ty P t).elem).size 0 n.toNat))/\k'=k'
      | _,_,_,_=>False):=by unfold aI bW;rfl
def OG (t:TypeId) (x:Operand) (lo hi mx:Option Operand):aI P ⟨dst,.slice t x lo hi mx,tt,p,af,g⟩ σ K =
    ((ty P t).kind=1/\(ty P (ty P t).elem).kind≠99/\mx=none /\
      match ev σ x with
      | .ref id sz off len =>
        match σ.aa[id]? with
        | some (.arr cX rows) =>
          cX=sz/\sz=(ty P (ty P t).elem).size /\
          match lo.map (ev σ),hi.map (ev σ) with
          | none,none=>K (σ.put dst (.ref id sz off len))
          | some (.lit (.int _ l)),none=>(0<=l/\l<=len/\rows.length=rows.length)/\K (σ.put dst (.ref id sz (off+l.toNat) (len - l.toNat)))
          | none,some (.lit (.int _ h))=>(0<=h/\h<=len)/\K (σ.put dst (.ref id sz off h.toNat))
          | some (.lit (.int _ l)),some (.lit (.int _ h))=>(0<=l/\l<=h/\h<=len)/\K (σ.put dst (.ref id sz (off+l.toNat) (h.toNat - l.toNat)))
          | _,_=>False
        | _=>False
      | .tree sz rows =>
          (rows≠[]->sz=(ty P (ty P t).elem).size) /\
          match lo.map (ev σ),hi.map (ev σ) with
          | none,none=>K (σ.put dst (.tree sz rows))
          | some (.lit (.int _ l)),none=>(0<=l/\l<=rows.length)/\K (σ.put dst (.tree sz (rows.drop l.toNat)))
          | none,some (.lit (.int _ h))=>(0<=h/\h<=rows.length)/\K (σ.put dst (.tree sz (rows.take h.toNat)))
          | some (.lit (.int _ l)),some (.lit (.int _ h))=>(0<=l/\l<=h/\h<=rows.length)/\K (σ.put dst (.tree sz ((rows.take h.toNat).drop l.toNat)))
          | _,_=>False
      | _=>False):=by unfold aI bW;rfl
def OH(s:TypeId)(x:Operand)(f:Nat):aI P ⟨dst,.field s x f,tt,p,af,g⟩ σ K =
  (match (ty P s).kind,(ty P s).aM[f]? with
   |3,some (off,t,size) =>
    (ty P t).kind≠99/\size=(ty P t).size /\
    match ev σ x with
    |.agg cs=>if(ty P t).isAgg then off+size<=cs.length/\K (σ.put dst (.agg ((cs.drop off).take size))) else
      match cs[off]? with
      |some v=>K (σ.put dst v)
      |none=>False
    |_=>False
   |_,_=>False):=by unfold aI bW;rfl
def OI(t:TypeId)(r:Option Operand):aI P ⟨dst,.makeMap t r,tt,p,af,g⟩ σ K =
  ((r=none/\(ty P t).kind=8)/\K (({ σ with aa:=σ.aa++[.mp (y0 P t) []] }:St).put dst (.du σ.aa.length))):=by unfold aI bW;rfl
def OJ(t:TypeId)(x i:Operand)(ok:Bool):aI P ⟨dst,.lookup t x i ok,tt,p,af,g⟩ σ K =
  (match keyOf (ev σ i),lK σ (ev σ x),zeroV P (ty P t).elem with
   |some (ag,l),some (_,iJ,L),some z=>(jb P t ag/\iJ=ag/\l.length=jZ ag/\(ty P t).kind=8/\ok=false)/\K (σ.put dst ((mn l L).getD (.lit z)))
   |_,_,_=>False):=by unfold aI bW;rfl
def OK(t:TypeId)(m k x:Operand):aI P ⟨dst,.mapUpdate t m k x,tt,p,af,g⟩ σ K =
  (match keyOf (ev σ k),lK σ (ev σ m) with
   |some (ag,l),some (id,iJ,L)=>(jb P t ag/\iJ=ag/\l.length=jZ ag)/\K (({ σ with aa:=σ.aa.set id (.mp ag (eT l (ev σ x) L)) }:St).put dst .undef)
   |_,_=>False):=by unfold aI bW;rfl
def OL(t:TypeId)(m k:Operand):aI P ⟨dst,.mapEntry t m k,tt,p,af,g⟩ σ K =
  (match keyOf (ev σ k),lK σ (ev σ m),zeroV P (ty P t).elem with
   |some (ag,l),some (id,iJ,L),some z=>(jb P t ag/\iJ=ag/\l.length=jZ ag/\(ty P t).kind=8) /\
    K (({ σ with aa:=σ.aa.set id (.mp ag (eT l ((mn l L).getD (.lit z)) L)) }:St).put dst (.bu [(mn l L).getD (.lit z),N0 (AY l L:Nat)]))
   |_,_,_=>False):=by unfold aI bW;rfl
def ON(t:TypeId)(m s x:Operand):aI P ⟨dst,.entryStore t m s x,tt,p,af,g⟩ σ K =
  (match ev σ s,lK σ (ev σ m) with
   |.lit (.int .i64 n),some (id,ag,L)=>(0<=n/\n<L.length)/\K (({ σ with aa:=σ.aa.set id (.mp ag (pY n.toNat (ev σ x) L)) }:St).put dst .undef)
   |_,_=>False):=by unfold aI bW;rfl
def OO(t:TypeId)(x i:Operand):aI P ⟨dst,.index t x i,tt,p,af,g⟩ σ K =
  (match ev σ x,ev σ i with
   |.lit (.string s),.lit (.int _ n)=>(P.underlying t=some .string/\0<=n/\n<s.size)/\K (σ.put dst (.lit (.int .u8 (IQ s n.toNat))))
   |_,_=>False):=by unfold aI bW;rfl
def OP(t:TypeId)(x:Operand):aI P ⟨dst,.makeInterface t x,tt,p,af,g⟩ σ K =
  (y7 P t=false/\K (σ.put dst (.gZ t (ev σ x)))):=by unfold aI bW;rfl
def OQ(x:Operand)(xt asserted:TypeId)(ok:Bool):aI P ⟨dst,.typeAssert x xt asserted ok,tt,p,af,g⟩ σ K =
  (match ev σ x with
   |.gZ t v=>(y7 P asserted=false/\t=asserted/\ok=false)/\K (σ.put dst v)
   |_=>False):=by unfold aI bW;rfl
def OR(x:Operand)(i:Nat):aI P ⟨dst,.extract x i,tt,p,af,g⟩ σ K =
  (match ev σ x with
   |.bu vs =>
    match vs[i]? with
    |some v=>K (σ.put dst v)
    |none=>False
   |_=>False):=by unfold aI bW;rfl
def OS(args:Array Operand)(argTypes:Array TypeId):aI P ⟨dst,.call ⟨.builtin .len,args,argTypes⟩,tt,p,af,g⟩ σ K =
  (match args.toList,argTypes.toList with
   |[x],[t] =>
    match ev σ x with
    |.ref id sz _ len =>
     (ty P t).kind=1 /\
     match σ.aa[id]? with
     |some (.arr cX _)=>cX=sz/\K (σ.put dst (N0 len))
     |_=>False
    |.tree _ rows=>(ty P t).kind=1/\K (σ.put dst (N0 rows.length))
    |.lit (.slice none 0 0)=>(ty P t).kind=1/\K (σ.put dst (N0 0))
    |.du id =>
     (ty P t).kind=8 /\
     match σ.aa[id]? with
     |some (.mp _ L)=>K (σ.put dst (N0 L.length))
     |_=>False
    |_=>False
   |_,_=>False):=by unfold aI bW;rfl
def OT(args:Array Operand)(argTypes:Array TypeId):aI P ⟨dst,.call ⟨.builtin .append,args,argTypes⟩,tt,p,af,g⟩ σ K =
  (match args.toList,argTypes.toList with
   |[s,x],[t,t'] =>
    match (ty P t).kind,(ty P (ty P t).elem).zero,k0 σ (ty P (ty P t).elem).size (ev σ s),nw σ (ev σ x) with
    |1,some z,some (pre,σ1),some (sz,src) =>
     (t'=t/\(ty P (ty P t).elem).kind≠99/\sz=(ty P (ty P t).elem).size/\0<sz/\z.length=sz/\pre.length+src.length<=549755813888/\(ty P (ty P t).elem).bytes<=128/\(src.all λrow=>row.all cV)=true) /\
      K (({ σ1 with aa:=σ1.aa++[.arr sz (pre++src)] }:St).put dst (.ref σ1.aa.length sz 0 (pre.length+src.length)))
    |_,_,_,_=>False
   |_,_=>False):=by unfold aI bW;rfl
def OU(args:Array Operand)(argTypes:Array TypeId):aI P ⟨dst,.call ⟨.builtin .min,args,argTypes⟩,tt,p,af,g⟩ σ K =
  (match args.toList with
   |[x,y] =>
    match ev σ x,ev σ y with
    |.lit (.int k a),.lit (.int k' b)=>k=k'/\K (σ.put dst (.lit (.int k (min a b))))
    |_,_=>False
   |_=>False):=by unfold aI bW;rfl
def OV(args:Array Operand)(argTypes:Array TypeId):aI P ⟨dst,.call ⟨.builtin .max,args,argTypes⟩,tt,p,af,g⟩ σ K =
  (match args.toList with
   |[x,y] =>
    match ev σ x,ev σ y with
    |.lit (.int k a),.lit (.int k' b)=>k=k'/\K (σ.put dst (.lit (.int k (max a b))))
    |_,_=>False
   |_=>False):=by unfold aI bW;rfl
def OW (args:Array Operand) (argTypes:Array TypeId):aI P ⟨dst,.call ⟨.builtin .copy,args,argTypes⟩,tt,p,af,g⟩ σ K =
    (match args.toList,argTypes.toList with
      | [s,x],[t,_] =>
        match ev σ s,nw σ (ev σ x) with
        | .ref id sz off len,some (cX,src) =>
          match σ.aa[id]? with
          | some (.arr kK rows) =>
            ((ty P t).kind=1/\(ty P (ty P t).elem).kind≠99/\cX=sz/\kK=sz/\sz=(ty P (ty P t).elem).size/\0<sz/\(src.all λrow=>row.all cV)=true) /\
              K (({ σ with aa:=σ.aa.set id (.arr sz (rows.take off++src.take (min src.length len)++rows.drop (off+min src.length len))) }:St).put dst (N0 (min src.length len:Nat)))
          | _=>False
        | _,_=>False
      | _,_=>False):=by unfold aI bW;rfl
def OX (args:Array Operand) (argTypes:Array TypeId):aI P ⟨dst,.call ⟨.builtin .clear,args,argTypes⟩,tt,p,af,g⟩ σ K =
    (match args.toList,argTypes.toList with
      | [s],[t] =>
        match ev σ s,(ty P (ty P t).elem).zero with
        | .ref id sz off len,some z =>
          match σ.aa[id]? with
          | some (.arr cX rows) =>
            ((ty P t).kind=1/\(ty P (ty P t).elem).kind≠99/\cX=sz/\z.length=sz/\0<sz/\(z.all λu=>u.oneCell')=true) /\
              K (({ σ with aa:=σ.aa.set id (.arr sz (rows.take off++aJ len (z.map AV.lit)++rows.drop (off+len))) }:St).put dst (.lit (.tuple #[])))
          | _=>False
        | _,_=>False
      | _,_=>False):=by unfold aI bW;rfl
def OY(s d:TypeId)(x:Operand):aI P ⟨dst,.convert s d x,tt,p,af,g⟩ σ K =
  (match P.underlying d,ev σ x with
   |some (.int k),.lit (.int _ n)=>(P.underlying s).isSome=true/\K (σ.put dst (.lit (.int k (k.wrap n))))
   |_,_=>False):=by unfold aI bW;rfl
end Go.Am
namespace Go.Am
variable {P:Program} {N n0:Nat} {σ:St} {Q:Exit->St->Prop}
def j1(aj:List Nat)(snap:Bool){v res:AV}{a8:List Ob}(bU:aj.Nodup)(ho:oZ (bq σ.aa.length aj) σ.aa aj a8)(hn:n0<=aj.length)(bO:∀ i,i<n0->aj.getD i 0=i)(h:bw σ (kept aj a8) (bq σ.aa.length aj) snap res v):nW n0 σ v res a8:=by
 obtain⟨h1,h2,h3⟩:=ho.spec;exact⟨aj,snap,bU,h1,h2,h3,hn,bO,h⟩
def ed{e:Nat->AV}{os:List Ob}{v res:AV}{a8:List Ob}(ho:os=a8)(hn:n0<=a8.length)(h:v=res):nW n0 ⟨e,os⟩ v res a8:=by
 subst ho;subst h
 let σ:St:=⟨e,os⟩
 show nW n0 σ v v σ.aa;have hn:n0<=σ.aa.length:=hn;refine⟨bn σ.aa.length,false,List.nodup_range,Iy,λj o hj=>.inr ?_,Iy,by simpa using hn,λi hi=>?_,?_⟩
 ·have a6:=(aR.1 hj).1;rw[xN,Cz];simpa [aB,qQ a6] using hj
 ·have:i<σ.aa.length:=Ix;simp[aB,qQ this]
 ·exact .eq (by rw[xN,xO])
end Go.Am
namespace Go.Am
variable {P:Program} {N n0:Nat} {σ:St} {Q:Exit->St->Prop}
def kh{aj:List Nat}{co:List Ob}{id:Nat}(h:id ∉ aj):¬ kept aj co id:=by
 rintro⟨j,hj,he,_⟩;apply h;rw[<- he,aB,bT hj];exact List.getElem_mem hj
def xP(ρ:Nat->Nat)(os:List Ob):List Nat->List Ob->Prop
 |[],[]=>True
 |i::aj,o::co=>os[i]?=some (bH ρ o)/\xP ρ os aj co
 |_,_=>False
def xP.spec{ρ:Nat->Nat}{os:List Ob}:∀ {aj:List Nat} {co:List Ob},xP ρ os aj co->co.length=aj.length/\∀ (j:Nat) o,co[j]?=some o->os[aj.getD j 0]?=some (bH ρ o)
 |[],[],_=>⟨rfl,Iy⟩
 |i::aj,o::co,h=>by
  obtain⟨h1,h3⟩:=h;obtain⟨a,b⟩:=xP.spec h3;refine⟨by simp[a],λj o' hj=>?_⟩;cases j with
  |zero=>simp at hj;subst hj;simpa using h1
  |succ j=>simpa using b j o' (by simpa using hj)
def ju(R:AV->AV->Prop):List AV->List AV->Prop
 |[],[]=>True
 |c::cs,d::ds=>R c d/\ju R cs ds
 |_,_=>False
def ju.spec{R:AV->AV->Prop}:∀ {cs ds:List AV},ju R cs ds->cs.length=ds.length/\∀ (j:Nat) c d,cs[j]?=some c->ds[j]?=some d->R c d
 |[],[],_=>⟨rfl,Iy⟩
 |c::cs,d::ds,h=>by
  obtain⟨a,b⟩:=ju.spec h.2;refine⟨by simp[a],λj c' d' hc hd=>?_⟩;cases j with
  |zero=>simp at hc hd;subst hc;subst hd;exact h.1
  |succ j=>exact b j c' d' (by simpa using hc) (by simpa using hd)
def jv(aj:List Nat){f:FuncId}{args dz:List AV}{bP:List Ob}{dst:Option Tmp}{K:St->Prop}{res:AV}{cY:List Ob}(h:Holds P f dz bP res cY)(bU:aj.Nodup)(ho:xP (bq σ.aa.length aj) σ.aa aj bP)(ha:ju (bw σ (·∈aj) (bq σ.aa.length aj) false) dz args)(hK:K (({ σ with aa:=fl σ.aa aj (cY.map (bH (bq σ.aa.length aj))) }:St).put dst (bf (bq σ.aa.length aj) res))):r8 P f args dst K σ:=by
 obtain⟨h1,h2⟩:=ho.spec;obtain⟨h3,h4⟩:=ha.spec;exact⟨aj,false,dz,bP,res,cY,h,⟨bU,h1,h2,h3,h4,Iy⟩,hK⟩
def vh(aj:List Nat){f:FuncId}{args dz:List AV}{bP:List Ob}{dst:Option Tmp}{K:St->Prop}{res:AV}{cY:List Ob}(h:Holds P f dz bP res cY)(bU:aj.Nodup)(ho:xP (bq σ.aa.length aj) σ.aa aj bP)(ha:ju (bw σ (·∈aj) (bq σ.aa.length aj) true) dz args)(hf:flat res=true)(CA:∀ o∈cY,CB o)(hK:K (({ σ with aa:=fl σ.aa aj (cY.map (bH (bq σ.aa.length aj))) }:St).put dst (bf (bq σ.aa.length aj) res))):r8 P f args dst K σ:=by
 obtain⟨h1,h2⟩:=ho.spec;obtain⟨h3,h4⟩:=ha.spec;exact⟨aj,true,dz,bP,res,cY,h,⟨bU,h1,h2,h3,h4,λ_=>⟨hf,CA⟩⟩,hK⟩
def OZ{ρ:Nat->Nat}(cs:List AV):bH ρ (.var cs)=.var (cs.map (bf ρ)):=by simp only[bH]
def O0{ρ:Nat->Nat}:bH ρ .gone=.gone:=by simp only[bH]
def O1:bn 1=[0]:=NI
def O2:bn 2=[0,1]:=NI
def O3:bn 3=[0,1,2]:=NI
def O4(xs:List Int):(ints xs).take xs.length=ints xs:=by rw[c8 (by simp[ints])]
def O5(xs:List Bool):(bm xs).take xs.length=bm xs:=by rw[c8 (by simp[bm])]
def O6(xs:List (List Int)):(fc xs).take xs.length=fc xs:=by rw[c8 (by simp[fc])]
def pZ{y:Code}{Q0 Q1:Exit->St->Prop}{G:Prop}(S0:St)(hn:∀ s,W P N n0 y Q0 s->Q1 .normal s)(hm:W P N n0 y Q0 S0)(h:(∀ s,aF n0 s S0->Q1 .normal s)->G):G :=
 h λs ht=>hn s (cr ht hm)
end Go.Am
namespace Go.Am
variable {P:Program} {N n0:Nat} {σ:St} {Q:Exit->St->Prop}
def O7(P:Program)(ops:Array Oper)(Q:Exit->Act->World->Prop)(js:List Nat):Exit->Act->World->Prop
 |.normal,a,w=>wpOps P ops Q js a w
 |e,a,w=>Q e a w
def Oper.acf{o:Oper}{a:Act}{w:World}{K:Act->World->Prop}{Q Q':Exit->Act->World->Prop}(hq:∀ e a w,e≠.normal->Q e a w->Q' e a w)(hl:LetsOut Q->LetsOut Q')(hh:o.wp P a w K Q):o.wp P a w K Q':=by
 unfold Oper.wp at *;generalize (execOp a.eval o).run P w=r at *;cases r with
 |ok n w' =>
  cases n<;>simp only[Oper.upon]at hh⊢<;>
   first
    |exact hh
    |exact Calls.mono hh (λe w'' he=>by
      cases e with
      |returned v=>exact he
      |panicked c=>exact hq _ _ _ Iy he
      |outgrown=>exact hl he)
 |halt x w'=>cases x<;>simp only[Oper.upon]at hh ⊢<;>first|exact hh|exact hq _ _ _ Iy hh
def xQ{ops:Array Oper}{Q:Exit->Act->World->Prop}{js:List Nat}:∀ (is:List Nat) (a:Act) (w:World),wpOps P ops (O7 P ops Q js) is a w->wpOps P ops Q (is++js) a w
 |[],a,w,h=>h
 |i::is,a,w,h=>by
  rw[List.cons_append,wpOps_cons];rw[wpOps_cons]at h;have hl:LetsOut (O7 P ops Q js)->LetsOut Q:=λh=>h;unfold wpOp at h ⊢;cases ho:ops[i]? with
  |none=>simp only[ho]at h ⊢;exact xQ is a w h
  |some o =>
   simp only[ho]at h ⊢;by_cases hw:Region.wanted o (yielded ops a.tmps)=true
   ·rw[if_pos hw]at h ⊢;rcases h with h|⟨h1,h2⟩
    ·left;exact Oper.acf (λe a w he hq=>by cases e<;>first|exact absurd rfl he|exact hq) hl (Oper.wp_mono (λa w=>xQ is a w) h)
    ·exact .inr ⟨h1,hl h2⟩
   ·rw[if_neg hw]at h ⊢;exact xQ is _ w h
def qZ{N:Nat}{os:List Ob}{γ0:Cx}{ops:Array Oper}(hd:∀ o∈ops.toList,∀ d,o.dst=some d->d<N){K:St->Prop}{Q:Exit->Act->World->Prop}(hQ:∀ σ' a' w',K σ'->fq N os γ0 σ' a' w'->Q .normal a' w'):∀ (l:List Oper) (i:Nat) (σ:St) (a:Act) (w:World),(∀ k,k<l.length->ops[i+k]?=l[k]?)->opsL P ops l K σ->fq N os γ0 σ a w ->
   wpOps P ops Q (lH i l.length) a w
 |[],i,σ,a,w,_,h,ay=>by simpa [wpOps] using hQ _ _ _ h ay
 |o::r,i,σ,a,w,hl,h,ay=>by
  have hi:ops[i]?=some o:=by simpa using hl 0 Iy
  have hr:∀ k,k<r.length->ops[i+1+k]?=r[k]?:=λk hk=>by
   have:=hl (k+1) (by simpa using hk);rw[show i+1+k=i+(k+1) by omega,this];simp
  have cH:o∈ops.toList:=List.mem_of_getElem? (by simpa using hi);rw[List.length_cons,List.range'_succ,wpOps_cons];unfold wpOp;simp only[hi];unfold opsL at h;cases hg:o.guard with
  |none =>
   simp only[hg]at h;have hw:Region.wanted o (yielded ops a.tmps)=true:=by simp[Region.wanted,hg]
   rw[if_pos hw];left;exact wI h ay (hd o cH) (λσ' a' w' hK cP=>qZ hd hQ r (i+1) σ' a' w' hr hK cP)
  |some jw =>
   obtain⟨j,want⟩:=jw;simp only[hg]at h;cases dW:(ops[j]?).bind (·.dst) with
   |none=>simp[dW]at h
   |some d =>
    simp only[dW]at h;split at h
    ·rename_i b he;obtain⟨gI,aN,γ,rfl,ha,hs,hf⟩:=ay;have jc:=hs.an d;rw[he,ha]at jc;have hv:=jc.cz;have hy:yielded ops a.tmps j=some b:=by
      unfold yielded;rw[dW];have:a.tmps[d]?=some (.bool b):=by
       rw[ek]at hv;cases hx:a.tmps[d]? with
       |none=>rw[hx]at hv;simp[Go.undef]at hv
       |some y=>rw[hx]at hv;simp at hv;rw[hv]
      simp[this]
     by_cases gn:b=want
     ·have hw:Region.wanted o (yielded ops a.tmps)=true:=by simp[Region.wanted,hg,hy,gn]
      rw[if_pos hw];left;exact wI (h.1 gn) ⟨gI,aN,γ,rfl,ha,hs,hf⟩ (hd o cH) (λσ' a' w' hK cP=>qZ hd hQ r (i+1) σ' a' w' hr hK cP)
     ·have hw:Region.wanted o (yielded ops a.tmps)=false:=by simp[Region.wanted,hg,hy,gn]
      rw[if_neg (by rw[hw];simp)];refine qZ hd hQ r (i+1) _ _ _ hr (h.2 gn) ⟨by rw[put_defers];exact gI,by rw[tR];exact aN,{ γ with tmps:=(a.put o.dst Go.undef).tmps },rfl,rfl,q6 hs ha (λd h=>by rw[aN];exact hd o cH d h) (.lit _),?_⟩;rw[p6];exact hf.put _
    ·rename_i vs he;obtain⟨gI,aN,γ,rfl,ha,hs,hf⟩:=ay;have jc:=hs.an d;rw[he,ha]at jc;have hv:=jc.cz;have hy:yielded ops a.tmps j=none:=by
      unfold yielded;rw[dW];rw[ek]at hv;cases hx:a.tmps[d]? with
      |none=>simp[hx]
      |some y=>rw[hx]at hv;simp at hv;subst hv;simp[hx]
     have hw:Region.wanted o (yielded ops a.tmps)=false:=by simp[Region.wanted,hg,hy]
     rw[if_neg (by rw[hw];simp)];refine qZ hd hQ r (i+1) _ _ _ hr h.2 ⟨by rw[put_defers];exact gI,by rw[tR];exact aN,{ γ with tmps:=(a.put o.dst Go.undef).tmps },rfl,rfl,q6 hs ha (λd h=>by rw[aN];exact hd o cH d h) (.lit _),?_⟩;rw[p6];exact hf.put _
    ·exact h.elim
def acg{os:List Ob}{γ0:Cx}{ops:Array Oper}(hd:∀ o∈ops.toList,∀ d,o.dst=some d->d<N){K K1:St->Prop}{Q:Exit->Act->World->Prop}(hn:os.length=n0)(hQ:∀ σ' a' w',K σ'->fq N os γ0 σ' a' w'->Q .normal a' w')(n:Nat)(hK:∀ s,K1 s->∃ s1,aF n0 s s1/\opsL P ops (ops.toList.drop n) K s1)(σ:St)(a:Act)(w:World)(h:opsL P ops (ops.toList.take n) K1 σ)(ay:fq N os γ0 σ a w):wpOps P ops Q (bn ops.size) a w:=by
 have e:bn ops.size=lH 0 (ops.toList.take n).length++lH (ops.toList.take n).length (ops.toList.drop n).length:=by
  rw[List.range_eq_range'];have:=List.range'_append (s:=0) (m:=(ops.toList.take n).length) (n:=(ops.toList.drop n).length) (step:=1);simp only[Nat.zero_add,Nat.one_mul]at this;rw[this];congr 1;rw[<- List.length_append,List.take_append_drop];simp
 rw[e];refine xQ _ a w ?_;refine qZ hd (K:=K1) (λσ' a' w' hk cP=>?_) (ops.toList.take n) 0 σ a w (λk hk=>?_) h ay
 ·obtain⟨s1,ht,ho⟩:=hK σ' hk;obtain⟨h1,h2,γ,rfl,h3,h4,h5⟩:=cP;obtain⟨az,e1,e2,e3,e4⟩:=ht os γ0 γ hn h4 h5;refine qZ hd hQ (ops.toList.drop n) _ s1 a' γ.w (λk hk=>?_) ho ⟨h1,h2,az,e1,e2.trans h3,e3,e4⟩;rw[List.getElem?_drop];simp only[List.length_drop,qR]at hk;rw[e8,qR,Nat.min_eq_left Ix];simp
 ·simp only[e8,qR]at hk;rw[List.getElem?_take_of_lt Ix];simp
end Go.Am
namespace Go.Am
variable {σ:St}
def kL(R:AV->AV->Prop):List (List AV)->List (List AV)->Prop
 |[],[]=>True
 |c::cs,d::ds=>ju R c d/\kL R cs ds
 |_,_=>False
def kL.spec{R:AV->AV->Prop}:∀ {cs ds:List (List AV)},kL R cs ds->cs.length=ds.length/\∀ (r c:Nat) v,cellAt cs r c=some v->cellAt ds r c=some ((cellAt ds r c).getD .undef)/\R v ((cellAt ds r c).getD .undef)
 |[],[],_=>⟨rfl,by simp[cellAt]⟩
 |c::cs,d::ds,h=>by
  obtain⟨a,b⟩:=kL.spec h.2;refine⟨by simp[a],λr j v hv=>?_⟩;cases r with
  |zero =>
   simp only[cellAt,List.getElem?_cons_zero,Option.bind_some]at hv ⊢;obtain⟨e1,e2⟩:=h.1.spec;have hj:j<d.length:=by rw[<- e1];exact(aR.1 hv).1
   rw[bT hj];exact⟨rfl,e2 j v _ hv (bT hj)⟩
  |succ r =>
   have:=b r j v (by simpa [cellAt] using hv);simpa [cellAt] using this
def cL.mk{kp:Nat->Prop}{id sz len:Nat}{rows gz:List (List AV)}(ho:σ.aa[id]?=some (.arr sz rows))(hl:len=rows.length)(r9:¬ kp id)(hw:∀ row∈gz,row.length=sz)(h:kL (cL σ kp) gz rows):cL σ kp (.tree sz gz) (.ref id sz 0 len):=by
 obtain⟨a,b⟩:=h.spec;subst hl;refine .ref id sz 0 rows.length rows gz (λr c=>(cellAt rows r c).getD .undef) ho r9 (by simp[a]) hw (λr c v hv=>?_) (λr c v hv=>?_)
 ·simpa using(b r c v hv).1
 ·exact(b r c v hv).2
end Go.Am

