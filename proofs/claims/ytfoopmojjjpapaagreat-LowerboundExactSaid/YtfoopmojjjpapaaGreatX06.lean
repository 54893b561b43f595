import Derived.Test.YtfoopmojjjpapaaGreatX05
set_option linter.all false
set_option maxHeartbeats 0
set_option maxRecDepth 20000
open List renaming map_cons→fP,all_cons→CA,range→bk,replicate→aO,getElem?_eq_some_iff→aR,getD_eq_getElem?_getD→ax,getElem?_range→pX,getElem?_eq_getElem→bq,take_of_length_le→cZ,cons_append→ek,range'→nr,length_cons→cX,length_append→bL,length_take→fe,getElem?_cons_zero→uW,contains_cons→N2,contains_nil→N3,getD_cons_zero→iv,getD_cons_succ→fq,getD_nil→II,size_toArray→CB,map_nil→ns,nil_append→gv,append_nil→q7,getElem?_cons_succ→r9,getElem?_toArray→IJ,length_nil→kx,drop_zero→y0,take_zero→lZ,set_cons_zero→oX,set_cons_succ→oY,flatMap_cons→xJ,flatMap_nil→N5,length_set→bw,length_replicate→nt
open Array renaming getD_eq_getD_getElem?→eA,length_toList→tN
open Nat renaming zero_add→fc,one_mul→xH,add_zero→iw,zero_mul→EU
open Option renaming bind_some→r8,map_some→gF
open Bool renaming or_self→N4,or_false→AP,false_or→oW,or_true→AQ,true_or→xI,false_eq_true→iZ,and_true→ET,true_and→iy,not_true→kU,not_false→mH,not_eq_true'→kz,or_eq_true→l7,and_eq_true→bg
open Int renaming toNat_natCast→cY,ofNat_inj→N6
namespace Go.Am
variable {P:Program} {dst:Option Tmp} {tt:TypeId} {p:String} {af:Array Edge} {g:Option (Nat×Bool)} {σ:St} {K:St->Prop}
def oZ:Option Ob->Prop
 |some (.var _)=>True
 |some (.arr _ _)=>True
 |some (.mp _ _)=>True
 |_=>False
def OC(a:Nat)(L:List (List Int×AV)):oZ (some (.mp a L))=True:=by simp only[oZ]
def OD(c:List AV):oZ (some (.var c))=True:=by simp only[oZ]
def OE(s:Nat)(c:List (List AV)):oZ (some (.arr s c))=True:=by simp only[oZ]
def AZ(σ:St)(dst:Option Tmp)(K:St->Prop):AV->Prop
 |.ptr id r c=>oZ σ.aa[id]?/\K (σ.put dst (.ptr id r c))
 |.bY cells=>K (σ.put dst (.bY cells))
 |_=>False
def OF(x:Operand):aH P ⟨dst,.nilCheck x,tt,p,af,g⟩ σ K=AZ σ dst K (ev σ x):=by
 simp only[aH,b8];cases ev σ x<;>simp only[AZ];rename_i id r c;cases h:σ.aa[id]? with
 |none=>simp[oZ]
 |some o=>cases o<;>simp[oZ]
def A2(σ:St)(dst:Option Tmp)(K:St->Prop)(off:Nat):AV->Prop
 |.ptr id r c=>oZ σ.aa[id]?/\K (σ.put dst (.ptr id r (c+off)))
 |.bY cells=>K (σ.put dst (.bY (cells.drop off)))
 |_=>False
def xP(σ:St)(dst:Option Tmp)(K:St->Prop)(v:AV)(kind:Nat):Option (Nat×Nat×Nat)->Prop
 |some (off,_,size)=>kind=3/\0<size/\A2 σ dst K off v
 |none=>False
def OG(s:TypeId)(x:Operand)(f:Nat):aH P ⟨dst,.fieldAddr s x f,tt,p,af,g⟩ σ K=xP σ dst K (ev σ x) (ty P s).kind (ty P s).aL[f]?:=by
 simp only[aH,b8];split
 ·rename_i off ft size hk hf;rw[hk,hf];simp only[xP,true_and];cases ev σ x<;>simp only[A2];rename_i id r c;cases h:σ.aa[id]? with
  |none=>simp[oZ]
  |some o=>cases o<;>simp[oZ]
 ·rename_i bZ;cases hf:(ty P s).aL[f]? with
  |none=>simp[xP]
  |some q =>
   obtain⟨off,ft,size⟩:=q;simp only[xP];have:(ty P s).kind≠3:=λe=>bZ off ft size e hf;simp[this]
def qc(t:Ty)(e:Ty)(σ:St)(dst:Option Tmp)(K:St->Prop):AV->AV->Prop
 |.ref id sz off len,.lit (.int _ n) =>
  t.kind=1 /\
  match σ.aa[id]? with
  |some (.arr cU _)=>(cU=sz/\sz=e.size/\e.kind≠99/\0<=n/\n<len)/\K (σ.put dst (.ptr id (off+n.toNat) 0))
  |_=>False
 |.tree sz rows,.lit (.int _ n)=>t.kind=1/\(sz=e.size/\e.kind≠99/\0<=n/\n<rows.length)/\K (σ.put dst (.bY (rows.getD n.toNat [])))
 |.ptr id r c,.lit (.int _ n)=>t.kind=2/\oZ σ.aa[id]?/\(e.kind≠99/\0<=n/\n<t.len)/\K (σ.put dst (.ptr id r (c+n.toNat*e.size)))
 |.bY cells,.lit (.int _ n)=>t.kind=2/\(e.kind≠99/\0<=n/\n<t.len)/\K (σ.put dst (.bY (cells.drop (n.toNat*e.size))))
 |_,_=>False
def OH(t:TypeId)(x i:Operand):aH P ⟨dst,.indexAddr t x i,tt,p,af,g⟩ σ K=qc (ty P t) (ty P (ty P t).elem) σ dst K (ev σ x) (ev σ i):=by
 simp only[aH,b8];split
 ·rename_i id sz off len k n hk hx hi;rw[hx,hi];simp only[qc,hk,true_and];cases σ.aa[id]? with
  |none=>rfl
  |some o=>cases o<;>rfl
 ·rename_i sz rows k n hk hx hi;rw[hx,hi];simp only[qc,hk,true_and]
 ·rename_i id r c k n hk hx hi;rw[hx,hi];simp only[qc,hk,true_and];cases h:σ.aa[id]? with
  |none=>simp[oZ]
  |some o=>cases o<;>simp[oZ]
 ·rename_i cells k n hk hx hi;rw[hx,hi];simp only[qc,hk,true_and]
 ·rename_i h1 h2 h3 h4;unfold qc;split
  ·rename_i id sz off len k n hx hi;simp only[eq_iff_iff,false_iff];rintro⟨hk,_⟩;exact h1 id sz off len k n hk hx hi
  ·rename_i sz rows k n hx hi;simp only[eq_iff_iff,false_iff];rintro⟨hk,_⟩;exact h2 sz rows k n hk hx hi
  ·rename_i id r c k n hx hi;simp only[eq_iff_iff,false_iff];rintro⟨hk,_⟩;exact h3 id r c k n hk hx hi
  ·rename_i cells k n hx hi;simp only[eq_iff_iff,false_iff];rintro⟨hk,_⟩;exact h4 cells k n hk hx hi
  ·rfl
def I4(P:Program)(dst:Option Tmp)(args:List AV)(K:St->Prop)(σ:St):AV->Prop
 |.fn g bF=>tX P g (args++bF) dst K σ
 |_=>False
def OI(f:Operand)(args:Array Operand)(dh:Array TypeId):aH P ⟨dst,.call ⟨.value f,args,dh⟩,tt,p,af,g⟩ σ K=I4 P dst (args.toList.map (ev σ)) K σ (ev σ f):=by
 simp only[aH];cases ev σ f<;>rfl
def I5(P:Program)(dst:Option Tmp)(args:List AV)(K:St->Prop)(σ:St)(m:String):AV->Prop
 |.hZ t v=>o5 P σ v (λg x=>tX P g (x::args) dst K σ) (E7 P t m)
 |_=>False
def OJ(r:Operand)(m:String)(args:Array Operand)(dh:Array TypeId):aH P ⟨dst,.call ⟨.invoke r m,args,dh⟩,tt,p,af,g⟩ σ K=I5 P dst (args.toList.map (ev σ)) K σ m (ev σ r):=by
 simp only[aH];cases ev σ r<;>rfl
def I6(P:Program)(dst:Option Tmp)(args:List AV)(K:St->Prop)(σ:St):AV->Prop
 |.fn g bF=>I7 P g (args++bF) dst K σ
 |_=>False
def OK(f:Operand)(args:Array Operand)(dh:Array TypeId):lD true P ⟨dst,.call ⟨.value f,args,dh⟩,tt,p,af,g⟩ σ K=I6 P dst (args.toList.map (ev σ)) K σ (ev σ f):=by
 simp only[lD];cases ev σ f<;>rfl
def u5(σ:St):List (Nat×Operand)->List (Nat×AV)
 |[]=>[]
 |q::l=>(q.1,ev σ q.2)::u5 σ l
def u6(σ:St):List (Nat×Operand)->Bool
 |[]=>true
 |q::l=>(cellsOf (ev σ q.2)).all cR&&u6 σ l
def OL(σ:St)(l:List (Nat×Operand)):u5 σ l=l.map λq=>(q.1,ev σ q.2):=by
 induction l with
 |nil=>rfl
 |cons q l ih=>simp only[u5,ih,fP]
def ON(σ:St)(l:List (Nat×Operand)):u6 σ l=l.all λq=>(cellsOf (ev σ q.2)).all cR:=by
 induction l with
 |nil=>rfl
 |cons q l ih=>simp only[u6,ih,CA]
def OO(o:Oper):lD false P o σ K=aH P o σ K:=by simp only[lD]
def OP(x:Operand):aH P ⟨dst,.move x,tt,p,af,g⟩ σ K =
  (K (σ.put dst (ev σ x))):=by unfold aH b8;rfl
def OQ(x:Operand):aH P ⟨dst,.assign x,tt,p,af,g⟩ σ K =
  (K (σ.put dst (ev σ x))):=by unfold aH b8;rfl
def OR(c a b:Operand):aH P ⟨dst,.pick c a b,tt,p,af,g⟩ σ K =
  (match ev σ c with
   |.lit (.bool t)=>K (σ.put dst (fH t (ev σ a) (ev σ b)))
   |_=>False):=by unfold aH b8;rfl
def OS (e:TypeId):aH P ⟨dst,.alloc e,tt,p,af,g⟩ σ K =
    ((ty P e).kind≠99 /\
      match (ty P e).zero with
      | some z=>K (({ σ with aa:=σ.aa++[.var (z.map .lit)] }:St).put dst (.ptr σ.aa.length 0 0))
      | none=>False):=by unfold aH b8;rfl
def OT(e:TypeId)(x:Operand):aH P ⟨dst,.box e x,tt,p,af,g⟩ σ K =
  ((cellsOf (ev σ x)).all cR=true/\K (({ σ with aa:=σ.aa++[.var (cellsOf (ev σ x))] }:St).put dst (.ptr σ.aa.length 0 0))):=by unfold aH b8;rfl
def OU(t:TypeId)(parts:Array (Nat×Operand)):aH P ⟨dst,.build t parts,tt,p,af,g⟩ σ K =
  (match (ty P t).kind,(ty P t).zero with
   |3,some z =>
    match l9 (λi=>((ty P t).aL[i]?).map λf=>(f.1,f.2.2)) (z.map .lit) (u5 σ parts.toList) with
    |some cs=>(u6 σ parts.toList=true/\((ty P t).aL.all λf=>decide (0<f.2.2))=true)/\K (σ.put dst (.agg cs))
    |none=>False
   |2,some z =>
    match l9 (λi=>some (i*(ty P (ty P t).elem).size,(ty P (ty P t).elem).size)) (z.map .lit) (u5 σ parts.toList) with
    |some cs=>(u6 σ parts.toList=true/\(ty P (ty P t).elem).kind≠99)/\K (σ.put dst (.agg cs))
    |none=>False
   |_,_=>False):=by rw[OL,ON];unfold aH b8;rfl
def OV(t:TypeId)(len:Nat)(parts:Array (Nat×Operand)):aH P ⟨dst,.buildSlice t len parts,tt,p,af,g⟩ σ K =
  (match (ty P t).kind,(ty P (ty P t).elem).zero with
   |1,some z =>
    match l9 (λi=>some (i*(ty P (ty P t).elem).size,(ty P (ty P t).elem).size)) ((bk len).flatMap λ_=>z.map .lit) (u5 σ parts.toList) with
    |some cs=>((ty P (ty P t).elem).kind≠99/\0<(ty P (ty P t).elem).size/\z.length=(ty P (ty P t).elem).size/\len*(ty P (ty P t).elem).size<=16777216/\u6 σ parts.toList=true) /\
      K (({ σ with aa:=σ.aa++[.arr (ty P (ty P t).elem).size (l' (ty P (ty P t).elem).size len cs)] }:St).put dst (.ref σ.aa.length (ty P (ty P t).elem).size 0 len))
    |none=>False
   |_,_=>False):=by rw[OL,ON];unfold aH b8;rfl
def OW (t:TypeId) (a:Operand):aH P ⟨dst,.load t a,tt,p,af,g⟩ σ K =
    ((ty P t).kind≠99 /\
      match ev σ a with
      | .ptr id r c =>
        match rowOf σ id r with
        | some row=>ma (ty P t) row c λv=>K (σ.put dst v)
        | none=>False
      | .bY cells=>ma (ty P t) cells 0 λv=>K (σ.put dst v)
      | _=>False):=by unfold aH b8;rfl
def OX (t:TypeId) (a x:Operand):aH P ⟨dst,.store t a x,tt,p,af,g⟩ σ K =
    ((ty P t).kind≠99 /\
      match ev σ a with
      | .ptr id r c =>
        match rowOf σ id r with
        | some row=>((cellsOf (ev σ x)).length=(ty P t).size/\c+(ty P t).size<=row.length/\(cellsOf (ev σ x)).all cR=true)/\K ((nX σ id r (setCells row c (cellsOf (ev σ x)))).put dst .undef)
        | none=>False
      | _=>False):=by unfold aH b8;rfl
def OY(op:BinOp)(t:TypeId)(x y:Operand)(yt:TypeId):aH P ⟨dst,.binOp op t x y yt,tt,p,af,g⟩ σ K =
  (match ev σ x,ev σ y with
   |.lit (.int k a),.lit (.int k' b)=>k=k'/\gw op k a b λv=>K (σ.put dst (.lit v))
   |.lit (.bool a),.lit (.bool b) =>
    (ty P t).kind=6 /\
    match op with
    |.eql=>K (σ.put dst (.lit (.bool (a==b))))
    |.neq=>K (σ.put dst (.lit (.bool (a != b))))
    |_=>False
   |.tree _ rows,.lit (.slice none 0 0) =>
    ((ty P t).kind=1/\0<rows.length) /\
    match op with
    |.eql=>K (σ.put dst (.lit (.bool false)))
    |.neq=>K (σ.put dst (.lit (.bool true)))
    |_=>False
   |.lit (.slice a _ _),.lit (.slice none 0 0) =>
    (ty P t).kind=1 /\
    match op with
    |.eql=>K (σ.put dst (.lit (.bool a.isNone)))
    |.neq=>K (σ.put dst (.lit (.bool (!a.isNone))))
    |_=>False
   |.agg cs,.agg ds =>
    match o8 cs,o8 ds with
    |some as,some bs =>
     (u7 P t as.length/\bs.length=as.length/\P.eqGuardType P.depth t=false) /\
     match op with
     |.eql=>K (σ.put dst (.lit (.bool (decide (as=bs)))))
     |.neq=>K (σ.put dst (.lit (.bool (!decide (as=bs)))))
     |_=>False
    |_,_=>False
   |_,_=>False):=by unfold aH b8;rfl
def OZ(op:UnOp)(t:TypeId)(x:Operand):aH P ⟨dst,.unOp op t x,tt,p,af,g⟩ σ K =
  (match op,ev σ x with
   |.not,.lit (.bool b)=>K (σ.put dst (.lit (.bool !b)))
   |.neg,.lit (.int k a)=>tY k a λv=>K (σ.put dst (.lit v))
   |_,_=>False):=by unfold aH b8;rfl
def O0(fn:Fn)(first captured:Array Operand):aH P ⟨dst,.makeFunc fn first captured,tt,p,af,g⟩ σ K =
  (match fn with
   |.func f=>first.size=0/\K (σ.put dst (.fn f (captured.toList.map (ev σ))))
   |_=>False):=by unfold aH b8;rfl
def O1 (t:TypeId) (l c:Operand):aH P ⟨dst,.makeSlice t l c,tt,p,af,g⟩ σ K =
    (match (ty P t).kind,(ty P (ty P t).elem).zero,ev σ l,ev σ c with
      | 1,some z,.lit (.int k n),.lit (.int k' n') =>
        ((ty P (ty P t).elem).kind≠99/\0<(ty P (ty P t).elem).size/\z.length=(ty P (ty P t).elem).size/\n'=n/\0<=n/\n<=1099511627776/\(ty P (ty P t).elem).bytes<=128/\k=k) /\
          K (({ σ with aa:=σ.aa++[.arr (ty P (ty P t).elem).size (aO n.toNat (z.map .lit))] }:St).put dst (.ref σ.aa.length (ty P (ty P t).elem).size 0 n.toNat))/\k'=k'
      | _,_,_,_=>False):=by unfold aH b8;rfl
def O2 (t:TypeId) (x:Operand) (lo hi mx:Option Operand):aH P ⟨dst,.slice t x lo hi mx,tt,p,af,g⟩ σ K =
    ((ty P t).kind=1/\(ty P (ty P t).elem).kind≠99/\mx=none /\
      match ev σ x with
      | .ref id sz off len =>
        match σ.aa[id]? with
        | some (.arr cU rows) =>
          cU=sz/\sz=(ty P (ty P t).elem).size /\
          match lo.map (ev σ),hi.map (ev σ) with
          | none,none=>K (σ.put dst (.ref id sz off len))
          | some (.lit (.int _ l)),none=>(0<=l/\l<=len/\rows.length=rows.length)/\K (σ.put dst (.ref id sz (off+l.toNat) (len - l.toNat)))
          | none,some (.lit (.int _ h))=>(0<=h/\h<=len)/\K (σ.put dst (.ref id sz off h.toNat))
          | some (.lit (.int _ l)),some (.lit (.int _ h))=>(0<=l/\l<=h/\h<=len)/\K (σ.put dst (.ref id sz (off+l.toNat) (h.toNat - l.toNat)))
          | _,_=>False
        | _=>False
      | .tree sz rows =>
          (rows≠[]->sz=(ty P (ty P t).elem).size) /\
          match lo.map (ev σ),hi.map (ev σ) with
          | none,none=>K (σ.put dst (.tree sz rows))
          | some (.lit (.int _ l)),none=>(0<=l/\l<=rows.length)/\K (σ.put dst (.tree sz (rows.drop l.toNat)))
          | none,some (.lit (.int _ h))=>(0<=h/\h<=rows.length)/\K (σ.put dst (.tree sz (rows.take h.toNat)))
          | some (.lit (.int _ l)),some (.lit (.int _ h))=>(0<=l/\l<=h/\h<=rows.length)/\K (σ.put dst (.tree sz ((rows.take h.toNat).drop l.toNat)))
          | _,_=>False
      | _=>False):=by unfold aH b8;rfl
def O3(s:TypeId)(x:Operand)(f:Nat):aH P ⟨dst,.field s x f,tt,p,af,g⟩ σ K =
  (match (ty P s).kind,(ty P s).aL[f]? with
   |3,some (off,t,size) =>
    (ty P t).kind≠99/\size=(ty P t).size /\
    match ev σ x with
    |.agg cs=>if(ty P t).isAgg then off+size<=cs.length/\K (σ.put dst (.agg ((cs.drop off).take size))) else
      match cs[off]? with
      |some v=>K (σ.put dst v)
      |none=>False
    |_=>False
   |_,_=>False):=by unfold aH b8;rfl
def O4(t:TypeId)(r:Option Operand):aH P ⟨dst,.makeMap t r,tt,p,af,g⟩ σ K =
  ((r=none/\(ty P t).kind=8)/\K (({ σ with aa:=σ.aa++[.mp (zg P t) []] }:St).put dst (.c9 σ.aa.length))):=by unfold aH b8;rfl
def O5(t:TypeId)(x i:Operand)(ok:Bool):aH P ⟨dst,.lookup t x i ok,tt,p,af,g⟩ σ K =
  (match keyOf (ev σ i),lE σ (ev σ x),zeroV P (ty P t).elem with
   |some (ag,l),some (_,iJ,L),some z=>(jb P t ag/\iJ=ag/\l.length=j4 ag/\(ty P t).kind=8/\ok=false)/\K (σ.put dst ((kY l L).getD (.lit z)))
   |_,_,_=>False):=by unfold aH b8;rfl
def O6(t:TypeId)(m k x:Operand):aH P ⟨dst,.mapUpdate t m k x,tt,p,af,g⟩ σ K =
  (match keyOf (ev σ k),lE σ (ev σ m) with
   |some (ag,l),some (id,iJ,L)=>(jb P t ag/\iJ=ag/\l.length=j4 ag)/\K (({ σ with aa:=σ.aa.set id (.mp ag (eB l (ev σ x) L)) }:St).put dst .undef)
   |_,_=>False):=by unfold aH b8;rfl
def O7(t:TypeId)(m k:Operand):aH P ⟨dst,.mapEntry t m k,tt,p,af,g⟩ σ K =
  (match keyOf (ev σ k),lE σ (ev σ m),zeroV P (ty P t).elem with
   |some (ag,l),some (id,iJ,L),some z=>(jb P t ag/\iJ=ag/\l.length=j4 ag/\(ty P t).kind=8) /\
    K (({ σ with aa:=σ.aa.set id (.mp ag (eB l ((kY l L).getD (.lit z)) L)) }:St).put dst (.bu [(kY l L).getD (.lit z),Oi (A3 l L:Nat)]))
   |_,_,_=>False):=by unfold aH b8;rfl
def O8(t:TypeId)(m s x:Operand):aH P ⟨dst,.entryStore t m s x,tt,p,af,g⟩ σ K =
  (match ev σ s,lE σ (ev σ m) with
   |.lit (.int .i64 n),some (id,ag,L)=>(0<=n/\n<L.length)/\K (({ σ with aa:=σ.aa.set id (.mp ag (qf n.toNat (ev σ x) L)) }:St).put dst .undef)
   |_,_=>False):=by unfold aH b8;rfl
def O9(t:TypeId)(x i:Operand):aH P ⟨dst,.index t x i,tt,p,af,g⟩ σ K =
  (match ev σ x,ev σ i with
   |.lit (.string s),.lit (.int _ n)=>(P.underlying t=some .string/\0<=n/\n<s.size)/\K (σ.put dst (.lit (.int .u8 (I8 s n.toNat))))
   |_,_=>False):=by unfold aH b8;rfl
def O'(t:TypeId)(x:Operand):aH P ⟨dst,.makeInterface t x,tt,p,af,g⟩ σ K =
  (zh P t=false/\K (σ.put dst (.hZ t (ev σ x)))):=by unfold aH b8;rfl
def Pa(x:Operand)(xt asserted:TypeId)(ok:Bool):aH P ⟨dst,.typeAssert x xt asserted ok,tt,p,af,g⟩ σ K =
  (match ev σ x with
   |.hZ t v=>(zh P asserted=false/\t=asserted/\ok=false)/\K (σ.put dst v)
   |_=>False):=by unfold aH b8;rfl
def Pb(x:Operand)(i:Nat):aH P ⟨dst,.extract x i,tt,p,af,g⟩ σ K =
  (match ev σ x with
   |.bu vs =>
    match vs[i]? with
    |some v=>K (σ.put dst v)
    |none=>False
   |_=>False):=by unfold aH b8;rfl
def Pd(args:Array Operand)(argTypes:Array TypeId):aH P ⟨dst,.call ⟨.builtin .len,args,argTypes⟩,tt,p,af,g⟩ σ K =
  (match args.toList,argTypes.toList with
   |[x],[t] =>
    match ev σ x with
    |.ref id sz _ len =>
     (ty P t).kind=1 /\
     match σ.aa[id]? with
     |some (.arr cU _)=>cU=sz/\K (σ.put dst (Oi len))
     |_=>False
    |.tree _ rows=>(ty P t).kind=1/\K (σ.put dst (Oi rows.length))
    |.lit (.slice none 0 0)=>(ty P t).kind=1/\K (σ.put dst (Oi 0))
    |.c9 id =>
     (ty P t).kind=8 /\
     match σ.aa[id]? with
     |some (.mp _ L)=>K (σ.put dst (Oi L.length))
     |_=>False
    |_=>False
   |_,_=>False):=by unfold aH b8;rfl
def Pe(args:Array Operand)(argTypes:Array TypeId):aH P ⟨dst,.call ⟨.builtin .append,args,argTypes⟩,tt,p,af,g⟩ σ K =
  (match args.toList,argTypes.toList with
   |[s,x],[t,t'] =>
    match (ty P t).kind,(ty P (ty P t).elem).zero,kZ σ (ty P (ty P t).elem).size (ev σ s),nC σ (ev σ x) with
    |1,some z,some (pre,σ1),some (sz,src) =>
     (t'=t/\(ty P (ty P t).elem).kind≠99/\sz=(ty P (ty P t).elem).size/\0<sz/\z.length=sz/\pre.length+src.length<=549755813888/\(ty P (ty P t).elem).bytes<=128/\(src.all λrow=>row.all cR)=true) /\
      K (({ σ1 with aa:=σ1.aa++[.arr sz (pre++src)] }:St).put dst (.ref σ1.aa.length sz 0 (pre.length+src.length)))
    |_,_,_,_=>False
   |_,_=>False):=by unfold aH b8;rfl
def Pf(args:Array Operand)(argTypes:Array TypeId):aH P ⟨dst,.call ⟨.builtin .min,args,argTypes⟩,tt,p,af,g⟩ σ K =
  (match args.toList with
   |[x,y] =>
    match ev σ x,ev σ y with
    |.lit (.int k a),.lit (.int k' b)=>k=k'/\K (σ.put dst (.lit (.int k (min a b))))
    |_,_=>False
   |_=>False):=by unfold aH b8;rfl
def Pg(args:Array Operand)(argTypes:Array TypeId):aH P ⟨dst,.call ⟨.builtin .max,args,argTypes⟩,tt,p,af,g⟩ σ K =
  (match args.toList with
   |[x,y] =>
    match ev σ x,ev σ y with
    |.lit (.int k a),.lit (.int k' b)=>k=k'/\K (σ.put dst (.lit (.int k (max a b))))
    |_,_=>False
   |_=>False):=by unfold aH b8;rfl
def Ph (args:Array Operand) (argTypes:Array TypeId):aH P ⟨dst,.call ⟨.builtin .copy,args,argTypes⟩,tt,p,af,g⟩ σ K =
    (match args.toList,argTypes.toList with
      | [s,x],[t,_] =>
        match ev σ s,nC σ (ev σ x) with
        | .ref id sz off len,some (cU,src) =>
          match σ.aa[id]? with
          | some (.arr kE rows) =>
            ((ty P t).kind=1/\(ty P (ty P t).elem).kind≠99/\cU=sz/\kE=sz/\sz=(ty P (ty P t).elem).size/\0<sz/\(src.all λrow=>row.all cR)=true) /\
              K (({ σ with aa:=σ.aa.set id (.arr sz (rows.take off++src.take (min src.length len)++rows.drop (off+min src.length len))) }:St).put dst (Oi (min src.length len:Nat)))
          | _=>False
        | _,_=>False
      | _,_=>False):=by unfold aH b8;rfl
def Pj (args:Array Operand) (argTypes:Array TypeId):aH P ⟨dst,.call ⟨.builtin .clear,args,argTypes⟩,tt,p,af,g⟩ σ K =
    (match args.toList,argTypes.toList with
      | [s],[t] =>
        match ev σ s,(ty P (ty P t).elem).zero with
        | .ref id sz off len,some z =>
          match σ.aa[id]? with
          | some (.arr cU rows) =>
            ((ty P t).kind=1/\(ty P (ty P t).elem).kind≠99/\cU=sz/\z.length=sz/\0<sz/\(z.all λu=>u.oneCell')=true) /\
              K (({ σ with aa:=σ.aa.set id (.arr sz (rows.take off++aO len (z.map AV.lit)++rows.drop (off+len))) }:St).put dst (.lit (.tuple #[])))
          | _=>False
        | _,_=>False
      | _,_=>False):=by unfold aH b8;rfl
def Pk(s d:TypeId)(x:Operand):aH P ⟨dst,.convert s d x,tt,p,af,g⟩ σ K =
  (match P.underlying d,ev σ x with
   |some (.int k),.lit (.int _ n)=>(P.underlying s).isSome=true/\K (σ.put dst (.lit (.int k (k.wrap n))))
   |_,_=>False):=by unfold aH b8;rfl
end Go.Am
namespace Go.Am
variable {P:Program} {N n0:Nat} {σ:St} {Q:Exit->St->Prop}
def u9(aj:List Nat)(snap:Bool){v res:AV}{ba:List Ob}(bx:aj.Nodup)(ho:pd (bC σ.aa.length aj) σ.aa aj ba)(hn:n0<=aj.length)(b9:∀ i,i<n0->aj.getD i 0=i)(h:bT σ (kept aj ba) (bC σ.aa.length aj) snap res v):nD n0 σ v res ba:=by
 obtain⟨h1,h2,h3⟩:=ho.spec;exact⟨aj,snap,bx,h1,h2,h3,hn,b9,h⟩
def dX{e:Nat->AV}{os:List Ob}{v res:AV}{ba:List Ob}(ho:os=ba)(hn:n0<=ba.length)(h:v=res):nD n0 ⟨e,os⟩ v res ba:=by
 subst ho;subst h
 let σ:St:=⟨e,os⟩
 show nD n0 σ v v σ.aa;have hn:n0<=σ.aa.length:=hn;refine⟨bk σ.aa.length,false,List.nodup_range,IM,λj o hj=>.inr ?_,IM,by simpa using hn,λi hi=>?_,?_⟩
 ·have aS:=(aR.1 hj).1;rw[xQ,CP];simpa [ax,pX aS] using hj
 ·have:i<σ.aa.length:=AT;simp[ax,pX this]
 ·exact .eq (by rw[xQ,xR])
end Go.Am
namespace Go.Am
variable {P:Program} {N n0:Nat} {σ:St} {Q:Exit->St->Prop}
def qg{aj:List Nat}{co:List Ob}{id:Nat}(h:id ∉ aj):¬ kept aj co id:=by
 rintro⟨j,hj,he,_⟩;apply h;rw[<- he,ax,bq hj];exact List.getElem_mem hj
def xS(ρ:Nat->Nat)(os:List Ob):List Nat->List Ob->Prop
 |[],[]=>True
 |i::aj,o::co=>os[i]?=some (bM ρ o)/\xS ρ os aj co
 |_,_=>False
def xS.spec{ρ:Nat->Nat}{os:List Ob}:∀ {aj:List Nat} {co:List Ob},xS ρ os aj co->co.length=aj.length/\∀ (j:Nat) o,co[j]?=some o->os[aj.getD j 0]?=some (bM ρ o)
 |[],[],_=>⟨rfl,IM⟩
 |i::aj,o::co,h=>by
  obtain⟨h1,h3⟩:=h;obtain⟨a,b⟩:=xS.spec h3;refine⟨by simp[a],λj o' hj=>?_⟩;cases j with
  |zero=>simp at hj;subst hj;simpa using h1
  |succ j=>simpa using b j o' (by simpa using hj)
def mf(R:AV->AV->Prop):List AV->List AV->Prop
 |[],[]=>True
 |c::cs,d::ds=>R c d/\mf R cs ds
 |_,_=>False
def mf.spec{R:AV->AV->Prop}:∀ {cs ds:List AV},mf R cs ds->cs.length=ds.length/\∀ (j:Nat) c d,cs[j]?=some c->ds[j]?=some d->R c d
 |[],[],_=>⟨rfl,IM⟩
 |c::cs,d::ds,h=>by
  obtain⟨a,b⟩:=mf.spec h.2;refine⟨by simp[a],λj c' d' hc hd=>?_⟩;cases j with
  |zero=>simp at hc hd;subst hc;subst hd;exact h.1
  |succ j=>exact b j c' d' (by simpa using hc) (by simpa using hd)
def jc(aj:List Nat){f:FuncId}{args eN:List AV}{bU:List Ob}{dst:Option Tmp}{K:St->Prop}{res:AV}{cV:List Ob}(h:Holds P f eN bU res cV)(bx:aj.Nodup)(ho:xS (bC σ.aa.length aj) σ.aa aj bU)(ha:mf (bT σ (·∈aj) (bC σ.aa.length aj) false) eN args)(hK:K (({ σ with aa:=gf σ.aa aj (cV.map (bM (bC σ.aa.length aj))) }:St).put dst (bj (bC σ.aa.length aj) res))):tX P f args dst K σ:=by
 obtain⟨h1,h2⟩:=ho.spec;obtain⟨h3,h4⟩:=ha.spec;exact⟨aj,false,eN,bU,res,cV,h,⟨bx,h1,h2,h3,h4,IM⟩,hK⟩
def rj(aj:List Nat){f:FuncId}{args eN:List AV}{bU:List Ob}{dst:Option Tmp}{K:St->Prop}{res:AV}{cV:List Ob}(h:Holds P f eN bU res cV)(bx:aj.Nodup)(ho:xS (bC σ.aa.length aj) σ.aa aj bU)(ha:mf (bT σ (·∈aj) (bC σ.aa.length aj) true) eN args)(hf:flat res=true)(zi:∀ o∈cV,A4 o)(hK:K (({ σ with aa:=gf σ.aa aj (cV.map (bM (bC σ.aa.length aj))) }:St).put dst (bj (bC σ.aa.length aj) res))):tX P f args dst K σ:=by
 obtain⟨h1,h2⟩:=ho.spec;obtain⟨h3,h4⟩:=ha.spec;exact⟨aj,true,eN,bU,res,cV,h,⟨bx,h1,h2,h3,h4,λ_=>⟨hf,zi⟩⟩,hK⟩
def Pl{ρ:Nat->Nat}(cs:List AV):bM ρ (.var cs)=.var (cs.map (bj ρ)):=by simp only[bM]
def Pm{ρ:Nat->Nat}:bM ρ .gone=.gone:=by simp only[bM]
def Pn:bk 1=[0]:=IP
def Po:bk 2=[0,1]:=IP
def Pp:bk 3=[0,1,2]:=IP
def Pq(xs:List Int):(ints xs).take xs.length=ints xs:=by rw[cZ (by simp[ints])]
def Ps(xs:List Bool):(a8 xs).take xs.length=a8 xs:=by rw[cZ (by simp[a8])]
def Pt(xs:List (List Int)):(eW xs).take xs.length=eW xs:=by rw[cZ (by simp[eW])]
def sv{y:Code}{Q0 Q1:Exit->St->Prop}{G:Prop}(S0:St)(hn:∀ s,W P N n0 y Q0 s->Q1 .normal s)(hm:W P N n0 y Q0 S0)(h:(∀ s,aF n0 s S0->Q1 .normal s)->G):G :=
 h λs ht=>hn s (cd ht hm)
end Go.Am
namespace Go.Am
variable {P:Program} {N n0:Nat} {σ:St} {Q:Exit->St->Prop}
def Pu(P:Program)(ops:Array Oper)(Q:Exit->Act->World->Prop)(js:List Nat):Exit->Act->World->Prop
 |.normal,a,w=>wpOps P ops Q js a w
 |e,a,w=>Q e a w
def Oper.ach{o:Oper}{a:Act}{w:World}{K:Act->World->Prop}{Q Q':Exit->Act->World->Prop}(hq:∀ e a w,e≠.normal->Q e a w->Q' e a w)(hl:LetsOut Q->LetsOut Q')(hh:o.wp P a w K Q):o.wp P a w K Q':=by
 unfold Oper.wp at *;generalize (execOp a.eval o).run P w=r at *;cases r with
 |ok n w' =>
  cases n<;>simp only[Oper.upon]at hh⊢<;>
   first
    |exact hh
    |exact Calls.mono hh (λe w'' he=>by
      cases e with
      |returned v=>exact he
      |panicked c=>exact hq _ _ _ IM he
      |outgrown=>exact hl he)
 |halt x w'=>cases x<;>simp only[Oper.upon]at hh ⊢<;>first|exact hh|exact hq _ _ _ IM hh
def A5{ops:Array Oper}{Q:Exit->Act->World->Prop}{js:List Nat}:∀ (is:List Nat) (a:Act) (w:World),wpOps P ops (Pu P ops Q js) is a w->wpOps P ops Q (is++js) a w
 |[],a,w,h=>h
 |i::is,a,w,h=>by
  rw[ek,wpOps_cons];rw[wpOps_cons]at h;have hl:LetsOut (Pu P ops Q js)->LetsOut Q:=λh=>h;unfold wpOp at h ⊢;cases ho:ops[i]? with
  |none=>simp only[ho]at h ⊢;exact A5 is a w h
  |some o =>
   simp only[ho]at h ⊢;by_cases hw:Region.wanted o (yielded ops a.tmps)=true
   ·rw[if_pos hw]at h ⊢;rcases h with h|⟨h1,h2⟩
    ·left;exact Oper.ach (λe a w he hq=>by cases e<;>first|exact absurd rfl he|exact hq) hl (Oper.wp_mono (λa w=>A5 is a w) h)
    ·exact .inr ⟨h1,hl h2⟩
   ·rw[if_neg hw]at h ⊢;exact A5 is _ w h
def vb{N:Nat}{os:List Ob}{γ0:Cx}{ops:Array Oper}(hd:∀ o∈ops.toList,∀ d,o.dst=some d->d<N){K:St->Prop}{Q:Exit->Act->World->Prop}(hQ:∀ σ' a' w',K σ'->h9 N os γ0 σ' a' w'->Q .normal a' w'):∀ (l:List Oper) (i:Nat) (σ:St) (a:Act) (w:World),(∀ k,k<l.length->ops[i+k]?=l[k]?)->opsL P ops l K σ->h9 N os γ0 σ a w ->
   wpOps P ops Q (nr i l.length) a w
 |[],i,σ,a,w,_,h,aA=>by simpa [wpOps] using hQ _ _ _ h aA
 |o::r,i,σ,a,w,hl,h,aA=>by
  have hi:ops[i]?=some o:=by simpa using hl 0 IM
  have hr:∀ k,k<r.length->ops[i+1+k]?=r[k]?:=λk hk=>by
   have:=hl (k+1) (by simpa using hk);rw[show i+1+k=i+(k+1) by omega,this];simp
  have cq:o∈ops.toList:=List.mem_of_getElem? (by simpa using hi);rw[cX,List.range'_succ,wpOps_cons];unfold wpOp;simp only[hi];unfold opsL at h;cases hg:o.guard with
  |none =>
   simp only[hg]at h;have hw:Region.wanted o (yielded ops a.tmps)=true:=by simp[Region.wanted,hg]
   rw[if_pos hw];left;exact xT h aA (hd o cq) (λσ' a' w' hK dj=>vb hd hQ r (i+1) σ' a' w' hr hK dj)
  |some jw =>
   obtain⟨j,want⟩:=jw;simp only[hg]at h;cases dO:(ops[j]?).bind (·.dst) with
   |none=>simp[dO]at h
   |some d =>
    simp only[dO]at h;split at h
    ·rename_i b he;obtain⟨gH,aJ,γ,rfl,ha,hs,hf⟩:=aA;have jd:=hs.ao d;rw[he,ha]at jd;have hv:=jd.cD;have hy:yielded ops a.tmps j=some b:=by
      unfold yielded;rw[dO];have:a.tmps[d]?=some (.bool b):=by
       rw[eA]at hv;cases hx:a.tmps[d]? with
       |none=>rw[hx]at hv;simp[Go.undef]at hv
       |some y=>rw[hx]at hv;simp at hv;rw[hv]
      simp[this]
     by_cases gj:b=want
     ·have hw:Region.wanted o (yielded ops a.tmps)=true:=by simp[Region.wanted,hg,hy,gj]
      rw[if_pos hw];left;exact xT (h.1 gj) ⟨gH,aJ,γ,rfl,ha,hs,hf⟩ (hd o cq) (λσ' a' w' hK dj=>vb hd hQ r (i+1) σ' a' w' hr hK dj)
     ·have hw:Region.wanted o (yielded ops a.tmps)=false:=by simp[Region.wanted,hg,hy,gj]
      rw[if_neg (by rw[hw];simp)];refine vb hd hQ r (i+1) _ _ _ hr (h.2 gj) ⟨by rw[put_defers];exact gH,by rw[tZ];exact aJ,{ γ with tmps:=(a.put o.dst Go.undef).tmps },rfl,rfl,rm hs ha (λd h=>by rw[aJ];exact hd o cq d h) (.lit _),?_⟩;rw[qh];exact hf.put _
    ·rename_i vs he;obtain⟨gH,aJ,γ,rfl,ha,hs,hf⟩:=aA;have jd:=hs.ao d;rw[he,ha]at jd;have hv:=jd.cD;have hy:yielded ops a.tmps j=none:=by
      unfold yielded;rw[dO];rw[eA]at hv;cases hx:a.tmps[d]? with
      |none=>simp[hx]
      |some y=>rw[hx]at hv;simp at hv;subst hv;simp[hx]
     have hw:Region.wanted o (yielded ops a.tmps)=false:=by simp[Region.wanted,hg,hy]
     rw[if_neg (by rw[hw];simp)];refine vb hd hQ r (i+1) _ _ _ hr h.2 ⟨by rw[put_defers];exact gH,by rw[tZ];exact aJ,{ γ with tmps:=(a.put o.dst Go.undef).tmps },rfl,rfl,rm hs ha (λd h=>by rw[aJ];exact hd o cq d h) (.lit _),?_⟩;rw[qh];exact hf.put _
    ·exact h.elim
def aci{os:List Ob}{γ0:Cx}{ops:Array Oper}(hd:∀ o∈ops.toList,∀ d,o.dst=some d->d<N){K K1:St->Prop}{Q:Exit->Act->World->Prop}(hn:os.length=n0)(hQ:∀ σ' a' w',K σ'->h9 N os γ0 σ' a' w'->Q .normal a' w')(n:Nat)(hK:∀ s,K1 s->∃ s1,aF n0 s s1/\opsL P ops (ops.toList.drop n) K s1)(σ:St)(a:Act)(w:World)(h:opsL P ops (ops.toList.take n) K1 σ)(aA:h9 N os γ0 σ a w):wpOps P ops Q (bk ops.size) a w:=by
 have e:bk ops.size=nr 0 (ops.toList.take n).length++nr (ops.toList.take n).length (ops.toList.drop n).length:=by
  rw[List.range_eq_range'];have:=List.range'_append (s:=0) (m:=(ops.toList.take n).length) (n:=(ops.toList.drop n).length) (step:=1);simp only[fc,xH]at this;rw[this];congr 1;rw[<- bL,List.take_append_drop];simp
 rw[e];refine A5 _ a w ?_;refine vb hd (K:=K1) (λσ' a' w' hk dj=>?_) (ops.toList.take n) 0 σ a w (λk hk=>?_) h aA
 ·obtain⟨s1,ht,ho⟩:=hK σ' hk;obtain⟨h1,h2,γ,rfl,h3,h4,h5⟩:=dj;obtain⟨az,e1,e2,e3,e4⟩:=ht os γ0 γ hn h4 h5;refine vb hd hQ (ops.toList.drop n) _ s1 a' γ.w (λk hk=>?_) ho ⟨h1,h2,az,e1,e2.trans h3,e3,e4⟩;rw[List.getElem?_drop];simp only[List.length_drop,tN]at hk;rw[fe,tN,Nat.min_eq_left AT];simp
 ·simp only[fe,tN]at hk;rw[List.getElem?_take_of_lt AT];simp
end Go.Am
namespace Go.Am
variable {σ:St}
def pf(R:AV->AV->Prop):List (List AV)->List (List AV)->Prop
 |[],[]=>True
 |c::cs,d::ds=>mf R c d/\pf R cs ds
 |_,_=>False
def pf.spec{R:AV->AV->Prop}:∀ {cs ds:List (List AV)},pf R cs ds->cs.length=ds.length/\∀ (r c:Nat) v,cellAt cs r c=some v->cellAt ds r c=some ((cellAt ds r c).getD .undef)/\R v ((cellAt ds r c).getD .undef)
 |[],[],_=>⟨rfl,by simp[cellAt]⟩
 |c::cs,d::ds,h=>by
  obtain⟨a,b⟩:=pf.spec h.2;refine⟨by simp[a],λr j v hv=>?_⟩;cases r with
  |zero =>
   simp only[cellAt,uW,r8]at hv ⊢;obtain⟨e1,e2⟩:=h.1.spec;have hj:j<d.length:=by rw[<- e1];exact(aR.1 hv).1
   rw[bq hj];exact⟨rfl,e2 j v _ hv (bq hj)⟩
  |succ r =>
   have:=b r j v (by simpa [cellAt] using hv);simpa [cellAt] using this
def dF.mk{kp:Nat->Prop}{id sz len:Nat}{rows gx:List (List AV)}(ho:σ.aa[id]?=some (.arr sz rows))(hl:len=rows.length)(sw:¬ kp id)(hw:∀ row∈gx,row.length=sz)(h:pf (dF σ kp) gx rows):dF σ kp (.tree sz gx) (.ref id sz 0 len):=by
 obtain⟨a,b⟩:=h.spec;subst hl;refine .ref id sz 0 rows.length rows gx (λr c=>(cellAt rows r c).getD .undef) ho sw (by simp[a]) hw (λr c v hv=>?_) (λr c v hv=>?_)
 ·simpa using(b r c v hv).1
 ·exact(b r c v hv).2
end Go.Am
namespace Go.Am
def sF:=aah @E8 @E9 @E' @N2.{0} @N3.{0} @N4 @AP (aah @oW @AQ @xI @iZ @if_false.{1} @if_true.{1} @iv.{0} (Oj @fq.{0} @II.{0}))
def Bc:=aah @E8 @E9 @E' @N2.{0} @N3.{0} @N4 @AP (aah @oW @AQ @xI @iZ @if_false.{1} @if_true.{1} @iv.{0} (aah @fq.{0} @II.{0} @CB.{0} @Array.size_empty.{0} @Pv @Px @eq_self.{1} (aah @Py @Pz @OF @OG @OH @OI @OP (aah @OQ @OR @OS @OT @OU @OV @OW (aah @OX @OY @OZ @O0 @O1 @O2 @O3 (aah @Pb @Pd @Pe @Pf @Pg @Ph @Pj (aah @Pk @PA @OK @OO @OD @OE @true_and (aah @and_true @and_self @fP.{0,0} @ns.{0,0} @ek.{0} @gv.{0} @q7.{0} (aah @ite_true.{1} @ite_false.{1} @Bool.true_eq_false @ne_eq.{1} @not_true_eq_false @not_false_eq_true @false_implies (aah @true_implies @implies_true.{1} @r8.{0,0} @Option.bind_none.{0,0} @uW.{0} @r9.{0} @IJ.{0} (aah @cX.{0} @kx.{0} @fc @iw @decide_true @decide_false @CA.{0} (aah @List.all_nil.{0} @ET @iy @Int.toNat_zero @kU @mH @cond_true.{1} (aah @cond_false.{1} @PD @PE @PG @PH @PI @PJ (aah @PL @PN @lF @lG @cY @Pn @Po (aah @Pp @Pq @Ps @Pt @EU @Nat.mul_one @xH (aah @Pl @Pm @Fa @A6 @I9 @gF.{0,0} @y0.{0} (aah @List.drop_succ_cons.{0} @List.take_succ_cons.{0} @lZ.{0} @oX.{0} @oY.{0} @beq_self_eq_true.{0} @xJ.{0,0} (aah @N5.{0,0} @List.getElem?_nil.{0} @bL.{0} @bw.{0} @nt.{0} @vc @zj (aah @Fb @PO @PQ @PR @PS @PU @I' (aah @ints_set @wy @PV @xU @PW @CQ @Ja (Ot @A7 @Fc @PX @PY)))))))))))))))))))))
def gI:=aah @eq_self.{1} @decide_eq_true_eq @decide_eq_false_iff_not @kz @Bool.not_eq_false' @beq_iff_eq.{0} @beq_eq_false_iff_ne.{0} (aah @bne_iff_ne.{0} @bne_eq_false_iff_eq.{0} @ne_eq.{1} @Decidable.not_not @Int.not_lt @Int.not_le @not_true_eq_false (aah @not_false_eq_true @l7 @bg @Bool.or_eq_false_iff @Bool.and_eq_false_iff @gt_iff_lt.{0} @ge_iff_le.{0} (aah @Int.ofNat_lt @Int.ofNat_le @N6 @Nat.not_lt @Nat.not_le @vc @zj (Oo @Fb @cond_true.{1} @cond_false.{1}))))
end Go.Am

