import Derived.Test.YtodilglobhifaaaGreatDoorX05
set_option linter.all false
set_option maxHeartbeats 0
set_option maxRecDepth 20000
open List renaming range→bp,replicate→aD,getElem?_eq_some_iff→aN,getD_eq_getElem?_getD→ax,getElem?_range→pQ,getElem?_eq_getElem→aT,take_of_length_le→fD,range'→jN,length_take→fE
open Array renaming getD_eq_getD_getElem?→dJ,length_toList→oV
namespace Go.Am
variable {P:Program} {dst:Option Tmp} {tt:TypeId} {p:String} {af:Array Edge} {g:Option (Nat×Bool)} {σ:St} {K:St->Prop}
def mY:Option Ob->Prop
 |some (.var _)=>True
 |some (.arr _ _)=>True
 |some (.mp _ _)=>True
 |_=>False
def Nq(a:Nat)(L:List (List Int×AV)):mY (some (.mp a L))=True:=by simp only[mY]
def Oe(c:List AV):mY (some (.var c))=True:=by simp only[mY]
def Of(s:Nat)(c:List (List AV)):mY (some (.arr s c))=True:=by simp only[mY]
def xo(σ:St)(dst:Option Tmp)(K:St->Prop):AV->Prop
 |.ptr id r c=>mY σ.aa[id]?/\K (σ.put dst (.ptr id r c))
 |.bU cells=>K (σ.put dst (.bU cells))
 |_=>False
def NI(x:Operand):aG P ⟨dst,.nilCheck x,tt,p,af,g⟩ σ K=xo σ dst K (ev σ x):=by
 simp only[aG,bM];cases ev σ x<;>simp only[xo];rename_i id r c;cases h:σ.aa[id]? with
 |none=>simp[mY]
 |some o=>cases o<;>simp[mY]
def xp(σ:St)(dst:Option Tmp)(K:St->Prop)(off:Nat):AV->Prop
 |.ptr id r c=>mY σ.aa[id]?/\K (σ.put dst (.ptr id r (c+off)))
 |.bU cells=>K (σ.put dst (.bU (cells.drop off)))
 |_=>False
def ur(σ:St)(dst:Option Tmp)(K:St->Prop)(v:AV)(kind:Nat):Option (Nat×Nat×Nat)->Prop
 |some (off,_,size)=>kind=3/\0<size/\xp σ dst K off v
 |none=>False
def NJ(s:TypeId)(x:Operand)(f:Nat):aG P ⟨dst,.fieldAddr s x f,tt,p,af,g⟩ σ K=ur σ dst K (ev σ x) (ty P s).kind (ty P s).aJ[f]?:=by
 simp only[aG,bM];split
 ·rename_i off ft size hk hf;rw[hk,hf];simp only[ur,true_and];cases ev σ x<;>simp only[xp];rename_i id r c;cases h:σ.aa[id]? with
  |none=>simp[mY]
  |some o=>cases o<;>simp[mY]
 ·rename_i cC;cases hf:(ty P s).aJ[f]? with
  |none=>simp[ur]
  |some q =>
   obtain⟨off,ft,size⟩:=q;simp only[ur];have:(ty P s).kind≠3:=λe=>cC off ft size e hf;simp[this]
def mG(t:Ty)(e:Ty)(σ:St)(dst:Option Tmp)(K:St->Prop):AV->AV->Prop
 |.ref id sz off len,.lit (.int _ n) =>
  t.kind=1 /\
  match σ.aa[id]? with
  |some (.arr cg _)=>(cg=sz/\sz=e.size/\e.kind≠99/\0<=n/\n<len)/\K (σ.put dst (.ptr id (off+n.toNat) 0))
  |_=>False
 |.tree sz rows,.lit (.int _ n)=>t.kind=1/\(sz=e.size/\e.kind≠99/\0<=n/\n<rows.length)/\K (σ.put dst (.bU (rows.getD n.toNat [])))
 |.ptr id r c,.lit (.int _ n)=>t.kind=2/\mY σ.aa[id]?/\(e.kind≠99/\0<=n/\n<t.len)/\K (σ.put dst (.ptr id r (c+n.toNat*e.size)))
 |.bU cells,.lit (.int _ n)=>t.kind=2/\(e.kind≠99/\0<=n/\n<t.len)/\K (σ.put dst (.bU (cells.drop (n.toNat*e.size))))
 |_,_=>False
def NK(t:TypeId)(x i:Operand):aG P ⟨dst,.indexAddr t x i,tt,p,af,g⟩ σ K=mG (ty P t) (ty P (ty P t).elem) σ dst K (ev σ x) (ev σ i):=by
 simp only[aG,bM];split
 ·rename_i id sz off len k n hk hx hi;rw[hx,hi];simp only[mG,hk,true_and];cases σ.aa[id]? with
  |none=>rfl
  |some o=>cases o<;>rfl
 ·rename_i sz rows k n hk hx hi;rw[hx,hi];simp only[mG,hk,true_and]
 ·rename_i id r c k n hk hx hi;rw[hx,hi];simp only[mG,hk,true_and];cases h:σ.aa[id]? with
  |none=>simp[mY]
  |some o=>cases o<;>simp[mY]
 ·rename_i cells k n hk hx hi;rw[hx,hi];simp only[mG,hk,true_and]
 ·rename_i h1 h2 h3 h4;unfold mG;split
  ·rename_i id sz off len k n hx hi;simp only[eq_iff_iff,false_iff];rintro⟨hk,_⟩;exact h1 id sz off len k n hk hx hi
  ·rename_i sz rows k n hx hi;simp only[eq_iff_iff,false_iff];rintro⟨hk,_⟩;exact h2 sz rows k n hk hx hi
  ·rename_i id r c k n hx hi;simp only[eq_iff_iff,false_iff];rintro⟨hk,_⟩;exact h3 id r c k n hk hx hi
  ·rename_i cells k n hx hi;simp only[eq_iff_iff,false_iff];rintro⟨hk,_⟩;exact h4 cells k n hk hx hi
  ·rfl
def Fv(P:Program)(dst:Option Tmp)(args:List AV)(K:St->Prop)(σ:St):AV->Prop
 |.fn g bg=>p7 P g (args++bg) dst K σ
 |_=>False
def NL(f:Operand)(args:Array Operand)(dv:Array TypeId):aG P ⟨dst,.call ⟨.value f,args,dv⟩,tt,p,af,g⟩ σ K=Fv P dst (args.toList.map (ev σ)) K σ (ev σ f):=by
 simp only[aG];cases ev σ f<;>rfl
def Fz(P:Program)(dst:Option Tmp)(args:List AV)(K:St->Prop)(σ:St)(m:String):AV->Prop
 |.fI t v=>mR P σ v (λg x=>p7 P g (x::args) dst K σ) (Co P t m)
 |_=>False
def Nf(r:Operand)(m:String)(args:Array Operand)(dv:Array TypeId):aG P ⟨dst,.call ⟨.invoke r m,args,dv⟩,tt,p,af,g⟩ σ K=Fz P dst (args.toList.map (ev σ)) K σ m (ev σ r):=by
 simp only[aG];cases ev σ r<;>rfl
def Fw(P:Program)(dst:Option Tmp)(args:List AV)(K:St->Prop)(σ:St):AV->Prop
 |.fn g bg=>FQ P g (args++bg) dst K σ
 |_=>False
def Oa(f:Operand)(args:Array Operand)(dv:Array TypeId):lq true P ⟨dst,.call ⟨.value f,args,dv⟩,tt,p,af,g⟩ σ K=Fw P dst (args.toList.map (ev σ)) K σ (ev σ f):=by
 simp only[lq];cases ev σ f<;>rfl
def rm(σ:St):List (Nat×Operand)->List (Nat×AV)
 |[]=>[]
 |q::l=>(q.1,ev σ q.2)::rm σ l
def rn(σ:St):List (Nat×Operand)->Bool
 |[]=>true
 |q::l=>(cellsOf (ev σ q.2)).all ca&&rn σ l
def OU(σ:St)(l:List (Nat×Operand)):rm σ l=l.map λq=>(q.1,ev σ q.2):=by
 induction l with
 |nil=>rfl
 |cons q l ih=>simp only[rm,ih,List.map_cons]
def OV(σ:St)(l:List (Nat×Operand)):rn σ l=l.all λq=>(cellsOf (ev σ q.2)).all ca:=by
 induction l with
 |nil=>rfl
 |cons q l ih=>simp only[rn,ih,List.all_cons]
def Od(o:Oper):lq false P o σ K=aG P o σ K:=by simp only[lq]
def NM(x:Operand):aG P ⟨dst,.move x,tt,p,af,g⟩ σ K =
  (K (σ.put dst (ev σ x))):=by unfold aG bM;rfl
def NN(x:Operand):aG P ⟨dst,.assign x,tt,p,af,g⟩ σ K =
  (K (σ.put dst (ev σ x))):=by unfold aG bM;rfl
def NO(c a b:Operand):aG P ⟨dst,.pick c a b,tt,p,af,g⟩ σ K =
  (match ev σ c with
   |.lit (.bool t)=>K (σ.put dst (eG t (ev σ a) (ev σ b)))
   |_=>False):=by unfold aG bM;rfl
def NP (e:TypeId):aG P ⟨dst,.alloc e,tt,p,af,g⟩ σ K =
    ((ty P e).kind≠99 /\
      match (ty P e).zero with
      | some z=>K (({ σ with aa:=σ.aa++[.var (z.map .lit)] }:St).put dst (.ptr σ.aa.length 0 0))
      | none=>False):=by unfold aG bM;rfl
def NQ(e:TypeId)(x:Operand):aG P ⟨dst,.box e x,tt,p,af,g⟩ σ K =
  ((cellsOf (ev σ x)).all ca=true/\K (({ σ with aa:=σ.aa++[.var (cellsOf (ev σ x))] }:St).put dst (.ptr σ.aa.length 0 0))):=by unfold aG bM;rfl
def NR(t:TypeId)(parts:Array (Nat×Operand)):aG P ⟨dst,.build t parts,tt,p,af,g⟩ σ K =
  (match (ty P t).kind,(ty P t).zero with
   |3,some z =>
    match kh (λi=>((ty P t).aJ[i]?).map λf=>(f.1,f.2.2)) (z.map .lit) (rm σ parts.toList) with
    |some cs=>(rn σ parts.toList=true/\((ty P t).aJ.all λf=>decide (0<f.2.2))=true)/\K (σ.put dst (.agg cs))
    |none=>False
   |2,some z =>
    match kh (λi=>some (i*(ty P (ty P t).elem).size,(ty P (ty P t).elem).size)) (z.map .lit) (rm σ parts.toList) with
    |some cs=>(rn σ parts.toList=true/\(ty P (ty P t).elem).kind≠99)/\K (σ.put dst (.agg cs))
    |none=>False
   |_,_=>False):=by rw[OU,OV];unfold aG bM;rfl
def NT(t:TypeId)(len:Nat)(parts:Array (Nat×Operand)):aG P ⟨dst,.buildSlice t len parts,tt,p,af,g⟩ σ K =
  (match (ty P t).kind,(ty P (ty P t).elem).zero with
   |1,some z =>
    match kh (λi=>some (i*(ty P (ty P t).elem).size,(ty P (ty P t).elem).size)) ((bp len).flatMap λ_=>z.map .lit) (rm σ parts.toList) with
    |some cs=>((ty P (ty P t).elem).kind≠99/\0<(ty P (ty P t).elem).size/\z.length=(ty P (ty P t).elem).size/\len*(ty P (ty P t).elem).size<=16777216/\rn σ parts.toList=true) /\
      K (({ σ with aa:=σ.aa++[.arr (ty P (ty P t).elem).size (ki (ty P (ty P t).elem).size len cs)] }:St).put dst (.ref σ.aa.length (ty P (ty P t).elem).size 0 len))
    |none=>False
   |_,_=>False):=by rw[OU,OV];unfold aG bM;rfl
def NU (t:TypeId) (a:Operand):aG P ⟨dst,.load t a,tt,p,af,g⟩ σ K =
    ((ty P t).kind≠99 /\
      match ev σ a with
      | .ptr id r c =>
        match rowOf σ id r with
        | some row=>kf (ty P t) row c λv=>K (σ.put dst v)
        | none=>False
      | .bU cells=>kf (ty P t) cells 0 λv=>K (σ.put dst v)
      | _=>False):=by unfold aG bM;rfl
def NV (t:TypeId) (a x:Operand):aG P ⟨dst,.store t a x,tt,p,af,g⟩ σ K =
    ((ty P t).kind≠99 /\
      match ev σ a with
      | .ptr id r c =>
        match rowOf σ id r with
        | some row=>((cellsOf (ev σ x)).length=(ty P t).size/\c+(ty P t).size<=row.length/\(cellsOf (ev σ x)).all ca=true)/\K ((lZ σ id r (setCells row c (cellsOf (ev σ x)))).put dst .undef)
        | none=>False
      | _=>False):=by unfold aG bM;rfl
def NW(op:BinOp)(t:TypeId)(x y:Operand)(yt:TypeId):aG P ⟨dst,.binOp op t x y yt,tt,p,af,g⟩ σ K =
  (match ev σ x,ev σ y with
   |.lit (.int k a),.lit (.int k' b)=>k=k'/\fe op k a b λv=>K (σ.put dst (.lit v))
   |.lit (.bool a),.lit (.bool b) =>
    (ty P t).kind=6 /\
    match op with
    |.eql=>K (σ.put dst (.lit (.bool (a==b))))
    |.neq=>K (σ.put dst (.lit (.bool (a != b))))
    |_=>False
   |.tree _ rows,.lit (.slice none 0 0) =>
    ((ty P t).kind=1/\0<rows.length) /\
    match op with
    |.eql=>K (σ.put dst (.lit (.bool false)))
    |.neq=>K (σ.put dst (.lit (.bool true)))
    |_=>False
   |.lit (.slice a _ _),.lit (.slice none 0 0) =>
    (ty P t).kind=1 /\
    match op with
    |.eql=>K (σ.put dst (.lit (.bool a.isNone)))
    |.neq=>K (σ.put dst (.lit (.bool (!a.isNone))))
    |_=>False
   |.agg cs,.agg ds =>
    match mQ cs,mQ ds with
    |some as,some bs =>
     (od P t as.length/\bs.length=as.length/\P.eqGuardType P.depth t=false) /\
     match op with
     |.eql=>K (σ.put dst (.lit (.bool (decide (as=bs)))))
     |.neq=>K (σ.put dst (.lit (.bool (!decide (as=bs)))))
     |_=>False
    |_,_=>False
   |_,_=>False):=by unfold aG bM;rfl
def NX(op:UnOp)(t:TypeId)(x:Operand):aG P ⟨dst,.unOp op t x,tt,p,af,g⟩ σ K =
  (match op,ev σ x with
   |.not,.lit (.bool b)=>K (σ.put dst (.lit (.bool !b)))
   |.neg,.lit (.int k a)=>qj k a λv=>K (σ.put dst (.lit v))
   |_,_=>False):=by unfold aG bM;rfl
def NY(fn:Fn)(first captured:Array Operand):aG P ⟨dst,.makeFunc fn first captured,tt,p,af,g⟩ σ K =
  (match fn with
   |.func f=>first.size=0/\K (σ.put dst (.fn f (captured.toList.map (ev σ))))
   |_=>False):=by unfold aG bM;rfl
def NZ (t:TypeId) (l c:Operand):aG P ⟨dst,.makeSlice t l c,tt,p,af,g⟩ σ K =
    (match (ty P t).kind,(ty P (ty P t).elem).zero,ev σ l,ev σ c with
      | 1,some z,.lit (.int k n),.lit (.int k' n') =>
        ((ty P (ty P t).elem).kind≠99/\0<(ty P (ty P t).elem).size/\z.length=(ty P (ty P t).elem).size/\n'=n/\0<=n/\n<=1099511627776/\(ty P (ty P t).elem).bytes<=128/\k=k) /\
          K (({ σ with aa:=σ.aa++[.arr (ty P (ty P t).elem).size (aD n.toNat (z.map .lit))] }:St).put dst (.ref σ.aa.length (ty P (ty P t).elem).size 0 n.toNat))/\k'=k'
      | _,_,_,_=>False):=by unfold aG bM;rfl
def N0 (t:TypeId) (x:Operand) (lo hi mx:Option Operand):aG P ⟨dst,.slice t x lo hi mx,tt,p,af,g⟩ σ K =
    ((ty P t).kind=1/\(ty P (ty P t).elem).kind≠99/\mx=none /\
      match ev σ x with
      | .ref id sz off len =>
        match σ.aa[id]? with
        | some (.arr cg rows) =>
          cg=sz/\sz=(ty P (ty P t).elem).size /\
          match lo.map (ev σ),hi.map (ev σ) with
          | none,none=>K (σ.put dst (.ref id sz off len))
          | some (.lit (.int _ l)),none=>(0<=l/\l<=len/\rows.length=rows.length)/\K (σ.put dst (.ref id sz (off+l.toNat) (len - l.toNat)))
          | none,some (.lit (.int _ h))=>(0<=h/\h<=len)/\K (σ.put dst (.ref id sz off h.toNat))
          | some (.lit (.int _ l)),some (.lit (.int _ h))=>(0<=l/\l<=h/\h<=len)/\K (σ.put dst (.ref id sz (off+l.toNat) (h.toNat - l.toNat)))
          | _,_=>False
        | _=>False
      | .tree sz rows =>
          (rows≠[]->sz=(ty P (ty P t).elem).size) /\
          match lo.map (ev σ),hi.map (ev σ) with
          | none,none=>K (σ.put dst (.tree sz rows))
          | some (.lit (.int _ l)),none=>(0<=l/\l<=rows.length)/\K (σ.put dst (.tree sz (rows.drop l.toNat)))
          | none,some (.lit (.int _ h))=>(0<=h/\h<=rows.length)/\K (σ.put dst (.tree sz (rows.take h.toNat)))
          | some (.lit (.int _ l)),some (.lit (.int _ h))=>(0<=l/\l<=h/\h<=rows.length)/\K (σ.put dst (.tree sz ((rows.take h.toNat).drop l.toNat)))
          | _,_=>False
      | _=>False):=by unfold aG bM;rfl
def N1(s:TypeId)(x:Operand)(f:Nat):aG P ⟨dst,.field s x f,tt,p,af,g⟩ σ K =
  (match (ty P s).kind,(ty P s).aJ[f]? with
   |3,some (off,t,size) =>
    (ty P t).kind≠99/\size=(ty P t).size /\
    match ev σ x with
    |.agg cs=>if(ty P t).isAgg then off+size<=cs.length/\K (σ.put dst (.agg ((cs.drop off).take size))) else
      match cs[off]? with
      |some v=>K (σ.put dst v)
      |none=>False
    |_=>False
   |_,_=>False):=by unfold aG bM;rfl
def Ni(t:TypeId)(r:Option Operand):aG P ⟨dst,.makeMap t r,tt,p,af,g⟩ σ K =
  ((r=none/\(ty P t).kind=8)/\K (({ σ with aa:=σ.aa++[.mp (vw P t) []] }:St).put dst (.dP σ.aa.length))):=by unfold aG bM;rfl
def Nj(t:TypeId)(x i:Operand)(ok:Bool):aG P ⟨dst,.lookup t x i ok,tt,p,af,g⟩ σ K =
  (match keyOf (ev σ i),jQ σ (ev σ x),zeroV P (ty P t).elem with
   |some (ag,l),some (_,gA,L),some z=>(g8 P t ag/\gA=ag/\l.length=g9 ag/\(ty P t).kind=8/\ok=false)/\K (σ.put dst ((kP l L).getD (.lit z)))
   |_,_,_=>False):=by unfold aG bM;rfl
def Nk(t:TypeId)(m k x:Operand):aG P ⟨dst,.mapUpdate t m k x,tt,p,af,g⟩ σ K =
  (match keyOf (ev σ k),jQ σ (ev σ m) with
   |some (ag,l),some (id,gA,L)=>(g8 P t ag/\gA=ag/\l.length=g9 ag)/\K (({ σ with aa:=σ.aa.set id (.mp ag (cS l (ev σ x) L)) }:St).put dst .undef)
   |_,_=>False):=by unfold aG bM;rfl
def Nn(t:TypeId)(m k:Operand):aG P ⟨dst,.mapEntry t m k,tt,p,af,g⟩ σ K =
  (match keyOf (ev σ k),jQ σ (ev σ m),zeroV P (ty P t).elem with
   |some (ag,l),some (id,gA,L),some z=>(g8 P t ag/\gA=ag/\l.length=g9 ag/\(ty P t).kind=8) /\
    K (({ σ with aa:=σ.aa.set id (.mp ag (cS l ((kP l L).getD (.lit z)) L)) }:St).put dst (.bH [(kP l L).getD (.lit z),aam (rA l L:Nat)]))
   |_,_,_=>False):=by unfold aG bM;rfl
def Np(t:TypeId)(m s x:Operand):aG P ⟨dst,.entryStore t m s x,tt,p,af,g⟩ σ K =
  (match ev σ s,jQ σ (ev σ m) with
   |.lit (.int .i64 n),some (id,ag,L)=>(0<=n/\n<L.length)/\K (({ σ with aa:=σ.aa.set id (.mp ag (l8 n.toNat (ev σ x) L)) }:St).put dst .undef)
   |_,_=>False):=by unfold aG bM;rfl
def Nl(t:TypeId)(x i:Operand):aG P ⟨dst,.index t x i,tt,p,af,g⟩ σ K =
  (match ev σ x,ev σ i with
   |.lit (.string s),.lit (.int _ n)=>(P.underlying t=some .string/\0<=n/\n<s.size)/\K (σ.put dst (.lit (.int .u8 (rB s n.toNat))))
   |_,_=>False):=by unfold aG bM;rfl
def Ng(t:TypeId)(x:Operand):aG P ⟨dst,.makeInterface t x,tt,p,af,g⟩ σ K =
  (vx P t=false/\K (σ.put dst (.fI t (ev σ x)))):=by unfold aG bM;rfl
def Nh(x:Operand)(xt asserted:TypeId)(ok:Bool):aG P ⟨dst,.typeAssert x xt asserted ok,tt,p,af,g⟩ σ K =
  (match ev σ x with
   |.fI t v=>(vx P asserted=false/\t=asserted/\ok=false)/\K (σ.put dst v)
   |_=>False):=by unfold aG bM;rfl
def N2(x:Operand)(i:Nat):aG P ⟨dst,.extract x i,tt,p,af,g⟩ σ K =
  (match ev σ x with
   |.bH vs =>
    match vs[i]? with
    |some v=>K (σ.put dst v)
    |none=>False
   |_=>False):=by unfold aG bM;rfl
def N3(args:Array Operand)(argTypes:Array TypeId):aG P ⟨dst,.call ⟨.builtin .len,args,argTypes⟩,tt,p,af,g⟩ σ K =
  (match args.toList,argTypes.toList with
   |[x],[t] =>
    match ev σ x with
    |.ref id sz _ len =>
     (ty P t).kind=1 /\
     match σ.aa[id]? with
     |some (.arr cg _)=>cg=sz/\K (σ.put dst (aam len))
     |_=>False
    |.tree _ rows=>(ty P t).kind=1/\K (σ.put dst (aam rows.length))
    |.lit (.slice none 0 0)=>(ty P t).kind=1/\K (σ.put dst (aam 0))
    |.dP id =>
     (ty P t).kind=8 /\
     match σ.aa[id]? with
     |some (.mp _ L)=>K (σ.put dst (aam L.length))
     |_=>False
    |_=>False
   |_,_=>False):=by unfold aG bM;rfl
def N4(args:Array Operand)(argTypes:Array TypeId):aG P ⟨dst,.call ⟨.builtin .append,args,argTypes⟩,tt,p,af,g⟩ σ K =
  (match args.toList,argTypes.toList with
   |[s,x],[t,t'] =>
    match (ty P t).kind,(ty P (ty P t).elem).zero,n8 σ (ty P (ty P t).elem).size (ev σ s),l4 σ (ev σ x) with
    |1,some z,some (pre,σ1),some (sz,src) =>
     (t'=t/\(ty P (ty P t).elem).kind≠99/\sz=(ty P (ty P t).elem).size/\0<sz/\z.length=sz/\pre.length+src.length<=549755813888/\(ty P (ty P t).elem).bytes<=128/\(src.all λrow=>row.all ca)=true) /\
      K (({ σ1 with aa:=σ1.aa++[.arr sz (pre++src)] }:St).put dst (.ref σ1.aa.length sz 0 (pre.length+src.length)))
    |_,_,_,_=>False
   |_,_=>False):=by unfold aG bM;rfl
def N5(args:Array Operand)(argTypes:Array TypeId):aG P ⟨dst,.call ⟨.builtin .min,args,argTypes⟩,tt,p,af,g⟩ σ K =
  (match args.toList with
   |[x,y] =>
    match ev σ x,ev σ y with
    |.lit (.int k a),.lit (.int k' b)=>k=k'/\K (σ.put dst (.lit (.int k (min a b))))
    |_,_=>False
   |_=>False):=by unfold aG bM;rfl
def N6(args:Array Operand)(argTypes:Array TypeId):aG P ⟨dst,.call ⟨.builtin .max,args,argTypes⟩,tt,p,af,g⟩ σ K =
  (match args.toList with
   |[x,y] =>
    match ev σ x,ev σ y with
    |.lit (.int k a),.lit (.int k' b)=>k=k'/\K (σ.put dst (.lit (.int k (max a b))))
    |_,_=>False
   |_=>False):=by unfold aG bM;rfl
def N7 (args:Array Operand) (argTypes:Array TypeId):aG P ⟨dst,.call ⟨.builtin .copy,args,argTypes⟩,tt,p,af,g⟩ σ K =
    (match args.toList,argTypes.toList with
      | [s,x],[t,_] =>
        match ev σ s,l4 σ (ev σ x) with
        | .ref id sz off len,some (cg,src) =>
          match σ.aa[id]? with
          | some (.arr jo rows) =>
            ((ty P t).kind=1/\(ty P (ty P t).elem).kind≠99/\cg=sz/\jo=sz/\sz=(ty P (ty P t).elem).size/\0<sz/\(src.all λrow=>row.all ca)=true) /\
              K (({ σ with aa:=σ.aa.set id (.arr sz (rows.take off++src.take (min src.length len)++rows.drop (off+min src.length len))) }:St).put dst (aam (min src.length len:Nat)))
          | _=>False
        | _,_=>False
      | _,_=>False):=by unfold aG bM;rfl
def N8 (args:Array Operand) (argTypes:Array TypeId):aG P ⟨dst,.call ⟨.builtin .clear,args,argTypes⟩,tt,p,af,g⟩ σ K =
    (match args.toList,argTypes.toList with
      | [s],[t] =>
        match ev σ s,(ty P (ty P t).elem).zero with
        | .ref id sz off len,some z =>
          match σ.aa[id]? with
          | some (.arr cg rows) =>
            ((ty P t).kind=1/\(ty P (ty P t).elem).kind≠99/\cg=sz/\z.length=sz/\0<sz/\(z.all λu=>u.oneCell')=true) /\
              K (({ σ with aa:=σ.aa.set id (.arr sz (rows.take off++aD len (z.map AV.lit)++rows.drop (off+len))) }:St).put dst (.lit (.tuple #[])))
          | _=>False
        | _,_=>False
      | _,_=>False):=by unfold aG bM;rfl
def N9(s d:TypeId)(x:Operand):aG P ⟨dst,.convert s d x,tt,p,af,g⟩ σ K =
  (match P.underlying d,ev σ x with
   |some (.int k),.lit (.int _ n)=>(P.underlying s).isSome=true/\K (σ.put dst (.lit (.int k (k.wrap n))))
   |_,_=>False):=by unfold aG bM;rfl
end Go.Am
namespace Go.Am
variable {P:Program} {N n0:Nat} {σ:St} {Q:Exit->St->Prop}
def rp(ae:List Nat)(snap:Bool){v res:AV}{aZ:List Ob}(cp:ae.Nodup)(ho:mJ (bu σ.aa.length ae) σ.aa ae aZ)(hn:n0<=ae.length)(cO:∀ i,i<n0->ae.getD i 0=i)(h:bt σ (kept ae aZ) (bu σ.aa.length ae) snap res v):mK n0 σ v res aZ:=by
 obtain⟨h1,h2,h3⟩:=ho.spec;exact⟨ae,snap,cp,h1,h2,h3,hn,cO,h⟩
def dt{e:Nat->AV}{os:List Ob}{v res:AV}{aZ:List Ob}(ho:os=aZ)(hn:n0<=aZ.length)(h:v=res):mK n0 ⟨e,os⟩ v res aZ:=by
 subst ho;subst h
 let σ:St:=⟨e,os⟩
 show mK n0 σ v v σ.aa;have hn:n0<=σ.aa.length:=hn;refine⟨bp σ.aa.length,false,List.nodup_range,Jy,λj o hj=>.inr ?_,Jy,by simpa using hn,λi hi=>?_,?_⟩
 ·have bq:=(aN.1 hj).1;rw[uz,zu];simpa [ax,pQ bq] using hj
 ·have:i<σ.aa.length:=Bv;simp[ax,pQ this]
 ·exact .eq (by rw[uz,uA])
end Go.Am
namespace Go.Am
variable {P:Program} {N n0:Nat} {σ:St} {Q:Exit->St->Prop}
def nE{ae:List Nat}{co:List Ob}{id:Nat}(h:id ∉ ae):¬ kept ae co id:=by
 rintro⟨j,hj,he,_⟩;apply h;rw[<- he,ax,aT hj];exact List.getElem_mem hj
def um(ρ:Nat->Nat)(os:List Ob):List Nat->List Ob->Prop
 |[],[]=>True
 |i::ae,o::co=>os[i]?=some (bD ρ o)/\um ρ os ae co
 |_,_=>False
def um.spec{ρ:Nat->Nat}{os:List Ob}:∀ {ae:List Nat} {co:List Ob},um ρ os ae co->co.length=ae.length/\∀ (j:Nat) o,co[j]?=some o->os[ae.getD j 0]?=some (bD ρ o)
 |[],[],_=>⟨rfl,Jy⟩
 |i::ae,o::co,h=>by
  obtain⟨h1,h3⟩:=h;obtain⟨a,b⟩:=um.spec h3;refine⟨by simp[a],λj o' hj=>?_⟩;cases j with
  |zero=>simp at hj;subst hj;simpa using h1
  |succ j=>simpa using b j o' (by simpa using hj)
def kJ(R:AV->AV->Prop):List AV->List AV->Prop
 |[],[]=>True
 |c::cs,d::ds=>R c d/\kJ R cs ds
 |_,_=>False
def kJ.spec{R:AV->AV->Prop}:∀ {cs ds:List AV},kJ R cs ds->cs.length=ds.length/\∀ (j:Nat) c d,cs[j]?=some c->ds[j]?=some d->R c d
 |[],[],_=>⟨rfl,Jy⟩
 |c::cs,d::ds,h=>by
  obtain⟨a,b⟩:=kJ.spec h.2;refine⟨by simp[a],λj c' d' hc hd=>?_⟩;cases j with
  |zero=>simp at hc hd;subst hc;subst hd;exact h.1
  |succ j=>exact b j c' d' (by simpa using hc) (by simpa using hd)
def bt.OW{kp:Nat->Prop}{ρ:Nat->Nat}{snap:Bool}{a b c d:AV}(h:bt σ kp ρ snap a c)(k:bt σ kp ρ snap b d):bt σ kp ρ snap (.bH [a,b]) (.bH [c,d]) :=
 .bH _ _ rfl (kJ.spec (R:=bt σ kp ρ snap) (cs:=[a,b]) (ds:=[c,d]) ⟨h,k,trivial⟩).2
def fw(ae:List Nat){f:FuncId}{args dF:List AV}{bA:List Ob}{dst:Option Tmp}{K:St->Prop}{res:AV}{cA:List Ob}(h:ak P f dF bA res cA)(cp:ae.Nodup)(ho:um (bu σ.aa.length ae) σ.aa ae bA)(ha:kJ (bt σ (·∈ae) (bu σ.aa.length ae) false) dF args)(hK:K (({ σ with aa:=eU σ.aa ae (cA.map (bD (bu σ.aa.length ae))) }:St).put dst (aU (bu σ.aa.length ae) res))):p7 P f args dst K σ:=by
 obtain⟨h1,h2⟩:=ho.spec;obtain⟨h3,h4⟩:=ha.spec;exact⟨ae,false,dF,bA,res,cA,h,⟨cp,h1,h2,h3,h4,Jy⟩,hK⟩
def sP(ae:List Nat){f:FuncId}{args dF:List AV}{bA:List Ob}{dst:Option Tmp}{K:St->Prop}{res:AV}{cA:List Ob}(h:ak P f dF bA res cA)(cp:ae.Nodup)(ho:um (bu σ.aa.length ae) σ.aa ae bA)(ha:kJ (bt σ (·∈ae) (bu σ.aa.length ae) true) dF args)(hf:flat res=true)(zw:∀ o∈cA,zx o)(hK:K (({ σ with aa:=eU σ.aa ae (cA.map (bD (bu σ.aa.length ae))) }:St).put dst (aU (bu σ.aa.length ae) res))):p7 P f args dst K σ:=by
 obtain⟨h1,h2⟩:=ho.spec;obtain⟨h3,h4⟩:=ha.spec;exact⟨ae,true,dF,bA,res,cA,h,⟨cp,h1,h2,h3,h4,λ_=>⟨hf,zw⟩⟩,hK⟩
def Ow{ρ:Nat->Nat}(cs:List AV):bD ρ (.var cs)=.var (cs.map (aU ρ)):=by simp only[bD]
def Ox{ρ:Nat->Nat}:bD ρ .gone=.gone:=by simp only[bD]
def On:bp 1=[0]:=aac
def Oo:bp 2=[0,1]:=aac
def Oq:bp 3=[0,1,2]:=aac
def Ot(xs:List Int):(ints xs).take xs.length=ints xs:=by rw[fD (by simp[ints])]
def Ou(xs:List Bool):(b8 xs).take xs.length=b8 xs:=by rw[fD (by simp[b8])]
def Ov(xs:List (List Int)):(cV xs).take xs.length=cV xs:=by rw[fD (by simp[cV])]
def uB{y:Code}{Q0 Q1:Exit->St->Prop}{G:Prop}(S0:St)(hn:∀ s,W P N n0 y Q0 s->Q1 .normal s)(hm:W P N n0 y Q0 S0)(h:(∀ s,aC n0 s S0->Q1 .normal s)->G):G :=
 h λs ht=>hn s (cU ht hm)
end Go.Am
namespace Go.Am
variable {P:Program} {N n0:Nat} {σ:St} {Q:Exit->St->Prop}
def OX(P:Program)(ops:Array Oper)(Q:Exit->Act->World->Prop)(js:List Nat):Exit->Act->World->Prop
 |.normal,a,w=>wpOps P ops Q js a w
 |e,a,w=>Q e a w
def Oper.WN{o:Oper}{a:Act}{w:World}{K:Act->World->Prop}{Q Q':Exit->Act->World->Prop}(hq:∀ e a w,e≠.normal->Q e a w->Q' e a w)(hl:LetsOut Q->LetsOut Q')(hh:o.wp P a w K Q):o.wp P a w K Q':=by
 unfold Oper.wp at *;generalize (execOp a.eval o).run P w=r at *;cases r with
 |ok n w' =>
  cases n<;>simp only[Oper.upon]at hh⊢<;>
   first
    |exact hh
    |exact Calls.mono hh (λe w'' he=>by
      cases e with
      |returned v=>exact he
      |panicked c=>exact hq _ _ _ Jy he
      |outgrown=>exact hl he)
 |halt x w'=>cases x<;>simp only[Oper.upon]at hh ⊢<;>first|exact hh|exact hq _ _ _ Jy hh
def uu{ops:Array Oper}{Q:Exit->Act->World->Prop}{js:List Nat}:∀ (is:List Nat) (a:Act) (w:World),wpOps P ops (OX P ops Q js) is a w->wpOps P ops Q (is++js) a w
 |[],a,w,h=>h
 |i::is,a,w,h=>by
  rw[List.cons_append,wpOps_cons];rw[wpOps_cons]at h;have hl:LetsOut (OX P ops Q js)->LetsOut Q:=λh=>h;unfold wpOp at h ⊢;cases ho:ops[i]? with
  |none=>simp only[ho]at h ⊢;exact uu is a w h
  |some o =>
   simp only[ho]at h ⊢;by_cases hw:Region.wanted o (yielded ops a.tmps)=true
   ·rw[if_pos hw]at h ⊢;rcases h with h|⟨h1,h2⟩
    ·left;exact Oper.WN (λe a w he hq=>by cases e<;>first|exact absurd rfl he|exact hq) hl (Oper.wp_mono (λa w=>uu is a w) h)
    ·exact .inr ⟨h1,hl h2⟩
   ·rw[if_neg hw]at h ⊢;exact uu is _ w h
def nC{N:Nat}{os:List Ob}{γ0:Cx}{ops:Array Oper}(hd:∀ o∈ops.toList,∀ d,o.dst=some d->d<N){K:St->Prop}{Q:Exit->Act->World->Prop}(hQ:∀ σ' a' w',K σ'->eH N os γ0 σ' a' w'->Q .normal a' w'):∀ (l:List Oper) (i:Nat) (σ:St) (a:Act) (w:World),(∀ k,k<l.length->ops[i+k]?=l[k]?)->opsL P ops l K σ->eH N os γ0 σ a w ->
   wpOps P ops Q (jN i l.length) a w
 |[],i,σ,a,w,_,h,az=>by simpa [wpOps] using hQ _ _ _ h az
 |o::r,i,σ,a,w,hl,h,az=>by
  have hi:ops[i]?=some o:=by simpa using hl 0 Jy
  have hr:∀ k,k<r.length->ops[i+1+k]?=r[k]?:=λk hk=>by
   have:=hl (k+1) (by simpa using hk);rw[show i+1+k=i+(k+1) by omega,this];simp
  have bP:o∈ops.toList:=List.mem_of_getElem? (by simpa using hi);rw[List.length_cons,List.range'_succ,wpOps_cons];unfold wpOp;simp only[hi];unfold opsL at h;cases hg:o.guard with
  |none =>
   simp only[hg]at h;have hw:Region.wanted o (yielded ops a.tmps)=true:=by simp[Region.wanted,hg]
   rw[if_pos hw];left;exact vJ h az (hd o bP) (λσ' a' w' hK cr=>nC hd hQ r (i+1) σ' a' w' hr hK cr)
  |some jw =>
   obtain⟨j,want⟩:=jw;simp only[hg]at h;cases dR:(ops[j]?).bind (·.dst) with
   |none=>simp[dR]at h
   |some d =>
    simp only[dR]at h;split at h
    ·rename_i b he;obtain⟨eI,aH,γ,rfl,ha,hs,hf⟩:=az;have ic:=hs.ao d;rw[he,ha]at ic;have hv:=ic.bX;have hy:yielded ops a.tmps j=some b:=by
      unfold yielded;rw[dR];have:a.tmps[d]?=some (.bool b):=by
       rw[dJ]at hv;cases hx:a.tmps[d]? with
       |none=>rw[hx]at hv;simp[Go.undef]at hv
       |some y=>rw[hx]at hv;simp at hv;rw[hv]
      simp[this]
     by_cases eV:b=want
     ·have hw:Region.wanted o (yielded ops a.tmps)=true:=by simp[Region.wanted,hg,hy,eV]
      rw[if_pos hw];left;exact vJ (h.1 eV) ⟨eI,aH,γ,rfl,ha,hs,hf⟩ (hd o bP) (λσ' a' w' hK cr=>nC hd hQ r (i+1) σ' a' w' hr hK cr)
     ·have hw:Region.wanted o (yielded ops a.tmps)=false:=by simp[Region.wanted,hg,hy,eV]
      rw[if_neg (by rw[hw];simp)];refine nC hd hQ r (i+1) _ _ _ hr (h.2 eV) ⟨by rw[put_defers];exact eI,by rw[nG];exact aH,{ γ with tmps:=(a.put o.dst Go.undef).tmps },rfl,rfl,mW hs ha (λd h=>by rw[aH];exact hd o bP d h) (.lit _),?_⟩;rw[l7];exact hf.put _
    ·rename_i vs he;obtain⟨eI,aH,γ,rfl,ha,hs,hf⟩:=az;have ic:=hs.ao d;rw[he,ha]at ic;have hv:=ic.bX;have hy:yielded ops a.tmps j=none:=by
      unfold yielded;rw[dR];rw[dJ]at hv;cases hx:a.tmps[d]? with
      |none=>simp[hx]
      |some y=>rw[hx]at hv;simp at hv;subst hv;simp[hx]
     have hw:Region.wanted o (yielded ops a.tmps)=false:=by simp[Region.wanted,hg,hy]
     rw[if_neg (by rw[hw];simp)];refine nC hd hQ r (i+1) _ _ _ hr h.2 ⟨by rw[put_defers];exact eI,by rw[nG];exact aH,{ γ with tmps:=(a.put o.dst Go.undef).tmps },rfl,rfl,mW hs ha (λd h=>by rw[aH];exact hd o bP d h) (.lit _),?_⟩;rw[l7];exact hf.put _
    ·exact h.elim
def OY{os:List Ob}{γ0:Cx}{ops:Array Oper}(hd:∀ o∈ops.toList,∀ d,o.dst=some d->d<N){K K1:St->Prop}{Q:Exit->Act->World->Prop}(hn:os.length=n0)(hQ:∀ σ' a' w',K σ'->eH N os γ0 σ' a' w'->Q .normal a' w')(n:Nat)(hK:∀ s,K1 s->∃ s1,aC n0 s s1/\opsL P ops (ops.toList.drop n) K s1)(σ:St)(a:Act)(w:World)(h:opsL P ops (ops.toList.take n) K1 σ)(az:eH N os γ0 σ a w):wpOps P ops Q (bp ops.size) a w:=by
 have e:bp ops.size=jN 0 (ops.toList.take n).length++jN (ops.toList.take n).length (ops.toList.drop n).length:=by
  rw[List.range_eq_range'];have:=List.range'_append (s:=0) (m:=(ops.toList.take n).length) (n:=(ops.toList.drop n).length) (step:=1);simp only[Nat.zero_add,Nat.one_mul]at this;rw[this];congr 1;rw[<- List.length_append,List.take_append_drop];simp
 rw[e];refine uu _ a w ?_;refine nC hd (K:=K1) (λσ' a' w' hk cr=>?_) (ops.toList.take n) 0 σ a w (λk hk=>?_) h az
 ·obtain⟨s1,ht,ho⟩:=hK σ' hk;obtain⟨h1,h2,γ,rfl,h3,h4,h5⟩:=cr;obtain⟨ay,e1,e2,e3,e4⟩:=ht os γ0 γ hn h4 h5;refine nC hd hQ (ops.toList.drop n) _ s1 a' γ.w (λk hk=>?_) ho ⟨h1,h2,ay,e1,e2.trans h3,e3,e4⟩;rw[List.getElem?_drop];simp only[List.length_drop,oV]at hk;rw[fE,oV,Nat.min_eq_left Bv];simp
 ·simp only[fE,oV]at hk;rw[List.getElem?_take_of_lt Bv];simp
def OZ(n:Nat){id:Nat}{ops:Array Oper}{y:Code}(hd:dY N ops=true)(h:∀ K K1:St->Prop,(∀ s,W P N n0 y Q s->K s)->(∀ s s1,aC n0 s s1->opsL P ops (ops.toList.drop n) K s1->K1 s)->opsL P ops (ops.toList.take n) K1 σ):W P N n0 (.seq (.region id ops false) y) Q σ:=by
 refine Cp ?_;intro os γ0 a w hn az;refine wp_region ?_;exact OY (kL hd) hn (K:=W P N n0 y Q) (K1:=λs=>∃ s1,aC n0 s s1/\opsL P ops (ops.toList.drop n) (W P N n0 y Q) s1) (λσ' a' w' hK cr=>⟨σ',hK,cr⟩) n (λs h=>h) σ a w (h _ _ (λ_ h=>h) (λs s1 h1 h2=>⟨s1,h1,h2⟩)) az
end Go.Am
namespace Go.Am
variable {σ:St}
def nI(R:AV->AV->Prop):List (List AV)->List (List AV)->Prop
 |[],[]=>True
 |c::cs,d::ds=>kJ R c d/\nI R cs ds
 |_,_=>False
def nI.spec{R:AV->AV->Prop}:∀ {cs ds:List (List AV)},nI R cs ds->cs.length=ds.length/\∀ (r c:Nat) v,cellAt cs r c=some v->cellAt ds r c=some ((cellAt ds r c).getD .undef)/\R v ((cellAt ds r c).getD .undef)
 |[],[],_=>⟨rfl,by simp[cellAt]⟩
 |c::cs,d::ds,h=>by
  obtain⟨a,b⟩:=nI.spec h.2;refine⟨by simp[a],λr j v hv=>?_⟩;cases r with
  |zero =>
   simp only[cellAt,List.getElem?_cons_zero,Option.bind_some]at hv ⊢;obtain⟨e1,e2⟩:=h.1.spec;have hj:j<d.length:=by rw[<- e1];exact(aN.1 hv).1
   rw[aT hj];exact⟨rfl,e2 j v _ hv (aT hj)⟩
  |succ r =>
   have:=b r j v (by simpa [cellAt] using hv);simpa [cellAt] using this
def df.mk{kp:Nat->Prop}{id sz len:Nat}{rows fh:List (List AV)}(ho:σ.aa[id]?=some (.arr sz rows))(hl:len=rows.length)(ph:¬ kp id)(hw:∀ row∈fh,row.length=sz)(h:nI (df σ kp) fh rows):df σ kp (.tree sz fh) (.ref id sz 0 len):=by
 obtain⟨a,b⟩:=h.spec;subst hl;refine .ref id sz 0 rows.length rows fh (λr c=>(cellAt rows r c).getD .undef) ho ph (by simp[a]) hw (λr c v hv=>?_) (λr c v hv=>?_)
 ·simpa using(b r c v hv).1
 ·exact(b r c v hv).2
end Go.Am

