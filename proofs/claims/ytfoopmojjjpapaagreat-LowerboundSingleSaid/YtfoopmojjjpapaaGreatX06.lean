import Derived.Test.YtfoopmojjjpapaaGreatX05
set_option linter.all false
set_option maxHeartbeats 0
set_option maxRecDepth 20000
open List renaming range→bu,replicate→aK,getElem?_eq_some_iff→aV,getD_eq_getElem?_getD→az,getElem?_range→kX,getElem?_eq_getElem→bF,take_of_length_le→dm,range'→mB,length_take→eY
open Array renaming getD_eq_getD_getElem?→eL,length_toList→sg
namespace Go.Am
variable {P:Program} {dst:Option Tmp} {tt:TypeId} {p:String} {af:Array Edge} {g:Option (Nat×Bool)} {σ:St} {K:St->Prop}
def qc:Option Ob->Prop
 |some (.var _)=>True
 |some (.arr _ _)=>True
 |some (.mp _ _)=>True
 |_=>False
def Qo(a:Nat)(L:List (List Int×AV)):qc (some (.mp a L))=True:=by simp only[qc]
def Qp(c:List AV):qc (some (.var c))=True:=by simp only[qc]
def Qq(s:Nat)(c:List (List AV)):qc (some (.arr s c))=True:=by simp only[qc]
def Ck(σ:St)(dst:Option Tmp)(K:St->Prop):AV->Prop
 |.ptr id r c=>qc σ.aa[id]?/\K (σ.put dst (.ptr id r c))
 |.cB cells=>K (σ.put dst (.cB cells))
 |_=>False
def Qr(x:Operand):aL P ⟨dst,.nilCheck x,tt,p,af,g⟩ σ K=Ck σ dst K (ev σ x):=by
 simp only[aL,cd];cases ev σ x<;>simp only[Ck];rename_i id r c;cases h:σ.aa[id]? with
 |none=>simp[qc]
 |some o=>cases o<;>simp[qc]
def Cl(σ:St)(dst:Option Tmp)(K:St->Prop)(off:Nat):AV->Prop
 |.ptr id r c=>qc σ.aa[id]?/\K (σ.put dst (.ptr id r (c+off)))
 |.cB cells=>K (σ.put dst (.cB (cells.drop off)))
 |_=>False
def zb(σ:St)(dst:Option Tmp)(K:St->Prop)(v:AV)(kind:Nat):Option (Nat×Nat×Nat)->Prop
 |some (off,_,size)=>kind=3/\0<size/\Cl σ dst K off v
 |none=>False
def Qs(s:TypeId)(x:Operand)(f:Nat):aL P ⟨dst,.fieldAddr s x f,tt,p,af,g⟩ σ K=zb σ dst K (ev σ x) (ty P s).kind (ty P s).aQ[f]?:=by
 simp only[aL,cd];split
 ·rename_i off ft size hk hf;rw[hk,hf];simp only[zb,true_and];cases ev σ x<;>simp only[Cl];rename_i id r c;cases h:σ.aa[id]? with
  |none=>simp[qc]
  |some o=>cases o<;>simp[qc]
 ·rename_i cy;cases hf:(ty P s).aQ[f]? with
  |none=>simp[zb]
  |some q =>
   obtain⟨off,ft,size⟩:=q;simp only[zb];have:(ty P s).kind≠3:=λe=>cy off ft size e hf;simp[this]
def qW(t:Ty)(e:Ty)(σ:St)(dst:Option Tmp)(K:St->Prop):AV->AV->Prop
 |.ref id sz off len,.lit (.int _ n) =>
  t.kind=1 /\
  match σ.aa[id]? with
  |some (.arr da _)=>(da=sz/\sz=e.size/\e.kind≠99/\0<=n/\n<len)/\K (σ.put dst (.ptr id (off+n.toNat) 0))
  |_=>False
 |.tree sz rows,.lit (.int _ n)=>t.kind=1/\(sz=e.size/\e.kind≠99/\0<=n/\n<rows.length)/\K (σ.put dst (.cB (rows.getD n.toNat [])))
 |.ptr id r c,.lit (.int _ n)=>t.kind=2/\qc σ.aa[id]?/\(e.kind≠99/\0<=n/\n<t.len)/\K (σ.put dst (.ptr id r (c+n.toNat*e.size)))
 |.cB cells,.lit (.int _ n)=>t.kind=2/\(e.kind≠99/\0<=n/\n<t.len)/\K (σ.put dst (.cB (cells.drop (n.toNat*e.size))))
 |_,_=>False
def Qt(t:TypeId)(x i:Operand):aL P ⟨dst,.indexAddr t x i,tt,p,af,g⟩ σ K=qW (ty P t) (ty P (ty P t).elem) σ dst K (ev σ x) (ev σ i):=by
 simp only[aL,cd];split
 ·rename_i id sz off len k n hk hx hi;rw[hx,hi];simp only[qW,hk,true_and];cases σ.aa[id]? with
  |none=>rfl
  |some o=>cases o<;>rfl
 ·rename_i sz rows k n hk hx hi;rw[hx,hi];simp only[qW,hk,true_and]
 ·rename_i id r c k n hk hx hi;rw[hx,hi];simp only[qW,hk,true_and];cases h:σ.aa[id]? with
  |none=>simp[qc]
  |some o=>cases o<;>simp[qc]
 ·rename_i cells k n hk hx hi;rw[hx,hi];simp only[qW,hk,true_and]
 ·rename_i h1 h2 h3 h4;unfold qW;split
  ·rename_i id sz off len k n hx hi;simp only[eq_iff_iff,false_iff];rintro⟨hk,_⟩;exact h1 id sz off len k n hk hx hi
  ·rename_i sz rows k n hx hi;simp only[eq_iff_iff,false_iff];rintro⟨hk,_⟩;exact h2 sz rows k n hk hx hi
  ·rename_i id r c k n hx hi;simp only[eq_iff_iff,false_iff];rintro⟨hk,_⟩;exact h3 id r c k n hk hx hi
  ·rename_i cells k n hx hi;simp only[eq_iff_iff,false_iff];rintro⟨hk,_⟩;exact h4 cells k n hk hx hi
  ·rfl
def Kx(P:Program)(dst:Option Tmp)(args:List AV)(K:St->Prop)(σ:St):AV->Prop
 |.fn g bC=>tP P g (args++bC) dst K σ
 |_=>False
def Qu(f:Operand)(args:Array Operand)(cC:Array TypeId):aL P ⟨dst,.call ⟨.value f,args,cC⟩,tt,p,af,g⟩ σ K=Kx P dst (args.toList.map (ev σ)) K σ (ev σ f):=by
 simp only[aL];cases ev σ f<;>rfl
def Ky(P:Program)(dst:Option Tmp)(args:List AV)(K:St->Prop)(σ:St)(m:String):AV->Prop
 |.iC t v=>qf P σ v (λg x=>tP P g (x::args) dst K σ) (GY P t m)
 |_=>False
def Qv(r:Operand)(m:String)(args:Array Operand)(cC:Array TypeId):aL P ⟨dst,.call ⟨.invoke r m,args,cC⟩,tt,p,af,g⟩ σ K=Ky P dst (args.toList.map (ev σ)) K σ m (ev σ r):=by
 simp only[aL];cases ev σ r<;>rfl
def Kz(P:Program)(dst:Option Tmp)(args:List AV)(K:St->Prop)(σ:St):AV->Prop
 |.fn g bC=>KA P g (args++bC) dst K σ
 |_=>False
def Qw(f:Operand)(args:Array Operand)(cC:Array TypeId):mF true P ⟨dst,.call ⟨.value f,args,cC⟩,tt,p,af,g⟩ σ K=Kz P dst (args.toList.map (ev σ)) K σ (ev σ f):=by
 simp only[mF];cases ev σ f<;>rfl
def wK(σ:St):List (Nat×Operand)->List (Nat×AV)
 |[]=>[]
 |q::l=>(q.1,ev σ q.2)::wK σ l
def wL(σ:St):List (Nat×Operand)->Bool
 |[]=>true
 |q::l=>(cellsOf (ev σ q.2)).all c8&&wL σ l
def Qx(σ:St)(l:List (Nat×Operand)):wK σ l=l.map λq=>(q.1,ev σ q.2):=by
 induction l with
 |nil=>rfl
 |cons q l ih=>simp only[wK,ih,List.map_cons]
def Qy(σ:St)(l:List (Nat×Operand)):wL σ l=l.all λq=>(cellsOf (ev σ q.2)).all c8:=by
 induction l with
 |nil=>rfl
 |cons q l ih=>simp only[wL,ih,List.all_cons]
def Qz(o:Oper):mF false P o σ K=aL P o σ K:=by simp only[mF]
def QA(x:Operand):aL P ⟨dst,.move x,tt,p,af,g⟩ σ K =
  (K (σ.put dst (ev σ x))):=by unfold aL cd;rfl
def QB(x:Operand):aL P ⟨dst,.assign x,tt,p,af,g⟩ σ K =
  (K (σ.put dst (ev σ x))):=by unfold aL cd;rfl
def QC(c a b:Operand):aL P ⟨dst,.pick c a b,tt,p,af,g⟩ σ K =
  (match ev σ c with
   |.lit (.bool t)=>K (σ.put dst (gp t (ev σ a) (ev σ b)))
   |_=>False):=by unfold aL cd;rfl
def QD (e:TypeId):aL P ⟨dst,.alloc e,tt,p,af,g⟩ σ K =
    ((ty P e).kind≠99 /\
      match (ty P e).zero with
      | some z=>K (({ σ with aa:=σ.aa++[.var (z.map .lit)] }:St).put dst (.ptr σ.aa.length 0 0))
      | none=>False):=by unfold aL cd;rfl
def QF(e:TypeId)(x:Operand):aL P ⟨dst,.box e x,tt,p,af,g⟩ σ K =
  ((cellsOf (ev σ x)).all c8=true/\K (({ σ with aa:=σ.aa++[.var (cellsOf (ev σ x))] }:St).put dst (.ptr σ.aa.length 0 0))):=by unfold aL cd;rfl
def QG(t:TypeId)(parts:Array (Nat×Operand)):aL P ⟨dst,.build t parts,tt,p,af,g⟩ σ K =
  (match (ty P t).kind,(ty P t).zero with
   |3,some z =>
    match nf (λi=>((ty P t).aQ[i]?).map λf=>(f.1,f.2.2)) (z.map .lit) (wK σ parts.toList) with
    |some cs=>(wL σ parts.toList=true/\((ty P t).aQ.all λf=>decide (0<f.2.2))=true)/\K (σ.put dst (.agg cs))
    |none=>False
   |2,some z =>
    match nf (λi=>some (i*(ty P (ty P t).elem).size,(ty P (ty P t).elem).size)) (z.map .lit) (wK σ parts.toList) with
    |some cs=>(wL σ parts.toList=true/\(ty P (ty P t).elem).kind≠99)/\K (σ.put dst (.agg cs))
    |none=>False
   |_,_=>False):=by rw[Qx,Qy];unfold aL cd;rfl
def QH(t:TypeId)(len:Nat)(parts:Array (Nat×Operand)):aL P ⟨dst,.buildSlice t len parts,tt,p,af,g⟩ σ K =
  (match (ty P t).kind,(ty P (ty P t).elem).zero with
   |1,some z =>
    match nf (λi=>some (i*(ty P (ty P t).elem).size,(ty P (ty P t).elem).size)) ((bu len).flatMap λ_=>z.map .lit) (wK σ parts.toList) with
    |some cs=>((ty P (ty P t).elem).kind≠99/\0<(ty P (ty P t).elem).size/\z.length=(ty P (ty P t).elem).size/\len*(ty P (ty P t).elem).size<=16777216/\wL σ parts.toList=true) /\
      K (({ σ with aa:=σ.aa++[.arr (ty P (ty P t).elem).size (ng (ty P (ty P t).elem).size len cs)] }:St).put dst (.ref σ.aa.length (ty P (ty P t).elem).size 0 len))
    |none=>False
   |_,_=>False):=by rw[Qx,Qy];unfold aL cd;rfl
def QI (t:TypeId) (a:Operand):aL P ⟨dst,.load t a,tt,p,af,g⟩ σ K =
    ((ty P t).kind≠99 /\
      match ev σ a with
      | .ptr id r c =>
        match rowOf σ id r with
        | some row=>nh (ty P t) row c λv=>K (σ.put dst v)
        | none=>False
      | .cB cells=>nh (ty P t) cells 0 λv=>K (σ.put dst v)
      | _=>False):=by unfold aL cd;rfl
def QJ (t:TypeId) (a x:Operand):aL P ⟨dst,.store t a x,tt,p,af,g⟩ σ K =
    ((ty P t).kind≠99 /\
      match ev σ a with
      | .ptr id r c =>
        match rowOf σ id r with
        | some row=>((cellsOf (ev σ x)).length=(ty P t).size/\c+(ty P t).size<=row.length/\(cellsOf (ev σ x)).all c8=true)/\K ((pg σ id r (setCells row c (cellsOf (ev σ x)))).put dst .undef)
        | none=>False
      | _=>False):=by unfold aL cd;rfl
def QK(op:BinOp)(t:TypeId)(x y:Operand)(yt:TypeId):aL P ⟨dst,.binOp op t x y yt,tt,p,af,g⟩ σ K =
  (match ev σ x,ev σ y with
   |.lit (.int k a),.lit (.int k' b)=>k=k'/\gU op k a b λv=>K (σ.put dst (.lit v))
   |.lit (.bool a),.lit (.bool b) =>
    (ty P t).kind=6 /\
    match op with
    |.eql=>K (σ.put dst (.lit (.bool (a==b))))
    |.neq=>K (σ.put dst (.lit (.bool (a != b))))
    |_=>False
   |.tree _ rows,.lit (.slice none 0 0) =>
    ((ty P t).kind=1/\0<rows.length) /\
    match op with
    |.eql=>K (σ.put dst (.lit (.bool false)))
    |.neq=>K (σ.put dst (.lit (.bool true)))
    |_=>False
   |.lit (.slice a _ _),.lit (.slice none 0 0) =>
    (ty P t).kind=1 /\
    match op with
    |.eql=>K (σ.put dst (.lit (.bool a.isNone)))
    |.neq=>K (σ.put dst (.lit (.bool (!a.isNone))))
    |_=>False
   |.agg cs,.agg ds =>
    match qg cs,qg ds with
    |some as,some bs =>
     (wM P t as.length/\bs.length=as.length/\P.eqGuardType P.depth t=false) /\
     match op with
     |.eql=>K (σ.put dst (.lit (.bool (decide (as=bs)))))
     |.neq=>K (σ.put dst (.lit (.bool (!decide (as=bs)))))
     |_=>False
    |_,_=>False
   |_,_=>False):=by unfold aL cd;rfl
def QL(op:UnOp)(t:TypeId)(x:Operand):aL P ⟨dst,.unOp op t x,tt,p,af,g⟩ σ K =
  (match op,ev σ x with
   |.not,.lit (.bool b)=>K (σ.put dst (.lit (.bool !b)))
   |.neg,.lit (.int k a)=>u9 k a λv=>K (σ.put dst (.lit v))
   |_,_=>False):=by unfold aL cd;rfl
def QM(fn:Fn)(first captured:Array Operand):aL P ⟨dst,.makeFunc fn first captured,tt,p,af,g⟩ σ K =
  (match fn with
   |.func f=>first.size=0/\K (σ.put dst (.fn f (captured.toList.map (ev σ))))
   |_=>False):=by unfold aL cd;rfl
def QN (t:TypeId) (l c:Operand):aL P ⟨dst,.makeSlice t l c,tt,p,af,g⟩ σ K =
    (match (ty P t).kind,(ty P (ty P t).elem).zero,ev σ l,ev σ c with
      | 1,some z,.lit (.int k n),.lit (.int k' n') =>
        ((ty P (ty P t).elem).kind≠99/\0<(ty P (ty P t).elem).size/\z.length=(ty P (ty P t).elem).size/\n'=n/\0<=n/\n<=1099511627776/\(ty P (ty P t).elem).bytes<=128/\k=k) /\
          K (({ σ with aa:=σ.aa++[.arr (ty P (ty P t).elem).size (aK n.toNat (z.map .lit))] }:St).put dst (.ref σ.aa.length (ty P (ty P t).elem).size 0 n.toNat))/\k'=k'
      | _,_,_,_=>False):=by unfold aL cd;rfl
def QO (t:TypeId) (x:Operand) (lo hi mx:Option Operand):aL P ⟨dst,.slice t x lo hi mx,tt,p,af,g⟩ σ K =
    ((ty P t).kind=1/\(ty P (ty P t).elem).kind≠99/\mx=none /\
      match ev σ x with
      | .ref id sz off len =>
        match σ.aa[id]? with
        | some (.arr da rows) =>
          da=sz/\sz=(ty P (ty P t).elem).size /\
          match lo.map (ev σ),hi.map (ev σ) with
          | none,none=>K (σ.put dst (.ref id sz off len))
          | some (.lit (.int _ l)),none=>(0<=l/\l<=len/\rows.length=rows.length)/\K (σ.put dst (.ref id sz (off+l.toNat) (len - l.toNat)))
          | none,some (.lit (.int _ h))=>(0<=h/\h<=len)/\K (σ.put dst (.ref id sz off h.toNat))
          | some (.lit (.int _ l)),some (.lit (.int _ h))=>(0<=l/\l<=h/\h<=len)/\K (σ.put dst (.ref id sz (off+l.toNat) (h.toNat - l.toNat)))
          | _,_=>False
        | _=>False
      | .tree sz rows =>
          (rows≠[]->sz=(ty P (ty P t).elem).size) /\
          match lo.map (ev σ),hi.map (ev σ) with
          | none,none=>K (σ.put dst (.tree sz rows))
          | some (.lit (.int _ l)),none=>(0<=l/\l<=rows.length)/\K (σ.put dst (.tree sz (rows.drop l.toNat)))
          | none,some (.lit (.int _ h))=>(0<=h/\h<=rows.length)/\K (σ.put dst (.tree sz (rows.take h.toNat)))
          | some (.lit (.int _ l)),some (.lit (.int _ h))=>(0<=l/\l<=h/\h<=rows.length)/\K (σ.put dst (.tree sz ((rows.take h.toNat).drop l.toNat)))
          | _,_=>False
      | _=>False):=by unfold aL cd;rfl
def QP(s:TypeId)(x:Operand)(f:Nat):aL P ⟨dst,.field s x f,tt,p,af,g⟩ σ K =
  (match (ty P s).kind,(ty P s).aQ[f]? with
   |3,some (off,t,size) =>
    (ty P t).kind≠99/\size=(ty P t).size /\
    match ev σ x with
    |.agg cs=>if(ty P t).isAgg then off+size<=cs.length/\K (σ.put dst (.agg ((cs.drop off).take size))) else
      match cs[off]? with
      |some v=>K (σ.put dst v)
      |none=>False
    |_=>False
   |_,_=>False):=by unfold aL cd;rfl
def QR(t:TypeId)(r:Option Operand):aL P ⟨dst,.makeMap t r,tt,p,af,g⟩ σ K =
  ((r=none/\(ty P t).kind=8)/\K (({ σ with aa:=σ.aa++[.mp (AD P t) []] }:St).put dst (.dD σ.aa.length))):=by unfold aL cd;rfl
def QS(t:TypeId)(x i:Operand)(ok:Bool):aL P ⟨dst,.lookup t x i ok,tt,p,af,g⟩ σ K =
  (match keyOf (ev σ i),mG σ (ev σ x),zeroV P (ty P t).elem with
   |some (ag,l),some (_,jb,L),some z=>(jC P t ag/\jb=ag/\l.length=kD ag/\(ty P t).kind=8/\ok=false)/\K (σ.put dst ((ni l L).getD (.lit z)))
   |_,_,_=>False):=by unfold aL cd;rfl
def QT(t:TypeId)(m k x:Operand):aL P ⟨dst,.mapUpdate t m k x,tt,p,af,g⟩ σ K =
  (match keyOf (ev σ k),mG σ (ev σ m) with
   |some (ag,l),some (id,jb,L)=>(jC P t ag/\jb=ag/\l.length=kD ag)/\K (({ σ with aa:=σ.aa.set id (.mp ag (fl l (ev σ x) L)) }:St).put dst .undef)
   |_,_=>False):=by unfold aL cd;rfl
def QU(t:TypeId)(m k:Operand):aL P ⟨dst,.mapEntry t m k,tt,p,af,g⟩ σ K =
  (match keyOf (ev σ k),mG σ (ev σ m),zeroV P (ty P t).elem with
   |some (ag,l),some (id,jb,L),some z=>(jC P t ag/\jb=ag/\l.length=kD ag/\(ty P t).kind=8) /\
    K (({ σ with aa:=σ.aa.set id (.mp ag (fl l ((ni l L).getD (.lit z)) L)) }:St).put dst (.bD [(ni l L).getD (.lit z),Qf (Cm l L:Nat)]))
   |_,_,_=>False):=by unfold aL cd;rfl
def QV(t:TypeId)(m s x:Operand):aL P ⟨dst,.entryStore t m s x,tt,p,af,g⟩ σ K =
  (match ev σ s,mG σ (ev σ m) with
   |.lit (.int .i64 n),some (id,ag,L)=>(0<=n/\n<L.length)/\K (({ σ with aa:=σ.aa.set id (.mp ag (qX n.toNat (ev σ x) L)) }:St).put dst .undef)
   |_,_=>False):=by unfold aL cd;rfl
def QW(t:TypeId)(x i:Operand):aL P ⟨dst,.index t x i,tt,p,af,g⟩ σ K =
  (match ev σ x,ev σ i with
   |.lit (.string s),.lit (.int _ n)=>(P.underlying t=some .string/\0<=n/\n<s.size)/\K (σ.put dst (.lit (.int .u8 (KB s n.toNat))))
   |_,_=>False):=by unfold aL cd;rfl
def QX(t:TypeId)(x:Operand):aL P ⟨dst,.makeInterface t x,tt,p,af,g⟩ σ K =
  (AE P t=false/\K (σ.put dst (.iC t (ev σ x)))):=by unfold aL cd;rfl
def QY(x:Operand)(xt asserted:TypeId)(ok:Bool):aL P ⟨dst,.typeAssert x xt asserted ok,tt,p,af,g⟩ σ K =
  (match ev σ x with
   |.iC t v=>(AE P asserted=false/\t=asserted/\ok=false)/\K (σ.put dst v)
   |_=>False):=by unfold aL cd;rfl
def QZ(x:Operand)(i:Nat):aL P ⟨dst,.extract x i,tt,p,af,g⟩ σ K =
  (match ev σ x with
   |.bD vs =>
    match vs[i]? with
    |some v=>K (σ.put dst v)
    |none=>False
   |_=>False):=by unfold aL cd;rfl
def Q3(args:Array Operand)(argTypes:Array TypeId):aL P ⟨dst,.call ⟨.builtin .len,args,argTypes⟩,tt,p,af,g⟩ σ K =
  (match args.toList,argTypes.toList with
   |[x],[t] =>
    match ev σ x with
    |.ref id sz _ len =>
     (ty P t).kind=1 /\
     match σ.aa[id]? with
     |some (.arr da _)=>da=sz/\K (σ.put dst (Qf len))
     |_=>False
    |.tree _ rows=>(ty P t).kind=1/\K (σ.put dst (Qf rows.length))
    |.lit (.slice none 0 0)=>(ty P t).kind=1/\K (σ.put dst (Qf 0))
    |.dD id =>
     (ty P t).kind=8 /\
     match σ.aa[id]? with
     |some (.mp _ L)=>K (σ.put dst (Qf L.length))
     |_=>False
    |_=>False
   |_,_=>False):=by unfold aL cd;rfl
def Q4(args:Array Operand)(argTypes:Array TypeId):aL P ⟨dst,.call ⟨.builtin .append,args,argTypes⟩,tt,p,af,g⟩ σ K =
  (match args.toList,argTypes.toList with
   |[s,x],[t,t'] =>
    match (ty P t).kind,(ty P (ty P t).elem).zero,lW σ (ty P (ty P t).elem).size (ev σ s),oJ σ (ev σ x) with
    |1,some z,some (pre,σ1),some (sz,src) =>
     (t'=t/\(ty P (ty P t).elem).kind≠99/\sz=(ty P (ty P t).elem).size/\0<sz/\z.length=sz/\pre.length+src.length<=549755813888/\(ty P (ty P t).elem).bytes<=128/\(src.all λrow=>row.all c8)=true) /\
      K (({ σ1 with aa:=σ1.aa++[.arr sz (pre++src)] }:St).put dst (.ref σ1.aa.length sz 0 (pre.length+src.length)))
    |_,_,_,_=>False
   |_,_=>False):=by unfold aL cd;rfl
def Q5(args:Array Operand)(argTypes:Array TypeId):aL P ⟨dst,.call ⟨.builtin .min,args,argTypes⟩,tt,p,af,g⟩ σ K =
  (match args.toList with
   |[x,y] =>
    match ev σ x,ev σ y with
    |.lit (.int k a),.lit (.int k' b)=>k=k'/\K (σ.put dst (.lit (.int k (min a b))))
    |_,_=>False
   |_=>False):=by unfold aL cd;rfl
def Q6(args:Array Operand)(argTypes:Array TypeId):aL P ⟨dst,.call ⟨.builtin .max,args,argTypes⟩,tt,p,af,g⟩ σ K =
  (match args.toList with
   |[x,y] =>
    match ev σ x,ev σ y with
    |.lit (.int k a),.lit (.int k' b)=>k=k'/\K (σ.put dst (.lit (.int k (max a b))))
    |_,_=>False
   |_=>False):=by unfold aL cd;rfl
def Q7 (args:Array Operand) (argTypes:Array TypeId):aL P ⟨dst,.call ⟨.builtin .copy,args,argTypes⟩,tt,p,af,g⟩ σ K =
    (match args.toList,argTypes.toList with
      | [s,x],[t,_] =>
        match ev σ s,oJ σ (ev σ x) with
        | .ref id sz off len,some (da,src) =>
          match σ.aa[id]? with
          | some (.arr lG rows) =>
            ((ty P t).kind=1/\(ty P (ty P t).elem).kind≠99/\da=sz/\lG=sz/\sz=(ty P (ty P t).elem).size/\0<sz/\(src.all λrow=>row.all c8)=true) /\
              K (({ σ with aa:=σ.aa.set id (.arr sz (rows.take off++src.take (min src.length len)++rows.drop (off+min src.length len))) }:St).put dst (Qf (min src.length len:Nat)))
          | _=>False
        | _,_=>False
      | _,_=>False):=by unfold aL cd;rfl
def Q8 (args:Array Operand) (argTypes:Array TypeId):aL P ⟨dst,.call ⟨.builtin .clear,args,argTypes⟩,tt,p,af,g⟩ σ K =
    (match args.toList,argTypes.toList with
      | [s],[t] =>
        match ev σ s,(ty P (ty P t).elem).zero with
        | .ref id sz off len,some z =>
          match σ.aa[id]? with
          | some (.arr da rows) =>
            ((ty P t).kind=1/\(ty P (ty P t).elem).kind≠99/\da=sz/\z.length=sz/\0<sz/\(z.all λu=>u.oneCell')=true) /\
              K (({ σ with aa:=σ.aa.set id (.arr sz (rows.take off++aK len (z.map AV.lit)++rows.drop (off+len))) }:St).put dst (.lit (.tuple #[])))
          | _=>False
        | _,_=>False
      | _,_=>False):=by unfold aL cd;rfl
def Q9(s d:TypeId)(x:Operand):aL P ⟨dst,.convert s d x,tt,p,af,g⟩ σ K =
  (match P.underlying d,ev σ x with
   |some (.int k),.lit (.int _ n)=>(P.underlying s).isSome=true/\K (σ.put dst (.lit (.int k (k.wrap n))))
   |_,_=>False):=by unfold aL cd;rfl
end Go.Am
namespace Go.Am
variable {P:Program} {N n0:Nat} {σ:St} {Q:Exit->St->Prop}
def iD(aj:List Nat)(snap:Bool){v res:AV}{bn:List Ob}(bV:aj.Nodup)(ho:qh (bq σ.aa.length aj) σ.aa aj bn)(hn:n0<=aj.length)(bX:∀ i,i<n0->aj.getD i 0=i)(h:aZ σ (kept aj bn) (bq σ.aa.length aj) snap res v):oK n0 σ v res bn:=by
 obtain⟨h1,h2,h3⟩:=ho.spec;exact⟨aj,snap,bV,h1,h2,h3,hn,bX,h⟩
def eF{e:Nat->AV}{os:List Ob}{v res:AV}{bn:List Ob}(ho:os=bn)(hn:n0<=bn.length)(h:v=res):oK n0 ⟨e,os⟩ v res bn:=by
 subst ho;subst h
 let σ:St:=⟨e,os⟩
 show oK n0 σ v v σ.aa;have hn:n0<=σ.aa.length:=hn;refine⟨bu σ.aa.length,false,List.nodup_range,GM,λj o hj=>.inr ?_,GM,by simpa using hn,λi hi=>?_,?_⟩
 ·have aX:=(aV.1 hj).1;rw[zd,D4];simpa [az,kX aX] using hj
 ·have:i<σ.aa.length:=GK;simp[az,kX this]
 ·exact .eq (by rw[zd,ze])
end Go.Am
namespace Go.Am
variable {P:Program} {N n0:Nat} {σ:St} {Q:Exit->St->Prop}
def jD{aj:List Nat}{co:List Ob}{id:Nat}(h:id ∉ aj):¬ kept aj co id:=by
 rintro⟨j,hj,he,_⟩;apply h;rw[<- he,az,bF hj];exact List.getElem_mem hj
def zf(ρ:Nat->Nat)(os:List Ob):List Nat->List Ob->Prop
 |[],[]=>True
 |i::aj,o::co=>os[i]?=some (bM ρ o)/\zf ρ os aj co
 |_,_=>False
def zf.spec{ρ:Nat->Nat}{os:List Ob}:∀ {aj:List Nat} {co:List Ob},zf ρ os aj co->co.length=aj.length/\∀ (j:Nat) o,co[j]?=some o->os[aj.getD j 0]?=some (bM ρ o)
 |[],[],_=>⟨rfl,GM⟩
 |i::aj,o::co,h=>by
  obtain⟨h1,h3⟩:=h;obtain⟨a,b⟩:=zf.spec h3;refine⟨by simp[a],λj o' hj=>?_⟩;cases j with
  |zero=>simp at hj;subst hj;simpa using h1
  |succ j=>simpa using b j o' (by simpa using hj)
def jE(R:AV->AV->Prop):List AV->List AV->Prop
 |[],[]=>True
 |c::cs,d::ds=>R c d/\jE R cs ds
 |_,_=>False
def jE.spec{R:AV->AV->Prop}:∀ {cs ds:List AV},jE R cs ds->cs.length=ds.length/\∀ (j:Nat) c d,cs[j]?=some c->ds[j]?=some d->R c d
 |[],[],_=>⟨rfl,GM⟩
 |c::cs,d::ds,h=>by
  obtain⟨a,b⟩:=jE.spec h.2;refine⟨by simp[a],λj c' d' hc hd=>?_⟩;cases j with
  |zero=>simp at hc hd;subst hc;subst hd;exact h.1
  |succ j=>exact b j c' d' (by simpa using hc) (by simpa using hd)
def aZ.zg{kp:Nat->Prop}{ρ:Nat->Nat}{snap:Bool}{a b c d:AV}(h:aZ σ kp ρ snap a c)(k:aZ σ kp ρ snap b d):aZ σ kp ρ snap (.bD [a,b]) (.bD [c,d]) :=
 .bD _ _ rfl (jE.spec (R:=aZ σ kp ρ snap) (cs:=[a,b]) (ds:=[c,d]) ⟨h,k,trivial⟩).2
def jF(aj:List Nat){f:FuncId}{args dL:List AV}{bY:List Ob}{dst:Option Tmp}{K:St->Prop}{res:AV}{db:List Ob}(h:Holds P f dL bY res db)(bV:aj.Nodup)(ho:zf (bq σ.aa.length aj) σ.aa aj bY)(ha:jE (aZ σ (·∈aj) (bq σ.aa.length aj) false) dL args)(hK:K (({ σ with aa:=e8 σ.aa aj (db.map (bM (bq σ.aa.length aj))) }:St).put dst (bk (bq σ.aa.length aj) res))):tP P f args dst K σ:=by
 obtain⟨h1,h2⟩:=ho.spec;obtain⟨h3,h4⟩:=ha.spec;exact⟨aj,false,dL,bY,res,db,h,⟨bV,h1,h2,h3,h4,GM⟩,hK⟩
def xW(aj:List Nat){f:FuncId}{args dL:List AV}{bY:List Ob}{dst:Option Tmp}{K:St->Prop}{res:AV}{db:List Ob}(h:Holds P f dL bY res db)(bV:aj.Nodup)(ho:zf (bq σ.aa.length aj) σ.aa aj bY)(ha:jE (aZ σ (·∈aj) (bq σ.aa.length aj) true) dL args)(hf:flat res=true)(D5:∀ o∈db,D6 o)(hK:K (({ σ with aa:=e8 σ.aa aj (db.map (bM (bq σ.aa.length aj))) }:St).put dst (bk (bq σ.aa.length aj) res))):tP P f args dst K σ:=by
 obtain⟨h1,h2⟩:=ho.spec;obtain⟨h3,h4⟩:=ha.spec;exact⟨aj,true,dL,bY,res,db,h,⟨bV,h1,h2,h3,h4,λ_=>⟨hf,D5⟩⟩,hK⟩
def Rb{ρ:Nat->Nat}(cs:List AV):bM ρ (.var cs)=.var (cs.map (bk ρ)):=by simp only[bM]
def Re{ρ:Nat->Nat}:bM ρ .gone=.gone:=by simp only[bM]
def Rf:bu 1=[0]:=GS
def Rg:bu 2=[0,1]:=GS
def Rh:bu 3=[0,1,2]:=GS
def Ri(xs:List Int):(ints xs).take xs.length=ints xs:=by rw[dm (by simp[ints])]
def Rj(xs:List Bool):(a8 xs).take xs.length=a8 xs:=by rw[dm (by simp[a8])]
def Rk(xs:List (List Int)):(fM xs).take xs.length=fM xs:=by rw[dm (by simp[fM])]
def ph{y:Code}{Q0 Q1:Exit->St->Prop}{G:Prop}(S0:St)(hn:∀ s,W P N n0 y Q0 s->Q1 .normal s)(hm:W P N n0 y Q0 S0)(h:(∀ s,aH n0 s S0->Q1 .normal s)->G):G :=
 h λs ht=>hn s (cL ht hm)
end Go.Am
namespace Go.Am
variable {P:Program} {N n0:Nat} {σ:St} {Q:Exit->St->Prop}
def Rl(P:Program)(ops:Array Oper)(Q:Exit->Act->World->Prop)(js:List Nat):Exit->Act->World->Prop
 |.normal,a,w=>wpOps P ops Q js a w
 |e,a,w=>Q e a w
def Oper.aew{o:Oper}{a:Act}{w:World}{K:Act->World->Prop}{Q Q':Exit->Act->World->Prop}(hq:∀ e a w,e≠.normal->Q e a w->Q' e a w)(hl:LetsOut Q->LetsOut Q')(hh:o.wp P a w K Q):o.wp P a w K Q':=by
 unfold Oper.wp at *;generalize (execOp a.eval o).run P w=r at *;cases r with
 |ok n w' =>
  cases n<;>simp only[Oper.upon]at hh⊢<;>
   first
    |exact hh
    |exact Calls.mono hh (λe w'' he=>by
      cases e with
      |returned v=>exact he
      |panicked c=>exact hq _ _ _ GM he
      |outgrown=>exact hl he)
 |halt x w'=>cases x<;>simp only[Oper.upon]at hh ⊢<;>first|exact hh|exact hq _ _ _ GM hh
def zh{ops:Array Oper}{Q:Exit->Act->World->Prop}{js:List Nat}:∀ (is:List Nat) (a:Act) (w:World),wpOps P ops (Rl P ops Q js) is a w->wpOps P ops Q (is++js) a w
 |[],a,w,h=>h
 |i::is,a,w,h=>by
  rw[List.cons_append,wpOps_cons];rw[wpOps_cons]at h;have hl:LetsOut (Rl P ops Q js)->LetsOut Q:=λh=>h;unfold wpOp at h ⊢;cases ho:ops[i]? with
  |none=>simp only[ho]at h ⊢;exact zh is a w h
  |some o =>
   simp only[ho]at h ⊢;by_cases hw:Region.wanted o (yielded ops a.tmps)=true
   ·rw[if_pos hw]at h ⊢;rcases h with h|⟨h1,h2⟩
    ·left;exact Oper.aew (λe a w he hq=>by cases e<;>first|exact absurd rfl he|exact hq) hl (Oper.wp_mono (λa w=>zh is a w) h)
    ·exact .inr ⟨h1,hl h2⟩
   ·rw[if_neg hw]at h ⊢;exact zh is _ w h
def sH{N:Nat}{os:List Ob}{γ0:Cx}{ops:Array Oper}(hd:∀ o∈ops.toList,∀ d,o.dst=some d->d<N){K:St->Prop}{Q:Exit->Act->World->Prop}(hQ:∀ σ' a' w',K σ'->fX N os γ0 σ' a' w'->Q .normal a' w'):∀ (l:List Oper) (i:Nat) (σ:St) (a:Act) (w:World),(∀ k,k<l.length->ops[i+k]?=l[k]?)->opsL P ops l K σ->fX N os γ0 σ a w ->
   wpOps P ops Q (mB i l.length) a w
 |[],i,σ,a,w,_,h,ax=>by simpa [wpOps] using hQ _ _ _ h ax
 |o::r,i,σ,a,w,hl,h,ax=>by
  have hi:ops[i]?=some o:=by simpa using hl 0 GM
  have hr:∀ k,k<r.length->ops[i+1+k]?=r[k]?:=λk hk=>by
   have:=hl (k+1) (by simpa using hk);rw[show i+1+k=i+(k+1) by omega,this];simp
  have bR:o∈ops.toList:=List.mem_of_getElem? (by simpa using hi);rw[List.length_cons,List.range'_succ,wpOps_cons];unfold wpOp;simp only[hi];unfold opsL at h;cases hg:o.guard with
  |none =>
   simp only[hg]at h;have hw:Region.wanted o (yielded ops a.tmps)=true:=by simp[Region.wanted,hg]
   rw[if_pos hw];left;exact xX h ax (hd o bR) (λσ' a' w' hK cW=>sH hd hQ r (i+1) σ' a' w' hr hK cW)
  |some jw =>
   obtain⟨j,want⟩:=jw;simp only[hg]at h;cases ep:(ops[j]?).bind (·.dst) with
   |none=>simp[ep]at h
   |some d =>
    simp only[ep]at h;split at h
    ·rename_i b he;obtain⟨il,aP,γ,rfl,ha,hs,hf⟩:=ax;have jG:=hs.ao d;rw[he,ha]at jG;have hv:=jG.cF;have hy:yielded ops a.tmps j=some b:=by
      unfold yielded;rw[ep];have:a.tmps[d]?=some (.bool b):=by
       rw[eL]at hv;cases hx:a.tmps[d]? with
       |none=>rw[hx]at hv;simp[Go.undef]at hv
       |some y=>rw[hx]at hv;simp at hv;rw[hv]
      simp[this]
     by_cases gM:b=want
     ·have hw:Region.wanted o (yielded ops a.tmps)=true:=by simp[Region.wanted,hg,hy,gM]
      rw[if_pos hw];left;exact xX (h.1 gM) ⟨il,aP,γ,rfl,ha,hs,hf⟩ (hd o bR) (λσ' a' w' hK cW=>sH hd hQ r (i+1) σ' a' w' hr hK cW)
     ·have hw:Region.wanted o (yielded ops a.tmps)=false:=by simp[Region.wanted,hg,hy,gM]
      rw[if_neg (by rw[hw];simp)];refine sH hd hQ r (i+1) _ _ _ hr (h.2 gM) ⟨by rw[put_defers];exact il,by rw[vc];exact aP,{ γ with tmps:=(a.put o.dst Go.undef).tmps },rfl,rfl,sI hs ha (λd h=>by rw[aP];exact hd o bR d h) (.lit _),?_⟩;rw[qY];exact hf.put _
    ·rename_i vs he;obtain⟨il,aP,γ,rfl,ha,hs,hf⟩:=ax;have jG:=hs.ao d;rw[he,ha]at jG;have hv:=jG.cF;have hy:yielded ops a.tmps j=none:=by
      unfold yielded;rw[ep];rw[eL]at hv;cases hx:a.tmps[d]? with
      |none=>simp[hx]
      |some y=>rw[hx]at hv;simp at hv;subst hv;simp[hx]
     have hw:Region.wanted o (yielded ops a.tmps)=false:=by simp[Region.wanted,hg,hy]
     rw[if_neg (by rw[hw];simp)];refine sH hd hQ r (i+1) _ _ _ hr h.2 ⟨by rw[put_defers];exact il,by rw[vc];exact aP,{ γ with tmps:=(a.put o.dst Go.undef).tmps },rfl,rfl,sI hs ha (λd h=>by rw[aP];exact hd o bR d h) (.lit _),?_⟩;rw[qY];exact hf.put _
    ·exact h.elim
def aex{os:List Ob}{γ0:Cx}{ops:Array Oper}(hd:∀ o∈ops.toList,∀ d,o.dst=some d->d<N){K K1:St->Prop}{Q:Exit->Act->World->Prop}(hn:os.length=n0)(hQ:∀ σ' a' w',K σ'->fX N os γ0 σ' a' w'->Q .normal a' w')(n:Nat)(hK:∀ s,K1 s->∃ s1,aH n0 s s1/\opsL P ops (ops.toList.drop n) K s1)(σ:St)(a:Act)(w:World)(h:opsL P ops (ops.toList.take n) K1 σ)(ax:fX N os γ0 σ a w):wpOps P ops Q (bu ops.size) a w:=by
 have e:bu ops.size=mB 0 (ops.toList.take n).length++mB (ops.toList.take n).length (ops.toList.drop n).length:=by
  rw[List.range_eq_range'];have:=List.range'_append (s:=0) (m:=(ops.toList.take n).length) (n:=(ops.toList.drop n).length) (step:=1);simp only[Nat.zero_add,Nat.one_mul]at this;rw[this];congr 1;rw[<- List.length_append,List.take_append_drop];simp
 rw[e];refine zh _ a w ?_;refine sH hd (K:=K1) (λσ' a' w' hk cW=>?_) (ops.toList.take n) 0 σ a w (λk hk=>?_) h ax
 ·obtain⟨s1,ht,ho⟩:=hK σ' hk;obtain⟨h1,h2,γ,rfl,h3,h4,h5⟩:=cW;obtain⟨aA,e1,e2,e3,e4⟩:=ht os γ0 γ hn h4 h5;refine sH hd hQ (ops.toList.drop n) _ s1 a' γ.w (λk hk=>?_) ho ⟨h1,h2,aA,e1,e2.trans h3,e3,e4⟩;rw[List.getElem?_drop];simp only[List.length_drop,sg]at hk;rw[eY,sg,Nat.min_eq_left GK];simp
 ·simp only[eY,sg]at hk;rw[List.getElem?_take_of_lt GK];simp
end Go.Am
namespace Go.Am
variable {σ:St}
def lH(R:AV->AV->Prop):List (List AV)->List (List AV)->Prop
 |[],[]=>True
 |c::cs,d::ds=>jE R c d/\lH R cs ds
 |_,_=>False
def lH.spec{R:AV->AV->Prop}:∀ {cs ds:List (List AV)},lH R cs ds->cs.length=ds.length/\∀ (r c:Nat) v,cellAt cs r c=some v->cellAt ds r c=some ((cellAt ds r c).getD .undef)/\R v ((cellAt ds r c).getD .undef)
 |[],[],_=>⟨rfl,by simp[cellAt]⟩
 |c::cs,d::ds,h=>by
  obtain⟨a,b⟩:=lH.spec h.2;refine⟨by simp[a],λr j v hv=>?_⟩;cases r with
  |zero =>
   simp only[cellAt,List.getElem?_cons_zero,Option.bind_some]at hv ⊢;obtain⟨e1,e2⟩:=h.1.spec;have hj:j<d.length:=by rw[<- e1];exact(aV.1 hv).1
   rw[bF hj];exact⟨rfl,e2 j v _ hv (bF hj)⟩
  |succ r =>
   have:=b r j v (by simpa [cellAt] using hv);simpa [cellAt] using this
def cQ.mk{kp:Nat->Prop}{id sz len:Nat}{rows gV:List (List AV)}(ho:σ.aa[id]?=some (.arr sz rows))(hl:len=rows.length)(tQ:¬ kp id)(hw:∀ row∈gV,row.length=sz)(h:lH (cQ σ kp) gV rows):cQ σ kp (.tree sz gV) (.ref id sz 0 len):=by
 obtain⟨a,b⟩:=h.spec;subst hl;refine .ref id sz 0 rows.length rows gV (λr c=>(cellAt rows r c).getD .undef) ho tQ (by simp[a]) hw (λr c v hv=>?_) (λr c v hv=>?_)
 ·simpa using(b r c v hv).1
 ·exact(b r c v hv).2
end Go.Am

