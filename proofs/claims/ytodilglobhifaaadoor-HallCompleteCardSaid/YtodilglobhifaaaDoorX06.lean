import Derived.Test.YtodilglobhifaaaDoorX05
set_option linter.all false
set_option maxHeartbeats 0
set_option maxRecDepth 20000
open List renaming map_cons→km,all_cons→w4,range→bj,replicate→aw,getElem?_eq_some_iff→aF,getD_eq_getElem?_getD→an,getElem?_range→qM,getElem?_eq_getElem→aN,take_of_length_le→jK,cons_append→kR,range'→g8,length_cons→b8,length_append→aJ,length_take→iC,getElem?_cons_zero→nh,contains_cons→DY,contains_nil→DZ,getD_cons_zero→gH,getD_cons_succ→fJ,getD_nil→w7,size_toArray→uz,map_nil→pG,nil_append→g9,append_nil→eY,getElem?_cons_succ→sH,getElem?_toArray→z',length_nil→eZ,drop_zero→w8,take_zero→Aa,set_cons_zero→sI,set_cons_succ→D5,flatMap_cons→uA,flatMap_nil→D6,length_set→bm,length_replicate→uB
open Array renaming getD_eq_getD_getElem?→cT,length_toList→lE
open Nat renaming zero_add→eX,one_mul→uv,add_zero→jm,zero_mul→D3,mul_one→wY
open Option renaming bind_some→lG,map_some→fV
open Bool renaming or_self→D0,or_false→w6,false_or→ml,or_true→z9,true_or→qN,false_eq_true→iQ,and_true→D1,true_and→fH,not_true→qL,not_false→pF,not_eq_true'→fU,not_eq_false'→D7,or_eq_true→jn,and_eq_true→bb
open Int renaming toNat_natCast→bY,ofNat_lt→uC
namespace Go.Am
variable {P:Program} {dst:Option Tmp} {tt:TypeId} {p:String} {af:Array Edge} {g:Option (Nat×Bool)} {σ:St} {K:St->Prop}
def jZ:Option Ob->Prop
 |some (.var _)=>True
 |some (.arr _ _)=>True
 |some (.mp _ _)=>True
 |_=>False
def E0(a:Nat)(L:List (List Int×AV)):jZ (some (.mp a L))=True:=by simp only[jZ]
def Fk(c:List AV):jZ (some (.var c))=True:=by simp only[jZ]
def Fl(s:Nat)(c:List (List AV)):jZ (some (.arr s c))=True:=by simp only[jZ]
def sT(σ:St)(dst:Option Tmp)(K:St->Prop):AV->Prop
 |.ptr id r c=>jZ σ.aa[id]?/\K (σ.put dst (.ptr id r c))
 |.bO cells=>K (σ.put dst (.bO cells))
 |_=>False
def Fm(x:Operand):aI P ⟨dst,.nilCheck x,tt,p,af,g⟩ σ K=sT σ dst K (ev σ x):=by
 simp only[aI,bh];cases ev σ x<;>simp only[sT];rename_i id r c;cases h:σ.aa[id]? with
 |none=>simp[jZ]
 |some o=>cases o<;>simp[jZ]
def sU(σ:St)(dst:Option Tmp)(K:St->Prop)(off:Nat):AV->Prop
 |.ptr id r c=>jZ σ.aa[id]?/\K (σ.put dst (.ptr id r (c+off)))
 |.bO cells=>K (σ.put dst (.bO (cells.drop off)))
 |_=>False
def pJ(σ:St)(dst:Option Tmp)(K:St->Prop)(v:AV)(kind:Nat):Option (Nat×Nat×Nat)->Prop
 |some (off,_,size)=>kind=3/\0<size/\sU σ dst K off v
 |none=>False
def Fo(s:TypeId)(x:Operand)(f:Nat):aI P ⟨dst,.fieldAddr s x f,tt,p,af,g⟩ σ K=pJ σ dst K (ev σ x) (ty P s).kind (ty P s).aE[f]?:=by
 simp only[aI,bh];split
 ·rename_i off ft size hk hf;rw[hk,hf];simp only[pJ,true_and];cases ev σ x<;>simp only[sU];rename_i id r c;cases h:σ.aa[id]? with
  |none=>simp[jZ]
  |some o=>cases o<;>simp[jZ]
 ·rename_i bx;cases hf:(ty P s).aE[f]? with
  |none=>simp[pJ]
  |some q =>
   obtain⟨off,ft,size⟩:=q;simp only[pJ];have:(ty P s).kind≠3:=λe=>bx off ft size e hf;simp[this]
def jO(t:Ty)(e:Ty)(σ:St)(dst:Option Tmp)(K:St->Prop):AV->AV->Prop
 |.ref id sz off len,.lit (.int _ n) =>
  t.kind=1 /\
  match σ.aa[id]? with
  |some (.arr bz _)=>(bz=sz/\sz=e.size/\e.kind≠99/\0<=n/\n<len)/\K (σ.put dst (.ptr id (off+n.toNat) 0))
  |_=>False
 |.tree sz rows,.lit (.int _ n)=>t.kind=1/\(sz=e.size/\e.kind≠99/\0<=n/\n<rows.length)/\K (σ.put dst (.bO (rows.getD n.toNat [])))
 |.ptr id r c,.lit (.int _ n)=>t.kind=2/\jZ σ.aa[id]?/\(e.kind≠99/\0<=n/\n<t.len)/\K (σ.put dst (.ptr id r (c+n.toNat*e.size)))
 |.bO cells,.lit (.int _ n)=>t.kind=2/\(e.kind≠99/\0<=n/\n<t.len)/\K (σ.put dst (.bO (cells.drop (n.toNat*e.size))))
 |_,_=>False
def Fp(t:TypeId)(x i:Operand):aI P ⟨dst,.indexAddr t x i,tt,p,af,g⟩ σ K=jO (ty P t) (ty P (ty P t).elem) σ dst K (ev σ x) (ev σ i):=by
 simp only[aI,bh];split
 ·rename_i id sz off len k n hk hx hi;rw[hx,hi];simp only[jO,hk,true_and];cases σ.aa[id]? with
  |none=>rfl
  |some o=>cases o<;>rfl
 ·rename_i sz rows k n hk hx hi;rw[hx,hi];simp only[jO,hk,true_and]
 ·rename_i id r c k n hk hx hi;rw[hx,hi];simp only[jO,hk,true_and];cases h:σ.aa[id]? with
  |none=>simp[jZ]
  |some o=>cases o<;>simp[jZ]
 ·rename_i cells k n hk hx hi;rw[hx,hi];simp only[jO,hk,true_and]
 ·rename_i h1 h2 h3 h4;unfold jO;split
  ·rename_i id sz off len k n hx hi;simp only[eq_iff_iff,false_iff];rintro⟨hk,_⟩;exact h1 id sz off len k n hk hx hi
  ·rename_i sz rows k n hx hi;simp only[eq_iff_iff,false_iff];rintro⟨hk,_⟩;exact h2 sz rows k n hk hx hi
  ·rename_i id r c k n hx hi;simp only[eq_iff_iff,false_iff];rintro⟨hk,_⟩;exact h3 id r c k n hk hx hi
  ·rename_i cells k n hx hi;simp only[eq_iff_iff,false_iff];rintro⟨hk,_⟩;exact h4 cells k n hk hx hi
  ·rfl
def Aq(P:Program)(dst:Option Tmp)(args:List AV)(K:St->Prop)(σ:St):AV->Prop
 |.fn g bC=>mC P g (args++bC) dst K σ
 |_=>False
def Fq(f:Operand)(args:Array Operand)(gM:Array TypeId):aI P ⟨dst,.call ⟨.value f,args,gM⟩,tt,p,af,g⟩ σ K=Aq P dst (args.toList.map (ev σ)) K σ (ev σ f):=by
 simp only[aI];cases ev σ f<;>rfl
def Av(P:Program)(dst:Option Tmp)(args:List AV)(K:St->Prop)(σ:St)(m:String):AV->Prop
 |.dW t v=>jS P σ v (λg x=>mC P g (x::args) dst K σ) (xK P t m)
 |_=>False
def ER(r:Operand)(m:String)(args:Array Operand)(gM:Array TypeId):aI P ⟨dst,.call ⟨.invoke r m,args,gM⟩,tt,p,af,g⟩ σ K=Av P dst (args.toList.map (ev σ)) K σ m (ev σ r):=by
 simp only[aI];cases ev σ r<;>rfl
def Ar(P:Program)(dst:Option Tmp)(args:List AV)(K:St->Prop)(σ:St):AV->Prop
 |.fn g bC=>AI P g (args++bC) dst K σ
 |_=>False
def Fs(f:Operand)(args:Array Operand)(gM:Array TypeId):jy true P ⟨dst,.call ⟨.value f,args,gM⟩,tt,p,af,g⟩ σ K=Ar P dst (args.toList.map (ev σ)) K σ (ev σ f):=by
 simp only[jy];cases ev σ f<;>rfl
def nm(σ:St):List (Nat×Operand)->List (Nat×AV)
 |[]=>[]
 |q::l=>(q.1,ev σ q.2)::nm σ l
def nn(σ:St):List (Nat×Operand)->Bool
 |[]=>true
 |q::l=>(cellsOf (ev σ q.2)).all bt&&nn σ l
def Ft(σ:St)(l:List (Nat×Operand)):nm σ l=l.map λq=>(q.1,ev σ q.2):=by
 induction l with
 |nil=>rfl
 |cons q l ih=>simp only[nm,ih,km]
def Fu(σ:St)(l:List (Nat×Operand)):nn σ l=l.all λq=>(cellsOf (ev σ q.2)).all bt:=by
 induction l with
 |nil=>rfl
 |cons q l ih=>simp only[nn,ih,w4]
def Fv(o:Oper):jy false P o σ K=aI P o σ K:=by simp only[jy]
def Fw(x:Operand):aI P ⟨dst,.move x,tt,p,af,g⟩ σ K =
  (K (σ.put dst (ev σ x))):=by unfold aI bh;rfl
def Fx(x:Operand):aI P ⟨dst,.assign x,tt,p,af,g⟩ σ K =
  (K (σ.put dst (ev σ x))):=by unfold aI bh;rfl
def Fy(c a b:Operand):aI P ⟨dst,.pick c a b,tt,p,af,g⟩ σ K =
  (match ev σ c with
   |.lit (.bool t)=>K (σ.put dst (dh t (ev σ a) (ev σ b)))
   |_=>False):=by unfold aI bh;rfl
def Fz (e:TypeId):aI P ⟨dst,.alloc e,tt,p,af,g⟩ σ K =
    ((ty P e).kind≠99 /\
      match (ty P e).zero with
      | some z=>K (({ σ with aa:=σ.aa++[.var (z.map .lit)] }:St).put dst (.ptr σ.aa.length 0 0))
      | none=>False):=by unfold aI bh;rfl
def FA(e:TypeId)(x:Operand):aI P ⟨dst,.box e x,tt,p,af,g⟩ σ K =
  ((cellsOf (ev σ x)).all bt=true/\K (({ σ with aa:=σ.aa++[.var (cellsOf (ev σ x))] }:St).put dst (.ptr σ.aa.length 0 0))):=by unfold aI bh;rfl
def FB(t:TypeId)(parts:Array (Nat×Operand)):aI P ⟨dst,.build t parts,tt,p,af,g⟩ σ K =
  (match (ty P t).kind,(ty P t).zero with
   |3,some z =>
    match ia (λi=>((ty P t).aE[i]?).map λf=>(f.1,f.2.2)) (z.map .lit) (nm σ parts.toList) with
    |some cs=>(nn σ parts.toList=true/\((ty P t).aE.all λf=>decide (0<f.2.2))=true)/\K (σ.put dst (.agg cs))
    |none=>False
   |2,some z =>
    match ia (λi=>some (i*(ty P (ty P t).elem).size,(ty P (ty P t).elem).size)) (z.map .lit) (nm σ parts.toList) with
    |some cs=>(nn σ parts.toList=true/\(ty P (ty P t).elem).kind≠99)/\K (σ.put dst (.agg cs))
    |none=>False
   |_,_=>False):=by rw[Ft,Fu];unfold aI bh;rfl
def FC(t:TypeId)(len:Nat)(parts:Array (Nat×Operand)):aI P ⟨dst,.buildSlice t len parts,tt,p,af,g⟩ σ K =
  (match (ty P t).kind,(ty P (ty P t).elem).zero with
   |1,some z =>
    match ia (λi=>some (i*(ty P (ty P t).elem).size,(ty P (ty P t).elem).size)) ((bj len).flatMap λ_=>z.map .lit) (nm σ parts.toList) with
    |some cs=>((ty P (ty P t).elem).kind≠99/\0<(ty P (ty P t).elem).size/\z.length=(ty P (ty P t).elem).size/\len*(ty P (ty P t).elem).size<=16777216/\nn σ parts.toList=true) /\
      K (({ σ with aa:=σ.aa++[.arr (ty P (ty P t).elem).size (ib (ty P (ty P t).elem).size len cs)] }:St).put dst (.ref σ.aa.length (ty P (ty P t).elem).size 0 len))
    |none=>False
   |_,_=>False):=by rw[Ft,Fu];unfold aI bh;rfl
def FD (t:TypeId) (a:Operand):aI P ⟨dst,.load t a,tt,p,af,g⟩ σ K =
    ((ty P t).kind≠99 /\
      match ev σ a with
      | .ptr id r c =>
        match rowOf σ id r with
        | some row=>h9 (ty P t) row c λv=>K (σ.put dst v)
        | none=>False
      | .bO cells=>h9 (ty P t) cells 0 λv=>K (σ.put dst v)
      | _=>False):=by unfold aI bh;rfl
def FE (t:TypeId) (a x:Operand):aI P ⟨dst,.store t a x,tt,p,af,g⟩ σ K =
    ((ty P t).kind≠99 /\
      match ev σ a with
      | .ptr id r c =>
        match rowOf σ id r with
        | some row=>((cellsOf (ev σ x)).length=(ty P t).size/\c+(ty P t).size<=row.length/\(cellsOf (ev σ x)).all bt=true)/\K ((jq σ id r (setCells row c (cellsOf (ev σ x)))).put dst .undef)
        | none=>False
      | _=>False):=by unfold aI bh;rfl
def FF(op:BinOp)(t:TypeId)(x y:Operand)(yt:TypeId):aI P ⟨dst,.binOp op t x y yt,tt,p,af,g⟩ σ K =
  (match ev σ x,ev σ y with
   |.lit (.int k a),.lit (.int k' b)=>k=k'/\dG op k a b λv=>K (σ.put dst (.lit v))
   |.lit (.bool a),.lit (.bool b) =>
    (ty P t).kind=6 /\
    match op with
    |.eql=>K (σ.put dst (.lit (.bool (a==b))))
    |.neq=>K (σ.put dst (.lit (.bool (a != b))))
    |_=>False
   |.tree _ rows,.lit (.slice none 0 0) =>
    ((ty P t).kind=1/\0<rows.length) /\
    match op with
    |.eql=>K (σ.put dst (.lit (.bool false)))
    |.neq=>K (σ.put dst (.lit (.bool true)))
    |_=>False
   |.lit (.slice a _ _),.lit (.slice none 0 0) =>
    (ty P t).kind=1 /\
    match op with
    |.eql=>K (σ.put dst (.lit (.bool a.isNone)))
    |.neq=>K (σ.put dst (.lit (.bool (!a.isNone))))
    |_=>False
   |.agg cs,.agg ds =>
    match jR cs,jR ds with
    |some as,some bs =>
     (mB P t as.length/\bs.length=as.length/\P.eqGuardType P.depth t=false) /\
     match op with
     |.eql=>K (σ.put dst (.lit (.bool (decide (as=bs)))))
     |.neq=>K (σ.put dst (.lit (.bool (!decide (as=bs)))))
     |_=>False
    |_,_=>False
   |_,_=>False):=by unfold aI bh;rfl
def FG(op:UnOp)(t:TypeId)(x:Operand):aI P ⟨dst,.unOp op t x,tt,p,af,g⟩ σ K =
  (match op,ev σ x with
   |.not,.lit (.bool b)=>K (σ.put dst (.lit (.bool !b)))
   |.neg,.lit (.int k a)=>mD k a λv=>K (σ.put dst (.lit v))
   |_,_=>False):=by unfold aI bh;rfl
def FH(fn:Fn)(first captured:Array Operand):aI P ⟨dst,.makeFunc fn first captured,tt,p,af,g⟩ σ K =
  (match fn with
   |.func f=>first.size=0/\K (σ.put dst (.fn f (captured.toList.map (ev σ))))
   |_=>False):=by unfold aI bh;rfl
def FI (t:TypeId) (l c:Operand):aI P ⟨dst,.makeSlice t l c,tt,p,af,g⟩ σ K =
    (match (ty P t).kind,(ty P (ty P t).elem).zero,ev σ l,ev σ c with
      | 1,some z,.lit (.int k n),.lit (.int k' n') =>
        ((ty P (ty P t).elem).kind≠99/\0<(ty P (ty P t).elem).size/\z.length=(ty P (ty P t).elem).size/\n'=n/\0<=n/\n<=1099511627776/\(ty P (ty P t).elem).bytes<=128/\k=k) /\
          K (({ σ with aa:=σ.aa++[.arr (ty P (ty P t).elem).size (aw n.toNat (z.map .lit))] }:St).put dst (.ref σ.aa.length (ty P (ty P t).elem).size 0 n.toNat))/\k'=k'
      | _,_,_,_=>False):=by unfold aI bh;rfl
def FJ (t:TypeId) (x:Operand) (lo hi mx:Option Operand):aI P ⟨dst,.slice t x lo hi mx,tt,p,af,g⟩ σ K =
    ((ty P t).kind=1/\(ty P (ty P t).elem).kind≠99/\mx=none /\
      match ev σ x with
      | .ref id sz off len =>
        match σ.aa[id]? with
        | some (.arr bz rows) =>
          bz=sz/\sz=(ty P (ty P t).elem).size /\
          match lo.map (ev σ),hi.map (ev σ) with
          | none,none=>K (σ.put dst (.ref id sz off len))
          | some (.lit (.int _ l)),none=>(0<=l/\l<=len/\rows.length=rows.length)/\K (σ.put dst (.ref id sz (off+l.toNat) (len - l.toNat)))
          | none,some (.lit (.int _ h))=>(0<=h/\h<=len)/\K (σ.put dst (.ref id sz off h.toNat))
          | some (.lit (.int _ l)),some (.lit (.int _ h))=>(0<=l/\l<=h/\h<=len)/\K (σ.put dst (.ref id sz (off+l.toNat) (h.toNat - l.toNat)))
          | _,_=>False
        | _=>False
      | .tree sz rows =>
          (rows≠[]->sz=(ty P (ty P t).elem).size) /\
          match lo.map (ev σ),hi.map (ev σ) with
          | none,none=>K (σ.put dst (.tree sz rows))
          | some (.lit (.int _ l)),none=>(0<=l/\l<=rows.length)/\K (σ.put dst (.tree sz (rows.drop l.toNat)))
          | none,some (.lit (.int _ h))=>(0<=h/\h<=rows.length)/\K (σ.put dst (.tree sz (rows.take h.toNat)))
          | some (.lit (.int _ l)),some (.lit (.int _ h))=>(0<=l/\l<=h/\h<=rows.length)/\K (σ.put dst (.tree sz ((rows.take h.toNat).drop l.toNat)))
          | _,_=>False
      | _=>False):=by unfold aI bh;rfl
def FK(s:TypeId)(x:Operand)(f:Nat):aI P ⟨dst,.field s x f,tt,p,af,g⟩ σ K =
  (match (ty P s).kind,(ty P s).aE[f]? with
   |3,some (off,t,size) =>
    (ty P t).kind≠99/\size=(ty P t).size /\
    match ev σ x with
    |.agg cs=>if(ty P t).isAgg then off+size<=cs.length/\K (σ.put dst (.agg ((cs.drop off).take size))) else
      match cs[off]? with
      |some v=>K (σ.put dst v)
      |none=>False
    |_=>False
   |_,_=>False):=by unfold aI bh;rfl
def EU(t:TypeId)(r:Option Operand):aI P ⟨dst,.makeMap t r,tt,p,af,g⟩ σ K =
  ((r=none/\(ty P t).kind=8)/\K (({ σ with aa:=σ.aa++[.mp (uR P t) []] }:St).put dst (.cJ σ.aa.length))):=by unfold aI bh;rfl
def EV(t:TypeId)(x i:Operand)(ok:Bool):aI P ⟨dst,.lookup t x i ok,tt,p,af,g⟩ σ K =
  (match keyOf (ev σ i),gJ σ (ev σ x),zeroV P (ty P t).elem with
   |some (ag,l),some (_,eG,L),some z=>(gg P t ag/\eG=ag/\l.length=e8 ag/\(ty P t).kind=8/\ok=false)/\K (σ.put dst ((iF l L).getD (.lit z)))
   |_,_,_=>False):=by unfold aI bh;rfl
def EW(t:TypeId)(m k x:Operand):aI P ⟨dst,.mapUpdate t m k x,tt,p,af,g⟩ σ K =
  (match keyOf (ev σ k),gJ σ (ev σ m) with
   |some (ag,l),some (id,eG,L)=>(gg P t ag/\eG=ag/\l.length=e8 ag)/\K (({ σ with aa:=σ.aa.set id (.mp ag (bT l (ev σ x) L)) }:St).put dst .undef)
   |_,_=>False):=by unfold aI bh;rfl
def EY(t:TypeId)(m k:Operand):aI P ⟨dst,.mapEntry t m k,tt,p,af,g⟩ σ K =
  (match keyOf (ev σ k),gJ σ (ev σ m),zeroV P (ty P t).elem with
   |some (ag,l),some (id,eG,L),some z=>(gg P t ag/\eG=ag/\l.length=e8 ag/\(ty P t).kind=8) /\
    K (({ σ with aa:=σ.aa.set id (.mp ag (bT l ((iF l L).getD (.lit z)) L)) }:St).put dst (.bA [(iF l L).getD (.lit z),UX (nu l L:Nat)]))
   |_,_,_=>False):=by unfold aI bh;rfl
def EZ(t:TypeId)(m s x:Operand):aI P ⟨dst,.entryStore t m s x,tt,p,af,g⟩ σ K =
  (match ev σ s,gJ σ (ev σ m) with
   |.lit (.int .i64 n),some (id,ag,L)=>(0<=n/\n<L.length)/\K (({ σ with aa:=σ.aa.set id (.mp ag (jz n.toNat (ev σ x) L)) }:St).put dst .undef)
   |_,_=>False):=by unfold aI bh;rfl
def EX(t:TypeId)(x i:Operand):aI P ⟨dst,.index t x i,tt,p,af,g⟩ σ K =
  (match ev σ x,ev σ i with
   |.lit (.string s),.lit (.int _ n)=>(P.underlying t=some .string/\0<=n/\n<s.size)/\K (σ.put dst (.lit (.int .u8 (nv s n.toNat))))
   |_,_=>False):=by unfold aI bh;rfl
def ES(t:TypeId)(x:Operand):aI P ⟨dst,.makeInterface t x,tt,p,af,g⟩ σ K =
  (s0 P t=false/\K (σ.put dst (.dW t (ev σ x)))):=by unfold aI bh;rfl
def ET(x:Operand)(xt asserted:TypeId)(ok:Bool):aI P ⟨dst,.typeAssert x xt asserted ok,tt,p,af,g⟩ σ K =
  (match ev σ x with
   |.dW t v=>(s0 P asserted=false/\t=asserted/\ok=false)/\K (σ.put dst v)
   |_=>False):=by unfold aI bh;rfl
def FL(x:Operand)(i:Nat):aI P ⟨dst,.extract x i,tt,p,af,g⟩ σ K =
  (match ev σ x with
   |.bA vs =>
    match vs[i]? with
    |some v=>K (σ.put dst v)
    |none=>False
   |_=>False):=by unfold aI bh;rfl
def FM(args:Array Operand)(argTypes:Array TypeId):aI P ⟨dst,.call ⟨.builtin .len,args,argTypes⟩,tt,p,af,g⟩ σ K =
  (match args.toList,argTypes.toList with
   |[x],[t] =>
    match ev σ x with
    |.ref id sz _ len =>
     (ty P t).kind=1 /\
     match σ.aa[id]? with
     |some (.arr bz _)=>bz=sz/\K (σ.put dst (UX len))
     |_=>False
    |.tree _ rows=>(ty P t).kind=1/\K (σ.put dst (UX rows.length))
    |.lit (.slice none 0 0)=>(ty P t).kind=1/\K (σ.put dst (UX 0))
    |.cJ id =>
     (ty P t).kind=8 /\
     match σ.aa[id]? with
     |some (.mp _ L)=>K (σ.put dst (UX L.length))
     |_=>False
    |_=>False
   |_,_=>False):=by unfold aI bh;rfl
def FN(args:Array Operand)(argTypes:Array TypeId):aI P ⟨dst,.call ⟨.builtin .append,args,argTypes⟩,tt,p,af,g⟩ σ K =
  (match args.toList,argTypes.toList with
   |[s,x],[t,t'] =>
    match (ty P t).kind,(ty P (ty P t).elem).zero,kW σ (ty P (ty P t).elem).size (ev σ s),jr σ (ev σ x) with
    |1,some z,some (pre,σ1),some (sz,src) =>
     (t'=t/\(ty P (ty P t).elem).kind≠99/\sz=(ty P (ty P t).elem).size/\0<sz/\z.length=sz/\pre.length+src.length<=549755813888/\(ty P (ty P t).elem).bytes<=128/\(src.all λrow=>row.all bt)=true) /\
      K (({ σ1 with aa:=σ1.aa++[.arr sz (pre++src)] }:St).put dst (.ref σ1.aa.length sz 0 (pre.length+src.length)))
    |_,_,_,_=>False
   |_,_=>False):=by unfold aI bh;rfl
def FO(args:Array Operand)(argTypes:Array TypeId):aI P ⟨dst,.call ⟨.builtin .min,args,argTypes⟩,tt,p,af,g⟩ σ K =
  (match args.toList with
   |[x,y] =>
    match ev σ x,ev σ y with
    |.lit (.int k a),.lit (.int k' b)=>k=k'/\K (σ.put dst (.lit (.int k (min a b))))
    |_,_=>False
   |_=>False):=by unfold aI bh;rfl
def FQ(args:Array Operand)(argTypes:Array TypeId):aI P ⟨dst,.call ⟨.builtin .max,args,argTypes⟩,tt,p,af,g⟩ σ K =
  (match args.toList with
   |[x,y] =>
    match ev σ x,ev σ y with
    |.lit (.int k a),.lit (.int k' b)=>k=k'/\K (σ.put dst (.lit (.int k (max a b))))
    |_,_=>False
   |_=>False):=by unfold aI bh;rfl
def FR (args:Array Operand) (argTypes:Array TypeId):aI P ⟨dst,.call ⟨.builtin .copy,args,argTypes⟩,tt,p,af,g⟩ σ K =
    (match args.toList,argTypes.toList with
      | [s,x],[t,_] =>
        match ev σ s,jr σ (ev σ x) with
        | .ref id sz off len,some (bz,src) =>
          match σ.aa[id]? with
          | some (.arr gj rows) =>
            ((ty P t).kind=1/\(ty P (ty P t).elem).kind≠99/\bz=sz/\gj=sz/\sz=(ty P (ty P t).elem).size/\0<sz/\(src.all λrow=>row.all bt)=true) /\
              K (({ σ with aa:=σ.aa.set id (.arr sz (rows.take off++src.take (min src.length len)++rows.drop (off+min src.length len))) }:St).put dst (UX (min src.length len:Nat)))
          | _=>False
        | _,_=>False
      | _,_=>False):=by unfold aI bh;rfl
def FT (args:Array Operand) (argTypes:Array TypeId):aI P ⟨dst,.call ⟨.builtin .clear,args,argTypes⟩,tt,p,af,g⟩ σ K =
    (match args.toList,argTypes.toList with
      | [s],[t] =>
        match ev σ s,(ty P (ty P t).elem).zero with
        | .ref id sz off len,some z =>
          match σ.aa[id]? with
          | some (.arr bz rows) =>
            ((ty P t).kind=1/\(ty P (ty P t).elem).kind≠99/\bz=sz/\z.length=sz/\0<sz/\(z.all λu=>u.oneCell')=true) /\
              K (({ σ with aa:=σ.aa.set id (.arr sz (rows.take off++aw len (z.map AV.lit)++rows.drop (off+len))) }:St).put dst (.lit (.tuple #[])))
          | _=>False
        | _,_=>False
      | _,_=>False):=by unfold aI bh;rfl
def FU(s d:TypeId)(x:Operand):aI P ⟨dst,.convert s d x,tt,p,af,g⟩ σ K =
  (match P.underlying d,ev σ x with
   |some (.int k),.lit (.int _ n)=>(P.underlying s).isSome=true/\K (σ.put dst (.lit (.int k (k.wrap n))))
   |_,_=>False):=by unfold aI bh;rfl
end Go.Am
namespace Go.Am
variable {P:Program} {N n0:Nat} {σ:St} {Q:Exit->St->Prop}
def pM(ab:List Nat)(snap:Bool){v res:AV}{aL:List Ob}(cm:ab.Nodup)(ho:jU (a9 σ.aa.length ab) σ.aa ab aL)(hn:n0<=ab.length)(bZ:∀ i,i<n0->ab.getD i 0=i)(h:bd σ (kept ab aL) (a9 σ.aa.length ab) snap res v):jV n0 σ v res aL:=by
 obtain⟨h1,h2,h3⟩:=ho.spec;exact⟨ab,snap,cm,h1,h2,h3,hn,bZ,h⟩
def fZ{e:Nat->AV}{os:List Ob}{v res:AV}{aL:List Ob}(ho:os=aL)(hn:n0<=aL.length)(h:v=res):jV n0 ⟨e,os⟩ v res aL:=by
 subst ho;subst h
 let σ:St:=⟨e,os⟩
 show jV n0 σ v v σ.aa;have hn:n0<=σ.aa.length:=hn;refine⟨bj σ.aa.length,false,List.nodup_range,Eb,λj o hj=>.inr ?_,Eb,by simpa using hn,λi hi=>?_,?_⟩
 ·have aZ:=(aF.1 hj).1;rw[pS,uS];simpa [an,qM aZ] using hj
 ·have:i<σ.aa.length:=z8;simp[an,qM this]
 ·exact .eq (by rw[pS,pT])
end Go.Am
namespace Go.Am
variable {P:Program} {N n0:Nat} {σ:St} {Q:Exit->St->Prop}
def oB{ab:List Nat}{co:List Ob}{id:Nat}(h:id ∉ ab):¬ kept ab co id:=by
 rintro⟨j,hj,he,_⟩;apply h;rw[<- he,an,aN hj];exact List.getElem_mem hj
def pP(ρ:Nat->Nat)(os:List Ob):List Nat->List Ob->Prop
 |[],[]=>True
 |i::ab,o::co=>os[i]?=some (bf ρ o)/\pP ρ os ab co
 |_,_=>False
def pP.spec{ρ:Nat->Nat}{os:List Ob}:∀ {ab:List Nat} {co:List Ob},pP ρ os ab co->co.length=ab.length/\∀ (j:Nat) o,co[j]?=some o->os[ab.getD j 0]?=some (bf ρ o)
 |[],[],_=>⟨rfl,Eb⟩
 |i::ab,o::co,h=>by
  obtain⟨h1,h3⟩:=h;obtain⟨a,b⟩:=pP.spec h3;refine⟨by simp[a],λj o' hj=>?_⟩;cases j with
  |zero=>simp at hj;subst hj;simpa using h1
  |succ j=>simpa using b j o' (by simpa using hj)
def kA(R:AV->AV->Prop):List AV->List AV->Prop
 |[],[]=>True
 |c::cs,d::ds=>R c d/\kA R cs ds
 |_,_=>False
def kA.spec{R:AV->AV->Prop}:∀ {cs ds:List AV},kA R cs ds->cs.length=ds.length/\∀ (j:Nat) c d,cs[j]?=some c->ds[j]?=some d->R c d
 |[],[],_=>⟨rfl,Eb⟩
 |c::cs,d::ds,h=>by
  obtain⟨a,b⟩:=kA.spec h.2;refine⟨by simp[a],λj c' d' hc hd=>?_⟩;cases j with
  |zero=>simp at hc hd;subst hc;subst hd;exact h.1
  |succ j=>exact b j c' d' (by simpa using hc) (by simpa using hd)
def bd.FV{kp:Nat->Prop}{ρ:Nat->Nat}{snap:Bool}{a b c d:AV}(h:bd σ kp ρ snap a c)(k:bd σ kp ρ snap b d):bd σ kp ρ snap (.bA [a,b]) (.bA [c,d]) :=
 .bA _ _ rfl (kA.spec (R:=bd σ kp ρ snap) (cs:=[a,b]) (ds:=[c,d]) ⟨h,k,trivial⟩).2
def rh(ab:List Nat){f:FuncId}{args cE:List AV}{aV:List Ob}{dst:Option Tmp}{K:St->Prop}{res:AV}{bD:List Ob}(h:ao P f cE aV res bD)(cm:ab.Nodup)(ho:pP (a9 σ.aa.length ab) σ.aa ab aV)(ha:kA (bd σ (·∈ab) (a9 σ.aa.length ab) false) cE args)(hK:K (({ σ with aa:=dv σ.aa ab (bD.map (bf (a9 σ.aa.length ab))) }:St).put dst (aG (a9 σ.aa.length ab) res))):mC P f args dst K σ:=by
 obtain⟨h1,h2⟩:=ho.spec;obtain⟨h3,h4⟩:=ha.spec;exact⟨ab,false,cE,aV,res,bD,h,⟨cm,h1,h2,h3,h4,Eb⟩,hK⟩
def s5(ab:List Nat){f:FuncId}{args cE:List AV}{aV:List Ob}{dst:Option Tmp}{K:St->Prop}{res:AV}{bD:List Ob}(h:ao P f cE aV res bD)(cm:ab.Nodup)(ho:pP (a9 σ.aa.length ab) σ.aa ab aV)(ha:kA (bd σ (·∈ab) (a9 σ.aa.length ab) true) cE args)(hf:flat res=true)(uT:∀ o∈bD,xL o)(hK:K (({ σ with aa:=dv σ.aa ab (bD.map (bf (a9 σ.aa.length ab))) }:St).put dst (aG (a9 σ.aa.length ab) res))):mC P f args dst K σ:=by
 obtain⟨h1,h2⟩:=ho.spec;obtain⟨h3,h4⟩:=ha.spec;exact⟨ab,true,cE,aV,res,bD,h,⟨cm,h1,h2,h3,h4,λ_=>⟨hf,uT⟩⟩,hK⟩
def FW{ρ:Nat->Nat}(cs:List AV):bf ρ (.var cs)=.var (cs.map (aG ρ)):=by simp only[bf]
def FX{ρ:Nat->Nat}:bf ρ .gone=.gone:=by simp only[bf]
def FY:bj 1=[0]:=US
def FZ:bj 2=[0,1]:=US
def F0:bj 3=[0,1,2]:=US
def F1(xs:List Int):(ints xs).take xs.length=ints xs:=by rw[jK (by simp[ints])]
def F2(xs:List Bool):(bP xs).take xs.length=bP xs:=by rw[jK (by simp[bP])]
def F3(xs:List (List Int)):(aU xs).take xs.length=aU xs:=by rw[jK (by simp[aU])]
def F4{y:Code}{Q0 Q1:Exit->St->Prop}{G:Prop}(S0:St)(hn:∀ s,W P N n0 y Q0 s->Q1 .normal s)(hm:W P N n0 y Q0 S0)(h:(∀ s,aR n0 s S0->Q1 .normal s)->G):G :=
 h λs ht=>hn s (kB ht hm)
end Go.Am
namespace Go.Am
variable {P:Program} {N n0:Nat} {σ:St} {Q:Exit->St->Prop}
def F5(P:Program)(ops:Array Oper)(Q:Exit->Act->World->Prop)(js:List Nat):Exit->Act->World->Prop
 |.normal,a,w=>wpOps P ops Q js a w
 |e,a,w=>Q e a w
def Oper.Nk{o:Oper}{a:Act}{w:World}{K:Act->World->Prop}{Q Q':Exit->Act->World->Prop}(hq:∀ e a w,e≠.normal->Q e a w->Q' e a w)(hl:LetsOut Q->LetsOut Q')(hh:o.wp P a w K Q):o.wp P a w K Q':=by
 unfold Oper.wp at *;generalize (execOp a.eval o).run P w=r at *;cases r with
 |ok n w' =>
  cases n<;>simp only[Oper.upon]at hh⊢<;>
   first
    |exact hh
    |exact Calls.mono hh (λe TX he=>by
      cases e with
      |returned v=>exact he
      |panicked c=>exact hq _ _ _ Eb he
      |outgrown=>exact hl he)
 |halt x w'=>cases x<;>simp only[Oper.upon]at hh ⊢<;>first|exact hh|exact hq _ _ _ Eb hh
def pK{ops:Array Oper}{Q:Exit->Act->World->Prop}{js:List Nat}:∀ (is:List Nat) (a:Act) (w:World),wpOps P ops (F5 P ops Q js) is a w->wpOps P ops Q (is++js) a w
 |[],a,w,h=>h
 |i::is,a,w,h=>by
  rw[kR,wpOps_cons];rw[wpOps_cons]at h;have hl:LetsOut (F5 P ops Q js)->LetsOut Q:=λh=>h;unfold wpOp at h ⊢;cases ho:ops[i]? with
  |none=>simp only[ho]at h ⊢;exact pK is a w h
  |some o =>
   simp only[ho]at h ⊢;by_cases hw:Region.wanted o (yielded ops a.tmps)=true
   ·rw[if_pos hw]at h ⊢;rcases h with h|⟨h1,h2⟩
    ·left;exact Oper.Nk (λe a w he hq=>by cases e<;>first|exact absurd rfl he|exact hq) hl (Oper.wp_mono (λa w=>pK is a w) h)
    ·exact .inr ⟨h1,hl h2⟩
   ·rw[if_neg hw]at h ⊢;exact pK is _ w h
def ku{N:Nat}{os:List Ob}{γ0:Cx}{ops:Array Oper}(hd:∀ o∈ops.toList,∀ d,o.dst=some d->d<N){K:St->Prop}{Q:Exit->Act->World->Prop}(hQ:∀ σ' a' w',K σ'->dx N os γ0 σ' a' w'->Q .normal a' w'):∀ (l:List Oper) (i:Nat) (σ:St) (a:Act) (w:World),(∀ k,k<l.length->ops[i+k]?=l[k]?)->opsL P ops l K σ->dx N os γ0 σ a w ->
   wpOps P ops Q (g8 i l.length) a w
 |[],i,σ,a,w,_,h,aT=>by simpa [wpOps] using hQ _ _ _ h aT
 |o::r,i,σ,a,w,hl,h,aT=>by
  have hi:ops[i]?=some o:=by simpa using hl 0 Eb
  have hr:∀ k,k<r.length->ops[i+1+k]?=r[k]?:=λk hk=>by
   have:=hl (k+1) (by simpa using hk);rw[show i+1+k=i+(k+1) by omega,this];simp
  have cO:o∈ops.toList:=List.mem_of_getElem? (by simpa using hi);rw[b8,List.range'_succ,wpOps_cons];unfold wpOp;simp only[hi];unfold opsL at h;cases hg:o.guard with
  |none =>
   simp only[hg]at h;have hw:Region.wanted o (yielded ops a.tmps)=true:=by simp[Region.wanted,hg]
   rw[if_pos hw];left;exact s6 h aT (hd o cO) (λσ' a' w' hK cK=>ku hd hQ r (i+1) σ' a' w' hr hK cK)
  |some jw =>
   obtain⟨j,want⟩:=jw;simp only[hg]at h;cases dy:(ops[j]?).bind (·.dst) with
   |none=>simp[dy]at h
   |some d =>
    simp only[dy]at h;split at h
    ·rename_i b he;obtain⟨dR,ay,γ,rfl,ha,hs,hf⟩:=aT;have eH:=hs.ax d;rw[he,ha]at eH;have hv:=eH.bw;have hy:yielded ops a.tmps j=some b:=by
      unfold yielded;rw[dy];have:a.tmps[d]?=some (.bool b):=by
       rw[cT]at hv;cases hx:a.tmps[d]? with
       |none=>rw[hx]at hv;simp[Go.undef]at hv
       |some y=>rw[hx]at hv;simp at hv;rw[hv]
      simp[this]
     by_cases ew:b=want
     ·have hw:Region.wanted o (yielded ops a.tmps)=true:=by simp[Region.wanted,hg,hy,ew]
      rw[if_pos hw];left;exact s6 (h.1 ew) ⟨dR,ay,γ,rfl,ha,hs,hf⟩ (hd o cO) (λσ' a' w' hK cK=>ku hd hQ r (i+1) σ' a' w' hr hK cK)
     ·have hw:Region.wanted o (yielded ops a.tmps)=false:=by simp[Region.wanted,hg,hy,ew]
      rw[if_neg (by rw[hw];simp)];refine ku hd hQ r (i+1) _ _ _ hr (h.2 ew) ⟨by rw[put_defers];exact dR,by rw[k6];exact ay,{ γ with tmps:=(a.put o.dst Go.undef).tmps },rfl,rfl,ky hs ha (λd h=>by rw[ay];exact hd o cO d h) (.lit _),?_⟩;rw[kz];exact hf.put _
    ·rename_i vs he;obtain⟨dR,ay,γ,rfl,ha,hs,hf⟩:=aT;have eH:=hs.ax d;rw[he,ha]at eH;have hv:=eH.bw;have hy:yielded ops a.tmps j=none:=by
      unfold yielded;rw[dy];rw[cT]at hv;cases hx:a.tmps[d]? with
      |none=>simp[hx]
      |some y=>rw[hx]at hv;simp at hv;subst hv;simp[hx]
     have hw:Region.wanted o (yielded ops a.tmps)=false:=by simp[Region.wanted,hg,hy]
     rw[if_neg (by rw[hw];simp)];refine ku hd hQ r (i+1) _ _ _ hr h.2 ⟨by rw[put_defers];exact dR,by rw[k6];exact ay,{ γ with tmps:=(a.put o.dst Go.undef).tmps },rfl,rfl,ky hs ha (λd h=>by rw[ay];exact hd o cO d h) (.lit _),?_⟩;rw[kz];exact hf.put _
    ·exact h.elim
def Nl{os:List Ob}{γ0:Cx}{ops:Array Oper}(hd:∀ o∈ops.toList,∀ d,o.dst=some d->d<N){K K1:St->Prop}{Q:Exit->Act->World->Prop}(hn:os.length=n0)(hQ:∀ σ' a' w',K σ'->dx N os γ0 σ' a' w'->Q .normal a' w')(n:Nat)(hK:∀ s,K1 s->∃ s1,aR n0 s s1/\opsL P ops (ops.toList.drop n) K s1)(σ:St)(a:Act)(w:World)(h:opsL P ops (ops.toList.take n) K1 σ)(aT:dx N os γ0 σ a w):wpOps P ops Q (bj ops.size) a w:=by
 have e:bj ops.size=g8 0 (ops.toList.take n).length++g8 (ops.toList.take n).length (ops.toList.drop n).length:=by
  rw[List.range_eq_range'];have:=List.range'_append (s:=0) (m:=(ops.toList.take n).length) (n:=(ops.toList.drop n).length) (step:=1);simp only[eX,uv]at this;rw[this];congr 1;rw[<- aJ,List.take_append_drop];simp
 rw[e];refine pK _ a w ?_;refine ku hd (K:=K1) (λσ' a' w' hk cK=>?_) (ops.toList.take n) 0 σ a w (λk hk=>?_) h aT
 ·obtain⟨s1,ht,ho⟩:=hK σ' hk;obtain⟨h1,h2,γ,rfl,h3,h4,h5⟩:=cK;obtain⟨ak,e1,e2,e3,e4⟩:=ht os γ0 γ hn h4 h5;refine ku hd hQ (ops.toList.drop n) _ s1 a' γ.w (λk hk=>?_) ho ⟨h1,h2,ak,e1,e2.trans h3,e3,e4⟩;rw[List.getElem?_drop];simp only[List.length_drop,lE]at hk;rw[iC,lE,Nat.min_eq_left z8];simp
 ·simp only[iC,lE]at hk;rw[List.getElem?_take_of_lt z8];simp
def F6(n:Nat){id:Nat}{ops:Array Oper}{y:Code}(hd:dQ N ops=true)(h:∀ K K1:St->Prop,(∀ s,W P N n0 y Q s->K s)->(∀ s s1,aR n0 s s1->opsL P ops (ops.toList.drop n) K s1->K1 s)->opsL P ops (ops.toList.take n) K1 σ):W P N n0 (.seq (.region id ops false) y) Q σ:=by
 refine xM ?_;intro os γ0 a w hn aT;refine wp_region ?_;exact Nl (jt hd) hn (K:=W P N n0 y Q) (K1:=λs=>∃ s1,aR n0 s s1/\opsL P ops (ops.toList.drop n) (W P N n0 y Q) s1) (λσ' a' w' hK cK=>⟨σ',hK,cK⟩) n (λs h=>h) σ a w (h _ _ (λ_ h=>h) (λs s1 h1 h2=>⟨s1,h1,h2⟩)) aT
end Go.Am
namespace Go.Am
variable {σ:St}
def rj(R:AV->AV->Prop):List (List AV)->List (List AV)->Prop
 |[],[]=>True
 |c::cs,d::ds=>kA R c d/\rj R cs ds
 |_,_=>False
def rj.spec{R:AV->AV->Prop}:∀ {cs ds:List (List AV)},rj R cs ds->cs.length=ds.length/\∀ (r c:Nat) v,cellAt cs r c=some v->cellAt ds r c=some ((cellAt ds r c).getD .undef)/\R v ((cellAt ds r c).getD .undef)
 |[],[],_=>⟨rfl,by simp[cellAt]⟩
 |c::cs,d::ds,h=>by
  obtain⟨a,b⟩:=rj.spec h.2;refine⟨by simp[a],λr j v hv=>?_⟩;cases r with
  |zero =>
   simp only[cellAt,nh,lG]at hv ⊢;obtain⟨e1,e2⟩:=h.1.spec;have hj:j<d.length:=by rw[<- e1];exact(aF.1 hv).1
   rw[aN hj];exact⟨rfl,e2 j v _ hv (aN hj)⟩
  |succ r =>
   have:=b r j v (by simpa [cellAt] using hv);simpa [cellAt] using this
def cW.mk{kp:Nat->Prop}{id sz len:Nat}{rows dJ:List (List AV)}(ho:σ.aa[id]?=some (.arr sz rows))(hl:len=rows.length)(lO:¬ kp id)(hw:∀ row∈dJ,row.length=sz)(h:rj (cW σ kp) dJ rows):cW σ kp (.tree sz dJ) (.ref id sz 0 len):=by
 obtain⟨a,b⟩:=h.spec;subst hl;refine .ref id sz 0 rows.length rows dJ (λr c=>(cellAt rows r c).getD .undef) ho lO (by simp[a]) hw (λr c v hv=>?_) (λr c v hv=>?_)
 ·simpa using(b r c v hv).1
 ·exact(b r c v hv).2
end Go.Am
namespace Go.Am
def oA:=U4 @xN @xO @xP @DY.{0} @DZ.{0} @D0 @w6 (U4 @ml @z9 @qN @iQ @if_false.{1} @if_true.{1} @gH.{0} (UY @fJ.{0} @w7.{0}))
def Bc:=U4 @xN @xO @xP @DY.{0} @DZ.{0} @D0 @w6 (U4 @ml @z9 @qN @iQ @if_false.{1} @if_true.{1} @gH.{0} (U4 @fJ.{0} @w7.{0} @uz.{0} @Array.size_empty.{0} @F7 @F8 @eq_self.{1} (U4 @F9 @F' @Fm @Fo @Fp @Fq @Fw (U4 @Fx @Fy @Fz @FA @FB @FC @FD (U4 @FE @FF @FG @FH @FI @FJ @FK (U4 @FL @FM @FN @FO @FQ @FR @FT (U4 @FU @Ga @Fs @Fv @Fk @Fl @true_and (U4 @and_true @and_self @km.{0,0} @pG.{0,0} @kR.{0} @g9.{0} @eY.{0} (U4 @ite_true.{1} @ite_false.{1} @Bool.true_eq_false @ne_eq.{1} @not_true_eq_false @not_false_eq_true @false_implies (U4 @true_implies @implies_true.{1} @lG.{0,0} @Option.bind_none.{0,0} @nh.{0} @sH.{0} @z'.{0} (U4 @b8.{0} @eZ.{0} @eX @jm @decide_true @decide_false @w4.{0} (U4 @List.all_nil.{0} @D1 @fH @Int.toNat_zero @qL @pF @cond_true.{1} (U4 @cond_false.{1} @xQ @Gb @Gc @Gd @Ge @Gf (U4 @Gg @Gi @xR @xS @bY @FY @FZ (U4 @F0 @F1 @F2 @F3 @D3 @wY @uv (U4 @FW @FX @s7 @s8 @AP @fV.{0,0} @w8.{0} (U4 @List.drop_succ_cons.{0} @List.take_succ_cons.{0} @Aa.{0} @sI.{0} @D5.{0} @beq_self_eq_true.{0} @uA.{0,0} (U4 @D6.{0,0} @List.getElem?_nil.{0} @aJ.{0} @bm.{0} @uB.{0} @k7 @xT (U4 @xU @Gj @Gk @Gl @Gm @Gn @s9 (U4 @ints_set @xV @Gp @Gq @Gr @Gs @Gt (U0 @Gu @Gv @Gw @Gx)))))))))))))))))))))
def ta:=U4 @eq_self.{1} @decide_eq_true_eq @decide_eq_false_iff_not @fU @D7 @beq_iff_eq.{0} @beq_eq_false_iff_ne.{0} (U4 @bne_iff_ne.{0} @bne_eq_false_iff_eq.{0} @ne_eq.{1} @Decidable.not_not @Int.not_lt @Int.not_le @not_true_eq_false (U4 @not_false_eq_true @jn @bb @Bool.or_eq_false_iff @Bool.and_eq_false_iff @gt_iff_lt.{0} @ge_iff_le.{0} (U4 @uC @Int.ofNat_le @Int.ofNat_inj @Nat.not_lt @Nat.not_le @k7 @xT (UZ @xU @cond_true.{1} @cond_false.{1}))))
end Go.Am

