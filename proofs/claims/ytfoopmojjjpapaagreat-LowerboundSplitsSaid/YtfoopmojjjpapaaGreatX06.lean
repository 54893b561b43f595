import Derived.Test.YtfoopmojjjpapaaGreatX05
set_option linter.all false
set_option maxHeartbeats 0
set_option maxRecDepth 20000
open List renaming map_cons→ez,all_cons→Es,range→bn,replicate→aK,getElem?_eq_some_iff→aY,getD_eq_getElem?_getD→ay,getElem?_range→lk,getElem?_eq_getElem→bx,take_of_length_le→dt,cons_append→dw,range'→mU,length_cons→du,length_append→bN,length_take→e9,getElem?_cons_zero→wZ,contains_cons→QC,contains_nil→QD,getD_cons_zero→jc,getD_cons_succ→gB,getD_nil→KL,size_toArray→Ev,map_nil→oP,nil_append→eJ,append_nil→n9,getElem?_cons_succ→vB,getElem?_toArray→KM,length_nil→ln,drop_zero→AN,take_zero→mu,set_cons_zero→oQ,set_cons_succ→rG,flatMap_cons→tY,flatMap_nil→QG,length_set→bJ,length_replicate→nx
open Array renaming getD_eq_getD_getElem?→eU,length_toList→sU
open Nat renaming zero_add→gR,one_mul→wX,add_zero→jK,zero_mul→G8
open Option renaming bind_some→tX,map_some→fc
open Bool renaming or_self→QF,or_false→CK,false_or→oO,or_true→CL,true_or→yu,false_eq_true→jB,and_true→G7,true_and→ic,not_true→iH,not_false→kP,not_eq_true'→kq,or_eq_true→lQ,and_eq_true→bc
open Int renaming toNat_natCast→dg,ofNat_inj→QH
namespace Go.Am
variable {P:Program} {dst:Option Tmp} {tt:TypeId} {p:String} {af:Array Edge} {g:Option (Nat×Bool)} {σ:St} {K:St->Prop}
def qI:Option Ob->Prop
 |some (.var _)=>True
 |some (.arr _ _)=>True
 |some (.mp _ _)=>True
 |_=>False
def Rb(a:Nat)(L:List (List Int×AV)):qI (some (.mp a L))=True:=by simp only[qI]
def Re(c:List AV):qI (some (.var c))=True:=by simp only[qI]
def Rf(s:Nat)(c:List (List AV)):qI (some (.arr s c))=True:=by simp only[qI]
def CT(σ:St)(dst:Option Tmp)(K:St->Prop):AV->Prop
 |.ptr id r c=>qI σ.aa[id]?/\K (σ.put dst (.ptr id r c))
 |.b6 cells=>K (σ.put dst (.b6 cells))
 |_=>False
def Rg(x:Operand):aL P ⟨dst,.nilCheck x,tt,p,af,g⟩ σ K=CT σ dst K (ev σ x):=by
 simp only[aL,cm];cases ev σ x<;>simp only[CT];rename_i id r c;cases h:σ.aa[id]? with
 |none=>simp[qI]
 |some o=>cases o<;>simp[qI]
def CU(σ:St)(dst:Option Tmp)(K:St->Prop)(off:Nat):AV->Prop
 |.ptr id r c=>qI σ.aa[id]?/\K (σ.put dst (.ptr id r (c+off)))
 |.b6 cells=>K (σ.put dst (.b6 (cells.drop off)))
 |_=>False
def zB(σ:St)(dst:Option Tmp)(K:St->Prop)(v:AV)(kind:Nat):Option (Nat×Nat×Nat)->Prop
 |some (off,_,size)=>kind=3/\0<size/\CU σ dst K off v
 |none=>False
def Rh(s:TypeId)(x:Operand)(f:Nat):aL P ⟨dst,.fieldAddr s x f,tt,p,af,g⟩ σ K=zB σ dst K (ev σ x) (ty P s).kind (ty P s).aS[f]?:=by
 simp only[aL,cm];split
 ·rename_i off ft size hk hf;rw[hk,hf];simp only[zB,true_and];cases ev σ x<;>simp only[CU];rename_i id r c;cases h:σ.aa[id]? with
  |none=>simp[qI]
  |some o=>cases o<;>simp[qI]
 ·rename_i cE;cases hf:(ty P s).aS[f]? with
  |none=>simp[zB]
  |some q =>
   obtain⟨off,ft,size⟩:=q;simp only[zB];have:(ty P s).kind≠3:=λe=>cE off ft size e hf;simp[this]
def rK(t:Ty)(e:Ty)(σ:St)(dst:Option Tmp)(K:St->Prop):AV->AV->Prop
 |.ref id sz off len,.lit (.int _ n) =>
  t.kind=1 /\
  match σ.aa[id]? with
  |some (.arr dj _)=>(dj=sz/\sz=e.size/\e.kind≠99/\0<=n/\n<len)/\K (σ.put dst (.ptr id (off+n.toNat) 0))
  |_=>False
 |.tree sz rows,.lit (.int _ n)=>t.kind=1/\(sz=e.size/\e.kind≠99/\0<=n/\n<rows.length)/\K (σ.put dst (.b6 (rows.getD n.toNat [])))
 |.ptr id r c,.lit (.int _ n)=>t.kind=2/\qI σ.aa[id]?/\(e.kind≠99/\0<=n/\n<t.len)/\K (σ.put dst (.ptr id r (c+n.toNat*e.size)))
 |.b6 cells,.lit (.int _ n)=>t.kind=2/\(e.kind≠99/\0<=n/\n<t.len)/\K (σ.put dst (.b6 (cells.drop (n.toNat*e.size))))
 |_,_=>False
def Ri(t:TypeId)(x i:Operand):aL P ⟨dst,.indexAddr t x i,tt,p,af,g⟩ σ K=rK (ty P t) (ty P (ty P t).elem) σ dst K (ev σ x) (ev σ i):=by
 simp only[aL,cm];split
 ·rename_i id sz off len k n hk hx hi;rw[hx,hi];simp only[rK,hk,true_and];cases σ.aa[id]? with
  |none=>rfl
  |some o=>cases o<;>rfl
 ·rename_i sz rows k n hk hx hi;rw[hx,hi];simp only[rK,hk,true_and]
 ·rename_i id r c k n hk hx hi;rw[hx,hi];simp only[rK,hk,true_and];cases h:σ.aa[id]? with
  |none=>simp[qI]
  |some o=>cases o<;>simp[qI]
 ·rename_i cells k n hk hx hi;rw[hx,hi];simp only[rK,hk,true_and]
 ·rename_i h1 h2 h3 h4;unfold rK;split
  ·rename_i id sz off len k n hx hi;simp only[eq_iff_iff,false_iff];rintro⟨hk,_⟩;exact h1 id sz off len k n hk hx hi
  ·rename_i sz rows k n hx hi;simp only[eq_iff_iff,false_iff];rintro⟨hk,_⟩;exact h2 sz rows k n hk hx hi
  ·rename_i id r c k n hx hi;simp only[eq_iff_iff,false_iff];rintro⟨hk,_⟩;exact h3 id r c k n hk hx hi
  ·rename_i cells k n hx hi;simp only[eq_iff_iff,false_iff];rintro⟨hk,_⟩;exact h4 cells k n hk hx hi
  ·rfl
def K9(P:Program)(dst:Option Tmp)(args:List AV)(K:St->Prop)(σ:St):AV->Prop
 |.fn g bF=>uf P g (args++bF) dst K σ
 |_=>False
def Rj(f:Operand)(args:Array Operand)(cI:Array TypeId):aL P ⟨dst,.call ⟨.value f,args,cI⟩,tt,p,af,g⟩ σ K=K9 P dst (args.toList.map (ev σ)) K σ (ev σ f):=by
 simp only[aL];cases ev σ f<;>rfl
def K'(P:Program)(dst:Option Tmp)(args:List AV)(K:St->Prop)(σ:St)(m:String):AV->Prop
 |.iU t v=>qJ P σ v (λg x=>uf P g (x::args) dst K σ) (Hp P t m)
 |_=>False
def Rk(r:Operand)(m:String)(args:Array Operand)(cI:Array TypeId):aL P ⟨dst,.call ⟨.invoke r m,args,cI⟩,tt,p,af,g⟩ σ K=K' P dst (args.toList.map (ev σ)) K σ m (ev σ r):=by
 simp only[aL];cases ev σ r<;>rfl
def La(P:Program)(dst:Option Tmp)(args:List AV)(K:St->Prop)(σ:St):AV->Prop
 |.fn g bF=>Lb P g (args++bF) dst K σ
 |_=>False
def Rl(f:Operand)(args:Array Operand)(cI:Array TypeId):mV true P ⟨dst,.call ⟨.value f,args,cI⟩,tt,p,af,g⟩ σ K=La P dst (args.toList.map (ev σ)) K σ (ev σ f):=by
 simp only[mV];cases ev σ f<;>rfl
def xh(σ:St):List (Nat×Operand)->List (Nat×AV)
 |[]=>[]
 |q::l=>(q.1,ev σ q.2)::xh σ l
def xi(σ:St):List (Nat×Operand)->Bool
 |[]=>true
 |q::l=>(cellsOf (ev σ q.2)).all dh&&xi σ l
def Rm(σ:St)(l:List (Nat×Operand)):xh σ l=l.map λq=>(q.1,ev σ q.2):=by
 induction l with
 |nil=>rfl
 |cons q l ih=>simp only[xh,ih,ez]
def Rn(σ:St)(l:List (Nat×Operand)):xi σ l=l.all λq=>(cellsOf (ev σ q.2)).all dh:=by
 induction l with
 |nil=>rfl
 |cons q l ih=>simp only[xi,ih,Es]
def Ro(o:Oper):mV false P o σ K=aL P o σ K:=by simp only[mV]
def Rp(x:Operand):aL P ⟨dst,.move x,tt,p,af,g⟩ σ K =
  (K (σ.put dst (ev σ x))):=by unfold aL cm;rfl
def Rq(x:Operand):aL P ⟨dst,.assign x,tt,p,af,g⟩ σ K =
  (K (σ.put dst (ev σ x))):=by unfold aL cm;rfl
def Rr(c a b:Operand):aL P ⟨dst,.pick c a b,tt,p,af,g⟩ σ K =
  (match ev σ c with
   |.lit (.bool t)=>K (σ.put dst (gF t (ev σ a) (ev σ b)))
   |_=>False):=by unfold aL cm;rfl
def Rs (e:TypeId):aL P ⟨dst,.alloc e,tt,p,af,g⟩ σ K =
    ((ty P e).kind≠99 /\
      match (ty P e).zero with
      | some z=>K (({ σ with aa:=σ.aa++[.var (z.map .lit)] }:St).put dst (.ptr σ.aa.length 0 0))
      | none=>False):=by unfold aL cm;rfl
def Rt(e:TypeId)(x:Operand):aL P ⟨dst,.box e x,tt,p,af,g⟩ σ K =
  ((cellsOf (ev σ x)).all dh=true/\K (({ σ with aa:=σ.aa++[.var (cellsOf (ev σ x))] }:St).put dst (.ptr σ.aa.length 0 0))):=by unfold aL cm;rfl
def Ru(t:TypeId)(parts:Array (Nat×Operand)):aL P ⟨dst,.build t parts,tt,p,af,g⟩ σ K =
  (match (ty P t).kind,(ty P t).zero with
   |3,some z =>
    match nG (λi=>((ty P t).aS[i]?).map λf=>(f.1,f.2.2)) (z.map .lit) (xh σ parts.toList) with
    |some cs=>(xi σ parts.toList=true/\((ty P t).aS.all λf=>decide (0<f.2.2))=true)/\K (σ.put dst (.agg cs))
    |none=>False
   |2,some z =>
    match nG (λi=>some (i*(ty P (ty P t).elem).size,(ty P (ty P t).elem).size)) (z.map .lit) (xh σ parts.toList) with
    |some cs=>(xi σ parts.toList=true/\(ty P (ty P t).elem).kind≠99)/\K (σ.put dst (.agg cs))
    |none=>False
   |_,_=>False):=by rw[Rm,Rn];unfold aL cm;rfl
def Rv(t:TypeId)(len:Nat)(parts:Array (Nat×Operand)):aL P ⟨dst,.buildSlice t len parts,tt,p,af,g⟩ σ K =
  (match (ty P t).kind,(ty P (ty P t).elem).zero with
   |1,some z =>
    match nG (λi=>some (i*(ty P (ty P t).elem).size,(ty P (ty P t).elem).size)) ((bn len).flatMap λ_=>z.map .lit) (xh σ parts.toList) with
    |some cs=>((ty P (ty P t).elem).kind≠99/\0<(ty P (ty P t).elem).size/\z.length=(ty P (ty P t).elem).size/\len*(ty P (ty P t).elem).size<=16777216/\xi σ parts.toList=true) /\
      K (({ σ with aa:=σ.aa++[.arr (ty P (ty P t).elem).size (nH (ty P (ty P t).elem).size len cs)] }:St).put dst (.ref σ.aa.length (ty P (ty P t).elem).size 0 len))
    |none=>False
   |_,_=>False):=by rw[Rm,Rn];unfold aL cm;rfl
def Rw (t:TypeId) (a:Operand):aL P ⟨dst,.load t a,tt,p,af,g⟩ σ K =
    ((ty P t).kind≠99 /\
      match ev σ a with
      | .ptr id r c =>
        match rowOf σ id r with
        | some row=>nI (ty P t) row c λv=>K (σ.put dst v)
        | none=>False
      | .b6 cells=>nI (ty P t) cells 0 λv=>K (σ.put dst v)
      | _=>False):=by unfold aL cm;rfl
def Rx (t:TypeId) (a x:Operand):aL P ⟨dst,.store t a x,tt,p,af,g⟩ σ K =
    ((ty P t).kind≠99 /\
      match ev σ a with
      | .ptr id r c =>
        match rowOf σ id r with
        | some row=>((cellsOf (ev σ x)).length=(ty P t).size/\c+(ty P t).size<=row.length/\(cellsOf (ev σ x)).all dh=true)/\K ((pG σ id r (setCells row c (cellsOf (ev σ x)))).put dst .undef)
        | none=>False
      | _=>False):=by unfold aL cm;rfl
def Ry(op:BinOp)(t:TypeId)(x y:Operand)(yt:TypeId):aL P ⟨dst,.binOp op t x y yt,tt,p,af,g⟩ σ K =
  (match ev σ x,ev σ y with
   |.lit (.int k a),.lit (.int k' b)=>k=k'/\iu op k a b λv=>K (σ.put dst (.lit v))
   |.lit (.bool a),.lit (.bool b) =>
    (ty P t).kind=6 /\
    match op with
    |.eql=>K (σ.put dst (.lit (.bool (a==b))))
    |.neq=>K (σ.put dst (.lit (.bool (a != b))))
    |_=>False
   |.tree _ rows,.lit (.slice none 0 0) =>
    ((ty P t).kind=1/\0<rows.length) /\
    match op with
    |.eql=>K (σ.put dst (.lit (.bool false)))
    |.neq=>K (σ.put dst (.lit (.bool true)))
    |_=>False
   |.lit (.slice a _ _),.lit (.slice none 0 0) =>
    (ty P t).kind=1 /\
    match op with
    |.eql=>K (σ.put dst (.lit (.bool a.isNone)))
    |.neq=>K (σ.put dst (.lit (.bool (!a.isNone))))
    |_=>False
   |.agg cs,.agg ds =>
    match qK cs,qK ds with
    |some as,some bs =>
     (xj P t as.length/\bs.length=as.length/\P.eqGuardType P.depth t=false) /\
     match op with
     |.eql=>K (σ.put dst (.lit (.bool (decide (as=bs)))))
     |.neq=>K (σ.put dst (.lit (.bool (!decide (as=bs)))))
     |_=>False
    |_,_=>False
   |_,_=>False):=by unfold aL cm;rfl
def Rz(op:UnOp)(t:TypeId)(x:Operand):aL P ⟨dst,.unOp op t x,tt,p,af,g⟩ σ K =
  (match op,ev σ x with
   |.not,.lit (.bool b)=>K (σ.put dst (.lit (.bool !b)))
   |.neg,.lit (.int k a)=>vJ k a λv=>K (σ.put dst (.lit v))
   |_,_=>False):=by unfold aL cm;rfl
def RA(fn:Fn)(first captured:Array Operand):aL P ⟨dst,.makeFunc fn first captured,tt,p,af,g⟩ σ K =
  (match fn with
   |.func f=>first.size=0/\K (σ.put dst (.fn f (captured.toList.map (ev σ))))
   |_=>False):=by unfold aL cm;rfl
def RC (t:TypeId) (l c:Operand):aL P ⟨dst,.makeSlice t l c,tt,p,af,g⟩ σ K =
    (match (ty P t).kind,(ty P (ty P t).elem).zero,ev σ l,ev σ c with
      | 1,some z,.lit (.int k n),.lit (.int k' n') =>
        ((ty P (ty P t).elem).kind≠99/\0<(ty P (ty P t).elem).size/\z.length=(ty P (ty P t).elem).size/\n'=n/\0<=n/\n<=1099511627776/\(ty P (ty P t).elem).bytes<=128/\k=k) /\
          K (({ σ with aa:=σ.aa++[.arr (ty P (ty P t).elem).size (aK n.toNat (z.map .lit))] }:St).put dst (.ref σ.aa.length (ty P (ty P t).elem).size 0 n.toNat))/\k'=k'
      | _,_,_,_=>False):=by unfold aL cm;rfl
def RD (t:TypeId) (x:Operand) (lo hi mx:Option Operand):aL P ⟨dst,.slice t x lo hi mx,tt,p,af,g⟩ σ K =
    ((ty P t).kind=1/\(ty P (ty P t).elem).kind≠99/\mx=none /\
      match ev σ x with
      | .ref id sz off len =>
        match σ.aa[id]? with
        | some (.arr dj rows) =>
          dj=sz/\sz=(ty P (ty P t).elem).size /\
          match lo.map (ev σ),hi.map (ev σ) with
          | none,none=>K (σ.put dst (.ref id sz off len))
          | some (.lit (.int _ l)),none=>(0<=l/\l<=len/\rows.length=rows.length)/\K (σ.put dst (.ref id sz (off+l.toNat) (len - l.toNat)))
          | none,some (.lit (.int _ h))=>(0<=h/\h<=len)/\K (σ.put dst (.ref id sz off h.toNat))
          | some (.lit (.int _ l)),some (.lit (.int _ h))=>(0<=l/\l<=h/\h<=len)/\K (σ.put dst (.ref id sz (off+l.toNat) (h.toNat - l.toNat)))
          | _,_=>False
        | _=>False
      | .tree sz rows =>
          (rows≠[]->sz=(ty P (ty P t).elem).size) /\
          match lo.map (ev σ),hi.map (ev σ) with
          | none,none=>K (σ.put dst (.tree sz rows))
          | some (.lit (.int _ l)),none=>(0<=l/\l<=rows.length)/\K (σ.put dst (.tree sz (rows.drop l.toNat)))
          | none,some (.lit (.int _ h))=>(0<=h/\h<=rows.length)/\K (σ.put dst (.tree sz (rows.take h.toNat)))
          | some (.lit (.int _ l)),some (.lit (.int _ h))=>(0<=l/\l<=h/\h<=rows.length)/\K (σ.put dst (.tree sz ((rows.take h.toNat).drop l.toNat)))
          | _,_=>False
      | _=>False):=by unfold aL cm;rfl
def RE(s:TypeId)(x:Operand)(f:Nat):aL P ⟨dst,.field s x f,tt,p,af,g⟩ σ K =
  (match (ty P s).kind,(ty P s).aS[f]? with
   |3,some (off,t,size) =>
    (ty P t).kind≠99/\size=(ty P t).size /\
    match ev σ x with
    |.agg cs=>if(ty P t).isAgg then off+size<=cs.length/\K (σ.put dst (.agg ((cs.drop off).take size))) else
      match cs[off]? with
      |some v=>K (σ.put dst v)
      |none=>False
    |_=>False
   |_,_=>False):=by unfold aL cm;rfl
def RF(t:TypeId)(r:Option Operand):aL P ⟨dst,.makeMap t r,tt,p,af,g⟩ σ K =
  ((r=none/\(ty P t).kind=8)/\K (({ σ with aa:=σ.aa++[.mp (AZ P t) []] }:St).put dst (.dD σ.aa.length))):=by unfold aL cm;rfl
def RG(t:TypeId)(x i:Operand)(ok:Bool):aL P ⟨dst,.lookup t x i ok,tt,p,af,g⟩ σ K =
  (match keyOf (ev σ i),mW σ (ev σ x),zeroV P (ty P t).elem with
   |some (ag,l),some (_,jr,L),some z=>(jM P t ag/\jr=ag/\l.length=kQ ag/\(ty P t).kind=8/\ok=false)/\K (σ.put dst ((mA l L).getD (.lit z)))
   |_,_,_=>False):=by unfold aL cm;rfl
def RH(t:TypeId)(m k x:Operand):aL P ⟨dst,.mapUpdate t m k x,tt,p,af,g⟩ σ K =
  (match keyOf (ev σ k),mW σ (ev σ m) with
   |some (ag,l),some (id,jr,L)=>(jM P t ag/\jr=ag/\l.length=kQ ag)/\K (({ σ with aa:=σ.aa.set id (.mp ag (fh l (ev σ x) L)) }:St).put dst .undef)
   |_,_=>False):=by unfold aL cm;rfl
def RJ(t:TypeId)(m k:Operand):aL P ⟨dst,.mapEntry t m k,tt,p,af,g⟩ σ K =
  (match keyOf (ev σ k),mW σ (ev σ m),zeroV P (ty P t).elem with
   |some (ag,l),some (id,jr,L),some z=>(jM P t ag/\jr=ag/\l.length=kQ ag/\(ty P t).kind=8) /\
    K (({ σ with aa:=σ.aa.set id (.mp ag (fh l ((mA l L).getD (.lit z)) L)) }:St).put dst (.bC [(mA l L).getD (.lit z),QM (CV l L:Nat)]))
   |_,_,_=>False):=by unfold aL cm;rfl
def RK(t:TypeId)(m s x:Operand):aL P ⟨dst,.entryStore t m s x,tt,p,af,g⟩ σ K =
  (match ev σ s,mW σ (ev σ m) with
   |.lit (.int .i64 n),some (id,ag,L)=>(0<=n/\n<L.length)/\K (({ σ with aa:=σ.aa.set id (.mp ag (rL n.toNat (ev σ x) L)) }:St).put dst .undef)
   |_,_=>False):=by unfold aL cm;rfl
def RL(t:TypeId)(x i:Operand):aL P ⟨dst,.index t x i,tt,p,af,g⟩ σ K =
  (match ev σ x,ev σ i with
   |.lit (.string s),.lit (.int _ n)=>(P.underlying t=some .string/\0<=n/\n<s.size)/\K (σ.put dst (.lit (.int .u8 (Le s n.toNat))))
   |_,_=>False):=by unfold aL cm;rfl
def RM(t:TypeId)(x:Operand):aL P ⟨dst,.makeInterface t x,tt,p,af,g⟩ σ K =
  (A2 P t=false/\K (σ.put dst (.iU t (ev σ x)))):=by unfold aL cm;rfl
def RN(x:Operand)(xt asserted:TypeId)(ok:Bool):aL P ⟨dst,.typeAssert x xt asserted ok,tt,p,af,g⟩ σ K =
  (match ev σ x with
   |.iU t v=>(A2 P asserted=false/\t=asserted/\ok=false)/\K (σ.put dst v)
   |_=>False):=by unfold aL cm;rfl
def RO(x:Operand)(i:Nat):aL P ⟨dst,.extract x i,tt,p,af,g⟩ σ K =
  (match ev σ x with
   |.bC vs =>
    match vs[i]? with
    |some v=>K (σ.put dst v)
    |none=>False
   |_=>False):=by unfold aL cm;rfl
def RP(args:Array Operand)(argTypes:Array TypeId):aL P ⟨dst,.call ⟨.builtin .len,args,argTypes⟩,tt,p,af,g⟩ σ K =
  (match args.toList,argTypes.toList with
   |[x],[t] =>
    match ev σ x with
    |.ref id sz _ len =>
     (ty P t).kind=1 /\
     match σ.aa[id]? with
     |some (.arr dj _)=>dj=sz/\K (σ.put dst (QM len))
     |_=>False
    |.tree _ rows=>(ty P t).kind=1/\K (σ.put dst (QM rows.length))
    |.lit (.slice none 0 0)=>(ty P t).kind=1/\K (σ.put dst (QM 0))
    |.dD id =>
     (ty P t).kind=8 /\
     match σ.aa[id]? with
     |some (.mp _ L)=>K (σ.put dst (QM L.length))
     |_=>False
    |_=>False
   |_,_=>False):=by unfold aL cm;rfl
def RQ(args:Array Operand)(argTypes:Array TypeId):aL P ⟨dst,.call ⟨.builtin .append,args,argTypes⟩,tt,p,af,g⟩ σ K =
  (match args.toList,argTypes.toList with
   |[s,x],[t,t'] =>
    match (ty P t).kind,(ty P (ty P t).elem).zero,mB σ (ty P (ty P t).elem).size (ev σ s),oT σ (ev σ x) with
    |1,some z,some (pre,σ1),some (sz,src) =>
     (t'=t/\(ty P (ty P t).elem).kind≠99/\sz=(ty P (ty P t).elem).size/\0<sz/\z.length=sz/\pre.length+src.length<=549755813888/\(ty P (ty P t).elem).bytes<=128/\(src.all λrow=>row.all dh)=true) /\
      K (({ σ1 with aa:=σ1.aa++[.arr sz (pre++src)] }:St).put dst (.ref σ1.aa.length sz 0 (pre.length+src.length)))
    |_,_,_,_=>False
   |_,_=>False):=by unfold aL cm;rfl
def RR(args:Array Operand)(argTypes:Array TypeId):aL P ⟨dst,.call ⟨.builtin .min,args,argTypes⟩,tt,p,af,g⟩ σ K =
  (match args.toList with
   |[x,y] =>
    match ev σ x,ev σ y with
    |.lit (.int k a),.lit (.int k' b)=>k=k'/\K (σ.put dst (.lit (.int k (min a b))))
    |_,_=>False
   |_=>False):=by unfold aL cm;rfl
def RS(args:Array Operand)(argTypes:Array TypeId):aL P ⟨dst,.call ⟨.builtin .max,args,argTypes⟩,tt,p,af,g⟩ σ K =
  (match args.toList with
   |[x,y] =>
    match ev σ x,ev σ y with
    |.lit (.int k a),.lit (.int k' b)=>k=k'/\K (σ.put dst (.lit (.int k (max a b))))
    |_,_=>False
   |_=>False):=by unfold aL cm;rfl
def RT (args:Array Operand) (argTypes:Array TypeId):aL P ⟨dst,.call ⟨.builtin .copy,args,argTypes⟩,tt,p,af,g⟩ σ K =
    (match args.toList,argTypes.toList with
      | [s,x],[t,_] =>
        match ev σ s,oT σ (ev σ x) with
        | .ref id sz off len,some (dj,src) =>
          match σ.aa[id]? with
          | some (.arr lU rows) =>
            ((ty P t).kind=1/\(ty P (ty P t).elem).kind≠99/\dj=sz/\lU=sz/\sz=(ty P (ty P t).elem).size/\0<sz/\(src.all λrow=>row.all dh)=true) /\
              K (({ σ with aa:=σ.aa.set id (.arr sz (rows.take off++src.take (min src.length len)++rows.drop (off+min src.length len))) }:St).put dst (QM (min src.length len:Nat)))
          | _=>False
        | _,_=>False
      | _,_=>False):=by unfold aL cm;rfl
def RU (args:Array Operand) (argTypes:Array TypeId):aL P ⟨dst,.call ⟨.builtin .clear,args,argTypes⟩,tt,p,af,g⟩ σ K =
    (match args.toList,argTypes.toList with
      | [s],[t] =>
        match ev σ s,(ty P (ty P t).elem).zero with
        | .ref id sz off len,some z =>
          match σ.aa[id]? with
          | some (.arr dj rows) =>
            ((ty P t).kind=1/\(ty P (ty P t).elem).kind≠99/\dj=sz/\z.length=sz/\0<sz/\(z.all λu=>u.oneCell')=true) /\
              K (({ σ with aa:=σ.aa.set id (.arr sz (rows.take off++aK len (z.map AV.lit)++rows.drop (off+len))) }:St).put dst (.lit (.tuple #[])))
          | _=>False
        | _,_=>False
      | _,_=>False):=by unfold aL cm;rfl
def RV(s d:TypeId)(x:Operand):aL P ⟨dst,.convert s d x,tt,p,af,g⟩ σ K =
  (match P.underlying d,ev σ x with
   |some (.int k),.lit (.int _ n)=>(P.underlying s).isSome=true/\K (σ.put dst (.lit (.int k (k.wrap n))))
   |_,_=>False):=by unfold aL cm;rfl
end Go.Am
namespace Go.Am
variable {P:Program} {N n0:Nat} {σ:St} {Q:Exit->St->Prop}
def iJ(aj:List Nat)(snap:Bool){v res:AV}{bh:List Ob}(bG:aj.Nodup)(ho:qL (bE σ.aa.length aj) σ.aa aj bh)(hn:n0<=aj.length)(bZ:∀ i,i<n0->aj.getD i 0=i)(h:a7 σ (kept aj bh) (bE σ.aa.length aj) snap res v):oU n0 σ v res bh:=by
 obtain⟨h1,h2,h3⟩:=ho.spec;exact⟨aj,snap,bG,h1,h2,h3,hn,bZ,h⟩
def eN{e:Nat->AV}{os:List Ob}{v res:AV}{bh:List Ob}(ho:os=bh)(hn:n0<=bh.length)(h:v=res):oU n0 ⟨e,os⟩ v res bh:=by
 subst ho;subst h
 let σ:St:=⟨e,os⟩
 show oU n0 σ v v σ.aa;have hn:n0<=σ.aa.length:=hn;refine⟨bn σ.aa.length,false,List.nodup_range,G9,λj o hj=>.inr ?_,G9,by simpa using hn,λi hi=>?_,?_⟩
 ·have aX:=(aY.1 hj).1;rw[zC,EH];simpa [ay,lk aX] using hj
 ·have:i<σ.aa.length:=Ey;simp[ay,lk this]
 ·exact .eq (by rw[zC,zD])
end Go.Am
namespace Go.Am
variable {P:Program} {N n0:Nat} {σ:St} {Q:Exit->St->Prop}
def j7{aj:List Nat}{co:List Ob}{id:Nat}(h:id ∉ aj):¬ kept aj co id:=by
 rintro⟨j,hj,he,_⟩;apply h;rw[<- he,ay,bx hj];exact List.getElem_mem hj
def zE(ρ:Nat->Nat)(os:List Ob):List Nat->List Ob->Prop
 |[],[]=>True
 |i::aj,o::co=>os[i]?=some (bO ρ o)/\zE ρ os aj co
 |_,_=>False
def zE.spec{ρ:Nat->Nat}{os:List Ob}:∀ {aj:List Nat} {co:List Ob},zE ρ os aj co->co.length=aj.length/\∀ (j:Nat) o,co[j]?=some o->os[aj.getD j 0]?=some (bO ρ o)
 |[],[],_=>⟨rfl,G9⟩
 |i::aj,o::co,h=>by
  obtain⟨h1,h3⟩:=h;obtain⟨a,b⟩:=zE.spec h3;refine⟨by simp[a],λj o' hj=>?_⟩;cases j with
  |zero=>simp at hj;subst hj;simpa using h1
  |succ j=>simpa using b j o' (by simpa using hj)
def jN(R:AV->AV->Prop):List AV->List AV->Prop
 |[],[]=>True
 |c::cs,d::ds=>R c d/\jN R cs ds
 |_,_=>False
def jN.spec{R:AV->AV->Prop}:∀ {cs ds:List AV},jN R cs ds->cs.length=ds.length/\∀ (j:Nat) c d,cs[j]?=some c->ds[j]?=some d->R c d
 |[],[],_=>⟨rfl,G9⟩
 |c::cs,d::ds,h=>by
  obtain⟨a,b⟩:=jN.spec h.2;refine⟨by simp[a],λj c' d' hc hd=>?_⟩;cases j with
  |zero=>simp at hc hd;subst hc;subst hd;exact h.1
  |succ j=>exact b j c' d' (by simpa using hc) (by simpa using hd)
def a7.zF{kp:Nat->Prop}{ρ:Nat->Nat}{snap:Bool}{a b c d:AV}(h:a7 σ kp ρ snap a c)(k:a7 σ kp ρ snap b d):a7 σ kp ρ snap (.bC [a,b]) (.bC [c,d]) :=
 .bC _ _ rfl (jN.spec (R:=a7 σ kp ρ snap) (cs:=[a,b]) (ds:=[c,d]) ⟨h,k,trivial⟩).2
def jf(aj:List Nat){f:FuncId}{args dO:List AV}{b7:List Ob}{dst:Option Tmp}{K:St->Prop}{res:AV}{dm:List Ob}(h:Holds P f dO b7 res dm)(bG:aj.Nodup)(ho:zE (bE σ.aa.length aj) σ.aa aj b7)(ha:jN (a7 σ (·∈aj) (bE σ.aa.length aj) false) dO args)(hK:K (({ σ with aa:=fF σ.aa aj (dm.map (bO (bE σ.aa.length aj))) }:St).put dst (br (bE σ.aa.length aj) res))):uf P f args dst K σ:=by
 obtain⟨h1,h2⟩:=ho.spec;obtain⟨h3,h4⟩:=ha.spec;exact⟨aj,false,dO,b7,res,dm,h,⟨bG,h1,h2,h3,h4,G9⟩,hK⟩
def ug(aj:List Nat){f:FuncId}{args dO:List AV}{b7:List Ob}{dst:Option Tmp}{K:St->Prop}{res:AV}{dm:List Ob}(h:Holds P f dO b7 res dm)(bG:aj.Nodup)(ho:zE (bE σ.aa.length aj) σ.aa aj b7)(ha:jN (a7 σ (·∈aj) (bE σ.aa.length aj) true) dO args)(hf:flat res=true)(A3:∀ o∈dm,CW o)(hK:K (({ σ with aa:=fF σ.aa aj (dm.map (bO (bE σ.aa.length aj))) }:St).put dst (br (bE σ.aa.length aj) res))):uf P f args dst K σ:=by
 obtain⟨h1,h2⟩:=ho.spec;obtain⟨h3,h4⟩:=ha.spec;exact⟨aj,true,dO,b7,res,dm,h,⟨bG,h1,h2,h3,h4,λ_=>⟨hf,A3⟩⟩,hK⟩
def RW{ρ:Nat->Nat}(cs:List AV):bO ρ (.var cs)=.var (cs.map (br ρ)):=by simp only[bO]
def RX{ρ:Nat->Nat}:bO ρ .gone=.gone:=by simp only[bO]
def RY:bn 1=[0]:=Hg
def RZ:bn 2=[0,1]:=Hg
def R0:bn 3=[0,1,2]:=Hg
def R2(xs:List Int):(ints xs).take xs.length=ints xs:=by rw[dt (by simp[ints])]
def R3(xs:List Bool):(aV xs).take xs.length=aV xs:=by rw[dt (by simp[aV])]
def R4(xs:List (List Int)):(eO xs).take xs.length=eO xs:=by rw[dt (by simp[eO])]
def pH{y:Code}{Q0 Q1:Exit->St->Prop}{G:Prop}(S0:St)(hn:∀ s,W P N n0 y Q0 s->Q1 .normal s)(hm:W P N n0 y Q0 S0)(h:(∀ s,aD n0 s S0->Q1 .normal s)->G):G :=
 h λs ht=>hn s (bP ht hm)
end Go.Am
namespace Go.Am
variable {P:Program} {N n0:Nat} {σ:St} {Q:Exit->St->Prop}
def R5(P:Program)(ops:Array Oper)(Q:Exit->Act->World->Prop)(js:List Nat):Exit->Act->World->Prop
 |.normal,a,w=>wpOps P ops Q js a w
 |e,a,w=>Q e a w
def Oper.afq{o:Oper}{a:Act}{w:World}{K:Act->World->Prop}{Q Q':Exit->Act->World->Prop}(hq:∀ e a w,e≠.normal->Q e a w->Q' e a w)(hl:LetsOut Q->LetsOut Q')(hh:o.wp P a w K Q):o.wp P a w K Q':=by
 unfold Oper.wp at *;generalize (execOp a.eval o).run P w=r at *;cases r with
 |ok n w' =>
  cases n<;>simp only[Oper.upon]at hh⊢<;>
   first
    |exact hh
    |exact Calls.mono hh (λe w'' he=>by
      cases e with
      |returned v=>exact he
      |panicked c=>exact hq _ _ _ G9 he
      |outgrown=>exact hl he)
 |halt x w'=>cases x<;>simp only[Oper.upon]at hh ⊢<;>first|exact hh|exact hq _ _ _ G9 hh
def zG{ops:Array Oper}{Q:Exit->Act->World->Prop}{js:List Nat}:∀ (is:List Nat) (a:Act) (w:World),wpOps P ops (R5 P ops Q js) is a w->wpOps P ops Q (is++js) a w
 |[],a,w,h=>h
 |i::is,a,w,h=>by
  rw[dw,wpOps_cons];rw[wpOps_cons]at h;have hl:LetsOut (R5 P ops Q js)->LetsOut Q:=λh=>h;unfold wpOp at h ⊢;cases ho:ops[i]? with
  |none=>simp only[ho]at h ⊢;exact zG is a w h
  |some o =>
   simp only[ho]at h ⊢;by_cases hw:Region.wanted o (yielded ops a.tmps)=true
   ·rw[if_pos hw]at h ⊢;rcases h with h|⟨h1,h2⟩
    ·left;exact Oper.afq (λe a w he hq=>by cases e<;>first|exact absurd rfl he|exact hq) hl (Oper.wp_mono (λa w=>zG is a w) h)
    ·exact .inr ⟨h1,hl h2⟩
   ·rw[if_neg hw]at h ⊢;exact zG is _ w h
def s8{N:Nat}{os:List Ob}{γ0:Cx}{ops:Array Oper}(hd:∀ o∈ops.toList,∀ d,o.dst=some d->d<N){K:St->Prop}{Q:Exit->Act->World->Prop}(hQ:∀ σ' a' w',K σ'->gp N os γ0 σ' a' w'->Q .normal a' w'):∀ (l:List Oper) (i:Nat) (σ:St) (a:Act) (w:World),(∀ k,k<l.length->ops[i+k]?=l[k]?)->opsL P ops l K σ->gp N os γ0 σ a w ->
   wpOps P ops Q (mU i l.length) a w
 |[],i,σ,a,w,_,h,az=>by simpa [wpOps] using hQ _ _ _ h az
 |o::r,i,σ,a,w,hl,h,az=>by
  have hi:ops[i]?=some o:=by simpa using hl 0 G9
  have hr:∀ k,k<r.length->ops[i+1+k]?=r[k]?:=λk hk=>by
   have:=hl (k+1) (by simpa using hk);rw[show i+1+k=i+(k+1) by omega,this];simp
  have bR:o∈ops.toList:=List.mem_of_getElem? (by simpa using hi);rw[du,List.range'_succ,wpOps_cons];unfold wpOp;simp only[hi];unfold opsL at h;cases hg:o.guard with
  |none =>
   simp only[hg]at h;have hw:Region.wanted o (yielded ops a.tmps)=true:=by simp[Region.wanted,hg]
   rw[if_pos hw];left;exact yy h az (hd o bR) (λσ' a' w' hK c8=>s8 hd hQ r (i+1) σ' a' w' hr hK c8)
  |some jw =>
   obtain⟨j,want⟩:=jw;simp only[hg]at h;cases eB:(ops[j]?).bind (·.dst) with
   |none=>simp[eB]at h
   |some d =>
    simp only[eB]at h;split at h
    ·rename_i b he;obtain⟨iK,aO,γ,rfl,ha,hs,hf⟩:=az;have jO:=hs.ar d;rw[he,ha]at jO;have hv:=jO.cO;have hy:yielded ops a.tmps j=some b:=by
      unfold yielded;rw[eB];have:a.tmps[d]?=some (.bool b):=by
       rw[eU]at hv;cases hx:a.tmps[d]? with
       |none=>rw[hx]at hv;simp[Go.undef]at hv
       |some y=>rw[hx]at hv;simp at hv;rw[hv]
      simp[this]
     by_cases ig:b=want
     ·have hw:Region.wanted o (yielded ops a.tmps)=true:=by simp[Region.wanted,hg,hy,ig]
      rw[if_pos hw];left;exact yy (h.1 ig) ⟨iK,aO,γ,rfl,ha,hs,hf⟩ (hd o bR) (λσ' a' w' hK c8=>s8 hd hQ r (i+1) σ' a' w' hr hK c8)
     ·have hw:Region.wanted o (yielded ops a.tmps)=false:=by simp[Region.wanted,hg,hy,ig]
      rw[if_neg (by rw[hw];simp)];refine s8 hd hQ r (i+1) _ _ _ hr (h.2 ig) ⟨by rw[put_defers];exact iK,by rw[vK];exact aO,{ γ with tmps:=(a.put o.dst Go.undef).tmps },rfl,rfl,s9 hs ha (λd h=>by rw[aO];exact hd o bR d h) (.lit _),?_⟩;rw[rM];exact hf.put _
    ·rename_i vs he;obtain⟨iK,aO,γ,rfl,ha,hs,hf⟩:=az;have jO:=hs.ar d;rw[he,ha]at jO;have hv:=jO.cO;have hy:yielded ops a.tmps j=none:=by
      unfold yielded;rw[eB];rw[eU]at hv;cases hx:a.tmps[d]? with
      |none=>simp[hx]
      |some y=>rw[hx]at hv;simp at hv;subst hv;simp[hx]
     have hw:Region.wanted o (yielded ops a.tmps)=false:=by simp[Region.wanted,hg,hy]
     rw[if_neg (by rw[hw];simp)];refine s8 hd hQ r (i+1) _ _ _ hr h.2 ⟨by rw[put_defers];exact iK,by rw[vK];exact aO,{ γ with tmps:=(a.put o.dst Go.undef).tmps },rfl,rfl,s9 hs ha (λd h=>by rw[aO];exact hd o bR d h) (.lit _),?_⟩;rw[rM];exact hf.put _
    ·exact h.elim
def afr{os:List Ob}{γ0:Cx}{ops:Array Oper}(hd:∀ o∈ops.toList,∀ d,o.dst=some d->d<N){K K1:St->Prop}{Q:Exit->Act->World->Prop}(hn:os.length=n0)(hQ:∀ σ' a' w',K σ'->gp N os γ0 σ' a' w'->Q .normal a' w')(n:Nat)(hK:∀ s,K1 s->∃ s1,aD n0 s s1/\opsL P ops (ops.toList.drop n) K s1)(σ:St)(a:Act)(w:World)(h:opsL P ops (ops.toList.take n) K1 σ)(az:gp N os γ0 σ a w):wpOps P ops Q (bn ops.size) a w:=by
 have e:bn ops.size=mU 0 (ops.toList.take n).length++mU (ops.toList.take n).length (ops.toList.drop n).length:=by
  rw[List.range_eq_range'];have:=List.range'_append (s:=0) (m:=(ops.toList.take n).length) (n:=(ops.toList.drop n).length) (step:=1);simp only[gR,wX]at this;rw[this];congr 1;rw[<- bN,List.take_append_drop];simp
 rw[e];refine zG _ a w ?_;refine s8 hd (K:=K1) (λσ' a' w' hk c8=>?_) (ops.toList.take n) 0 σ a w (λk hk=>?_) h az
 ·obtain⟨s1,ht,ho⟩:=hK σ' hk;obtain⟨h1,h2,γ,rfl,h3,h4,h5⟩:=c8;obtain⟨aC,e1,e2,e3,e4⟩:=ht os γ0 γ hn h4 h5;refine s8 hd hQ (ops.toList.drop n) _ s1 a' γ.w (λk hk=>?_) ho ⟨h1,h2,aC,e1,e2.trans h3,e3,e4⟩;rw[List.getElem?_drop];simp only[List.length_drop,sU]at hk;rw[e9,sU,Nat.min_eq_left Ey];simp
 ·simp only[e9,sU]at hk;rw[List.getElem?_take_of_lt Ey];simp
end Go.Am
namespace Go.Am
variable {σ:St}
def lV(R:AV->AV->Prop):List (List AV)->List (List AV)->Prop
 |[],[]=>True
 |c::cs,d::ds=>jN R c d/\lV R cs ds
 |_,_=>False
def lV.spec{R:AV->AV->Prop}:∀ {cs ds:List (List AV)},lV R cs ds->cs.length=ds.length/\∀ (r c:Nat) v,cellAt cs r c=some v->cellAt ds r c=some ((cellAt ds r c).getD .undef)/\R v ((cellAt ds r c).getD .undef)
 |[],[],_=>⟨rfl,by simp[cellAt]⟩
 |c::cs,d::ds,h=>by
  obtain⟨a,b⟩:=lV.spec h.2;refine⟨by simp[a],λr j v hv=>?_⟩;cases r with
  |zero =>
   simp only[cellAt,wZ,tX]at hv ⊢;obtain⟨e1,e2⟩:=h.1.spec;have hj:j<d.length:=by rw[<- e1];exact(aY.1 hv).1
   rw[bx hj];exact⟨rfl,e2 j v _ hv (bx hj)⟩
  |succ r =>
   have:=b r j v (by simpa [cellAt] using hv);simpa [cellAt] using this
def cX.mk{kp:Nat->Prop}{id sz len:Nat}{rows iv:List (List AV)}(ho:σ.aa[id]?=some (.arr sz rows))(hl:len=rows.length)(uh:¬ kp id)(hw:∀ row∈iv,row.length=sz)(h:lV (cX σ kp) iv rows):cX σ kp (.tree sz iv) (.ref id sz 0 len):=by
 obtain⟨a,b⟩:=h.spec;subst hl;refine .ref id sz 0 rows.length rows iv (λr c=>(cellAt rows r c).getD .undef) ho uh (by simp[a]) hw (λr c v hv=>?_) (λr c v hv=>?_)
 ·simpa using(b r c v hv).1
 ·exact(b r c v hv).2
end Go.Am
namespace Go.Am
def ui:=aaP @Hq @Hs @Ht @QC.{0} @QD.{0} @QF @CK (aaP @oO @CL @yu @jB @if_false.{1} @if_true.{1} @jc.{0} (QP @gB.{0} @KL.{0}))
def Bc:=aaP @Hq @Hs @Ht @QC.{0} @QD.{0} @QF @CK (aaP @oO @CL @yu @jB @if_false.{1} @if_true.{1} @jc.{0} (aaP @gB.{0} @KL.{0} @Ev.{0} @Array.size_empty.{0} @R6 @R7 @eq_self.{1} (aaP @R8 @R9 @Rg @Rh @Ri @Rj @Rp (aaP @Rq @Rr @Rs @Rt @Ru @Rv @Rw (aaP @Rx @Ry @Rz @RA @RC @RD @RE (aaP @RO @RP @RQ @RR @RS @RT @RU (aaP @RV @Sa @Rl @Ro @Re @Rf @true_and (aaP @and_true @and_self @ez.{0,0} @oP.{0,0} @dw.{0} @eJ.{0} @n9.{0} (aaP @ite_true.{1} @ite_false.{1} @Bool.true_eq_false @ne_eq.{1} @not_true_eq_false @not_false_eq_true @false_implies (aaP @true_implies @implies_true.{1} @tX.{0,0} @Option.bind_none.{0,0} @wZ.{0} @vB.{0} @KM.{0} (aaP @du.{0} @ln.{0} @gR @jK @decide_true @decide_false @Es.{0} (aaP @List.all_nil.{0} @G7 @ic @Int.toNat_zero @iH @kP @cond_true.{1} (aaP @cond_false.{1} @Sb @Sd @Se @Sf @Sh @Si (aaP @Sj @Sk @mX @mY @dg @RY @RZ (aaP @R0 @R2 @R3 @R4 @G8 @Nat.mul_one @wX (aaP @RW @RX @Hu @CX @Lh @fc.{0,0} @AN.{0} (aaP @List.drop_succ_cons.{0} @List.take_succ_cons.{0} @mu.{0} @oQ.{0} @rG.{0} @beq_self_eq_true.{0} @tY.{0,0} (aaP @QG.{0,0} @List.getElem?_nil.{0} @bN.{0} @bJ.{0} @nx.{0} @xl @A4 (aaP @EI @Sl @Sm @Sn @Sp @Sr @Hv (aaP @ints_set @uj @Ss @CY @Su @EJ @Li (Q4 @CZ @Hw @Sv @Sw)))))))))))))))))))))
def iL:=aaP @eq_self.{1} @decide_eq_true_eq @decide_eq_false_iff_not @kq @Bool.not_eq_false' @beq_iff_eq.{0} @beq_eq_false_iff_ne.{0} (aaP @bne_iff_ne.{0} @bne_eq_false_iff_eq.{0} @ne_eq.{1} @Decidable.not_not @Int.not_lt @Int.not_le @not_true_eq_false (aaP @not_false_eq_true @lQ @bc @Bool.or_eq_false_iff @Bool.and_eq_false_iff @gt_iff_lt.{0} @ge_iff_le.{0} (aaP @Int.ofNat_lt @Int.ofNat_le @QH @Nat.not_lt @Nat.not_le @xl @A4 (QZ @EI @cond_true.{1} @cond_false.{1}))))
end Go.Am

