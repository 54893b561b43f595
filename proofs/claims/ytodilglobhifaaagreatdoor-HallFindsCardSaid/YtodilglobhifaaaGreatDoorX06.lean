import Derived.Test.YtodilglobhifaaaGreatDoorX05
set_option linter.all false
set_option maxHeartbeats 0
set_option maxRecDepth 20000
open List renaming map_cons→qR,all_cons→An,range→bD,replicate→ax,getElem?_eq_some_iff→ba,getD_eq_getElem?_getD→aw,getElem?_range→ub,getElem?_eq_getElem→bc,take_of_length_le→kW,cons_append→fR,range'→jJ,length_cons→cK,length_append→aJ,length_take→j9,getElem?_cons_zero→sE,contains_cons→Hb,contains_nil→Hd,getD_cons_zero→jm,getD_cons_succ→jK,getD_nil→Au,size_toArray→xL,map_nil→xM,nil_append→dT,append_nil→fF,getElem?_cons_succ→Dk,getElem?_toArray→Dl,length_nil→g8,drop_zero→Av,take_zero→Dn,set_cons_zero→uc,set_cons_succ→Hf,flatMap_cons→Hg,flatMap_nil→Hh,length_set→bt,length_replicate→sF
open Array renaming getD_eq_getD_getElem?→dC,length_toList→nL
open Nat renaming zero_add→gM,one_mul→qU,add_zero→kX,mul_one→Al
open Option renaming bind_some→nN,map_some→g9
open Bool renaming or_self→He,or_false→As,false_or→mn,or_true→Dj,true_or→qT,false_eq_true→j7,and_true→Dm,true_and→iD,not_true→tZ,not_false→sA,not_eq_true'→g7,not_eq_false'→Hi,or_eq_true→jI,and_eq_true→bd
open Int renaming toNat_natCast→dz,ofNat_lt→xN
namespace Go.Am
variable {P:Program} {dst:Option Tmp} {tt:TypeId} {p:String} {af:Array Edge} {g:Option (Nat×Bool)} {σ:St} {K:St->Prop}
def lP:Option Ob->Prop
 |some (.var _)=>True
 |some (.arr _ _)=>True
 |some (.mp _ _)=>True
 |_=>False
def Im(a:Nat)(L:List (List Int×AV)):lP (some (.mp a L))=True:=by simp only[lP]
def Jm(c:List AV):lP (some (.var c))=True:=by simp only[lP]
def Jn(s:Nat)(c:List (List AV)):lP (some (.arr s c))=True:=by simp only[lP]
def v5(σ:St)(dst:Option Tmp)(K:St->Prop):AV->Prop
 |.ptr id r c=>lP σ.aa[id]?/\K (σ.put dst (.ptr id r c))
 |.cm cells=>K (σ.put dst (.cm cells))
 |_=>False
def Jo(x:Operand):aR P ⟨dst,.nilCheck x,tt,p,af,g⟩ σ K=v5 σ dst K (ev σ x):=by
 simp only[aR,bF];cases ev σ x<;>simp only[v5];rename_i id r c;cases h:σ.aa[id]? with
 |none=>simp[lP]
 |some o=>cases o<;>simp[lP]
def v7(σ:St)(dst:Option Tmp)(K:St->Prop)(off:Nat):AV->Prop
 |.ptr id r c=>lP σ.aa[id]?/\K (σ.put dst (.ptr id r (c+off)))
 |.cm cells=>K (σ.put dst (.cm (cells.drop off)))
 |_=>False
def sL(σ:St)(dst:Option Tmp)(K:St->Prop)(v:AV)(kind:Nat):Option (Nat×Nat×Nat)->Prop
 |some (off,_,size)=>kind=3/\0<size/\v7 σ dst K off v
 |none=>False
def Jp(s:TypeId)(x:Operand)(f:Nat):aR P ⟨dst,.fieldAddr s x f,tt,p,af,g⟩ σ K=sL σ dst K (ev σ x) (ty P s).kind (ty P s).aF[f]?:=by
 simp only[aR,bF];split
 ·rename_i off ft size hk hf;rw[hk,hf];simp only[sL,true_and];cases ev σ x<;>simp only[v7];rename_i id r c;cases h:σ.aa[id]? with
  |none=>simp[lP]
  |some o=>cases o<;>simp[lP]
 ·rename_i bI;cases hf:(ty P s).aF[f]? with
  |none=>simp[sL]
  |some q =>
   obtain⟨off,ft,size⟩:=q;simp only[sL];have:(ty P s).kind≠3:=λe=>bI off ft size e hf;simp[this]
def lz(t:Ty)(e:Ty)(σ:St)(dst:Option Tmp)(K:St->Prop):AV->AV->Prop
 |.ref id sz off len,.lit (.int _ n) =>
  t.kind=1 /\
  match σ.aa[id]? with
  |some (.arr bV _)=>(bV=sz/\sz=e.size/\e.kind≠99/\0<=n/\n<len)/\K (σ.put dst (.ptr id (off+n.toNat) 0))
  |_=>False
 |.tree sz rows,.lit (.int _ n)=>t.kind=1/\(sz=e.size/\e.kind≠99/\0<=n/\n<rows.length)/\K (σ.put dst (.cm (rows.getD n.toNat [])))
 |.ptr id r c,.lit (.int _ n)=>t.kind=2/\lP σ.aa[id]?/\(e.kind≠99/\0<=n/\n<t.len)/\K (σ.put dst (.ptr id r (c+n.toNat*e.size)))
 |.cm cells,.lit (.int _ n)=>t.kind=2/\(e.kind≠99/\0<=n/\n<t.len)/\K (σ.put dst (.cm (cells.drop (n.toNat*e.size))))
 |_,_=>False
def Jq(t:TypeId)(x i:Operand):aR P ⟨dst,.indexAddr t x i,tt,p,af,g⟩ σ K=lz (ty P t) (ty P (ty P t).elem) σ dst K (ev σ x) (ev σ i):=by
 simp only[aR,bF];split
 ·rename_i id sz off len k n hk hx hi;rw[hx,hi];simp only[lz,hk,true_and];cases σ.aa[id]? with
  |none=>rfl
  |some o=>cases o<;>rfl
 ·rename_i sz rows k n hk hx hi;rw[hx,hi];simp only[lz,hk,true_and]
 ·rename_i id r c k n hk hx hi;rw[hx,hi];simp only[lz,hk,true_and];cases h:σ.aa[id]? with
  |none=>simp[lP]
  |some o=>cases o<;>simp[lP]
 ·rename_i cells k n hk hx hi;rw[hx,hi];simp only[lz,hk,true_and]
 ·rename_i h1 h2 h3 h4;unfold lz;split
  ·rename_i id sz off len k n hx hi;simp only[eq_iff_iff,false_iff];rintro⟨hk,_⟩;exact h1 id sz off len k n hk hx hi
  ·rename_i sz rows k n hx hi;simp only[eq_iff_iff,false_iff];rintro⟨hk,_⟩;exact h2 sz rows k n hk hx hi
  ·rename_i id r c k n hx hi;simp only[eq_iff_iff,false_iff];rintro⟨hk,_⟩;exact h3 id r c k n hk hx hi
  ·rename_i cells k n hx hi;simp only[eq_iff_iff,false_iff];rintro⟨hk,_⟩;exact h4 cells k n hk hx hi
  ·rfl
def DF(P:Program)(dst:Option Tmp)(args:List AV)(K:St->Prop)(σ:St):AV->Prop
 |.fn g bB=>nX P g (args++bB) dst K σ
 |_=>False
def Jr(f:Operand)(args:Array Operand)(dV:Array TypeId):aR P ⟨dst,.call ⟨.value f,args,dV⟩,tt,p,af,g⟩ σ K=DF P dst (args.toList.map (ev σ)) K σ (ev σ f):=by
 simp only[aR];cases ev σ f<;>rfl
def DH(P:Program)(dst:Option Tmp)(args:List AV)(K:St->Prop)(σ:St)(m:String):AV->Prop
 |.fj t v=>lF P σ v (λg x=>nX P g (x::args) dst K σ) (A1 P t m)
 |_=>False
def Ib(r:Operand)(m:String)(args:Array Operand)(dV:Array TypeId):aR P ⟨dst,.call ⟨.invoke r m,args,dV⟩,tt,p,af,g⟩ σ K=DH P dst (args.toList.map (ev σ)) K σ m (ev σ r):=by
 simp only[aR];cases ev σ r<;>rfl
def DG(P:Program)(dst:Option Tmp)(args:List AV)(K:St->Prop)(σ:St):AV->Prop
 |.fn g bB=>DW P g (args++bB) dst K σ
 |_=>False
def Js(f:Operand)(args:Array Operand)(dV:Array TypeId):jq true P ⟨dst,.call ⟨.value f,args,dV⟩,tt,p,af,g⟩ σ K=DG P dst (args.toList.map (ev σ)) K σ (ev σ f):=by
 simp only[jq];cases ev σ f<;>rfl
def p'(σ:St):List (Nat×Operand)->List (Nat×AV)
 |[]=>[]
 |q::l=>(q.1,ev σ q.2)::p' σ l
def qa(σ:St):List (Nat×Operand)->Bool
 |[]=>true
 |q::l=>(cellsOf (ev σ q.2)).all bU&&qa σ l
def Jt(σ:St)(l:List (Nat×Operand)):p' σ l=l.map λq=>(q.1,ev σ q.2):=by
 induction l with
 |nil=>rfl
 |cons q l ih=>simp only[p',ih,qR]
def Ju(σ:St)(l:List (Nat×Operand)):qa σ l=l.all λq=>(cellsOf (ev σ q.2)).all bU:=by
 induction l with
 |nil=>rfl
 |cons q l ih=>simp only[qa,ih,An]
def Jv(o:Oper):jq false P o σ K=aR P o σ K:=by simp only[jq]
def Jw(x:Operand):aR P ⟨dst,.move x,tt,p,af,g⟩ σ K =
  (K (σ.put dst (ev σ x))):=by unfold aR bF;rfl
def Jx(x:Operand):aR P ⟨dst,.assign x,tt,p,af,g⟩ σ K =
  (K (σ.put dst (ev σ x))):=by unfold aR bF;rfl
def Jy(c a b:Operand):aR P ⟨dst,.pick c a b,tt,p,af,g⟩ σ K =
  (match ev σ c with
   |.lit (.bool t)=>K (σ.put dst (ef t (ev σ a) (ev σ b)))
   |_=>False):=by unfold aR bF;rfl
def Jz (e:TypeId):aR P ⟨dst,.alloc e,tt,p,af,g⟩ σ K =
    ((ty P e).kind≠99 /\
      match (ty P e).zero with
      | some z=>K (({ σ with aa:=σ.aa++[.var (z.map .lit)] }:St).put dst (.ptr σ.aa.length 0 0))
      | none=>False):=by unfold aR bF;rfl
def JA(e:TypeId)(x:Operand):aR P ⟨dst,.box e x,tt,p,af,g⟩ σ K =
  ((cellsOf (ev σ x)).all bU=true/\K (({ σ with aa:=σ.aa++[.var (cellsOf (ev σ x))] }:St).put dst (.ptr σ.aa.length 0 0))):=by unfold aR bF;rfl
def JB(t:TypeId)(parts:Array (Nat×Operand)):aR P ⟨dst,.build t parts,tt,p,af,g⟩ σ K =
  (match (ty P t).kind,(ty P t).zero with
   |3,some z =>
    match jN (λi=>((ty P t).aF[i]?).map λf=>(f.1,f.2.2)) (z.map .lit) (p' σ parts.toList) with
    |some cs=>(qa σ parts.toList=true/\((ty P t).aF.all λf=>decide (0<f.2.2))=true)/\K (σ.put dst (.agg cs))
    |none=>False
   |2,some z =>
    match jN (λi=>some (i*(ty P (ty P t).elem).size,(ty P (ty P t).elem).size)) (z.map .lit) (p' σ parts.toList) with
    |some cs=>(qa σ parts.toList=true/\(ty P (ty P t).elem).kind≠99)/\K (σ.put dst (.agg cs))
    |none=>False
   |_,_=>False):=by rw[Jt,Ju];unfold aR bF;rfl
def JC(t:TypeId)(len:Nat)(parts:Array (Nat×Operand)):aR P ⟨dst,.buildSlice t len parts,tt,p,af,g⟩ σ K =
  (match (ty P t).kind,(ty P (ty P t).elem).zero with
   |1,some z =>
    match jN (λi=>some (i*(ty P (ty P t).elem).size,(ty P (ty P t).elem).size)) ((bD len).flatMap λ_=>z.map .lit) (p' σ parts.toList) with
    |some cs=>((ty P (ty P t).elem).kind≠99/\0<(ty P (ty P t).elem).size/\z.length=(ty P (ty P t).elem).size/\len*(ty P (ty P t).elem).size<=16777216/\qa σ parts.toList=true) /\
      K (({ σ with aa:=σ.aa++[.arr (ty P (ty P t).elem).size (jO (ty P (ty P t).elem).size len cs)] }:St).put dst (.ref σ.aa.length (ty P (ty P t).elem).size 0 len))
    |none=>False
   |_,_=>False):=by rw[Jt,Ju];unfold aR bF;rfl
def JD (t:TypeId) (a:Operand):aR P ⟨dst,.load t a,tt,p,af,g⟩ σ K =
    ((ty P t).kind≠99 /\
      match ev σ a with
      | .ptr id r c =>
        match rowOf σ id r with
        | some row=>jM (ty P t) row c λv=>K (σ.put dst v)
        | none=>False
      | .cm cells=>jM (ty P t) cells 0 λv=>K (σ.put dst v)
      | _=>False):=by unfold aR bF;rfl
def JE (t:TypeId) (a x:Operand):aR P ⟨dst,.store t a x,tt,p,af,g⟩ σ K =
    ((ty P t).kind≠99 /\
      match ev σ a with
      | .ptr id r c =>
        match rowOf σ id r with
        | some row=>((cellsOf (ev σ x)).length=(ty P t).size/\c+(ty P t).size<=row.length/\(cellsOf (ev σ x)).all bU=true)/\K ((kZ σ id r (setCells row c (cellsOf (ev σ x)))).put dst .undef)
        | none=>False
      | _=>False):=by unfold aR bF;rfl
def JF(op:BinOp)(t:TypeId)(x y:Operand)(yt:TypeId):aR P ⟨dst,.binOp op t x y yt,tt,p,af,g⟩ σ K =
  (match ev σ x,ev σ y with
   |.lit (.int k a),.lit (.int k' b)=>k=k'/\eS op k a b λv=>K (σ.put dst (.lit v))
   |.lit (.bool a),.lit (.bool b) =>
    (ty P t).kind=6 /\
    match op with
    |.eql=>K (σ.put dst (.lit (.bool (a==b))))
    |.neq=>K (σ.put dst (.lit (.bool (a != b))))
    |_=>False
   |.tree _ rows,.lit (.slice none 0 0) =>
    ((ty P t).kind=1/\0<rows.length) /\
    match op with
    |.eql=>K (σ.put dst (.lit (.bool false)))
    |.neq=>K (σ.put dst (.lit (.bool true)))
    |_=>False
   |.lit (.slice a _ _),.lit (.slice none 0 0) =>
    (ty P t).kind=1 /\
    match op with
    |.eql=>K (σ.put dst (.lit (.bool a.isNone)))
    |.neq=>K (σ.put dst (.lit (.bool (!a.isNone))))
    |_=>False
   |.agg cs,.agg ds =>
    match lE cs,lE ds with
    |some as,some bs =>
     (m7 P t as.length/\bs.length=as.length/\P.eqGuardType P.depth t=false) /\
     match op with
     |.eql=>K (σ.put dst (.lit (.bool (decide (as=bs)))))
     |.neq=>K (σ.put dst (.lit (.bool (!decide (as=bs)))))
     |_=>False
    |_,_=>False
   |_,_=>False):=by unfold aR bF;rfl
def JG(op:UnOp)(t:TypeId)(x:Operand):aR P ⟨dst,.unOp op t x,tt,p,af,g⟩ σ K =
  (match op,ev σ x with
   |.not,.lit (.bool b)=>K (σ.put dst (.lit (.bool !b)))
   |.neg,.lit (.int k a)=>oZ k a λv=>K (σ.put dst (.lit v))
   |_,_=>False):=by unfold aR bF;rfl
def JH(fn:Fn)(first captured:Array Operand):aR P ⟨dst,.makeFunc fn first captured,tt,p,af,g⟩ σ K =
  (match fn with
   |.func f=>first.size=0/\K (σ.put dst (.fn f (captured.toList.map (ev σ))))
   |_=>False):=by unfold aR bF;rfl
def JI (t:TypeId) (l c:Operand):aR P ⟨dst,.makeSlice t l c,tt,p,af,g⟩ σ K =
    (match (ty P t).kind,(ty P (ty P t).elem).zero,ev σ l,ev σ c with
      | 1,some z,.lit (.int k n),.lit (.int k' n') =>
        ((ty P (ty P t).elem).kind≠99/\0<(ty P (ty P t).elem).size/\z.length=(ty P (ty P t).elem).size/\n'=n/\0<=n/\n<=1099511627776/\(ty P (ty P t).elem).bytes<=128/\k=k) /\
          K (({ σ with aa:=σ.aa++[.arr (ty P (ty P t).elem).size (ax n.toNat (z.map .lit))] }:St).put dst (.ref σ.aa.length (ty P (ty P t).elem).size 0 n.toNat))/\k'=k'
      | _,_,_,_=>False):=by unfold aR bF;rfl
def JJ (t:TypeId) (x:Operand) (lo hi mx:Option Operand):aR P ⟨dst,.slice t x lo hi mx,tt,p,af,g⟩ σ K =
    ((ty P t).kind=1/\(ty P (ty P t).elem).kind≠99/\mx=none /\
      match ev σ x with
      | .ref id sz off len =>
        match σ.aa[id]? with
        | some (.arr bV rows) =>
          bV=sz/\sz=(ty P (ty P t).elem).size /\
          match lo.map (ev σ),hi.map (ev σ) with
          | none,none=>K (σ.put dst (.ref id sz off len))
          | some (.lit (.int _ l)),none=>(0<=l/\l<=len/\rows.length=rows.length)/\K (σ.put dst (.ref id sz (off+l.toNat) (len - l.toNat)))
          | none,some (.lit (.int _ h))=>(0<=h/\h<=len)/\K (σ.put dst (.ref id sz off h.toNat))
          | some (.lit (.int _ l)),some (.lit (.int _ h))=>(0<=l/\l<=h/\h<=len)/\K (σ.put dst (.ref id sz (off+l.toNat) (h.toNat - l.toNat)))
          | _,_=>False
        | _=>False
      | .tree sz rows =>
          (rows≠[]->sz=(ty P (ty P t).elem).size) /\
          match lo.map (ev σ),hi.map (ev σ) with
          | none,none=>K (σ.put dst (.tree sz rows))
          | some (.lit (.int _ l)),none=>(0<=l/\l<=rows.length)/\K (σ.put dst (.tree sz (rows.drop l.toNat)))
          | none,some (.lit (.int _ h))=>(0<=h/\h<=rows.length)/\K (σ.put dst (.tree sz (rows.take h.toNat)))
          | some (.lit (.int _ l)),some (.lit (.int _ h))=>(0<=l/\l<=h/\h<=rows.length)/\K (σ.put dst (.tree sz ((rows.take h.toNat).drop l.toNat)))
          | _,_=>False
      | _=>False):=by unfold aR bF;rfl
def JK(s:TypeId)(x:Operand)(f:Nat):aR P ⟨dst,.field s x f,tt,p,af,g⟩ σ K =
  (match (ty P s).kind,(ty P s).aF[f]? with
   |3,some (off,t,size) =>
    (ty P t).kind≠99/\size=(ty P t).size /\
    match ev σ x with
    |.agg cs=>if(ty P t).isAgg then off+size<=cs.length/\K (σ.put dst (.agg ((cs.drop off).take size))) else
      match cs[off]? with
      |some v=>K (σ.put dst v)
      |none=>False
    |_=>False
   |_,_=>False):=by unfold aR bF;rfl
def Ig(t:TypeId)(r:Option Operand):aR P ⟨dst,.makeMap t r,tt,p,af,g⟩ σ K =
  ((r=none/\(ty P t).kind=8)/\K (({ σ with aa:=σ.aa++[.mp (uI P t) []] }:St).put dst (.dx σ.aa.length))):=by unfold aR bF;rfl
def Ih(t:TypeId)(x i:Operand)(ok:Bool):aR P ⟨dst,.lookup t x i ok,tt,p,af,g⟩ σ K =
  (match keyOf (ev σ i),jo σ (ev σ x),zeroV P (ty P t).elem with
   |some (ag,l),some (_,fT,L),some z=>(gF P t ag/\fT=ag/\l.length=gA ag/\(ty P t).kind=8/\ok=false)/\K (σ.put dst ((kh l L).getD (.lit z)))
   |_,_,_=>False):=by unfold aR bF;rfl
def Ii(t:TypeId)(m k x:Operand):aR P ⟨dst,.mapUpdate t m k x,tt,p,af,g⟩ σ K =
  (match keyOf (ev σ k),jo σ (ev σ m) with
   |some (ag,l),some (id,fT,L)=>(gF P t ag/\fT=ag/\l.length=gA ag)/\K (({ σ with aa:=σ.aa.set id (.mp ag (cB l (ev σ x) L)) }:St).put dst .undef)
   |_,_=>False):=by unfold aR bF;rfl
def Ik(t:TypeId)(m k:Operand):aR P ⟨dst,.mapEntry t m k,tt,p,af,g⟩ σ K =
  (match keyOf (ev σ k),jo σ (ev σ m),zeroV P (ty P t).elem with
   |some (ag,l),some (id,fT,L),some z=>(gF P t ag/\fT=ag/\l.length=gA ag/\(ty P t).kind=8) /\
    K (({ σ with aa:=σ.aa.set id (.mp ag (cB l ((kh l L).getD (.lit z)) L)) }:St).put dst (.bP [(kh l L).getD (.lit z),aah (qe l L:Nat)]))
   |_,_,_=>False):=by unfold aR bF;rfl
def Il(t:TypeId)(m s x:Operand):aR P ⟨dst,.entryStore t m s x,tt,p,af,g⟩ σ K =
  (match ev σ s,jo σ (ev σ m) with
   |.lit (.int .i64 n),some (id,ag,L)=>(0<=n/\n<L.length)/\K (({ σ with aa:=σ.aa.set id (.mp ag (k9 n.toNat (ev σ x) L)) }:St).put dst .undef)
   |_,_=>False):=by unfold aR bF;rfl
def Ij(t:TypeId)(x i:Operand):aR P ⟨dst,.index t x i,tt,p,af,g⟩ σ K =
  (match ev σ x,ev σ i with
   |.lit (.string s),.lit (.int _ n)=>(P.underlying t=some .string/\0<=n/\n<s.size)/\K (σ.put dst (.lit (.int .u8 (qf s n.toNat))))
   |_,_=>False):=by unfold aR bF;rfl
def Ic(t:TypeId)(x:Operand):aR P ⟨dst,.makeInterface t x,tt,p,af,g⟩ σ K =
  (uJ P t=false/\K (σ.put dst (.fj t (ev σ x)))):=by unfold aR bF;rfl
def Ie(x:Operand)(xt asserted:TypeId)(ok:Bool):aR P ⟨dst,.typeAssert x xt asserted ok,tt,p,af,g⟩ σ K =
  (match ev σ x with
   |.fj t v=>(uJ P asserted=false/\t=asserted/\ok=false)/\K (σ.put dst v)
   |_=>False):=by unfold aR bF;rfl
def JL(x:Operand)(i:Nat):aR P ⟨dst,.extract x i,tt,p,af,g⟩ σ K =
  (match ev σ x with
   |.bP vs =>
    match vs[i]? with
    |some v=>K (σ.put dst v)
    |none=>False
   |_=>False):=by unfold aR bF;rfl
def JM(args:Array Operand)(argTypes:Array TypeId):aR P ⟨dst,.call ⟨.builtin .len,args,argTypes⟩,tt,p,af,g⟩ σ K =
  (match args.toList,argTypes.toList with
   |[x],[t] =>
    match ev σ x with
    |.ref id sz _ len =>
     (ty P t).kind=1 /\
     match σ.aa[id]? with
     |some (.arr bV _)=>bV=sz/\K (σ.put dst (aah len))
     |_=>False
    |.tree _ rows=>(ty P t).kind=1/\K (σ.put dst (aah rows.length))
    |.lit (.slice none 0 0)=>(ty P t).kind=1/\K (σ.put dst (aah 0))
    |.dx id =>
     (ty P t).kind=8 /\
     match σ.aa[id]? with
     |some (.mp _ L)=>K (σ.put dst (aah L.length))
     |_=>False
    |_=>False
   |_,_=>False):=by unfold aR bF;rfl
def JN(args:Array Operand)(argTypes:Array TypeId):aR P ⟨dst,.call ⟨.builtin .append,args,argTypes⟩,tt,p,af,g⟩ σ K =
  (match args.toList,argTypes.toList with
   |[s,x],[t,t'] =>
    match (ty P t).kind,(ty P (ty P t).elem).zero,m9 σ (ty P (ty P t).elem).size (ev σ s),k7 σ (ev σ x) with
    |1,some z,some (pre,σ1),some (sz,src) =>
     (t'=t/\(ty P (ty P t).elem).kind≠99/\sz=(ty P (ty P t).elem).size/\0<sz/\z.length=sz/\pre.length+src.length<=549755813888/\(ty P (ty P t).elem).bytes<=128/\(src.all λrow=>row.all bU)=true) /\
      K (({ σ1 with aa:=σ1.aa++[.arr sz (pre++src)] }:St).put dst (.ref σ1.aa.length sz 0 (pre.length+src.length)))
    |_,_,_,_=>False
   |_,_=>False):=by unfold aR bF;rfl
def JO(args:Array Operand)(argTypes:Array TypeId):aR P ⟨dst,.call ⟨.builtin .min,args,argTypes⟩,tt,p,af,g⟩ σ K =
  (match args.toList with
   |[x,y] =>
    match ev σ x,ev σ y with
    |.lit (.int k a),.lit (.int k' b)=>k=k'/\K (σ.put dst (.lit (.int k (min a b))))
    |_,_=>False
   |_=>False):=by unfold aR bF;rfl
def JP(args:Array Operand)(argTypes:Array TypeId):aR P ⟨dst,.call ⟨.builtin .max,args,argTypes⟩,tt,p,af,g⟩ σ K =
  (match args.toList with
   |[x,y] =>
    match ev σ x,ev σ y with
    |.lit (.int k a),.lit (.int k' b)=>k=k'/\K (σ.put dst (.lit (.int k (max a b))))
    |_,_=>False
   |_=>False):=by unfold aR bF;rfl
def JQ (args:Array Operand) (argTypes:Array TypeId):aR P ⟨dst,.call ⟨.builtin .copy,args,argTypes⟩,tt,p,af,g⟩ σ K =
    (match args.toList,argTypes.toList with
      | [s,x],[t,_] =>
        match ev σ s,k7 σ (ev σ x) with
        | .ref id sz off len,some (bV,src) =>
          match σ.aa[id]? with
          | some (.arr iI rows) =>
            ((ty P t).kind=1/\(ty P (ty P t).elem).kind≠99/\bV=sz/\iI=sz/\sz=(ty P (ty P t).elem).size/\0<sz/\(src.all λrow=>row.all bU)=true) /\
              K (({ σ with aa:=σ.aa.set id (.arr sz (rows.take off++src.take (min src.length len)++rows.drop (off+min src.length len))) }:St).put dst (aah (min src.length len:Nat)))
          | _=>False
        | _,_=>False
      | _,_=>False):=by unfold aR bF;rfl
def JR (args:Array Operand) (argTypes:Array TypeId):aR P ⟨dst,.call ⟨.builtin .clear,args,argTypes⟩,tt,p,af,g⟩ σ K =
    (match args.toList,argTypes.toList with
      | [s],[t] =>
        match ev σ s,(ty P (ty P t).elem).zero with
        | .ref id sz off len,some z =>
          match σ.aa[id]? with
          | some (.arr bV rows) =>
            ((ty P t).kind=1/\(ty P (ty P t).elem).kind≠99/\bV=sz/\z.length=sz/\0<sz/\(z.all λu=>u.oneCell')=true) /\
              K (({ σ with aa:=σ.aa.set id (.arr sz (rows.take off++ax len (z.map AV.lit)++rows.drop (off+len))) }:St).put dst (.lit (.tuple #[])))
          | _=>False
        | _,_=>False
      | _,_=>False):=by unfold aR bF;rfl
def JS(s d:TypeId)(x:Operand):aR P ⟨dst,.convert s d x,tt,p,af,g⟩ σ K =
  (match P.underlying d,ev σ x with
   |some (.int k),.lit (.int _ n)=>(P.underlying s).isSome=true/\K (σ.put dst (.lit (.int k (k.wrap n))))
   |_,_=>False):=by unfold aR bF;rfl
end Go.Am
namespace Go.Am
variable {P:Program} {N n0:Nat} {σ:St} {Q:Exit->St->Prop}
def eU(ab:List Nat)(snap:Bool){v res:AV}{aY:List Ob}(cR:ab.Nodup)(ho:lQ (bq σ.aa.length ab) σ.aa ab aY)(hn:n0<=ab.length)(cp:∀ i,i<n0->ab.getD i 0=i)(h:a9 σ (kept ab aY) (bq σ.aa.length ab) snap res v):my n0 σ v res aY:=by
 obtain⟨h1,h2,h3⟩:=ho.spec;exact⟨ab,snap,cR,h1,h2,h3,hn,cp,h⟩
def iy{e:Nat->AV}{os:List Ob}{v res:AV}{aY:List Ob}(ho:os=aY)(hn:n0<=aY.length)(h:v=res):my n0 ⟨e,os⟩ v res aY:=by
 subst ho;subst h
 let σ:St:=⟨e,os⟩
 show my n0 σ v v σ.aa;have hn:n0<=σ.aa.length:=hn;refine⟨bD σ.aa.length,false,List.nodup_range,Dg,λj o hj=>.inr ?_,Dg,by simpa using hn,λi hi=>?_,?_⟩
 ·have bw:=(ba.1 hj).1;rw[sV,yi];simpa [aw,ub bw] using hj
 ·have:i<σ.aa.length:=Ay;simp[aw,ub this]
 ·exact .eq (by rw[sV,sW])
end Go.Am
namespace Go.Am
variable {P:Program} {N n0:Nat} {σ:St} {Q:Exit->St->Prop}
def iW{ab:List Nat}{co:List Ob}{id:Nat}(h:id ∉ ab):¬ kept ab co id:=by
 rintro⟨j,hj,he,_⟩;apply h;rw[<- he,aw,bc hj];exact List.getElem_mem hj
def sT(ρ:Nat->Nat)(os:List Ob):List Nat->List Ob->Prop
 |[],[]=>True
 |i::ab,o::co=>os[i]?=some (bu ρ o)/\sT ρ os ab co
 |_,_=>False
def sT.spec{ρ:Nat->Nat}{os:List Ob}:∀ {ab:List Nat} {co:List Ob},sT ρ os ab co->co.length=ab.length/\∀ (j:Nat) o,co[j]?=some o->os[ab.getD j 0]?=some (bu ρ o)
 |[],[],_=>⟨rfl,Dg⟩
 |i::ab,o::co,h=>by
  obtain⟨h1,h3⟩:=h;obtain⟨a,b⟩:=sT.spec h3;refine⟨by simp[a],λj o' hj=>?_⟩;cases j with
  |zero=>simp at hj;subst hj;simpa using h1
  |succ j=>simpa using b j o' (by simpa using hj)
def jQ(R:AV->AV->Prop):List AV->List AV->Prop
 |[],[]=>True
 |c::cs,d::ds=>R c d/\jQ R cs ds
 |_,_=>False
def jQ.spec{R:AV->AV->Prop}:∀ {cs ds:List AV},jQ R cs ds->cs.length=ds.length/\∀ (j:Nat) c d,cs[j]?=some c->ds[j]?=some d->R c d
 |[],[],_=>⟨rfl,Dg⟩
 |c::cs,d::ds,h=>by
  obtain⟨a,b⟩:=jQ.spec h.2;refine⟨by simp[a],λj c' d' hc hd=>?_⟩;cases j with
  |zero=>simp at hc hd;subst hc;subst hd;exact h.1
  |succ j=>exact b j c' d' (by simpa using hc) (by simpa using hd)
def a9.JT{kp:Nat->Prop}{ρ:Nat->Nat}{snap:Bool}{a b c d:AV}(h:a9 σ kp ρ snap a c)(k:a9 σ kp ρ snap b d):a9 σ kp ρ snap (.bP [a,b]) (.bP [c,d]) :=
 .bP _ _ rfl (jQ.spec (R:=a9 σ kp ρ snap) (cs:=[a,b]) (ds:=[c,d]) ⟨h,k,trivial⟩).2
def fD(ab:List Nat){f:FuncId}{args cu:List AV}{bn:List Ob}{dst:Option Tmp}{K:St->Prop}{res:AV}{bY:List Ob}(h:ao P f cu bn res bY)(cR:ab.Nodup)(ho:sT (bq σ.aa.length ab) σ.aa ab bn)(ha:jQ (a9 σ (·∈ab) (bq σ.aa.length ab) false) cu args)(hK:K (({ σ with aa:=dU σ.aa ab (bY.map (bu (bq σ.aa.length ab))) }:St).put dst (aU (bq σ.aa.length ab) res))):nX P f args dst K σ:=by
 obtain⟨h1,h2⟩:=ho.spec;obtain⟨h3,h4⟩:=ha.spec;exact⟨ab,false,cu,bn,res,bY,h,⟨cR,h1,h2,h3,h4,Dg⟩,hK⟩
def wh(ab:List Nat){f:FuncId}{args cu:List AV}{bn:List Ob}{dst:Option Tmp}{K:St->Prop}{res:AV}{bY:List Ob}(h:ao P f cu bn res bY)(cR:ab.Nodup)(ho:sT (bq σ.aa.length ab) σ.aa ab bn)(ha:jQ (a9 σ (·∈ab) (bq σ.aa.length ab) true) cu args)(hf:flat res=true)(yj:∀ o∈bY,A3 o)(hK:K (({ σ with aa:=dU σ.aa ab (bY.map (bu (bq σ.aa.length ab))) }:St).put dst (aU (bq σ.aa.length ab) res))):nX P f args dst K σ:=by
 obtain⟨h1,h2⟩:=ho.spec;obtain⟨h3,h4⟩:=ha.spec;exact⟨ab,true,cu,bn,res,bY,h,⟨cR,h1,h2,h3,h4,λ_=>⟨hf,yj⟩⟩,hK⟩
def JU{ρ:Nat->Nat}(cs:List AV):bu ρ (.var cs)=.var (cs.map (aU ρ)):=by simp only[bu]
def JV{ρ:Nat->Nat}:bu ρ .gone=.gone:=by simp only[bu]
def JW:bD 1=[0]:=Ha
def JX:bD 2=[0,1]:=Ha
def JY:bD 3=[0,1,2]:=Ha
def JZ(xs:List Int):(ints xs).take xs.length=ints xs:=by rw[kW (by simp[ints])]
def J0(xs:List Bool):(b8 xs).take xs.length=b8 xs:=by rw[kW (by simp[b8])]
def J1(xs:List (List Int)):(bW xs).take xs.length=bW xs:=by rw[kW (by simp[bW])]
def uK{y:Code}{Q0 Q1:Exit->St->Prop}{G:Prop}(S0:St)(hn:∀ s,W P N n0 y Q0 s->Q1 .normal s)(hm:W P N n0 y Q0 S0)(h:(∀ s,aC n0 s S0->Q1 .normal s)->G):G :=
 h λs ht=>hn s (cE ht hm)
end Go.Am
namespace Go.Am
variable {P:Program} {N n0:Nat} {σ:St} {Q:Exit->St->Prop}
def J2(P:Program)(ops:Array Oper)(Q:Exit->Act->World->Prop)(js:List Nat):Exit->Act->World->Prop
 |.normal,a,w=>wpOps P ops Q js a w
 |e,a,w=>Q e a w
def Oper.SM{o:Oper}{a:Act}{w:World}{K:Act->World->Prop}{Q Q':Exit->Act->World->Prop}(hq:∀ e a w,e≠.normal->Q e a w->Q' e a w)(hl:LetsOut Q->LetsOut Q')(hh:o.wp P a w K Q):o.wp P a w K Q':=by
 unfold Oper.wp at *;generalize (execOp a.eval o).run P w=r at *;cases r with
 |ok n w' =>
  cases n<;>simp only[Oper.upon]at hh⊢<;>
   first
    |exact hh
    |exact Calls.mono hh (λe ZW he=>by
      cases e with
      |returned v=>exact he
      |panicked c=>exact hq _ _ _ Dg he
      |outgrown=>exact hl he)
 |halt x w'=>cases x<;>simp only[Oper.upon]at hh ⊢<;>first|exact hh|exact hq _ _ _ Dg hh
def sR{ops:Array Oper}{Q:Exit->Act->World->Prop}{js:List Nat}:∀ (is:List Nat) (a:Act) (w:World),wpOps P ops (J2 P ops Q js) is a w->wpOps P ops Q (is++js) a w
 |[],a,w,h=>h
 |i::is,a,w,h=>by
  rw[fR,wpOps_cons];rw[wpOps_cons]at h;have hl:LetsOut (J2 P ops Q js)->LetsOut Q:=λh=>h;unfold wpOp at h ⊢;cases ho:ops[i]? with
  |none=>simp only[ho]at h ⊢;exact sR is a w h
  |some o =>
   simp only[ho]at h ⊢;by_cases hw:Region.wanted o (yielded ops a.tmps)=true
   ·rw[if_pos hw]at h ⊢;rcases h with h|⟨h1,h2⟩
    ·left;exact Oper.SM (λe a w he hq=>by cases e<;>first|exact absurd rfl he|exact hq) hl (Oper.wp_mono (λa w=>sR is a w) h)
    ·exact .inr ⟨h1,hl h2⟩
   ·rw[if_neg hw]at h ⊢;exact sR is _ w h
def mu{N:Nat}{os:List Ob}{γ0:Cx}{ops:Array Oper}(hd:∀ o∈ops.toList,∀ d,o.dst=some d->d<N){K:St->Prop}{Q:Exit->Act->World->Prop}(hQ:∀ σ' a' w',K σ'->dM N os γ0 σ' a' w'->Q .normal a' w'):∀ (l:List Oper) (i:Nat) (σ:St) (a:Act) (w:World),(∀ k,k<l.length->ops[i+k]?=l[k]?)->opsL P ops l K σ->dM N os γ0 σ a w ->
   wpOps P ops Q (jJ i l.length) a w
 |[],i,σ,a,w,_,h,aV=>by simpa [wpOps] using hQ _ _ _ h aV
 |o::r,i,σ,a,w,hl,h,aV=>by
  have hi:ops[i]?=some o:=by simpa using hl 0 Dg
  have hr:∀ k,k<r.length->ops[i+1+k]?=r[k]?:=λk hk=>by
   have:=hl (k+1) (by simpa using hk);rw[show i+1+k=i+(k+1) by omega,this];simp
  have eh:o∈ops.toList:=List.mem_of_getElem? (by simpa using hi);rw[cK,List.range'_succ,wpOps_cons];unfold wpOp;simp only[hi];unfold opsL at h;cases hg:o.guard with
  |none =>
   simp only[hg]at h;have hw:Region.wanted o (yielded ops a.tmps)=true:=by simp[Region.wanted,hg]
   rw[if_pos hw];left;exact uu h aV (hd o eh) (λσ' a' w' hK cW=>mu hd hQ r (i+1) σ' a' w' hr hK cW)
  |some jw =>
   obtain⟨j,want⟩:=jw;simp only[hg]at h;cases cV:(ops[j]?).bind (·.dst) with
   |none=>simp[cV]at h
   |some d =>
    simp only[cV]at h;split at h
    ·rename_i b he;obtain⟨e8,aE,γ,rfl,ha,hs,hf⟩:=aV;have fU:=hs.au d;rw[he,ha]at fU;have hv:=fU.bQ;have hy:yielded ops a.tmps j=some b:=by
      unfold yielded;rw[cV];have:a.tmps[d]?=some (.bool b):=by
       rw[dC]at hv;cases hx:a.tmps[d]? with
       |none=>rw[hx]at hv;simp[Go.undef]at hv
       |some y=>rw[hx]at hv;simp at hv;rw[hv]
      simp[this]
     by_cases eK:b=want
     ·have hw:Region.wanted o (yielded ops a.tmps)=true:=by simp[Region.wanted,hg,hy,eK]
      rw[if_pos hw];left;exact uu (h.1 eK) ⟨e8,aE,γ,rfl,ha,hs,hf⟩ (hd o eh) (λσ' a' w' hK cW=>mu hd hQ r (i+1) σ' a' w' hr hK cW)
     ·have hw:Region.wanted o (yielded ops a.tmps)=false:=by simp[Region.wanted,hg,hy,eK]
      rw[if_neg (by rw[hw];simp)];refine mu hd hQ r (i+1) _ _ _ hr (h.2 eK) ⟨by rw[put_defers];exact e8,by rw[nf];exact aE,{ γ with tmps:=(a.put o.dst Go.undef).tmps },rfl,rfl,mA hs ha (λd h=>by rw[aE];exact hd o eh d h) (.lit _),?_⟩;rw[mB];exact hf.put _
    ·rename_i vs he;obtain⟨e8,aE,γ,rfl,ha,hs,hf⟩:=aV;have fU:=hs.au d;rw[he,ha]at fU;have hv:=fU.bQ;have hy:yielded ops a.tmps j=none:=by
      unfold yielded;rw[cV];rw[dC]at hv;cases hx:a.tmps[d]? with
      |none=>simp[hx]
      |some y=>rw[hx]at hv;simp at hv;subst hv;simp[hx]
     have hw:Region.wanted o (yielded ops a.tmps)=false:=by simp[Region.wanted,hg,hy]
     rw[if_neg (by rw[hw];simp)];refine mu hd hQ r (i+1) _ _ _ hr h.2 ⟨by rw[put_defers];exact e8,by rw[nf];exact aE,{ γ with tmps:=(a.put o.dst Go.undef).tmps },rfl,rfl,mA hs ha (λd h=>by rw[aE];exact hd o eh d h) (.lit _),?_⟩;rw[mB];exact hf.put _
    ·exact h.elim
def SN{os:List Ob}{γ0:Cx}{ops:Array Oper}(hd:∀ o∈ops.toList,∀ d,o.dst=some d->d<N){K K1:St->Prop}{Q:Exit->Act->World->Prop}(hn:os.length=n0)(hQ:∀ σ' a' w',K σ'->dM N os γ0 σ' a' w'->Q .normal a' w')(n:Nat)(hK:∀ s,K1 s->∃ s1,aC n0 s s1/\opsL P ops (ops.toList.drop n) K s1)(σ:St)(a:Act)(w:World)(h:opsL P ops (ops.toList.take n) K1 σ)(aV:dM N os γ0 σ a w):wpOps P ops Q (bD ops.size) a w:=by
 have e:bD ops.size=jJ 0 (ops.toList.take n).length++jJ (ops.toList.take n).length (ops.toList.drop n).length:=by
  rw[List.range_eq_range'];have:=List.range'_append (s:=0) (m:=(ops.toList.take n).length) (n:=(ops.toList.drop n).length) (step:=1);simp only[gM,qU]at this;rw[this];congr 1;rw[<- aJ,List.take_append_drop];simp
 rw[e];refine sR _ a w ?_;refine mu hd (K:=K1) (λσ' a' w' hk cW=>?_) (ops.toList.take n) 0 σ a w (λk hk=>?_) h aV
 ·obtain⟨s1,ht,ho⟩:=hK σ' hk;obtain⟨h1,h2,γ,rfl,h3,h4,h5⟩:=cW;obtain⟨av,e1,e2,e3,e4⟩:=ht os γ0 γ hn h4 h5;refine mu hd hQ (ops.toList.drop n) _ s1 a' γ.w (λk hk=>?_) ho ⟨h1,h2,av,e1,e2.trans h3,e3,e4⟩;rw[List.getElem?_drop];simp only[List.length_drop,nL]at hk;rw[j9,nL,Nat.min_eq_left Ay];simp
 ·simp only[j9,nL]at hk;rw[List.getElem?_take_of_lt Ay];simp
def J3(n:Nat){id:Nat}{ops:Array Oper}{y:Code}(hd:eJ N ops=true)(h:∀ K K1:St->Prop,(∀ s,W P N n0 y Q s->K s)->(∀ s s1,aC n0 s s1->opsL P ops (ops.toList.drop n) K s1->K1 s)->opsL P ops (ops.toList.take n) K1 σ):W P N n0 (.seq (.region id ops false) y) Q σ:=by
 refine A4 ?_;intro os γ0 a w hn aV;refine wp_region ?_;exact SN (kE hd) hn (K:=W P N n0 y Q) (K1:=λs=>∃ s1,aC n0 s s1/\opsL P ops (ops.toList.drop n) (W P N n0 y Q) s1) (λσ' a' w' hK cW=>⟨σ',hK,cW⟩) n (λs h=>h) σ a w (h _ _ (λ_ h=>h) (λs s1 h1 h2=>⟨s1,h1,h2⟩)) aV
end Go.Am
namespace Go.Am
variable {σ:St}
def n6(R:AV->AV->Prop):List (List AV)->List (List AV)->Prop
 |[],[]=>True
 |c::cs,d::ds=>jQ R c d/\n6 R cs ds
 |_,_=>False
def n6.spec{R:AV->AV->Prop}:∀ {cs ds:List (List AV)},n6 R cs ds->cs.length=ds.length/\∀ (r c:Nat) v,cellAt cs r c=some v->cellAt ds r c=some ((cellAt ds r c).getD .undef)/\R v ((cellAt ds r c).getD .undef)
 |[],[],_=>⟨rfl,by simp[cellAt]⟩
 |c::cs,d::ds,h=>by
  obtain⟨a,b⟩:=n6.spec h.2;refine⟨by simp[a],λr j v hv=>?_⟩;cases r with
  |zero =>
   simp only[cellAt,sE,nN]at hv ⊢;obtain⟨e1,e2⟩:=h.1.spec;have hj:j<d.length:=by rw[<- e1];exact(ba.1 hv).1
   rw[bc hj];exact⟨rfl,e2 j v _ hv (bc hj)⟩
  |succ r =>
   have:=b r j v (by simpa [cellAt] using hv);simpa [cellAt] using this
def cA.mk{kp:Nat->Prop}{id sz len:Nat}{rows eV:List (List AV)}(ho:σ.aa[id]?=some (.arr sz rows))(hl:len=rows.length)(n7:¬ kp id)(hw:∀ row∈eV,row.length=sz)(h:n6 (cA σ kp) eV rows):cA σ kp (.tree sz eV) (.ref id sz 0 len):=by
 obtain⟨a,b⟩:=h.spec;subst hl;refine .ref id sz 0 rows.length rows eV (λr c=>(cellAt rows r c).getD .undef) ho n7 (by simp[a]) hw (λr c v hv=>?_) (λr c v hv=>?_)
 ·simpa using(b r c v hv).1
 ·exact(b r c v hv).2
end Go.Am
namespace Go.Am
def rf:=aav @yk @A5 @A6 @Hb.{0} @Hd.{0} @He @As (aav @mn @Dj @qT @j7 @if_false.{1} @if_true.{1} @jm.{0} (aai @jK.{0} @Au.{0}))
def Bc:=aav @yk @A5 @A6 @Hb.{0} @Hd.{0} @He @As (aav @mn @Dj @qT @j7 @if_false.{1} @if_true.{1} @jm.{0} (aav @jK.{0} @Au.{0} @xL.{0} @Array.size_empty.{0} @J4 @J5 @eq_self.{1} (aav @J6 @J7 @Jo @Jp @Jq @Jr @Jw (aav @Jx @Jy @Jz @JA @JB @JC @JD (aav @JE @JF @JG @JH @JI @JJ @JK (aav @JL @JM @JN @JO @JP @JQ @JR (aav @JS @J8 @Js @Jv @Jm @Jn @true_and (aav @and_true @and_self @qR.{0,0} @xM.{0,0} @fR.{0} @dT.{0} @fF.{0} (aav @ite_true.{1} @ite_false.{1} @Bool.true_eq_false @ne_eq.{1} @not_true_eq_false @not_false_eq_true @false_implies (aav @true_implies @implies_true.{1} @nN.{0,0} @Option.bind_none.{0,0} @sE.{0} @Dk.{0} @Dl.{0} (aav @cK.{0} @g8.{0} @gM @kX @decide_true @decide_false @An.{0} (aav @List.all_nil.{0} @Dm @iD @Int.toNat_zero @tZ @sA @cond_true.{1} (aav @cond_false.{1} @A7 @J9 @J' @Ka @Kb @Kd (aav @Ke @Kf @sX @sY @dz @JW @JX (aav @JY @JZ @J0 @J1 @Nat.zero_mul @Al @qU (aav @JU @JV @wi @yl @DY @g9.{0,0} @Av.{0} (aav @List.drop_succ_cons.{0} @List.take_succ_cons.{0} @Dn.{0} @uc.{0} @Hf.{0} @beq_self_eq_true.{0} @Hg.{0,0} (aav @Hh.{0,0} @List.getElem?_nil.{0} @aJ.{0} @bt.{0} @sF.{0} @rj @ym (aav @A8 @Kg @Kh @Ki @Kj @Kk @Kl (aav @ints_set @A9 @Km @Kn @Ko @Kp @Kq (aal @Kr @Ks @Kt @Ku)))))))))))))))))))))
def wj:=aav @eq_self.{1} @decide_eq_true_eq @decide_eq_false_iff_not @g7 @Hi @beq_iff_eq.{0} @beq_eq_false_iff_ne.{0} (aav @bne_iff_ne.{0} @bne_eq_false_iff_eq.{0} @ne_eq.{1} @Decidable.not_not @Int.not_lt @Int.not_le @not_true_eq_false (aav @not_false_eq_true @jI @bd @Bool.or_eq_false_iff @Bool.and_eq_false_iff @gt_iff_lt.{0} @ge_iff_le.{0} (aav @xN @Int.ofNat_le @Int.ofNat_inj @Nat.not_lt @Nat.not_le @rj @ym (aaj @A8 @cond_true.{1} @cond_false.{1}))))
end Go.Am

