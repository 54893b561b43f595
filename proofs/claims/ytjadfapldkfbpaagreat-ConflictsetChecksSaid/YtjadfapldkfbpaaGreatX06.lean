import Derived.Test.YtjadfapldkfbpaaGreatX05
set_option linter.all false
set_option maxHeartbeats 0
set_option maxRecDepth 20000
open List renaming map_cons→dK,all_cons→DG,range→aZ,replicate→bG,getElem?_eq_some_iff→aY,getD_eq_getElem?_getD→aG,getElem?_range→lT,getElem?_eq_getElem→bT,take_of_length_le→ej,cons_append→dP,range'→n5,length_cons→eu,length_append→bQ,length_take→fy,getElem?_cons_zero→vP,contains_cons→G0,contains_nil→G1,getD_cons_zero→jh,getD_cons_succ→gN,getD_nil→Km,size_toArray→DI,map_nil→k7,nil_append→dZ,append_nil→ic,getElem?_cons_succ→vQ,getElem?_toArray→Kn,length_nil→k8,all_nil→G2,drop_zero→BQ,take_zero→ky,set_cons_zero→mh,set_cons_succ→n6,flatMap_cons→sE,length_set→bw,length_replicate→ri
open Array renaming getD_eq_getD_getElem?→fU,length_toList→vN
open Nat renaming zero_add→gf,one_mul→tu,add_zero→iY,zero_mul→DJ
open Option renaming bind_some→uG,map_some→fE
open Bool renaming or_self→PI,or_false→yL,false_or→lF,or_true→xr,true_or→qg,false_eq_true→ju,and_true→PJ,true_and→eX,not_true→iZ,not_false→jP,not_eq_true'→kz,or_eq_true→kB,and_eq_true→bk,or_eq_false_iff→PL
open Int renaming toNat_natCast→ig,ofNat_inj→PN
namespace Go.Am
variable {P:Program} {dst:Option Tmp} {tt:TypeId} {p:String} {af:Array Edge} {g:Option (Nat×Bool)} {σ:St} {K:St->Prop}
def qj:Option Ob->Prop
 |some (.var _)=>True
 |some (.arr _ _)=>True
 |some (.mp _ _)=>True
 |_=>False
def P9(a:Nat)(L:List (List Int×AV)):qj (some (.mp a L))=True:=by simp only[qj]
def Qa(c:List AV):qj (some (.var c))=True:=by simp only[qj]
def Qd(s:Nat)(c:List (List AV)):qj (some (.arr s c))=True:=by simp only[qj]
def B3(σ:St)(dst:Option Tmp)(K:St->Prop):AV->Prop
 |.ptr id r c=>qj σ.aa[id]?/\K (σ.put dst (.ptr id r c))
 |.bm cells=>K (σ.put dst (.bm cells))
 |_=>False
def Qe(x:Operand):aW P ⟨dst,.nilCheck x,tt,p,af,g⟩ σ K=B3 σ dst K (ev σ x):=by
 simp only[aW,cE];cases ev σ x<;>simp only[B3];rename_i id r c;cases h:σ.aa[id]? with
 |none=>simp[qj]
 |some o=>cases o<;>simp[qj]
def B4(σ:St)(dst:Option Tmp)(K:St->Prop)(off:Nat):AV->Prop
 |.ptr id r c=>qj σ.aa[id]?/\K (σ.put dst (.ptr id r (c+off)))
 |.bm cells=>K (σ.put dst (.bm (cells.drop off)))
 |_=>False
def yR(σ:St)(dst:Option Tmp)(K:St->Prop)(v:AV)(kind:Nat):Option (Nat×Nat×Nat)->Prop
 |some (off,_,size)=>kind=3/\0<size/\B4 σ dst K off v
 |none=>False
def Qf(s:TypeId)(x:Operand)(f:Nat):aW P ⟨dst,.fieldAddr s x f,tt,p,af,g⟩ σ K=yR σ dst K (ev σ x) (ty P s).kind (ty P s).a5[f]?:=by
 simp only[aW,cE];split
 ·rename_i off ft size hk hf;rw[hk,hf];simp only[yR,true_and];cases ev σ x<;>simp only[B4];rename_i id r c;cases h:σ.aa[id]? with
  |none=>simp[qj]
  |some o=>cases o<;>simp[qj]
 ·rename_i ew;cases hf:(ty P s).a5[f]? with
  |none=>simp[yR]
  |some q =>
   obtain⟨off,ft,size⟩:=q;simp only[yR];have:(ty P s).kind≠3:=λe=>ew off ft size e hf;simp[this]
def rz(t:Ty)(e:Ty)(σ:St)(dst:Option Tmp)(K:St->Prop):AV->AV->Prop
 |.ref id sz off len,.lit (.int _ n) =>
  t.kind=1 /\
  match σ.aa[id]? with
  |some (.arr dL _)=>(dL=sz/\sz=e.size/\e.kind≠99/\0<=n/\n<len)/\K (σ.put dst (.ptr id (off+n.toNat) 0))
  |_=>False
 |.tree sz rows,.lit (.int _ n)=>t.kind=1/\(sz=e.size/\e.kind≠99/\0<=n/\n<rows.length)/\K (σ.put dst (.bm (rows.getD n.toNat [])))
 |.ptr id r c,.lit (.int _ n)=>t.kind=2/\qj σ.aa[id]?/\(e.kind≠99/\0<=n/\n<t.len)/\K (σ.put dst (.ptr id r (c+n.toNat*e.size)))
 |.bm cells,.lit (.int _ n)=>t.kind=2/\(e.kind≠99/\0<=n/\n<t.len)/\K (σ.put dst (.bm (cells.drop (n.toNat*e.size))))
 |_,_=>False
def Qg(t:TypeId)(x i:Operand):aW P ⟨dst,.indexAddr t x i,tt,p,af,g⟩ σ K=rz (ty P t) (ty P (ty P t).elem) σ dst K (ev σ x) (ev σ i):=by
 simp only[aW,cE];split
 ·rename_i id sz off len k n hk hx hi;rw[hx,hi];simp only[rz,hk,true_and];cases σ.aa[id]? with
  |none=>rfl
  |some o=>cases o<;>rfl
 ·rename_i sz rows k n hk hx hi;rw[hx,hi];simp only[rz,hk,true_and]
 ·rename_i id r c k n hk hx hi;rw[hx,hi];simp only[rz,hk,true_and];cases h:σ.aa[id]? with
  |none=>simp[qj]
  |some o=>cases o<;>simp[qj]
 ·rename_i cells k n hk hx hi;rw[hx,hi];simp only[rz,hk,true_and]
 ·rename_i h1 h2 h3 h4;unfold rz;split
  ·rename_i id sz off len k n hx hi;simp only[eq_iff_iff,false_iff];rintro⟨hk,_⟩;exact h1 id sz off len k n hk hx hi
  ·rename_i sz rows k n hx hi;simp only[eq_iff_iff,false_iff];rintro⟨hk,_⟩;exact h2 sz rows k n hk hx hi
  ·rename_i id r c k n hx hi;simp only[eq_iff_iff,false_iff];rintro⟨hk,_⟩;exact h3 id r c k n hk hx hi
  ·rename_i cells k n hx hi;simp only[eq_iff_iff,false_iff];rintro⟨hk,_⟩;exact h4 cells k n hk hx hi
  ·rfl
def KI(P:Program)(dst:Option Tmp)(args:List AV)(K:St->Prop)(σ:St):AV->Prop
 |.fn g a6=>sI P g (args++a6) dst K σ
 |_=>False
def Qh(f:Operand)(args:Array Operand)(cQ:Array TypeId):aW P ⟨dst,.call ⟨.value f,args,cQ⟩,tt,p,af,g⟩ σ K=KI P dst (args.toList.map (ev σ)) K σ (ev σ f):=by
 simp only[aW];cases ev σ f<;>rfl
def KJ(P:Program)(dst:Option Tmp)(args:List AV)(K:St->Prop)(σ:St)(m:String):AV->Prop
 |.ja t v=>ql P σ v (λg x=>sI P g (x::args) dst K σ) (Hk P t m)
 |_=>False
def Qi(r:Operand)(m:String)(args:Array Operand)(cQ:Array TypeId):aW P ⟨dst,.call ⟨.invoke r m,args,cQ⟩,tt,p,af,g⟩ σ K=KJ P dst (args.toList.map (ev σ)) K σ m (ev σ r):=by
 simp only[aW];cases ev σ r<;>rfl
def KK(P:Program)(dst:Option Tmp)(args:List AV)(K:St->Prop)(σ:St):AV->Prop
 |.fn g a6=>KL P g (args++a6) dst K σ
 |_=>False
def Qj(f:Operand)(args:Array Operand)(cQ:Array TypeId):mT true P ⟨dst,.call ⟨.value f,args,cQ⟩,tt,p,af,g⟩ σ K=KK P dst (args.toList.map (ev σ)) K σ (ev σ f):=by
 simp only[mT];cases ev σ f<;>rfl
def v7(σ:St):List (Nat×Operand)->List (Nat×AV)
 |[]=>[]
 |q::l=>(q.1,ev σ q.2)::v7 σ l
def v8(σ:St):List (Nat×Operand)->Bool
 |[]=>true
 |q::l=>(cellsOf (ev σ q.2)).all cJ&&v8 σ l
def Qk(σ:St)(l:List (Nat×Operand)):v7 σ l=l.map λq=>(q.1,ev σ q.2):=by
 induction l with
 |nil=>rfl
 |cons q l ih=>simp only[v7,ih,dK]
def Qm(σ:St)(l:List (Nat×Operand)):v8 σ l=l.all λq=>(cellsOf (ev σ q.2)).all cJ:=by
 induction l with
 |nil=>rfl
 |cons q l ih=>simp only[v8,ih,DG]
def Qn(o:Oper):mT false P o σ K=aW P o σ K:=by simp only[mT]
def Qo(x:Operand):aW P ⟨dst,.move x,tt,p,af,g⟩ σ K =
  (K (σ.put dst (ev σ x))):=by unfold aW cE;rfl
def Qp(x:Operand):aW P ⟨dst,.assign x,tt,p,af,g⟩ σ K =
  (K (σ.put dst (ev σ x))):=by unfold aW cE;rfl
def Qq(c a b:Operand):aW P ⟨dst,.pick c a b,tt,p,af,g⟩ σ K =
  (match ev σ c with
   |.lit (.bool t)=>K (σ.put dst (gW t (ev σ a) (ev σ b)))
   |_=>False):=by unfold aW cE;rfl
def Qr (e:TypeId):aW P ⟨dst,.alloc e,tt,p,af,g⟩ σ K =
    ((ty P e).kind≠99 /\
      match (ty P e).zero with
      | some z=>K (({ σ with aa:=σ.aa++[.var (z.map .lit)] }:St).put dst (.ptr σ.aa.length 0 0))
      | none=>False):=by unfold aW cE;rfl
def Qs(e:TypeId)(x:Operand):aW P ⟨dst,.box e x,tt,p,af,g⟩ σ K =
  ((cellsOf (ev σ x)).all cJ=true/\K (({ σ with aa:=σ.aa++[.var (cellsOf (ev σ x))] }:St).put dst (.ptr σ.aa.length 0 0))):=by unfold aW cE;rfl
def Qt(t:TypeId)(parts:Array (Nat×Operand)):aW P ⟨dst,.build t parts,tt,p,af,g⟩ σ K =
  (match (ty P t).kind,(ty P t).zero with
   |3,some z =>
    match nu (λi=>((ty P t).a5[i]?).map λf=>(f.1,f.2.2)) (z.map .lit) (v7 σ parts.toList) with
    |some cs=>(v8 σ parts.toList=true/\((ty P t).a5.all λf=>decide (0<f.2.2))=true)/\K (σ.put dst (.agg cs))
    |none=>False
   |2,some z =>
    match nu (λi=>some (i*(ty P (ty P t).elem).size,(ty P (ty P t).elem).size)) (z.map .lit) (v7 σ parts.toList) with
    |some cs=>(v8 σ parts.toList=true/\(ty P (ty P t).elem).kind≠99)/\K (σ.put dst (.agg cs))
    |none=>False
   |_,_=>False):=by rw[Qk,Qm];unfold aW cE;rfl
def Qu(t:TypeId)(len:Nat)(parts:Array (Nat×Operand)):aW P ⟨dst,.buildSlice t len parts,tt,p,af,g⟩ σ K =
  (match (ty P t).kind,(ty P (ty P t).elem).zero with
   |1,some z =>
    match nu (λi=>some (i*(ty P (ty P t).elem).size,(ty P (ty P t).elem).size)) ((aZ len).flatMap λ_=>z.map .lit) (v7 σ parts.toList) with
    |some cs=>((ty P (ty P t).elem).kind≠99/\0<(ty P (ty P t).elem).size/\z.length=(ty P (ty P t).elem).size/\len*(ty P (ty P t).elem).size<=16777216/\v8 σ parts.toList=true) /\
      K (({ σ with aa:=σ.aa++[.arr (ty P (ty P t).elem).size (nw (ty P (ty P t).elem).size len cs)] }:St).put dst (.ref σ.aa.length (ty P (ty P t).elem).size 0 len))
    |none=>False
   |_,_=>False):=by rw[Qk,Qm];unfold aW cE;rfl
def Qv (t:TypeId) (a:Operand):aW P ⟨dst,.load t a,tt,p,af,g⟩ σ K =
    ((ty P t).kind≠99 /\
      match ev σ a with
      | .ptr id r c =>
        match rowOf σ id r with
        | some row=>nx (ty P t) row c λv=>K (σ.put dst v)
        | none=>False
      | .bm cells=>nx (ty P t) cells 0 λv=>K (σ.put dst v)
      | _=>False):=by unfold aW cE;rfl
def Qw (t:TypeId) (a x:Operand):aW P ⟨dst,.store t a x,tt,p,af,g⟩ σ K =
    ((ty P t).kind≠99 /\
      match ev σ a with
      | .ptr id r c =>
        match rowOf σ id r with
        | some row=>((cellsOf (ev σ x)).length=(ty P t).size/\c+(ty P t).size<=row.length/\(cellsOf (ev σ x)).all cJ=true)/\K ((pD σ id r (setCells row c (cellsOf (ev σ x)))).put dst .undef)
        | none=>False
      | _=>False):=by unfold aW cE;rfl
def Qx(op:BinOp)(t:TypeId)(x y:Operand)(yt:TypeId):aW P ⟨dst,.binOp op t x y yt,tt,p,af,g⟩ σ K =
  (match ev σ x,ev σ y with
   |.lit (.int k a),.lit (.int k' b)=>k=k'/\iC op k a b λv=>K (σ.put dst (.lit v))
   |.lit (.bool a),.lit (.bool b) =>
    (ty P t).kind=6 /\
    match op with
    |.eql=>K (σ.put dst (.lit (.bool (a==b))))
    |.neq=>K (σ.put dst (.lit (.bool (a != b))))
    |_=>False
   |.tree _ rows,.lit (.slice none 0 0) =>
    ((ty P t).kind=1/\0<rows.length) /\
    match op with
    |.eql=>K (σ.put dst (.lit (.bool false)))
    |.neq=>K (σ.put dst (.lit (.bool true)))
    |_=>False
   |.lit (.slice a _ _),.lit (.slice none 0 0) =>
    (ty P t).kind=1 /\
    match op with
    |.eql=>K (σ.put dst (.lit (.bool a.isNone)))
    |.neq=>K (σ.put dst (.lit (.bool (!a.isNone))))
    |_=>False
   |.agg cs,.agg ds =>
    match qm cs,qm ds with
    |some as,some bs =>
     (v9 P t as.length/\bs.length=as.length/\P.eqGuardType P.depth t=false) /\
     match op with
     |.eql=>K (σ.put dst (.lit (.bool (decide (as=bs)))))
     |.neq=>K (σ.put dst (.lit (.bool (!decide (as=bs)))))
     |_=>False
    |_,_=>False
   |_,_=>False):=by unfold aW cE;rfl
def Qy(op:UnOp)(t:TypeId)(x:Operand):aW P ⟨dst,.unOp op t x,tt,p,af,g⟩ σ K =
  (match op,ev σ x with
   |.not,.lit (.bool b)=>K (σ.put dst (.lit (.bool !b)))
   |.neg,.lit (.int k a)=>uM k a λv=>K (σ.put dst (.lit v))
   |_,_=>False):=by unfold aW cE;rfl
def Qz(fn:Fn)(first captured:Array Operand):aW P ⟨dst,.makeFunc fn first captured,tt,p,af,g⟩ σ K =
  (match fn with
   |.func f=>first.size=0/\K (σ.put dst (.fn f (captured.toList.map (ev σ))))
   |_=>False):=by unfold aW cE;rfl
def QA (t:TypeId) (l c:Operand):aW P ⟨dst,.makeSlice t l c,tt,p,af,g⟩ σ K =
    (match (ty P t).kind,(ty P (ty P t).elem).zero,ev σ l,ev σ c with
      | 1,some z,.lit (.int k n),.lit (.int k' n') =>
        ((ty P (ty P t).elem).kind≠99/\0<(ty P (ty P t).elem).size/\z.length=(ty P (ty P t).elem).size/\n'=n/\0<=n/\n<=1099511627776/\(ty P (ty P t).elem).bytes<=128/\k=k) /\
          K (({ σ with aa:=σ.aa++[.arr (ty P (ty P t).elem).size (bG n.toNat (z.map .lit))] }:St).put dst (.ref σ.aa.length (ty P (ty P t).elem).size 0 n.toNat))/\k'=k'
      | _,_,_,_=>False):=by unfold aW cE;rfl
def QB (t:TypeId) (x:Operand) (lo hi mx:Option Operand):aW P ⟨dst,.slice t x lo hi mx,tt,p,af,g⟩ σ K =
    ((ty P t).kind=1/\(ty P (ty P t).elem).kind≠99/\mx=none /\
      match ev σ x with
      | .ref id sz off len =>
        match σ.aa[id]? with
        | some (.arr dL rows) =>
          dL=sz/\sz=(ty P (ty P t).elem).size /\
          match lo.map (ev σ),hi.map (ev σ) with
          | none,none=>K (σ.put dst (.ref id sz off len))
          | some (.lit (.int _ l)),none=>(0<=l/\l<=len/\rows.length=rows.length)/\K (σ.put dst (.ref id sz (off+l.toNat) (len - l.toNat)))
          | none,some (.lit (.int _ h))=>(0<=h/\h<=len)/\K (σ.put dst (.ref id sz off h.toNat))
          | some (.lit (.int _ l)),some (.lit (.int _ h))=>(0<=l/\l<=h/\h<=len)/\K (σ.put dst (.ref id sz (off+l.toNat) (h.toNat - l.toNat)))
          | _,_=>False
        | _=>False
      | .tree sz rows =>
          (rows≠[]->sz=(ty P (ty P t).elem).size) /\
          match lo.map (ev σ),hi.map (ev σ) with
          | none,none=>K (σ.put dst (.tree sz rows))
          | some (.lit (.int _ l)),none=>(0<=l/\l<=rows.length)/\K (σ.put dst (.tree sz (rows.drop l.toNat)))
          | none,some (.lit (.int _ h))=>(0<=h/\h<=rows.length)/\K (σ.put dst (.tree sz (rows.take h.toNat)))
          | some (.lit (.int _ l)),some (.lit (.int _ h))=>(0<=l/\l<=h/\h<=rows.length)/\K (σ.put dst (.tree sz ((rows.take h.toNat).drop l.toNat)))
          | _,_=>False
      | _=>False):=by unfold aW cE;rfl
def QC(s:TypeId)(x:Operand)(f:Nat):aW P ⟨dst,.field s x f,tt,p,af,g⟩ σ K =
  (match (ty P s).kind,(ty P s).a5[f]? with
   |3,some (off,t,size) =>
    (ty P t).kind≠99/\size=(ty P t).size /\
    match ev σ x with
    |.agg cs=>if(ty P t).isAgg then off+size<=cs.length/\K (σ.put dst (.agg ((cs.drop off).take size))) else
      match cs[off]? with
      |some v=>K (σ.put dst v)
      |none=>False
    |_=>False
   |_,_=>False):=by unfold aW cE;rfl
def QD(t:TypeId)(r:Option Operand):aW P ⟨dst,.makeMap t r,tt,p,af,g⟩ σ K =
  ((r=none/\(ty P t).kind=8)/\K (({ σ with aa:=σ.aa++[.mp (D2 P t) []] }:St).put dst (.g6 σ.aa.length))):=by unfold aW cE;rfl
def QE(t:TypeId)(x i:Operand)(ok:Bool):aW P ⟨dst,.lookup t x i ok,tt,p,af,g⟩ σ K =
  (match keyOf (ev σ i),mU σ (ev σ x),zeroV P (ty P t).elem with
   |some (ag,l),some (_,jx,L),some z=>(mV P t ag/\jx=ag/\l.length=lg ag/\(ty P t).kind=8/\ok=false)/\K (σ.put dst ((pE l L).getD (.lit z)))
   |_,_,_=>False):=by unfold aW cE;rfl
def QF(t:TypeId)(m k x:Operand):aW P ⟨dst,.mapUpdate t m k x,tt,p,af,g⟩ σ K =
  (match keyOf (ev σ k),mU σ (ev σ m) with
   |some (ag,l),some (id,jx,L)=>(mV P t ag/\jx=ag/\l.length=lg ag)/\K (({ σ with aa:=σ.aa.set id (.mp ag (gX l (ev σ x) L)) }:St).put dst .undef)
   |_,_=>False):=by unfold aW cE;rfl
def QG(t:TypeId)(m k:Operand):aW P ⟨dst,.mapEntry t m k,tt,p,af,g⟩ σ K =
  (match keyOf (ev σ k),mU σ (ev σ m),zeroV P (ty P t).elem with
   |some (ag,l),some (id,jx,L),some z=>(mV P t ag/\jx=ag/\l.length=lg ag/\(ty P t).kind=8) /\
    K (({ σ with aa:=σ.aa.set id (.mp ag (gX l ((pE l L).getD (.lit z)) L)) }:St).put dst (.bH [(pE l L).getD (.lit z),aaa (B5 l L:Nat)]))
   |_,_,_=>False):=by unfold aW cE;rfl
def QH(t:TypeId)(m s x:Operand):aW P ⟨dst,.entryStore t m s x,tt,p,af,g⟩ σ K =
  (match ev σ s,mU σ (ev σ m) with
   |.lit (.int .i64 n),some (id,ag,L)=>(0<=n/\n<L.length)/\K (({ σ with aa:=σ.aa.set id (.mp ag (rA n.toNat (ev σ x) L)) }:St).put dst .undef)
   |_,_=>False):=by unfold aW cE;rfl
def QI(t:TypeId)(x i:Operand):aW P ⟨dst,.index t x i,tt,p,af,g⟩ σ K =
  (match ev σ x,ev σ i with
   |.lit (.string s),.lit (.int _ n)=>(P.underlying t=some .string/\0<=n/\n<s.size)/\K (σ.put dst (.lit (.int .u8 (KM s n.toNat))))
   |_,_=>False):=by unfold aW cE;rfl
def QJ(t:TypeId)(x:Operand):aW P ⟨dst,.makeInterface t x,tt,p,af,g⟩ σ K =
  (Af P t=false/\K (σ.put dst (.ja t (ev σ x)))):=by unfold aW cE;rfl
def QK(x:Operand)(xt asserted:TypeId)(ok:Bool):aW P ⟨dst,.typeAssert x xt asserted ok,tt,p,af,g⟩ σ K =
  (match ev σ x with
   |.ja t v=>(Af P asserted=false/\t=asserted/\ok=false)/\K (σ.put dst v)
   |_=>False):=by unfold aW cE;rfl
def QL(x:Operand)(i:Nat):aW P ⟨dst,.extract x i,tt,p,af,g⟩ σ K =
  (match ev σ x with
   |.bH vs =>
    match vs[i]? with
    |some v=>K (σ.put dst v)
    |none=>False
   |_=>False):=by unfold aW cE;rfl
def QM(args:Array Operand)(argTypes:Array TypeId):aW P ⟨dst,.call ⟨.builtin .len,args,argTypes⟩,tt,p,af,g⟩ σ K =
  (match args.toList,argTypes.toList with
   |[x],[t] =>
    match ev σ x with
    |.ref id sz _ len =>
     (ty P t).kind=1 /\
     match σ.aa[id]? with
     |some (.arr dL _)=>dL=sz/\K (σ.put dst (aaa len))
     |_=>False
    |.tree _ rows=>(ty P t).kind=1/\K (σ.put dst (aaa rows.length))
    |.lit (.slice none 0 0)=>(ty P t).kind=1/\K (σ.put dst (aaa 0))
    |.g6 id =>
     (ty P t).kind=8 /\
     match σ.aa[id]? with
     |some (.mp _ L)=>K (σ.put dst (aaa L.length))
     |_=>False
    |_=>False
   |_,_=>False):=by unfold aW cE;rfl
def QN(args:Array Operand)(argTypes:Array TypeId):aW P ⟨dst,.call ⟨.builtin .append,args,argTypes⟩,tt,p,af,g⟩ σ K =
  (match args.toList,argTypes.toList with
   |[s,x],[t,t'] =>
    match (ty P t).kind,(ty P (ty P t).elem).zero,pF σ (ty P (ty P t).elem).size (ev σ s),oR σ (ev σ x) with
    |1,some z,some (pre,σ1),some (sz,src) =>
     (t'=t/\(ty P (ty P t).elem).kind≠99/\sz=(ty P (ty P t).elem).size/\0<sz/\z.length=sz/\pre.length+src.length<=549755813888/\(ty P (ty P t).elem).bytes<=128/\(src.all λrow=>row.all cJ)=true) /\
      K (({ σ1 with aa:=σ1.aa++[.arr sz (pre++src)] }:St).put dst (.ref σ1.aa.length sz 0 (pre.length+src.length)))
    |_,_,_,_=>False
   |_,_=>False):=by unfold aW cE;rfl
def QO(args:Array Operand)(argTypes:Array TypeId):aW P ⟨dst,.call ⟨.builtin .min,args,argTypes⟩,tt,p,af,g⟩ σ K =
  (match args.toList with
   |[x,y] =>
    match ev σ x,ev σ y with
    |.lit (.int k a),.lit (.int k' b)=>k=k'/\K (σ.put dst (.lit (.int k (min a b))))
    |_,_=>False
   |_=>False):=by unfold aW cE;rfl
def QP(args:Array Operand)(argTypes:Array TypeId):aW P ⟨dst,.call ⟨.builtin .max,args,argTypes⟩,tt,p,af,g⟩ σ K =
  (match args.toList with
   |[x,y] =>
    match ev σ x,ev σ y with
    |.lit (.int k a),.lit (.int k' b)=>k=k'/\K (σ.put dst (.lit (.int k (max a b))))
    |_,_=>False
   |_=>False):=by unfold aW cE;rfl
def QQ (args:Array Operand) (argTypes:Array TypeId):aW P ⟨dst,.call ⟨.builtin .copy,args,argTypes⟩,tt,p,af,g⟩ σ K =
    (match args.toList,argTypes.toList with
      | [s,x],[t,_] =>
        match ev σ s,oR σ (ev σ x) with
        | .ref id sz off len,some (dL,src) =>
          match σ.aa[id]? with
          | some (.arr lU rows) =>
            ((ty P t).kind=1/\(ty P (ty P t).elem).kind≠99/\dL=sz/\lU=sz/\sz=(ty P (ty P t).elem).size/\0<sz/\(src.all λrow=>row.all cJ)=true) /\
              K (({ σ with aa:=σ.aa.set id (.arr sz (rows.take off++src.take (min src.length len)++rows.drop (off+min src.length len))) }:St).put dst (aaa (min src.length len:Nat)))
          | _=>False
        | _,_=>False
      | _,_=>False):=by unfold aW cE;rfl
def QR (args:Array Operand) (argTypes:Array TypeId):aW P ⟨dst,.call ⟨.builtin .clear,args,argTypes⟩,tt,p,af,g⟩ σ K =
    (match args.toList,argTypes.toList with
      | [s],[t] =>
        match ev σ s,(ty P (ty P t).elem).zero with
        | .ref id sz off len,some z =>
          match σ.aa[id]? with
          | some (.arr dL rows) =>
            ((ty P t).kind=1/\(ty P (ty P t).elem).kind≠99/\dL=sz/\z.length=sz/\0<sz/\(z.all λu=>u.oneCell')=true) /\
              K (({ σ with aa:=σ.aa.set id (.arr sz (rows.take off++bG len (z.map AV.lit)++rows.drop (off+len))) }:St).put dst (.lit (.tuple #[])))
          | _=>False
        | _,_=>False
      | _,_=>False):=by unfold aW cE;rfl
def QT(s d:TypeId)(x:Operand):aW P ⟨dst,.convert s d x,tt,p,af,g⟩ σ K =
  (match P.underlying d,ev σ x with
   |some (.int k),.lit (.int _ n)=>(P.underlying s).isSome=true/\K (σ.put dst (.lit (.int k (k.wrap n))))
   |_,_=>False):=by unfold aW cE;rfl
end Go.Am
namespace Go.Am
variable {P:Program} {N n0:Nat} {σ:St} {Q:Exit->St->Prop}
def dr(aq:List Nat)(snap:Bool){v res:AV}{bI:List Ob}(b7:aq.Nodup)(ho:qn (bA σ.aa.length aq) σ.aa aq bI)(hn:n0<=aq.length)(cT:∀ i,i<n0->aq.getD i 0=i)(h:aI σ (kept aq bI) (bA σ.aa.length aq) snap res v):pH n0 σ v res bI:=by
 obtain⟨h1,h2,h3⟩:=ho.spec;exact⟨aq,snap,b7,h1,h2,h3,hn,cT,h⟩
def ey{e:Nat->AV}{os:List Ob}{v res:AV}{bI:List Ob}(ho:os=bI)(hn:n0<=bI.length)(h:v=res):pH n0 ⟨e,os⟩ v res bI:=by
 subst ho;subst h
 let σ:St:=⟨e,os⟩
 show pH n0 σ v v σ.aa;have hn:n0<=σ.aa.length:=hn;refine⟨aZ σ.aa.length,false,List.nodup_range,G9,λj o hj=>.inr ?_,G9,by simpa using hn,λi hi=>?_,?_⟩
 ·have bx:=(aY.1 hj).1;rw[yS,D3];simpa [aG,lT bx] using hj
 ·have:i<σ.aa.length:=G3;simp[aG,lT this]
 ·exact .eq (by rw[yS,yT])
end Go.Am
namespace Go.Am
variable {P:Program} {N n0:Nat} {σ:St} {Q:Exit->St->Prop}
def iD{aq:List Nat}{co:List Ob}{id:Nat}(h:id ∉ aq):¬ kept aq co id:=by
 rintro⟨j,hj,he,_⟩;apply h;rw[<- he,aG,bT hj];exact List.getElem_mem hj
def xB(ρ:Nat->Nat)(os:List Ob):List Nat->List Ob->Prop
 |[],[]=>True
 |i::aq,o::co=>os[i]?=some (bU ρ o)/\xB ρ os aq co
 |_,_=>False
def xB.spec{ρ:Nat->Nat}{os:List Ob}:∀ {aq:List Nat} {co:List Ob},xB ρ os aq co->co.length=aq.length/\∀ (j:Nat) o,co[j]?=some o->os[aq.getD j 0]?=some (bU ρ o)
 |[],[],_=>⟨rfl,G9⟩
 |i::aq,o::co,h=>by
  obtain⟨h1,h3⟩:=h;obtain⟨a,b⟩:=xB.spec h3;refine⟨by simp[a],λj o' hj=>?_⟩;cases j with
  |zero=>simp at hj;subst hj;simpa using h1
  |succ j=>simpa using b j o' (by simpa using hj)
def eY(R:AV->AV->Prop):List AV->List AV->Prop
 |[],[]=>True
 |c::cs,d::ds=>R c d/\eY R cs ds
 |_,_=>False
def eY.spec{R:AV->AV->Prop}:∀ {cs ds:List AV},eY R cs ds->cs.length=ds.length/\∀ (j:Nat) c d,cs[j]?=some c->ds[j]?=some d->R c d
 |[],[],_=>⟨rfl,G9⟩
 |c::cs,d::ds,h=>by
  obtain⟨a,b⟩:=eY.spec h.2;refine⟨by simp[a],λj c' d' hc hd=>?_⟩;cases j with
  |zero=>simp at hc hd;subst hc;subst hd;exact h.1
  |succ j=>exact b j c' d' (by simpa using hc) (by simpa using hd)
def aI.mn{kp:Nat->Prop}{ρ:Nat->Nat}{snap:Bool}{a b c d:AV}(h:aI σ kp ρ snap a c)(k:aI σ kp ρ snap b d):aI σ kp ρ snap (.bH [a,b]) (.bH [c,d]) :=
 .bH _ _ rfl (eY.spec (R:=aI σ kp ρ snap) (cs:=[a,b]) (ds:=[c,d]) ⟨h,k,trivial⟩).2
def ez(aq:List Nat){f:FuncId}{args dU:List AV}{cg:List Ob}{dst:Option Tmp}{K:St->Prop}{res:AV}{dt:List Ob}(h:an P f dU cg res dt)(b7:aq.Nodup)(ho:xB (bA σ.aa.length aq) σ.aa aq cg)(ha:eY (aI σ (·∈aq) (bA σ.aa.length aq) false) dU args)(hK:K (({ σ with aa:=fi σ.aa aq (dt.map (bU (bA σ.aa.length aq))) }:St).put dst (br (bA σ.aa.length aq) res))):sI P f args dst K σ:=by
 obtain⟨h1,h2⟩:=ho.spec;obtain⟨h3,h4⟩:=ha.spec;exact⟨aq,false,dU,cg,res,dt,h,⟨b7,h1,h2,h3,h4,G9⟩,hK⟩
def pI(aq:List Nat){f:FuncId}{args dU:List AV}{cg:List Ob}{dst:Option Tmp}{K:St->Prop}{res:AV}{dt:List Ob}(h:an P f dU cg res dt)(b7:aq.Nodup)(ho:xB (bA σ.aa.length aq) σ.aa aq cg)(ha:eY (aI σ (·∈aq) (bA σ.aa.length aq) true) dU args)(hf:flat res=true)(Ag:∀ o∈dt,xC o)(hK:K (({ σ with aa:=fi σ.aa aq (dt.map (bU (bA σ.aa.length aq))) }:St).put dst (br (bA σ.aa.length aq) res))):sI P f args dst K σ:=by
 obtain⟨h1,h2⟩:=ho.spec;obtain⟨h3,h4⟩:=ha.spec;exact⟨aq,true,dU,cg,res,dt,h,⟨b7,h1,h2,h3,h4,λ_=>⟨hf,Ag⟩⟩,hK⟩
def QU{ρ:Nat->Nat}(cs:List AV):bU ρ (.var cs)=.var (cs.map (br ρ)):=by simp only[bU]
def QV{ρ:Nat->Nat}:bU ρ .gone=.gone:=by simp only[bU]
def QW:aZ 1=[0]:=Kq
def QX:aZ 2=[0,1]:=Kq
def QY:aZ 3=[0,1,2]:=Kq
def QZ(xs:List Int):(ints xs).take xs.length=ints xs:=by rw[ej (by simp[ints])]
def Q2(xs:List Bool):(aX xs).take xs.length=aX xs:=by rw[ej (by simp[aX])]
def Q3(xs:List (List Int)):(dQ xs).take xs.length=dQ xs:=by rw[ej (by simp[dQ])]
def wa{y:Code}{Q0 Q1:Exit->St->Prop}{G:Prop}(S0:St)(hn:∀ s,W P N n0 y Q0 s->Q1 .normal s)(hm:W P N n0 y Q0 S0)(h:(∀ s,ay n0 s S0->Q1 .normal s)->G):G :=
 h λs ht=>hn s (bD ht hm)
end Go.Am
namespace Go.Am
variable {P:Program} {N n0:Nat} {σ:St} {Q:Exit->St->Prop}
def Q4(P:Program)(ops:Array Oper)(Q:Exit->Act->World->Prop)(js:List Nat):Exit->Act->World->Prop
 |.normal,a,w=>wpOps P ops Q js a w
 |e,a,w=>Q e a w
def Oper.adE{o:Oper}{a:Act}{w:World}{K:Act->World->Prop}{Q Q':Exit->Act->World->Prop}(hq:∀ e a w,e≠.normal->Q e a w->Q' e a w)(hl:LetsOut Q->LetsOut Q')(hh:o.wp P a w K Q):o.wp P a w K Q':=by
 unfold Oper.wp at *;generalize (execOp a.eval o).run P w=r at *;cases r with
 |ok n w' =>
  cases n<;>simp only[Oper.upon]at hh⊢<;>
   first
    |exact hh
    |exact Calls.mono hh (λe w'' he=>by
      cases e with
      |returned v=>exact he
      |panicked c=>exact hq _ _ _ G9 he
      |outgrown=>exact hl he)
 |halt x w'=>cases x<;>simp only[Oper.upon]at hh ⊢<;>first|exact hh|exact hq _ _ _ G9 hh
def Ah{ops:Array Oper}{Q:Exit->Act->World->Prop}{js:List Nat}:∀ (is:List Nat) (a:Act) (w:World),wpOps P ops (Q4 P ops Q js) is a w->wpOps P ops Q (is++js) a w
 |[],a,w,h=>h
 |i::is,a,w,h=>by
  rw[dP,wpOps_cons];rw[wpOps_cons]at h;have hl:LetsOut (Q4 P ops Q js)->LetsOut Q:=λh=>h;unfold wpOp at h ⊢;cases ho:ops[i]? with
  |none=>simp only[ho]at h ⊢;exact Ah is a w h
  |some o =>
   simp only[ho]at h ⊢;by_cases hw:Region.wanted o (yielded ops a.tmps)=true
   ·rw[if_pos hw]at h ⊢;rcases h with h|⟨h1,h2⟩
    ·left;exact Oper.adE (λe a w he hq=>by cases e<;>first|exact absurd rfl he|exact hq) hl (Oper.wp_mono (λa w=>Ah is a w) h)
    ·exact .inr ⟨h1,hl h2⟩
   ·rw[if_neg hw]at h ⊢;exact Ah is _ w h
def uN{N:Nat}{os:List Ob}{γ0:Cx}{ops:Array Oper}(hd:∀ o∈ops.toList,∀ d,o.dst=some d->d<N){K:St->Prop}{Q:Exit->Act->World->Prop}(hQ:∀ σ' a' w',K σ'->gP N os γ0 σ' a' w'->Q .normal a' w'):∀ (l:List Oper) (i:Nat) (σ:St) (a:Act) (w:World),(∀ k,k<l.length->ops[i+k]?=l[k]?)->opsL P ops l K σ->gP N os γ0 σ a w ->
   wpOps P ops Q (n5 i l.length) a w
 |[],i,σ,a,w,_,h,aw=>by simpa [wpOps] using hQ _ _ _ h aw
 |o::r,i,σ,a,w,hl,h,aw=>by
  have hi:ops[i]?=some o:=by simpa using hl 0 G9
  have hr:∀ k,k<r.length->ops[i+1+k]?=r[k]?:=λk hk=>by
   have:=hl (k+1) (by simpa using hk);rw[show i+1+k=i+(k+1) by omega,this];simp
  have bJ:o∈ops.toList:=List.mem_of_getElem? (by simpa using hi);rw[eu,List.range'_succ,wpOps_cons];unfold wpOp;simp only[hi];unfold opsL at h;cases hg:o.guard with
  |none =>
   simp only[hg]at h;have hw:Region.wanted o (yielded ops a.tmps)=true:=by simp[Region.wanted,hg]
   rw[if_pos hw];left;exact xD h aw (hd o bJ) (λσ' a' w' hK dG=>uN hd hQ r (i+1) σ' a' w' hr hK dG)
  |some jw =>
   obtain⟨j,want⟩:=jw;simp only[hg]at h;cases eZ:(ops[j]?).bind (·.dst) with
   |none=>simp[eZ]at h
   |some d =>
    simp only[eZ]at h;split at h
    ·rename_i b he;obtain⟨iP,bg,γ,rfl,ha,hs,hf⟩:=aw;have kF:=hs.au d;rw[he,ha]at kF;have hv:=kF.dm;have hy:yielded ops a.tmps j=some b:=by
      unfold yielded;rw[eZ];have:a.tmps[d]?=some (.bool b):=by
       rw[fU]at hv;cases hx:a.tmps[d]? with
       |none=>rw[hx]at hv;simp[Go.undef]at hv
       |some y=>rw[hx]at hv;simp at hv;rw[hv]
      simp[this]
     by_cases ik:b=want
     ·have hw:Region.wanted o (yielded ops a.tmps)=true:=by simp[Region.wanted,hg,hy,ik]
      rw[if_pos hw];left;exact xD (h.1 ik) ⟨iP,bg,γ,rfl,ha,hs,hf⟩ (hd o bJ) (λσ' a' w' hK dG=>uN hd hQ r (i+1) σ' a' w' hr hK dG)
     ·have hw:Region.wanted o (yielded ops a.tmps)=false:=by simp[Region.wanted,hg,hy,ik]
      rw[if_neg (by rw[hw];simp)];refine uN hd hQ r (i+1) _ _ _ hr (h.2 ik) ⟨by rw[put_defers];exact iP,by rw[uO];exact bg,{ γ with tmps:=(a.put o.dst Go.undef).tmps },rfl,rfl,sJ hs ha (λd h=>by rw[bg];exact hd o bJ d h) (.lit _),?_⟩;rw[rB];exact hf.put _
    ·rename_i vs he;obtain⟨iP,bg,γ,rfl,ha,hs,hf⟩:=aw;have kF:=hs.au d;rw[he,ha]at kF;have hv:=kF.dm;have hy:yielded ops a.tmps j=none:=by
      unfold yielded;rw[eZ];rw[fU]at hv;cases hx:a.tmps[d]? with
      |none=>simp[hx]
      |some y=>rw[hx]at hv;simp at hv;subst hv;simp[hx]
     have hw:Region.wanted o (yielded ops a.tmps)=false:=by simp[Region.wanted,hg,hy]
     rw[if_neg (by rw[hw];simp)];refine uN hd hQ r (i+1) _ _ _ hr h.2 ⟨by rw[put_defers];exact iP,by rw[uO];exact bg,{ γ with tmps:=(a.put o.dst Go.undef).tmps },rfl,rfl,sJ hs ha (λd h=>by rw[bg];exact hd o bJ d h) (.lit _),?_⟩;rw[rB];exact hf.put _
    ·exact h.elim
def adF{os:List Ob}{γ0:Cx}{ops:Array Oper}(hd:∀ o∈ops.toList,∀ d,o.dst=some d->d<N){K K1:St->Prop}{Q:Exit->Act->World->Prop}(hn:os.length=n0)(hQ:∀ σ' a' w',K σ'->gP N os γ0 σ' a' w'->Q .normal a' w')(n:Nat)(hK:∀ s,K1 s->∃ s1,ay n0 s s1/\opsL P ops (ops.toList.drop n) K s1)(σ:St)(a:Act)(w:World)(h:opsL P ops (ops.toList.take n) K1 σ)(aw:gP N os γ0 σ a w):wpOps P ops Q (aZ ops.size) a w:=by
 have e:aZ ops.size=n5 0 (ops.toList.take n).length++n5 (ops.toList.take n).length (ops.toList.drop n).length:=by
  rw[List.range_eq_range'];have:=List.range'_append (s:=0) (m:=(ops.toList.take n).length) (n:=(ops.toList.drop n).length) (step:=1);simp only[gf,tu]at this;rw[this];congr 1;rw[<- bQ,List.take_append_drop];simp
 rw[e];refine Ah _ a w ?_;refine uN hd (K:=K1) (λσ' a' w' hk dG=>?_) (ops.toList.take n) 0 σ a w (λk hk=>?_) h aw
 ·obtain⟨s1,ht,ho⟩:=hK σ' hk;obtain⟨h1,h2,γ,rfl,h3,h4,h5⟩:=dG;obtain⟨aP,e1,e2,e3,e4⟩:=ht os γ0 γ hn h4 h5;refine uN hd hQ (ops.toList.drop n) _ s1 a' γ.w (λk hk=>?_) ho ⟨h1,h2,aP,e1,e2.trans h3,e3,e4⟩;rw[List.getElem?_drop];simp only[List.length_drop,vN]at hk;rw[fy,vN,Nat.min_eq_left G3];simp
 ·simp only[fy,vN]at hk;rw[List.getElem?_take_of_lt G3];simp
end Go.Am
namespace Go.Am
variable {σ:St}
def kG(R:AV->AV->Prop):List (List AV)->List (List AV)->Prop
 |[],[]=>True
 |c::cs,d::ds=>eY R c d/\kG R cs ds
 |_,_=>False
def kG.spec{R:AV->AV->Prop}:∀ {cs ds:List (List AV)},kG R cs ds->cs.length=ds.length/\∀ (r c:Nat) v,cellAt cs r c=some v->cellAt ds r c=some ((cellAt ds r c).getD .undef)/\R v ((cellAt ds r c).getD .undef)
 |[],[],_=>⟨rfl,by simp[cellAt]⟩
 |c::cs,d::ds,h=>by
  obtain⟨a,b⟩:=kG.spec h.2;refine⟨by simp[a],λr j v hv=>?_⟩;cases r with
  |zero =>
   simp only[cellAt,vP,uG]at hv ⊢;obtain⟨e1,e2⟩:=h.1.spec;have hj:j<d.length:=by rw[<- e1];exact(aY.1 hv).1
   rw[bT hj];exact⟨rfl,e2 j v _ hv (bT hj)⟩
  |succ r =>
   have:=b r j v (by simpa [cellAt] using hv);simpa [cellAt] using this
def cG.mk{kp:Nat->Prop}{id sz len:Nat}{rows iF:List (List AV)}(ho:σ.aa[id]?=some (.arr sz rows))(hl:len=rows.length)(tB:¬ kp id)(hw:∀ row∈iF,row.length=sz)(h:kG (cG σ kp) iF rows):cG σ kp (.tree sz iF) (.ref id sz 0 len):=by
 obtain⟨a,b⟩:=h.spec;subst hl;refine .ref id sz 0 rows.length rows iF (λr c=>(cellAt rows r c).getD .undef) ho tB (by simp[a]) hw (λr c v hv=>?_) (λr c v hv=>?_)
 ·simpa using(b r c v hv).1
 ·exact(b r c v hv).2
end Go.Am
namespace Go.Am
def n8:=aau @Hl @Hm @Hn @G0.{0} @G1.{0} @PI @yL (aau @lF @xr @qg @ju @if_false.{1} @if_true.{1} @jh.{0} (aal @gN.{0} @Km.{0}))
def Bc:=aau @Hl @Hm @Hn @G0.{0} @G1.{0} @PI @yL (aau @lF @xr @qg @ju @if_false.{1} @if_true.{1} @jh.{0} (aau @gN.{0} @Km.{0} @DI.{0} @Array.size_empty.{0} @Q5 @Q6 @eq_self.{1} (aau @Q7 @Q8 @Qe @Qf @Qg @Qh @Qo (aau @Qp @Qq @Qr @Qs @Qt @Qu @Qv (aau @Qw @Qx @Qy @Qz @QA @QB @QC (aau @QL @QM @QN @QO @QP @QQ @QR (aau @QT @Q9 @Qj @Qn @Qa @Qd @true_and (aau @and_true @and_self @dK.{0,0} @k7.{0,0} @dP.{0} @dZ.{0} @ic.{0} (aau @ite_true.{1} @ite_false.{1} @Bool.true_eq_false @ne_eq.{1} @not_true_eq_false @not_false_eq_true @false_implies (aau @true_implies @implies_true.{1} @uG.{0,0} @Option.bind_none.{0,0} @vP.{0} @vQ.{0} @Kn.{0} (aau @eu.{0} @k8.{0} @gf @iY @decide_true @decide_false @DG.{0} (aau @G2.{0} @PJ @eX @Int.toNat_zero @iZ @jP @cond_true.{1} (aau @cond_false.{1} @Rb @Rd @Re @Rf @Rg @Rh (aau @Ri @Rj @uP @uQ @ig @QW @QX (aau @QY @QZ @Q2 @Q3 @DJ @Nat.mul_one @tu (aau @QU @QV @uR @Ai @Ho @fE.{0,0} @BQ.{0} (aau @List.drop_succ_cons.{0} @List.take_succ_cons.{0} @ky.{0} @mh.{0} @n6.{0} @beq_self_eq_true.{0} @sE.{0,0} (aau @List.flatMap_nil.{0,0} @List.getElem?_nil.{0} @bQ.{0} @bw.{0} @ri.{0} @lh @yU (aau @lj @Rk @Rl @Rm @Rn @Ro @Rp (aau @ints_set @wc @Rq @yV @Hp @KN @Hq (aan @KO @D4 @Rr @Rs)))))))))))))))))))))
def pJ:=aau @eq_self.{1} @decide_eq_true_eq @decide_eq_false_iff_not @kz @Bool.not_eq_false' @beq_iff_eq.{0} @beq_eq_false_iff_ne.{0} (aau @bne_iff_ne.{0} @bne_eq_false_iff_eq.{0} @ne_eq.{1} @Decidable.not_not @Int.not_lt @Int.not_le @not_true_eq_false (aau @not_false_eq_true @kB @bk @PL @Bool.and_eq_false_iff @gt_iff_lt.{0} @ge_iff_le.{0} (aau @Int.ofNat_lt @Int.ofNat_le @PN @Nat.not_lt @Nat.not_le @lh @yU (aam @lj @cond_true.{1} @cond_false.{1}))))
end Go.Am

