import Derived.Test.YtfoopmojjjpapaaGreatX05
set_option linter.all false
set_option maxHeartbeats 0
set_option maxRecDepth 20000
open List renaming map_cons→fF,all_cons→CN,range→aY,replicate→aI,getElem?_eq_some_iff→aT,getD_eq_getElem?_getD→az,getElem?_range→nN,getElem?_eq_getElem→bS,take_of_length_le→c9,cons_append→e9,range'→nq,length_cons→cV,length_append→bI,length_take→fZ,getElem?_cons_zero→uV,contains_cons→OK,contains_nil→OL,getD_cons_zero→gA,getD_cons_succ→eS,getD_nil→Jc,size_toArray→CP,map_nil→mf,nil_append→iH,append_nil→np,getElem?_cons_succ→rU,getElem?_toArray→Jd,length_nil→nr,drop_zero→AP,take_zero→mK,set_cons_zero→rV,set_cons_succ→wG,flatMap_cons→xL,length_set→bH,length_replicate→mL
open Array renaming getD_eq_getD_getElem?→ep,length_toList→tH
open Nat renaming zero_add→gq,one_mul→uU,add_zero→il,zero_mul→Fk
open Option renaming bind_some→rT,map_some→im
open Bool renaming or_self→ON,or_false→CO,false_or→pP,or_true→AO,true_or→xK,false_eq_true→jd,and_true→CQ,true_and→iI,not_true→km,not_false→lG,not_eq_true'→lg,or_eq_true→kL,and_eq_true→a7
open Int renaming toNat_natCast→cF,ofNat_inj→OO
namespace Go.Am
variable {P:Program} {dst:Option Tmp} {tt:TypeId} {p:String} {af:Array Edge} {g:Option (Nat×Bool)} {σ:St} {K:St->Prop}
def oV:Option Ob->Prop
 |some (.var _)=>True
 |some (.arr _ _)=>True
 |some (.mp _ _)=>True
 |_=>False
def Pd(a:Nat)(L:List (List Int×AV)):oV (some (.mp a L))=True:=by simp only[oV]
def Pe(c:List AV):oV (some (.var c))=True:=by simp only[oV]
def Pf(s:Nat)(c:List (List AV)):oV (some (.arr s c))=True:=by simp only[oV]
def A3(σ:St)(dst:Option Tmp)(K:St->Prop):AV->Prop
 |.ptr id r c=>oV σ.aa[id]?/\K (σ.put dst (.ptr id r c))
 |.cj cells=>K (σ.put dst (.cj cells))
 |_=>False
def Pg(x:Operand):aJ P ⟨dst,.nilCheck x,tt,p,af,g⟩ σ K=A3 σ dst K (ev σ x):=by
 simp only[aJ,b9];cases ev σ x<;>simp only[A3];rename_i id r c;cases h:σ.aa[id]? with
 |none=>simp[oV]
 |some o=>cases o<;>simp[oV]
def A4(σ:St)(dst:Option Tmp)(K:St->Prop)(off:Nat):AV->Prop
 |.ptr id r c=>oV σ.aa[id]?/\K (σ.put dst (.ptr id r (c+off)))
 |.cj cells=>K (σ.put dst (.cj (cells.drop off)))
 |_=>False
def xR(σ:St)(dst:Option Tmp)(K:St->Prop)(v:AV)(kind:Nat):Option (Nat×Nat×Nat)->Prop
 |some (off,_,size)=>kind=3/\0<size/\A4 σ dst K off v
 |none=>False
def Ph(s:TypeId)(x:Operand)(f:Nat):aJ P ⟨dst,.fieldAddr s x f,tt,p,af,g⟩ σ K=xR σ dst K (ev σ x) (ty P s).kind (ty P s).aN[f]?:=by
 simp only[aJ,b9];split
 ·rename_i off ft size hk hf;rw[hk,hf];simp only[xR,true_and];cases ev σ x<;>simp only[A4];rename_i id r c;cases h:σ.aa[id]? with
  |none=>simp[oV]
  |some o=>cases o<;>simp[oV]
 ·rename_i bX;cases hf:(ty P s).aN[f]? with
  |none=>simp[xR]
  |some q =>
   obtain⟨off,ft,size⟩:=q;simp only[xR];have:(ty P s).kind≠3:=λe=>bX off ft size e hf;simp[this]
def pY(t:Ty)(e:Ty)(σ:St)(dst:Option Tmp)(K:St->Prop):AV->AV->Prop
 |.ref id sz off len,.lit (.int _ n) =>
  t.kind=1 /\
  match σ.aa[id]? with
  |some (.arr cR _)=>(cR=sz/\sz=e.size/\e.kind≠99/\0<=n/\n<len)/\K (σ.put dst (.ptr id (off+n.toNat) 0))
  |_=>False
 |.tree sz rows,.lit (.int _ n)=>t.kind=1/\(sz=e.size/\e.kind≠99/\0<=n/\n<rows.length)/\K (σ.put dst (.cj (rows.getD n.toNat [])))
 |.ptr id r c,.lit (.int _ n)=>t.kind=2/\oV σ.aa[id]?/\(e.kind≠99/\0<=n/\n<t.len)/\K (σ.put dst (.ptr id r (c+n.toNat*e.size)))
 |.cj cells,.lit (.int _ n)=>t.kind=2/\(e.kind≠99/\0<=n/\n<t.len)/\K (σ.put dst (.cj (cells.drop (n.toNat*e.size))))
 |_,_=>False
def Pj(t:TypeId)(x i:Operand):aJ P ⟨dst,.indexAddr t x i,tt,p,af,g⟩ σ K=pY (ty P t) (ty P (ty P t).elem) σ dst K (ev σ x) (ev σ i):=by
 simp only[aJ,b9];split
 ·rename_i id sz off len k n hk hx hi;rw[hx,hi];simp only[pY,hk,true_and];cases σ.aa[id]? with
  |none=>rfl
  |some o=>cases o<;>rfl
 ·rename_i sz rows k n hk hx hi;rw[hx,hi];simp only[pY,hk,true_and]
 ·rename_i id r c k n hk hx hi;rw[hx,hi];simp only[pY,hk,true_and];cases h:σ.aa[id]? with
  |none=>simp[oV]
  |some o=>cases o<;>simp[oV]
 ·rename_i cells k n hk hx hi;rw[hx,hi];simp only[pY,hk,true_and]
 ·rename_i h1 h2 h3 h4;unfold pY;split
  ·rename_i id sz off len k n hx hi;simp only[eq_iff_iff,false_iff];rintro⟨hk,_⟩;exact h1 id sz off len k n hk hx hi
  ·rename_i sz rows k n hx hi;simp only[eq_iff_iff,false_iff];rintro⟨hk,_⟩;exact h2 sz rows k n hk hx hi
  ·rename_i id r c k n hx hi;simp only[eq_iff_iff,false_iff];rintro⟨hk,_⟩;exact h3 id r c k n hk hx hi
  ·rename_i cells k n hx hi;simp only[eq_iff_iff,false_iff];rintro⟨hk,_⟩;exact h4 cells k n hk hx hi
  ·rfl
def Jw(P:Program)(dst:Option Tmp)(args:List AV)(K:St->Prop)(σ:St):AV->Prop
 |.fn g bn=>rX P g (args++bn) dst K σ
 |_=>False
def Pk(f:Operand)(args:Array Operand)(cm:Array TypeId):aJ P ⟨dst,.call ⟨.value f,args,cm⟩,tt,p,af,g⟩ σ K=Jw P dst (args.toList.map (ev σ)) K σ (ev σ f):=by
 simp only[aJ];cases ev σ f<;>rfl
def Jx(P:Program)(dst:Option Tmp)(args:List AV)(K:St->Prop)(σ:St)(m:String):AV->Prop
 |.iv t v=>oW P σ v (λg x=>rX P g (x::args) dst K σ) (FC P t m)
 |_=>False
def Pl(r:Operand)(m:String)(args:Array Operand)(cm:Array TypeId):aJ P ⟨dst,.call ⟨.invoke r m,args,cm⟩,tt,p,af,g⟩ σ K=Jx P dst (args.toList.map (ev σ)) K σ m (ev σ r):=by
 simp only[aJ];cases ev σ r<;>rfl
def Jy(P:Program)(dst:Option Tmp)(args:List AV)(K:St->Prop)(σ:St):AV->Prop
 |.fn g bn=>Jz P g (args++bn) dst K σ
 |_=>False
def Pm(f:Operand)(args:Array Operand)(cm:Array TypeId):lH true P ⟨dst,.call ⟨.value f,args,cm⟩,tt,p,af,g⟩ σ K=Jy P dst (args.toList.map (ev σ)) K σ (ev σ f):=by
 simp only[lH];cases ev σ f<;>rfl
def vd(σ:St):List (Nat×Operand)->List (Nat×AV)
 |[]=>[]
 |q::l=>(q.1,ev σ q.2)::vd σ l
def vf(σ:St):List (Nat×Operand)->Bool
 |[]=>true
 |q::l=>(cellsOf (ev σ q.2)).all cQ&&vf σ l
def Pn(σ:St)(l:List (Nat×Operand)):vd σ l=l.map λq=>(q.1,ev σ q.2):=by
 induction l with
 |nil=>rfl
 |cons q l ih=>simp only[vd,ih,fF]
def Po(σ:St)(l:List (Nat×Operand)):vf σ l=l.all λq=>(cellsOf (ev σ q.2)).all cQ:=by
 induction l with
 |nil=>rfl
 |cons q l ih=>simp only[vf,ih,CN]
def Pp(o:Oper):lH false P o σ K=aJ P o σ K:=by simp only[lH]
def Pq(x:Operand):aJ P ⟨dst,.move x,tt,p,af,g⟩ σ K =
  (K (σ.put dst (ev σ x))):=by unfold aJ b9;rfl
def Ps(x:Operand):aJ P ⟨dst,.assign x,tt,p,af,g⟩ σ K =
  (K (σ.put dst (ev σ x))):=by unfold aJ b9;rfl
def Pt(c a b:Operand):aJ P ⟨dst,.pick c a b,tt,p,af,g⟩ σ K =
  (match ev σ c with
   |.lit (.bool t)=>K (σ.put dst (fR t (ev σ a) (ev σ b)))
   |_=>False):=by unfold aJ b9;rfl
def Pu (e:TypeId):aJ P ⟨dst,.alloc e,tt,p,af,g⟩ σ K =
    ((ty P e).kind≠99 /\
      match (ty P e).zero with
      | some z=>K (({ σ with aa:=σ.aa++[.var (z.map .lit)] }:St).put dst (.ptr σ.aa.length 0 0))
      | none=>False):=by unfold aJ b9;rfl
def Pv(e:TypeId)(x:Operand):aJ P ⟨dst,.box e x,tt,p,af,g⟩ σ K =
  ((cellsOf (ev σ x)).all cQ=true/\K (({ σ with aa:=σ.aa++[.var (cellsOf (ev σ x))] }:St).put dst (.ptr σ.aa.length 0 0))):=by unfold aJ b9;rfl
def Px(t:TypeId)(parts:Array (Nat×Operand)):aJ P ⟨dst,.build t parts,tt,p,af,g⟩ σ K =
  (match (ty P t).kind,(ty P t).zero with
   |3,some z =>
    match mh (λi=>((ty P t).aN[i]?).map λf=>(f.1,f.2.2)) (z.map .lit) (vd σ parts.toList) with
    |some cs=>(vf σ parts.toList=true/\((ty P t).aN.all λf=>decide (0<f.2.2))=true)/\K (σ.put dst (.agg cs))
    |none=>False
   |2,some z =>
    match mh (λi=>some (i*(ty P (ty P t).elem).size,(ty P (ty P t).elem).size)) (z.map .lit) (vd σ parts.toList) with
    |some cs=>(vf σ parts.toList=true/\(ty P (ty P t).elem).kind≠99)/\K (σ.put dst (.agg cs))
    |none=>False
   |_,_=>False):=by rw[Pn,Po];unfold aJ b9;rfl
def Py(t:TypeId)(len:Nat)(parts:Array (Nat×Operand)):aJ P ⟨dst,.buildSlice t len parts,tt,p,af,g⟩ σ K =
  (match (ty P t).kind,(ty P (ty P t).elem).zero with
   |1,some z =>
    match mh (λi=>some (i*(ty P (ty P t).elem).size,(ty P (ty P t).elem).size)) ((aY len).flatMap λ_=>z.map .lit) (vd σ parts.toList) with
    |some cs=>((ty P (ty P t).elem).kind≠99/\0<(ty P (ty P t).elem).size/\z.length=(ty P (ty P t).elem).size/\len*(ty P (ty P t).elem).size<=16777216/\vf σ parts.toList=true) /\
      K (({ σ with aa:=σ.aa++[.arr (ty P (ty P t).elem).size (mj (ty P (ty P t).elem).size len cs)] }:St).put dst (.ref σ.aa.length (ty P (ty P t).elem).size 0 len))
    |none=>False
   |_,_=>False):=by rw[Pn,Po];unfold aJ b9;rfl
def Pz (t:TypeId) (a:Operand):aJ P ⟨dst,.load t a,tt,p,af,g⟩ σ K =
    ((ty P t).kind≠99 /\
      match ev σ a with
      | .ptr id r c =>
        match rowOf σ id r with
        | some row=>ml (ty P t) row c λv=>K (σ.put dst v)
        | none=>False
      | .cj cells=>ml (ty P t) cells 0 λv=>K (σ.put dst v)
      | _=>False):=by unfold aJ b9;rfl
def PA (t:TypeId) (a x:Operand):aJ P ⟨dst,.store t a x,tt,p,af,g⟩ σ K =
    ((ty P t).kind≠99 /\
      match ev σ a with
      | .ptr id r c =>
        match rowOf σ id r with
        | some row=>((cellsOf (ev σ x)).length=(ty P t).size/\c+(ty P t).size<=row.length/\(cellsOf (ev σ x)).all cQ=true)/\K ((nQ σ id r (setCells row c (cellsOf (ev σ x)))).put dst .undef)
        | none=>False
      | _=>False):=by unfold aJ b9;rfl
def PD(op:BinOp)(t:TypeId)(x y:Operand)(yt:TypeId):aJ P ⟨dst,.binOp op t x y yt,tt,p,af,g⟩ σ K =
  (match ev σ x,ev σ y with
   |.lit (.int k a),.lit (.int k' b)=>k=k'/\gB op k a b λv=>K (σ.put dst (.lit v))
   |.lit (.bool a),.lit (.bool b) =>
    (ty P t).kind=6 /\
    match op with
    |.eql=>K (σ.put dst (.lit (.bool (a==b))))
    |.neq=>K (σ.put dst (.lit (.bool (a != b))))
    |_=>False
   |.tree _ rows,.lit (.slice none 0 0) =>
    ((ty P t).kind=1/\0<rows.length) /\
    match op with
    |.eql=>K (σ.put dst (.lit (.bool false)))
    |.neq=>K (σ.put dst (.lit (.bool true)))
    |_=>False
   |.lit (.slice a _ _),.lit (.slice none 0 0) =>
    (ty P t).kind=1 /\
    match op with
    |.eql=>K (σ.put dst (.lit (.bool a.isNone)))
    |.neq=>K (σ.put dst (.lit (.bool (!a.isNone))))
    |_=>False
   |.agg cs,.agg ds =>
    match oX cs,oX ds with
    |some as,some bs =>
     (vg P t as.length/\bs.length=as.length/\P.eqGuardType P.depth t=false) /\
     match op with
     |.eql=>K (σ.put dst (.lit (.bool (decide (as=bs)))))
     |.neq=>K (σ.put dst (.lit (.bool (!decide (as=bs)))))
     |_=>False
    |_,_=>False
   |_,_=>False):=by unfold aJ b9;rfl
def PE(op:UnOp)(t:TypeId)(x:Operand):aJ P ⟨dst,.unOp op t x,tt,p,af,g⟩ σ K =
  (match op,ev σ x with
   |.not,.lit (.bool b)=>K (σ.put dst (.lit (.bool !b)))
   |.neg,.lit (.int k a)=>tS k a λv=>K (σ.put dst (.lit v))
   |_,_=>False):=by unfold aJ b9;rfl
def PG(fn:Fn)(first captured:Array Operand):aJ P ⟨dst,.makeFunc fn first captured,tt,p,af,g⟩ σ K =
  (match fn with
   |.func f=>first.size=0/\K (σ.put dst (.fn f (captured.toList.map (ev σ))))
   |_=>False):=by unfold aJ b9;rfl
def PH (t:TypeId) (l c:Operand):aJ P ⟨dst,.makeSlice t l c,tt,p,af,g⟩ σ K =
    (match (ty P t).kind,(ty P (ty P t).elem).zero,ev σ l,ev σ c with
      | 1,some z,.lit (.int k n),.lit (.int k' n') =>
        ((ty P (ty P t).elem).kind≠99/\0<(ty P (ty P t).elem).size/\z.length=(ty P (ty P t).elem).size/\n'=n/\0<=n/\n<=1099511627776/\(ty P (ty P t).elem).bytes<=128/\k=k) /\
          K (({ σ with aa:=σ.aa++[.arr (ty P (ty P t).elem).size (aI n.toNat (z.map .lit))] }:St).put dst (.ref σ.aa.length (ty P (ty P t).elem).size 0 n.toNat))/\k'=k'
      | _,_,_,_=>False):=by unfold aJ b9;rfl
def PI (t:TypeId) (x:Operand) (lo hi mx:Option Operand):aJ P ⟨dst,.slice t x lo hi mx,tt,p,af,g⟩ σ K =
    ((ty P t).kind=1/\(ty P (ty P t).elem).kind≠99/\mx=none /\
      match ev σ x with
      | .ref id sz off len =>
        match σ.aa[id]? with
        | some (.arr cR rows) =>
          cR=sz/\sz=(ty P (ty P t).elem).size /\
          match lo.map (ev σ),hi.map (ev σ) with
          | none,none=>K (σ.put dst (.ref id sz off len))
          | some (.lit (.int _ l)),none=>(0<=l/\l<=len/\rows.length=rows.length)/\K (σ.put dst (.ref id sz (off+l.toNat) (len - l.toNat)))
          | none,some (.lit (.int _ h))=>(0<=h/\h<=len)/\K (σ.put dst (.ref id sz off h.toNat))
          | some (.lit (.int _ l)),some (.lit (.int _ h))=>(0<=l/\l<=h/\h<=len)/\K (σ.put dst (.ref id sz (off+l.toNat) (h.toNat - l.toNat)))
          | _,_=>False
        | _=>False
      | .tree sz rows =>
          (rows≠[]->sz=(ty P (ty P t).elem).size) /\
          match lo.map (ev σ),hi.map (ev σ) with
          | none,none=>K (σ.put dst (.tree sz rows))
          | some (.lit (.int _ l)),none=>(0<=l/\l<=rows.length)/\K (σ.put dst (.tree sz (rows.drop l.toNat)))
          | none,some (.lit (.int _ h))=>(0<=h/\h<=rows.length)/\K (σ.put dst (.tree sz (rows.take h.toNat)))
          | some (.lit (.int _ l)),some (.lit (.int _ h))=>(0<=l/\l<=h/\h<=rows.length)/\K (σ.put dst (.tree sz ((rows.take h.toNat).drop l.toNat)))
          | _,_=>False
      | _=>False):=by unfold aJ b9;rfl
def PJ(s:TypeId)(x:Operand)(f:Nat):aJ P ⟨dst,.field s x f,tt,p,af,g⟩ σ K =
  (match (ty P s).kind,(ty P s).aN[f]? with
   |3,some (off,t,size) =>
    (ty P t).kind≠99/\size=(ty P t).size /\
    match ev σ x with
    |.agg cs=>if(ty P t).isAgg then off+size<=cs.length/\K (σ.put dst (.agg ((cs.drop off).take size))) else
      match cs[off]? with
      |some v=>K (σ.put dst v)
      |none=>False
    |_=>False
   |_,_=>False):=by unfold aJ b9;rfl
def PN(t:TypeId)(r:Option Operand):aJ P ⟨dst,.makeMap t r,tt,p,af,g⟩ σ K =
  ((r=none/\(ty P t).kind=8)/\K (({ σ with aa:=σ.aa++[.mp (za P t) []] }:St).put dst (.db σ.aa.length))):=by unfold aJ b9;rfl
def PO(t:TypeId)(x i:Operand)(ok:Bool):aJ P ⟨dst,.lookup t x i ok,tt,p,af,g⟩ σ K =
  (match keyOf (ev σ i),lI σ (ev σ x),zeroV P (ty P t).elem with
   |some (ag,l),some (_,iR,L),some z=>(jl P t ag/\iR=ag/\l.length=kd ag/\(ty P t).kind=8/\ok=false)/\K (σ.put dst ((mn l L).getD (.lit z)))
   |_,_,_=>False):=by unfold aJ b9;rfl
def PQ(t:TypeId)(m k x:Operand):aJ P ⟨dst,.mapUpdate t m k x,tt,p,af,g⟩ σ K =
  (match keyOf (ev σ k),lI σ (ev σ m) with
   |some (ag,l),some (id,iR,L)=>(jl P t ag/\iR=ag/\l.length=kd ag)/\K (({ σ with aa:=σ.aa.set id (.mp ag (eU l (ev σ x) L)) }:St).put dst .undef)
   |_,_=>False):=by unfold aJ b9;rfl
def PR(t:TypeId)(m k:Operand):aJ P ⟨dst,.mapEntry t m k,tt,p,af,g⟩ σ K =
  (match keyOf (ev σ k),lI σ (ev σ m),zeroV P (ty P t).elem with
   |some (ag,l),some (id,iR,L),some z=>(jl P t ag/\iR=ag/\l.length=kd ag/\(ty P t).kind=8) /\
    K (({ σ with aa:=σ.aa.set id (.mp ag (eU l ((mn l L).getD (.lit z)) L)) }:St).put dst (.bx [(mn l L).getD (.lit z),OJ (A5 l L:Nat)]))
   |_,_,_=>False):=by unfold aJ b9;rfl
def PS(t:TypeId)(m s x:Operand):aJ P ⟨dst,.entryStore t m s x,tt,p,af,g⟩ σ K =
  (match ev σ s,lI σ (ev σ m) with
   |.lit (.int .i64 n),some (id,ag,L)=>(0<=n/\n<L.length)/\K (({ σ with aa:=σ.aa.set id (.mp ag (pZ n.toNat (ev σ x) L)) }:St).put dst .undef)
   |_,_=>False):=by unfold aJ b9;rfl
def PU(t:TypeId)(x i:Operand):aJ P ⟨dst,.index t x i,tt,p,af,g⟩ σ K =
  (match ev σ x,ev σ i with
   |.lit (.string s),.lit (.int _ n)=>(P.underlying t=some .string/\0<=n/\n<s.size)/\K (σ.put dst (.lit (.int .u8 (JA s n.toNat))))
   |_,_=>False):=by unfold aJ b9;rfl
def PV(t:TypeId)(x:Operand):aJ P ⟨dst,.makeInterface t x,tt,p,af,g⟩ σ K =
  (zb P t=false/\K (σ.put dst (.iv t (ev σ x)))):=by unfold aJ b9;rfl
def PW(x:Operand)(xt asserted:TypeId)(ok:Bool):aJ P ⟨dst,.typeAssert x xt asserted ok,tt,p,af,g⟩ σ K =
  (match ev σ x with
   |.iv t v=>(zb P asserted=false/\t=asserted/\ok=false)/\K (σ.put dst v)
   |_=>False):=by unfold aJ b9;rfl
def PX(x:Operand)(i:Nat):aJ P ⟨dst,.extract x i,tt,p,af,g⟩ σ K =
  (match ev σ x with
   |.bx vs =>
    match vs[i]? with
    |some v=>K (σ.put dst v)
    |none=>False
   |_=>False):=by unfold aJ b9;rfl
def PY(args:Array Operand)(argTypes:Array TypeId):aJ P ⟨dst,.call ⟨.builtin .len,args,argTypes⟩,tt,p,af,g⟩ σ K =
  (match args.toList,argTypes.toList with
   |[x],[t] =>
    match ev σ x with
    |.ref id sz _ len =>
     (ty P t).kind=1 /\
     match σ.aa[id]? with
     |some (.arr cR _)=>cR=sz/\K (σ.put dst (OJ len))
     |_=>False
    |.tree _ rows=>(ty P t).kind=1/\K (σ.put dst (OJ rows.length))
    |.lit (.slice none 0 0)=>(ty P t).kind=1/\K (σ.put dst (OJ 0))
    |.db id =>
     (ty P t).kind=8 /\
     match σ.aa[id]? with
     |some (.mp _ L)=>K (σ.put dst (OJ L.length))
     |_=>False
    |_=>False
   |_,_=>False):=by unfold aJ b9;rfl
def PZ(args:Array Operand)(argTypes:Array TypeId):aJ P ⟨dst,.call ⟨.builtin .append,args,argTypes⟩,tt,p,af,g⟩ σ K =
  (match args.toList,argTypes.toList with
   |[s,x],[t,t'] =>
    match (ty P t).kind,(ty P (ty P t).elem).zero,lj σ (ty P (ty P t).elem).size (ev σ s),nu σ (ev σ x) with
    |1,some z,some (pre,σ1),some (sz,src) =>
     (t'=t/\(ty P (ty P t).elem).kind≠99/\sz=(ty P (ty P t).elem).size/\0<sz/\z.length=sz/\pre.length+src.length<=549755813888/\(ty P (ty P t).elem).bytes<=128/\(src.all λrow=>row.all cQ)=true) /\
      K (({ σ1 with aa:=σ1.aa++[.arr sz (pre++src)] }:St).put dst (.ref σ1.aa.length sz 0 (pre.length+src.length)))
    |_,_,_,_=>False
   |_,_=>False):=by unfold aJ b9;rfl
def P1(args:Array Operand)(argTypes:Array TypeId):aJ P ⟨dst,.call ⟨.builtin .min,args,argTypes⟩,tt,p,af,g⟩ σ K =
  (match args.toList with
   |[x,y] =>
    match ev σ x,ev σ y with
    |.lit (.int k a),.lit (.int k' b)=>k=k'/\K (σ.put dst (.lit (.int k (min a b))))
    |_,_=>False
   |_=>False):=by unfold aJ b9;rfl
def P2(args:Array Operand)(argTypes:Array TypeId):aJ P ⟨dst,.call ⟨.builtin .max,args,argTypes⟩,tt,p,af,g⟩ σ K =
  (match args.toList with
   |[x,y] =>
    match ev σ x,ev σ y with
    |.lit (.int k a),.lit (.int k' b)=>k=k'/\K (σ.put dst (.lit (.int k (max a b))))
    |_,_=>False
   |_=>False):=by unfold aJ b9;rfl
def P3 (args:Array Operand) (argTypes:Array TypeId):aJ P ⟨dst,.call ⟨.builtin .copy,args,argTypes⟩,tt,p,af,g⟩ σ K =
    (match args.toList,argTypes.toList with
      | [s,x],[t,_] =>
        match ev σ s,nu σ (ev σ x) with
        | .ref id sz off len,some (cR,src) =>
          match σ.aa[id]? with
          | some (.arr kN rows) =>
            ((ty P t).kind=1/\(ty P (ty P t).elem).kind≠99/\cR=sz/\kN=sz/\sz=(ty P (ty P t).elem).size/\0<sz/\(src.all λrow=>row.all cQ)=true) /\
              K (({ σ with aa:=σ.aa.set id (.arr sz (rows.take off++src.take (min src.length len)++rows.drop (off+min src.length len))) }:St).put dst (OJ (min src.length len:Nat)))
          | _=>False
        | _,_=>False
      | _,_=>False):=by unfold aJ b9;rfl
def P4 (args:Array Operand) (argTypes:Array TypeId):aJ P ⟨dst,.call ⟨.builtin .clear,args,argTypes⟩,tt,p,af,g⟩ σ K =
    (match args.toList,argTypes.toList with
      | [s],[t] =>
        match ev σ s,(ty P (ty P t).elem).zero with
        | .ref id sz off len,some z =>
          match σ.aa[id]? with
          | some (.arr cR rows) =>
            ((ty P t).kind=1/\(ty P (ty P t).elem).kind≠99/\cR=sz/\z.length=sz/\0<sz/\(z.all λu=>u.oneCell')=true) /\
              K (({ σ with aa:=σ.aa.set id (.arr sz (rows.take off++aI len (z.map AV.lit)++rows.drop (off+len))) }:St).put dst (.lit (.tuple #[])))
          | _=>False
        | _,_=>False
      | _,_=>False):=by unfold aJ b9;rfl
def P5(s d:TypeId)(x:Operand):aJ P ⟨dst,.convert s d x,tt,p,af,g⟩ σ K =
  (match P.underlying d,ev σ x with
   |some (.int k),.lit (.int _ n)=>(P.underlying s).isSome=true/\K (σ.put dst (.lit (.int k (k.wrap n))))
   |_,_=>False):=by unfold aJ b9;rfl
end Go.Am
namespace Go.Am
variable {P:Program} {N n0:Nat} {σ:St} {Q:Exit->St->Prop}
def xS(ak:List Nat)(snap:Bool){v res:AV}{bb:List Ob}(bT:ak.Nodup)(ho:oY (bq σ.aa.length ak) σ.aa ak bb)(hn:n0<=ak.length)(bV:∀ i,i<n0->ak.getD i 0=i)(h:cC σ (kept ak bb) (bq σ.aa.length ak) snap res v):nR n0 σ v res bb:=by
 obtain⟨h1,h2,h3⟩:=ho.spec;exact⟨ak,snap,bT,h1,h2,h3,hn,bV,h⟩
def dX{e:Nat->AV}{os:List Ob}{v res:AV}{bb:List Ob}(ho:os=bb)(hn:n0<=bb.length)(h:v=res):nR n0 ⟨e,os⟩ v res bb:=by
 subst ho;subst h
 let σ:St:=⟨e,os⟩
 show nR n0 σ v v σ.aa;have hn:n0<=σ.aa.length:=hn;refine⟨aY σ.aa.length,false,List.nodup_range,Fl,λj o hj=>.inr ?_,Fl,by simpa using hn,λi hi=>?_,?_⟩
 ·have ba:=(aT.1 hj).1;rw[xT,C3];simpa [az,nN ba] using hj
 ·have:i<σ.aa.length:=CZ;simp[az,nN this]
 ·exact .eq (by rw[xT,xU])
end Go.Am
namespace Go.Am
variable {P:Program} {N n0:Nat} {σ:St} {Q:Exit->St->Prop}
def rY{ak:List Nat}{co:List Ob}{id:Nat}(h:id ∉ ak):¬ kept ak co id:=by
 rintro⟨j,hj,he,_⟩;apply h;rw[<- he,az,bS hj];exact List.getElem_mem hj
def xV(ρ:Nat->Nat)(os:List Ob):List Nat->List Ob->Prop
 |[],[]=>True
 |i::ak,o::co=>os[i]?=some (bM ρ o)/\xV ρ os ak co
 |_,_=>False
def xV.spec{ρ:Nat->Nat}{os:List Ob}:∀ {ak:List Nat} {co:List Ob},xV ρ os ak co->co.length=ak.length/\∀ (j:Nat) o,co[j]?=some o->os[ak.getD j 0]?=some (bM ρ o)
 |[],[],_=>⟨rfl,Fl⟩
 |i::ak,o::co,h=>by
  obtain⟨h1,h3⟩:=h;obtain⟨a,b⟩:=xV.spec h3;refine⟨by simp[a],λj o' hj=>?_⟩;cases j with
  |zero=>simp at hj;subst hj;simpa using h1
  |succ j=>simpa using b j o' (by simpa using hj)
def nS(R:AV->AV->Prop):List AV->List AV->Prop
 |[],[]=>True
 |c::cs,d::ds=>R c d/\nS R cs ds
 |_,_=>False
def nS.spec{R:AV->AV->Prop}:∀ {cs ds:List AV},nS R cs ds->cs.length=ds.length/\∀ (j:Nat) c d,cs[j]?=some c->ds[j]?=some d->R c d
 |[],[],_=>⟨rfl,Fl⟩
 |c::cs,d::ds,h=>by
  obtain⟨a,b⟩:=nS.spec h.2;refine⟨by simp[a],λj c' d' hc hd=>?_⟩;cases j with
  |zero=>simp at hc hd;subst hc;subst hd;exact h.1
  |succ j=>exact b j c' d' (by simpa using hc) (by simpa using hd)
def tU(ak:List Nat){f:FuncId}{args dp:List AV}{bW:List Ob}{dst:Option Tmp}{K:St->Prop}{res:AV}{cS:List Ob}(h:Holds P f dp bW res cS)(bT:ak.Nodup)(ho:xV (bq σ.aa.length ak) σ.aa ak bW)(ha:nS (cC σ (·∈ak) (bq σ.aa.length ak) false) dp args)(hK:K (({ σ with aa:=fc σ.aa ak (cS.map (bM (bq σ.aa.length ak))) }:St).put dst (bh (bq σ.aa.length ak) res))):rX P f args dst K σ:=by
 obtain⟨h1,h2⟩:=ho.spec;obtain⟨h3,h4⟩:=ha.spec;exact⟨ak,false,dp,bW,res,cS,h,⟨bT,h1,h2,h3,h4,Fl⟩,hK⟩
def vh(ak:List Nat){f:FuncId}{args dp:List AV}{bW:List Ob}{dst:Option Tmp}{K:St->Prop}{res:AV}{cS:List Ob}(h:Holds P f dp bW res cS)(bT:ak.Nodup)(ho:xV (bq σ.aa.length ak) σ.aa ak bW)(ha:nS (cC σ (·∈ak) (bq σ.aa.length ak) true) dp args)(hf:flat res=true)(zd:∀ o∈cS,C4 o)(hK:K (({ σ with aa:=fc σ.aa ak (cS.map (bM (bq σ.aa.length ak))) }:St).put dst (bh (bq σ.aa.length ak) res))):rX P f args dst K σ:=by
 obtain⟨h1,h2⟩:=ho.spec;obtain⟨h3,h4⟩:=ha.spec;exact⟨ak,true,dp,bW,res,cS,h,⟨bT,h1,h2,h3,h4,λ_=>⟨hf,zd⟩⟩,hK⟩
def P6{ρ:Nat->Nat}(cs:List AV):bM ρ (.var cs)=.var (cs.map (bh ρ)):=by simp only[bM]
def P7{ρ:Nat->Nat}:bM ρ .gone=.gone:=by simp only[bM]
def P8:aY 1=[0]:=Fs
def P9:aY 2=[0,1]:=Fs
def Qa:aY 3=[0,1,2]:=Fs
def Qd(xs:List Int):(ints xs).take xs.length=ints xs:=by rw[c9 (by simp[ints])]
def Qe(xs:List Bool):(br xs).take xs.length=br xs:=by rw[c9 (by simp[br])]
def Qf(xs:List (List Int)):(fe xs).take xs.length=fe xs:=by rw[c9 (by simp[fe])]
def tV{y:Code}{Q0 Q1:Exit->St->Prop}{G:Prop}(S0:St)(hn:∀ s,W P N n0 y Q0 s->Q1 .normal s)(hm:W P N n0 y Q0 S0)(h:(∀ s,aH n0 s S0->Q1 .normal s)->G):G :=
 h λs ht=>hn s (df ht hm)
end Go.Am
namespace Go.Am
variable {P:Program} {N n0:Nat} {σ:St} {Q:Exit->St->Prop}
def Qg(P:Program)(ops:Array Oper)(Q:Exit->Act->World->Prop)(js:List Nat):Exit->Act->World->Prop
 |.normal,a,w=>wpOps P ops Q js a w
 |e,a,w=>Q e a w
def Oper.adH{o:Oper}{a:Act}{w:World}{K:Act->World->Prop}{Q Q':Exit->Act->World->Prop}(hq:∀ e a w,e≠.normal->Q e a w->Q' e a w)(hl:LetsOut Q->LetsOut Q')(hh:o.wp P a w K Q):o.wp P a w K Q':=by
 unfold Oper.wp at *;generalize (execOp a.eval o).run P w=r at *;cases r with
 |ok n w' =>
  cases n<;>simp only[Oper.upon]at hh⊢<;>
   first
    |exact hh
    |exact Calls.mono hh (λe w'' he=>by
      cases e with
      |returned v=>exact he
      |panicked c=>exact hq _ _ _ Fl he
      |outgrown=>exact hl he)
 |halt x w'=>cases x<;>simp only[Oper.upon]at hh ⊢<;>first|exact hh|exact hq _ _ _ Fl hh
def A6{ops:Array Oper}{Q:Exit->Act->World->Prop}{js:List Nat}:∀ (is:List Nat) (a:Act) (w:World),wpOps P ops (Qg P ops Q js) is a w->wpOps P ops Q (is++js) a w
 |[],a,w,h=>h
 |i::is,a,w,h=>by
  rw[e9,wpOps_cons];rw[wpOps_cons]at h;have hl:LetsOut (Qg P ops Q js)->LetsOut Q:=λh=>h;unfold wpOp at h ⊢;cases ho:ops[i]? with
  |none=>simp only[ho]at h ⊢;exact A6 is a w h
  |some o =>
   simp only[ho]at h ⊢;by_cases hw:Region.wanted o (yielded ops a.tmps)=true
   ·rw[if_pos hw]at h ⊢;rcases h with h|⟨h1,h2⟩
    ·left;exact Oper.adH (λe a w he hq=>by cases e<;>first|exact absurd rfl he|exact hq) hl (Oper.wp_mono (λa w=>A6 is a w) h)
    ·exact .inr ⟨h1,hl h2⟩
   ·rw[if_neg hw]at h ⊢;exact A6 is _ w h
def vj{N:Nat}{os:List Ob}{γ0:Cx}{ops:Array Oper}(hd:∀ o∈ops.toList,∀ d,o.dst=some d->d<N){K:St->Prop}{Q:Exit->Act->World->Prop}(hQ:∀ σ' a' w',K σ'->gf N os γ0 σ' a' w'->Q .normal a' w'):∀ (l:List Oper) (i:Nat) (σ:St) (a:Act) (w:World),(∀ k,k<l.length->ops[i+k]?=l[k]?)->opsL P ops l K σ->gf N os γ0 σ a w ->
   wpOps P ops Q (nq i l.length) a w
 |[],i,σ,a,w,_,h,aA=>by simpa [wpOps] using hQ _ _ _ h aA
 |o::r,i,σ,a,w,hl,h,aA=>by
  have hi:ops[i]?=some o:=by simpa using hl 0 Fl
  have hr:∀ k,k<r.length->ops[i+1+k]?=r[k]?:=λk hk=>by
   have:=hl (k+1) (by simpa using hk);rw[show i+1+k=i+(k+1) by omega,this];simp
  have cD:o∈ops.toList:=List.mem_of_getElem? (by simpa using hi);rw[cV,List.range'_succ,wpOps_cons];unfold wpOp;simp only[hi];unfold opsL at h;cases hg:o.guard with
  |none =>
   simp only[hg]at h;have hw:Region.wanted o (yielded ops a.tmps)=true:=by simp[Region.wanted,hg]
   rw[if_pos hw];left;exact wJ h aA (hd o cD) (λσ' a' w' hK cW=>vj hd hQ r (i+1) σ' a' w' hr hK cW)
  |some jw =>
   obtain⟨j,want⟩:=jw;simp only[hg]at h;cases dT:(ops[j]?).bind (·.dst) with
   |none=>simp[dT]at h
   |some d =>
    simp only[dT]at h;split at h
    ·rename_i b he;obtain⟨gP,aO,γ,rfl,ha,hs,hf⟩:=aA;have jm:=hs.ar d;rw[he,ha]at jm;have hv:=jm.cz;have hy:yielded ops a.tmps j=some b:=by
      unfold yielded;rw[dT];have:a.tmps[d]?=some (.bool b):=by
       rw[ep]at hv;cases hx:a.tmps[d]? with
       |none=>rw[hx]at hv;simp[Go.undef]at hv
       |some y=>rw[hx]at hv;simp at hv;rw[hv]
      simp[this]
     by_cases gr:b=want
     ·have hw:Region.wanted o (yielded ops a.tmps)=true:=by simp[Region.wanted,hg,hy,gr]
      rw[if_pos hw];left;exact wJ (h.1 gr) ⟨gP,aO,γ,rfl,ha,hs,hf⟩ (hd o cD) (λσ' a' w' hK cW=>vj hd hQ r (i+1) σ' a' w' hr hK cW)
     ·have hw:Region.wanted o (yielded ops a.tmps)=false:=by simp[Region.wanted,hg,hy,gr]
      rw[if_neg (by rw[hw];simp)];refine vj hd hQ r (i+1) _ _ _ hr (h.2 gr) ⟨by rw[put_defers];exact gP,by rw[tW];exact aO,{ γ with tmps:=(a.put o.dst Go.undef).tmps },rfl,rfl,q6 hs ha (λd h=>by rw[aO];exact hd o cD d h) (.lit _),?_⟩;rw[p6];exact hf.put _
    ·rename_i vs he;obtain⟨gP,aO,γ,rfl,ha,hs,hf⟩:=aA;have jm:=hs.ar d;rw[he,ha]at jm;have hv:=jm.cz;have hy:yielded ops a.tmps j=none:=by
      unfold yielded;rw[dT];rw[ep]at hv;cases hx:a.tmps[d]? with
      |none=>simp[hx]
      |some y=>rw[hx]at hv;simp at hv;subst hv;simp[hx]
     have hw:Region.wanted o (yielded ops a.tmps)=false:=by simp[Region.wanted,hg,hy]
     rw[if_neg (by rw[hw];simp)];refine vj hd hQ r (i+1) _ _ _ hr h.2 ⟨by rw[put_defers];exact gP,by rw[tW];exact aO,{ γ with tmps:=(a.put o.dst Go.undef).tmps },rfl,rfl,q6 hs ha (λd h=>by rw[aO];exact hd o cD d h) (.lit _),?_⟩;rw[p6];exact hf.put _
    ·exact h.elim
def adI{os:List Ob}{γ0:Cx}{ops:Array Oper}(hd:∀ o∈ops.toList,∀ d,o.dst=some d->d<N){K K1:St->Prop}{Q:Exit->Act->World->Prop}(hn:os.length=n0)(hQ:∀ σ' a' w',K σ'->gf N os γ0 σ' a' w'->Q .normal a' w')(n:Nat)(hK:∀ s,K1 s->∃ s1,aH n0 s s1/\opsL P ops (ops.toList.drop n) K s1)(σ:St)(a:Act)(w:World)(h:opsL P ops (ops.toList.take n) K1 σ)(aA:gf N os γ0 σ a w):wpOps P ops Q (aY ops.size) a w:=by
 have e:aY ops.size=nq 0 (ops.toList.take n).length++nq (ops.toList.take n).length (ops.toList.drop n).length:=by
  rw[List.range_eq_range'];have:=List.range'_append (s:=0) (m:=(ops.toList.take n).length) (n:=(ops.toList.drop n).length) (step:=1);simp only[gq,uU]at this;rw[this];congr 1;rw[<- bI,List.take_append_drop];simp
 rw[e];refine A6 _ a w ?_;refine vj hd (K:=K1) (λσ' a' w' hk cW=>?_) (ops.toList.take n) 0 σ a w (λk hk=>?_) h aA
 ·obtain⟨s1,ht,ho⟩:=hK σ' hk;obtain⟨h1,h2,γ,rfl,h3,h4,h5⟩:=cW;obtain⟨aB,e1,e2,e3,e4⟩:=ht os γ0 γ hn h4 h5;refine vj hd hQ (ops.toList.drop n) _ s1 a' γ.w (λk hk=>?_) ho ⟨h1,h2,aB,e1,e2.trans h3,e3,e4⟩;rw[List.getElem?_drop];simp only[List.length_drop,tH]at hk;rw[fZ,tH,Nat.min_eq_left CZ];simp
 ·simp only[fZ,tH]at hk;rw[List.getElem?_take_of_lt CZ];simp
end Go.Am
namespace Go.Am
variable {σ:St}
def tX(R:AV->AV->Prop):List (List AV)->List (List AV)->Prop
 |[],[]=>True
 |c::cs,d::ds=>nS R c d/\tX R cs ds
 |_,_=>False
def tX.spec{R:AV->AV->Prop}:∀ {cs ds:List (List AV)},tX R cs ds->cs.length=ds.length/\∀ (r c:Nat) v,cellAt cs r c=some v->cellAt ds r c=some ((cellAt ds r c).getD .undef)/\R v ((cellAt ds r c).getD .undef)
 |[],[],_=>⟨rfl,by simp[cellAt]⟩
 |c::cs,d::ds,h=>by
  obtain⟨a,b⟩:=tX.spec h.2;refine⟨by simp[a],λr j v hv=>?_⟩;cases r with
  |zero =>
   simp only[cellAt,uV,rT]at hv ⊢;obtain⟨e1,e2⟩:=h.1.spec;have hj:j<d.length:=by rw[<- e1];exact(aT.1 hv).1
   rw[bS hj];exact⟨rfl,e2 j v _ hv (bS hj)⟩
  |succ r =>
   have:=b r j v (by simpa [cellAt] using hv);simpa [cellAt] using this
def dU.mk{kp:Nat->Prop}{id sz len:Nat}{rows gD:List (List AV)}(ho:σ.aa[id]?=some (.arr sz rows))(hl:len=rows.length)(rZ:¬ kp id)(hw:∀ row∈gD,row.length=sz)(h:tX (dU σ kp) gD rows):dU σ kp (.tree sz gD) (.ref id sz 0 len):=by
 obtain⟨a,b⟩:=h.spec;subst hl;refine .ref id sz 0 rows.length rows gD (λr c=>(cellAt rows r c).getD .undef) ho rZ (by simp[a]) hw (λr c v hv=>?_) (λr c v hv=>?_)
 ·simpa using(b r c v hv).1
 ·exact(b r c v hv).2
end Go.Am
namespace Go.Am
def r8:=aba @FD @FE @FF @OK.{0} @OL.{0} @ON @CO (aba @pP @AO @xK @jd @if_false.{1} @if_true.{1} @gA.{0} (OY @eS.{0} @Jc.{0}))
def Bc:=aba @FD @FE @FF @OK.{0} @OL.{0} @ON @CO (aba @pP @AO @xK @jd @if_false.{1} @if_true.{1} @gA.{0} (aba @eS.{0} @Jc.{0} @CP.{0} @Array.size_empty.{0} @Qh @Qi @eq_self.{1} (aba @Qj @Qk @Pg @Ph @Pj @Pk @Pq (aba @Ps @Pt @Pu @Pv @Px @Py @Pz (aba @PA @PD @PE @PG @PH @PI @PJ (aba @PX @PY @PZ @P1 @P2 @P3 @P4 (aba @P5 @Qm @Pm @Pp @Pe @Pf @true_and (aba @and_true @and_self @fF.{0,0} @mf.{0,0} @e9.{0} @iH.{0} @np.{0} (aba @ite_true.{1} @ite_false.{1} @Bool.true_eq_false @ne_eq.{1} @not_true_eq_false @not_false_eq_true @false_implies (aba @true_implies @implies_true.{1} @rT.{0,0} @Option.bind_none.{0,0} @uV.{0} @rU.{0} @Jd.{0} (aba @cV.{0} @nr.{0} @gq @il @decide_true @decide_false @CN.{0} (aba @List.all_nil.{0} @CQ @iI @Int.toNat_zero @km @lG @cond_true.{1} (aba @cond_false.{1} @Qn @Qo @Qp @Qq @Qr @Qs (aba @Qt @Qu @nU @nV @cF @P8 @P9 (aba @Qa @Qd @Qe @Qf @Fk @Nat.mul_one @uU (aba @P6 @P7 @FG @A7 @JB @im.{0,0} @AP.{0} (aba @List.drop_succ_cons.{0} @List.take_succ_cons.{0} @mK.{0} @rV.{0} @wG.{0} @beq_self_eq_true.{0} @xL.{0,0} (aba @List.flatMap_nil.{0,0} @List.getElem?_nil.{0} @bI.{0} @bH.{0} @mL.{0} @xW @ze (aba @FH @Qv @Qw @Qx @Qy @Qz @JC (aba @ints_set @r9 @QA @C5 @QB @C6 @JD (O0 @A8 @FJ @QC @QD)))))))))))))))))))))
def gQ:=aba @eq_self.{1} @decide_eq_true_eq @decide_eq_false_iff_not @lg @Bool.not_eq_false' @beq_iff_eq.{0} @beq_eq_false_iff_ne.{0} (aba @bne_iff_ne.{0} @bne_eq_false_iff_eq.{0} @ne_eq.{1} @Decidable.not_not @Int.not_lt @Int.not_le @not_true_eq_false (aba @not_false_eq_true @kL @a7 @Bool.or_eq_false_iff @Bool.and_eq_false_iff @gt_iff_lt.{0} @ge_iff_le.{0} (aba @Int.ofNat_lt @Int.ofNat_le @OO @Nat.not_lt @Nat.not_le @xW @ze (OZ @FH @cond_true.{1} @cond_false.{1}))))
end Go.Am

