import Derived.Test.YtfoopmojjjpapaaGreatX07
set_option linter.all false
set_option maxHeartbeats 0
set_option maxRecDepth 20000
open Bool renaming true_and→iy,false_and→p8,and_eq_true→bg
open List renaming range→bk,range'→nr,mem_cons→bm,not_mem_nil→iT
namespace Go.Am
def Gd(k:IntKind)(n:Int):eh (.int k n)=.lit (.int k n):=by first|rfl|(cases b<;>rfl)|(simp only[eh];done)|(unfold fH;split<;>simp_all)
def Ge(b:Bool):eh (.bool b)=.lit (.bool b):=by first|rfl|(cases b<;>rfl)|(simp only[eh];done)|(unfold fH;split<;>simp_all)
def Gf(a:Option Addr)(n c:Nat):eh (.slice a n c)=.lit (.slice a n c):=by first|rfl|(cases b<;>rfl)|(simp only[eh];done)|(unfold fH;split<;>simp_all)
def Gg(s:ByteArray):eh (.string s)=.lit (.string s):=by first|rfl|(cases b<;>rfl)|(simp only[eh];done)|(unfold fH;split<;>simp_all)
def Gi(s:Array Value):eh (.tuple s)=.lit (.tuple s):=by first|rfl|(cases b<;>rfl)|(simp only[eh];done)|(unfold fH;split<;>simp_all)
def Rp(ρ:Nat->Nat)(v:Value):bj ρ (.lit v)=.lit v:=by first|rfl|(cases b<;>rfl)|(simp only[eh];done)|(unfold fH;split<;>simp_all)
def Rq(ρ:Nat->Nat)(s:Nat)(r:List (List AV)):bj ρ (.tree s r)=.tree s r:=by first|rfl|(cases b<;>rfl)|(simp only[eh];done)|(unfold fH;split<;>simp_all)
def Rr(ρ:Nat->Nat)(r:List AV):bj ρ (.bY r)=.bY r:=by first|rfl|(cases b<;>rfl)|(simp only[eh];done)|(unfold fH;split<;>simp_all)
def Rs(ρ:Nat->Nat):bj ρ .undef=.undef:=by first|rfl|(cases b<;>rfl)|(simp only[eh];done)|(unfold fH;split<;>simp_all)
def Rt(v:Value):cellsOf (.lit v)=[.lit v]:=by first|rfl|(cases b<;>rfl)|(simp only[eh];done)|(unfold fH;split<;>simp_all)
def Ru(s:Nat)(r:List (List AV)):cellsOf (.tree s r)=[.tree s r]:=by first|rfl|(cases b<;>rfl)|(simp only[eh];done)|(unfold fH;split<;>simp_all)
def Rv(r:List AV):cellsOf (.bY r)=[.bY r]:=by first|rfl|(cases b<;>rfl)|(simp only[eh];done)|(unfold fH;split<;>simp_all)
def Rw(a b c d:Nat):cellsOf (.ref a b c d)=[.ref a b c d]:=by first|rfl|(cases b<;>rfl)|(simp only[eh];done)|(unfold fH;split<;>simp_all)
def Rx(a b c:Nat):cellsOf (.ptr a b c)=[.ptr a b c]:=by first|rfl|(cases b<;>rfl)|(simp only[eh];done)|(unfold fH;split<;>simp_all)
def Ry(id:Nat):cellsOf (.c9 id)=[.c9 id]:=rfl
def Rz(t:TypeId)(v:AV):cellsOf (.hZ t v)=[.hZ t v]:=rfl
def RA(f:FuncId)(l:List AV):cellsOf (.fn f l)=[.fn f l]:=by first|rfl|(cases b<;>rfl)|(simp only[eh];done)|(unfold fH;split<;>simp_all)
def RC(t:Bool)(s:Array Value)(b:AV):fH t (.lit (.tuple s)) b=if t=true then .lit (.tuple s) else b:=by first|rfl|(cases b<;>rfl)|(simp only[eh];done)|(unfold fH;split<;>simp_all)
def RD(t:Bool)(s:Array Value)(b:AV):fH t b (.lit (.tuple s))=if t=true then b else .lit (.tuple s):=by first|rfl|(cases b<;>rfl)|(simp only[eh];done)|(unfold fH;split<;>simp_all)
def RE(t:Bool)(s u:List AV):fH t (.agg s) (.agg u)=if t=true then .agg s else .agg u:=by first|rfl|(cases b<;>rfl)|(simp only[eh];done)|(unfold fH;split<;>simp_all)
def RF(l:List AV):cR (.agg l)=false:=by first|rfl|(cases b<;>rfl)|(simp only[eh];done)|(unfold fH;split<;>simp_all)
def RG(l:List AV):cR (.bu l)=false:=by first|rfl|(cases b<;>rfl)|(simp only[eh];done)|(unfold fH;split<;>simp_all)
def RH  : cR .undef=false:=by first|rfl|(cases b<;>rfl)|(simp only[eh];done)|(unfold fH;split<;>simp_all)
def RJ(k:IntKind)(n:Int):Value.oneCell' (.int k n)=true:=by first|rfl|(cases b<;>rfl)|(simp only[eh];done)|(unfold fH;split<;>simp_all)
def RK(b:Bool):Value.oneCell' (.bool b)=true:=by first|rfl|(cases b<;>rfl)|(simp only[eh];done)|(unfold fH;split<;>simp_all)
def RL(a:Option Addr)(n c:Nat):Value.oneCell' (.slice a n c)=true:=by first|rfl|(cases b<;>rfl)|(simp only[eh];done)|(unfold fH;split<;>simp_all)
def RM(s:ByteArray):Value.oneCell' (.string s)=true:=by first|rfl|(cases b<;>rfl)|(simp only[eh];done)|(unfold fH;split<;>simp_all)
def RN(a:Option Addr):Value.oneCell' (.pointer a)=true:=by first|rfl|(cases b<;>rfl)|(simp only[eh];done)|(unfold fH;split<;>simp_all)
def RO(a:Option Nat):Value.oneCell' (.map a)=true:=by first|rfl|(cases b<;>rfl)|(simp only[eh];done)|(unfold fH;split<;>simp_all)
def Pc:=aah @AZ.eq_1 @AZ.eq_2 @xP.eq_1 @xP.eq_2 @A2.eq_1 @A2.eq_2 @qc.eq_1 (aah @qc.eq_2 @qc.eq_3 @I4.eq_1 @I6.eq_1 @gw.eq_1 @gw.eq_2 @gw.eq_3 (aah @gw.eq_4 @gw.eq_5 @gw.eq_6 @gw.eq_7 @gw.eq_8 @gw.eq_9 @gw.eq_10 (aah @gw.eq_11 @gw.eq_12 @gw.eq_13 @ma.eq_1 @dY.eq_1 @qc.eq_4 @QO (Oo @QP @QR @QS))))
def Sc:=aah @ev.eq_1 @ev.eq_2 @ev.eq_3 @ev.eq_4 @eh.eq_1 @St.put.eq_1 @St.put.eq_2 (aah @u5.eq_1 @u5.eq_2 @u6.eq_1 @u6.eq_2 @fH.eq_1 @jB.eq_1 @jB.eq_2 (aah @gf.eq_1 @gf.eq_2 @bj.eq_1 @bj.eq_2 @bj.eq_3 @bj.eq_4 @bj.eq_5 (aah @bj.eq_6 @oa.eq_1 @oa.eq_2 @bC.eq_1 @rowOf.eq_1 @nX.eq_1 @nC.eq_1 (aah @nC.eq_2 @kZ.eq_1 @kZ.eq_2 @cellsOf.eq_1 @setCells.eq_1 @setCells.eq_2 @l9.eq_1 (aah @l9.eq_2 @l'.eq_1 @l'.eq_2 @cR.eq_1 @cR.eq_2 @cR.eq_3 @cR.eq_4 (aah @cR.eq_5 @cR.eq_6 @Ty.isAgg.eq_1 @Value.oneCell'.eq_1 @Value.oneCell'.eq_2 @um.eq_1 @wK.eq_1 (aah @wK.eq_2 @aq.eq_1 @dK.eq_1 @aV.eq_1 @aG.eq_1 @qC.eq_1 @df.eq_1 (aah @dv.eq_1 @o8.eq_1 @o8.eq_2 @FY @QX @Kh @Q7 (aah @Kj @Q8 @iy @p8 @Gd @Ge @Gf (aah @Gg @Gi @Rp @Rq @Rr @Rs @Rt (aah @Ru @Rv @Rw @Rx @RA @RC @RD (aah @RE @RF @RG @RH @RJ @RK @RL (aah @RM @RN @RO @cR.eq_7 @Rz @OJ @O' (aah @Pa @I5.eq_1 @o5.eq_1 @o5.eq_2 @bj.eq_7 @cR.eq_8 @Ry (aah @O4 @O5 @O6 @O9 @O7 @O8 @OC (Ot @lE.eq_1 @keyOf.eq_1 @keyOf.eq_2 @j4.eq_1))))))))))))))))
def Lc:=aah @ev.eq_1 @ev.eq_2 @ev.eq_3 @ev.eq_4 @eh.eq_1 @St.put.eq_1 @St.put.eq_2 (Ov @Gd @Ge @Gf @Gg @Gi)
def eO{P:Program}{N n0:Nat}(id:Nat){ops:Array Oper}{d:Bool}{y:Code}{Q:Exit->St->Prop}{σ:St}(h:W P N n0 (.seq (.region id ops d) y) Q σ):W P N n0 (.seq (.region id ops d) y) Q σ:=h
def eP{P:Program}{N n0:Nat}(id:Nat){ops:Array Oper}{d:Bool}{Q:Exit->St->Prop}{σ:St}(h:W P N n0 (.region id ops d) Q σ):W P N n0 (.region id ops d) Q σ:=h
end Go.Am
namespace Go.Am
variable {P:Program} {N n0:Nat} {σ:St}
def ptF(hd:Nat):AV->Bool
 |.ptr id _ _=>id != hd
 |.ref id _ _ _=>id != hd
 |.c9 id=>id != hd
 |_=>true
def RP(hd:Nat)(σ:St):List Operand->Bool
 |[]=>true
 |x::l=>ptF hd (ev σ x)&&RP hd σ l
def Ds(hd:Nat)(q:Bool)(o:Oper)(σ:St):Bool:=q||cls o.op==0||decide (3<=cls o.op)||RP hd σ o.op.operands.toList
def ik(q dc:Bool)(o:Oper):Nat:=if dc then 6 else fS q o
def aey{o:Oper}{σ:St}{K:St->Prop}(hc:cls o.op<=2)(hW:aH P o σ K):
  ∃ v,K (σ.put o.dst v)/\∀ (σ2:St) (K2:St->Prop),(∀ x∈o.op.operands.toList,ev σ2 x=ev σ x)->(∀ x∈o.op.operands.toList,∀ id,qu (ev σ x)=some id->jz (cls o.op) σ.aa[id]? σ2.aa[id]?)->K2 (σ2.put o.dst v)->aH P o σ2 K2:=by
 unfold aH at hW ⊢;split at hW
 ·rename_i f args dh dt;rw[dt]at hc;simp[cls]at hc
 ·rename_i r m args dh dt;rw[dt]at hc;simp[cls]at hc
 ·rename_i bZ;obtain⟨v,h2,h3⟩:=P2 hc hW;refine⟨v,h2,λσ2 K2 hx ho hK=>?_⟩;exact h3 σ2 K2 hx (ho) hK
def RQ{q:Bool}{o:Oper}{σ:St}{K:St->Prop}(hc:fS q o<=2)(hW:lD q P o σ K):
  ∃ v,K (σ.put o.dst v)/\∀ (σ2:St) (K2:St->Prop),(∀ x∈o.op.operands.toList,ev σ2 x=ev σ x)->(∀ x∈o.op.operands.toList,∀ id,qu (ev σ x)=some id->jz (fS q o) σ.aa[id]? σ2.aa[id]?)->K2 (σ2.put o.dst v)->lD q P o σ2 K2:=by
 cases q with
 |false=>exact aey hc hW
 |true =>
  unfold lD at hW ⊢;simp only at hW ⊢;split at hW
  ·rename_i f args dh dt;simp only[dt];split at hW
   ·rename_i g bF he;obtain⟨res,h1,h2,h3,h4⟩:=hW;refine⟨res,h4,λσ2 K2 hx _ hK=>?_⟩;have e1:ev σ2 f=.fn g bF:=by rw[<- he];exact hx f (by simp[Op.operands,Call.operands])
    have e3:args.toList.map (ev σ2)=args.toList.map (ev σ):=List.map_congr_left λy hy=>hx y (by simp only[Op.operands,Call.operands,Array.toList_append,List.mem_append];exact .inr hy);simp only[e1,e3];exact⟨res,h1,h2,h3,hK⟩
   ·exact hW.elim
  ·rename_i t a dt;obtain⟨x,h1,h2⟩:=Jb hW;refine⟨x,h1,λσ2 K2 hx _ hK=>?_⟩;rw[hx a (by simp[dt,Op.operands])];exact h2 _ K2 hK
  ·exact hW.elim
def aez{ops:Array Oper}{q:Bool}{o:Oper}{σ:St}{K:St->Prop}(hc:fS q o<=2)(hW:dY P ops q o K σ):
  ∃ v,K (σ.put o.dst v)/\∀ (σ2:St) (K2:St->Prop),(∀ t∈o.looksAt ops,σ2.env t=σ.env t)->(∀ x∈o.op.operands.toList,∀ id,qu (ev σ x)=some id->jz (fS q o) σ.aa[id]? σ2.aa[id]?)->K2 (σ2.put o.dst v)->dY P ops q o K2 σ2:=by
 unfold dY at hW ⊢;cases hg:o.guard with
 |none =>
  simp only[hg]at hW;obtain⟨v,h2,h3⟩:=RQ hc hW;exact⟨v,h2,λσ2 K2 hl ho hK=>h3 σ2 K2 (wz (e2:=σ2.env) (os:=σ2.aa) hl) ho hK⟩
 |some jw =>
  obtain⟨j,want⟩:=jw;simp only[hg]at hW;cases dO:(ops[j]?).bind (·.dst) with
  |none=>simp[dO]at hW
  |some d =>
   simp only[dO]at hW;split at hW
   ·rename_i b he;by_cases gj:b=want
    ·obtain⟨v,h2,h3⟩:=RQ hc (hW.1 gj);refine⟨v,h2,λσ2 K2 hl ho hK=>?_⟩;have:σ2.env d=.lit (.bool b):=by rw[hl d (wA hg dO)];exact he
     simp only[dO,this];exact⟨λ_=>h3 σ2 K2 (wz (e2:=σ2.env) (os:=σ2.aa) hl) ho hK,λhn=>absurd gj hn⟩
    ·refine⟨.lit (.tuple #[]),hW.2 gj,λσ2 K2 hl ho hK=>?_⟩;have:σ2.env d=.lit (.bool b):=by rw[hl d (wA hg dO)];exact he
     simp only[dO,this];exact⟨λhn=>absurd hn gj,λ_=>hK⟩
   ·rename_i vs he;refine⟨.lit (.tuple #[]),hW.2,λσ2 K2 hl ho hK=>?_⟩;have:σ2.env d=.lit (.tuple vs):=by rw[hl d (wA hg dO)];exact he
    simp only[dO,this];exact⟨hW.1,hK⟩
   ·exact hW.elim
def Gj(ci ck:Nat):Bool:=A9 ci ck||(decide (ci<=2)&&ck==6)
def Ks(ops:Array Oper)(qs ds:List Nat)(aI:Array Bool)(i:Nat)(D:List Nat):Bool :=
 match ops[i]? with
 |none=>false
 |some o =>
  D.contains i&&D.all (λj=>j==i||match ops[j]? with|some oj=>oj.after.any (λe=>Region.binds .any e&&D.contains e.on)|none=>false) &&
  D.all (λj=>!aI.getD j true)&&o.after.all (λe=>!Region.binds .any e||aI.getD e.on false) &&
  (bk ops.size).all λj=>D.contains j||aI.getD j true||match ops[j]? with|some oj=>o.apart ops oj&&Gj (ik (qs.contains i) (ds.contains i) o) (ik (qs.contains j) (ds.contains j) oj)|none=>true
def PT.py(ops:Array Oper)(qs ds:List Nat):PT->Nat->Array Bool->Bool
 |.nil,n,aI=>n==0&&(Region.ready .any ops aI).isEmpty
 |.take _ _,0,_=>false
 |.take i t,n+1,aI=>Ks ops qs ds aI i (Je ops i)&&t.py ops qs ds n (aI.setIfInBounds i true)
 |.both _ _ _ _,0,_=>false
 |.both i t j u,n+1,aI=>(Region.ready .any ops aI==[i,j])&&t.py ops qs ds n (aI.setIfInBounds i true)&&u.py ops qs ds n (aI.setIfInBounds j true)
 |.three _ _ _ _ _ _,0,_=>false
 |.three i t j u k v,n+1,aI=>(Region.ready .any ops aI==[i,j,k])&&t.py ops qs ds n (aI.setIfInBounds i true)&&u.py ops qs ds n (aI.setIfInBounds j true)&&v.py ops qs ds n (aI.setIfInBounds k true)
section
variable {dst:Option Tmp} {tt:TypeId} {p:String} {af:Array Edge} {g:Option (Nat×Bool)} {K:St->Prop} {hh:Nat}
end
def ox{P:Program}{N n0:Nat}{σ:St}{Q:Exit->St->Prop}(n:Nat){id:Nat}{ops:Array Oper}(hd:fU N ops=true)(o:Oper)(ho:ops[n]?=some o)(h:∀ K:St->Prop,(∀ s,Q .normal s->K s)->opsL P ops (ops.toList.take n) (Dj P o (opsL P ops (ops.toList.drop (n+1)) K)) σ):W P N n0 (.region id ops false) Q σ:=by
 intro os γ0 a w hn aA;refine wp_region ?_;have rA:n<ops.size:=(Array.getElem?_eq_some_iff.1 ho).1;have e:bk ops.size=nr 0 (ops.toList.take n).length++(n::nr (n+1) (ops.toList.drop (n+1)).length):=by
  rw[List.range_eq_range',<- List.range'_succ];have:=List.range'_append (s:=0) (m:=n) (n:=(ops.toList.drop (n+1)).length+1) (step:=1);simp only[Nat.zero_add,Nat.one_mul]at this;rw[show(ops.toList.take n).length=n by simp;omega,this];congr 1;simp;omega
 rw[e];refine A5 _ a w ?_;refine vb (ud hd) (K:=Dj P o (opsL P ops (ops.toList.drop (n+1)) (Q .normal))) (λσ' a' w' hk dj=>?_) (ops.toList.take n) 0 σ a w (λk hk=>?_) (h _ (λ_ h=>h)) aA
 ·show wpOps P ops _ _ a' w';rw[wpOps_cons];unfold wpOp;simp only[ho];have hw:Region.wanted o (yielded ops a'.tmps)=true:=by simp[Region.wanted,hk.1]
  rw[if_pos hw];left;refine QV hk dj (ud hd o (List.mem_of_getElem? (by simpa using ho))) (λσ2 a2 w2 cE Ka=>?_);refine vb (ud hd) (K:=Q .normal) (λKb a3 w3 mX Kd=>⟨Kb,mX,Kd⟩) (ops.toList.drop (n+1)) (n+1) σ2 a2 w2 (λk hk=>?_) cE Ka;rw[List.getElem?_drop];simp
 ·simp only[List.length_take,Array.length_toList]at hk;rw[List.getElem?_take_of_lt AT];simp
end Go.Am
namespace Go.Am
variable {P:Program} {N n0:Nat} {σ:St} {Q:Exit->St->Prop}
def uq:Exit->Bool
 |.normal=>true
 |_=>false
def zR(id:Nat):Exit->Bool
 |.normal=>true
 |.exit j=>j==id
 |_=>false
def Gk{e:Exit}(h:uq e=false):e≠.normal:=by intro h2;subst h2;simp[uq]at h
def Kt{id:Nat}{e:Exit}(h:zR id e=false):e≠.normal/\e≠.exit id:=by
 constructor
 ·intro h2;subst h2;simp[zR]at h
 ·intro h2;subst h2;simp[zR]at h
theorem rk{id:Nat}{ops:Array Oper}{y:Code}(h:∀ K:St->Prop,(∀ s,W P N n0 y Q s->K s)->opsL P ops ops.toList K σ)(hd:fU N ops=true:=by decide):W P N n0 (.seq (.region id ops false) y) Q σ:=JE hd h
theorem Ku{id:Nat}{ops:Array Oper}(h:∀ K:St->Prop,(∀ s,Q .normal s->K s)->opsL P ops ops.toList K σ)(hd:fU N ops=true:=by decide):W P N n0 (.region id ops false) Q σ:=acE hd h
theorem rd{id:Nat}{ops:Array Oper}{y:Code}(h:∀ K:St->Prop,(∀ s,W P N n0 y Q s->K s)->opsL P ops ops.toList K σ)(hm:P.follows .mixedOrders=true:=by rfl)(hd:fU N ops=true:=by decide)(ht:zo ops=true:=by decide +kernel):W P N n0 (.seq (.region id ops true) y) Q σ:=acF hm hd ht h
theorem rde{id:Nat}{ops:Array Oper}(h:∀ K:St->Prop,(∀ s,Q .normal s->K s)->opsL P ops ops.toList K σ)(hm:P.follows .mixedOrders=true:=by rfl)(hd:fU N ops=true:=by decide)(ht:zo ops=true:=by decide +kernel):W P N n0 (.region id ops true) Q σ:=acG hm hd ht h
theorem rb{id:Nat}{ops:Array Oper}{y:Code}(h:∀ K:St->Prop,(∀ s,W P N n0 y Q s->K s)->sX P ops ops.toList K σ)(hm:P.follows .mixedOrders=true:=by rfl)(hd:fU N ops=true:=by decide)(ht:F5 ops=true:=by decide +kernel):W P N n0 (.seq (.region id ops true) y) Q σ:=ad2 hm hd ht h
theorem Dt{id:Nat}{ops:Array Oper}(h:∀ K:St->Prop,(∀ s,Q .normal s->K s)->sX P ops ops.toList K σ)(hm:P.follows .mixedOrders=true:=by rfl)(hd:fU N ops=true:=by decide)(ht:F5 ops=true:=by decide +kernel):W P N n0 (.region id ops true) Q σ:=ad3 hm hd ht h
theorem ra{id:Nat}{ops:Array Oper}{y:Code}(h:∀ K:St->Prop,(∀ s,W P N n0 y Q s->K s)->sW P ops ops.toList K σ)(hm:P.follows .mixedOrders=true:=by rfl)(hd:fU N ops=true:=by decide)(ht:F4 ops=true:=by decide +kernel):W P N n0 (.seq (.region id ops true) y) Q σ:=adZ hm hd ht h
theorem Du{id:Nat}{ops:Array Oper}(h:∀ K:St->Prop,(∀ s,Q .normal s->K s)->sW P ops ops.toList K σ)(hm:P.follows .mixedOrders=true:=by rfl)(hd:fU N ops=true:=by decide)(ht:F4 ops=true:=by decide +kernel):W P N n0 (.region id ops true) Q σ:=ad0 hm hd ht h
def Wk{x y:Code}(h:∀ Q':Exit->St->Prop,(∀ s,W P N n0 y Q s->Q' .normal s)->(∀ e s,uq e=false->Q e s->Q' e s)->W P N n0 x Q' σ):W P N n0 (.seq x y) Q σ :=
 W_k λQ' h1 h2=>h Q' h1 λe s he=>h2 e s (Gk he)
def Wb{id:Nat}{c:Code}(h:∀ Q':Exit->St->Prop,(∀ s,Q .normal s->Q' .normal s)->(∀ s,Q .normal s->Q' (.exit id) s)->(∀ e s,zR id e=false->Q e s->Q' e s)->W P N n0 c Q' σ):W P N n0 (.block id c) Q σ :=
 acB λQ' h1 h2 h3=>h Q' h1 h2 λe s he=>h3 e s (Kt he).1 (Kt he).2
theorem Wc{c:Operand}{x y:Code}{t:Bool}(ht:t=true->W P N n0 x Q σ)(hf:t=false->W P N n0 y Q σ)(hc:ev σ c=.lit (.bool t):=by(simp only[Go.Am.sF,Go.Am.Lc,↓reduceIte,Nat.reduceEqDiff,Nat.reduceBEq];exact rfl)):W P N n0 (.cond c x y) Q σ:=Qx hc ht hf
def bb{α:Type}{c:Code}(S:α->St)(I:α->Prop)(M:α->Nat)(x0:α)(hI:I x0)(h0:aF n0 σ (S x0))(round:∀ x,I x->∀ Q':Exit->St->Prop,(∀ s y,I y->M y<M x->aF n0 s (S y)->Q' .normal s)->(∀ e s,uq e=false->Q e s->Q' e s)->W P N n0 c Q' (S x)):W P N n0 (.loop c) Q σ :=
 acA S I M x0 hI h0 λx hx Q' h1 h2=>round x hx Q' h1 λe s he=>h2 e s (Gk he)
end Go.Am
namespace Go.Am
variable {P:Program} {N n0:Nat} {σ:St} {Q:Exit->St->Prop}
end Go.Am
namespace Go.Am
variable {P:Program} {N n0:Nat} {σ:St} {Q:Exit->St->Prop}
class Head (p:Prop):Prop where
 on:True
section
variable {ops:Array Oper} {o:Oper} {l:List Oper} {K:St->Prop}
instance:Head (opsL P ops (o::l) K σ):=⟨trivial⟩
instance {qs:List Nat}{t:PT}:Head (jA P ops qs t K σ):=⟨trivial⟩
instance {qs:List Nat}{i:Nat}:Head (rH P ops qs i (o::l) K σ):=⟨trivial⟩
instance:Head (sW P ops (o::l) K σ):=⟨trivial⟩
instance:Head (sX P ops (o::l) K σ):=⟨trivial⟩
end
def gO{p:Prop}[Head p](h:p):p:=h
class Gl (p:Prop) (b:outParam Bool) (A B:outParam Prop):Prop where
 sp:(b=true->A)->(b=false->B)->p
instance {o:Oper}{K:St->Prop}{b want:Bool}:Gl (og P o K b want σ) b (og P o K true want σ) (og P o K false want σ):=⟨ac1⟩
instance {q:Bool}{o:Oper}{K:St->Prop}{b want:Bool}:Gl (pg q P o K b want σ) b (pg q P o K true want σ) (pg q P o K false want σ):=⟨acy⟩
def gS{p:Prop}{b:Bool}{A B:Prop}[h:Gl p b A B](h1:b=true->A)(h2:b=false->B):p:=h.sp h1 h2
def Gm:Code->Option Exit
 |.skip=>some .normal
 |.label _=>some .normal
 |.exit id=>some (.exit id)
 |.ret=>some .ret
 |_=>none
def Wz{c:Code}{e:Exit}(hc:Gm c=some e)(h:Q e σ):W P N n0 c Q σ:=by
 cases c<;>simp[Gm]at hc;all_goals subst hc
 all_goals first|exact Qw h|exact acX h|exact acY h|exact acW h
def Gn(P:Program)(d:Bool)(ops:Array Oper):Bool:=!d||(P.follows .mixedOrders&&zo ops)
theorem rr{id:Nat}{ops:Array Oper}{d:Bool}{y:Code}(h:∀ K:St->Prop,(∀ s,W P N n0 y Q s->K s)->opsL P ops ops.toList K σ)(ht:Gn P d ops=true:=by decide +kernel)(hd:fU N ops=true:=by decide):W P N n0 (.seq (.region id ops d) y) Q σ:=by
 cases d
 ·exact rk h hd
 ·have h2:P.follows .mixedOrders=true/\zo ops=true:=by simpa [Gn] using ht
  exact rd h h2.1 hd h2.2
theorem rI{id:Nat}{ops:Array Oper}{d:Bool}(h:∀ K:St->Prop,(∀ s,Q .normal s->K s)->opsL P ops ops.toList K σ)(ht:Gn P d ops=true:=by decide +kernel)(hd:fU N ops=true:=by decide):W P N n0 (.region id ops d) Q σ:=by
 cases d
 ·exact Ku h hd
 ·have h2:P.follows .mixedOrders=true/\zo ops=true:=by simpa [Gn] using ht
  exact rde h h2.1 hd h2.2
class Dv (rows:List (List AV)) (sz:outParam Nat):Prop where
 wid:∀ row∈rows,row.length=sz
 cC:∀ row∈rows,∀ v∈row,(∃ x,v=AV.lit x)\/∃ s r,v=AV.tree s r
instance (xs:List Int):Dv (ints xs) 1:=⟨vd _,xX _⟩
instance (xs:List Bool):Dv (a8 xs) 1:=⟨Jo _,Qg _⟩
instance (xs:List (List Int)):Dv (eW xs) 1:=⟨acI _,acH _⟩
instance {α:Type}{enc:α->List AV}{sz:Nat}[Row enc sz](xs:List α):Dv (rowsOf enc xs) sz:=⟨kI _,qB _⟩
theorem bT.fz{kp:Nat->Prop}{ρ:Nat->Nat}{id sz len:Nat}{rows:List (List AV)}[h:Dv rows sz](ho:σ.aa[id]?=some (.arr sz rows))(hl:len=rows.length)(sw:¬ kp id:=by first|exact qg (by decide)|decide):bT σ kp ρ true (.tree sz rows) (.ref id sz 0 len):=bT.cC ho h.wid hl sw h.cC
theorem aF.se(aj:List Nat)(snap:Bool){l:List (Nat×AV)}{co:List Ob}(ho:pd (bC σ.aa.length aj) σ.aa aj co)(h:sJ (bT σ (kept aj co) (bC σ.aa.length aj) snap) σ.env l)(bx:aj.Nodup:=by decide)(hn:n0<=aj.length:=by decide)(b9:∀ i,i<n0->aj.getD i 0=i:=by decide):aF n0 σ ⟨Am.ao l,co⟩:=aF.aj aj snap l co bx ho hn b9 h
theorem aeB(aj:List Nat)(snap:Bool){v res:AV}{ba:List Ob}(ho:pd (bC σ.aa.length aj) σ.aa aj ba)(h:bT σ (kept aj ba) (bC σ.aa.length aj) snap res v)(bx:aj.Nodup:=by decide)(hn:n0<=aj.length:=by decide)(b9:∀ i,i<n0->aj.getD i 0=i:=by decide):nD n0 σ v res ba:=u9 aj snap bx ho hn b9 h
end Go.Am
namespace Go.Am
def RR:fW []=.bu []:=rfl
def RS(a b:AV)(l:List AV):fW (a::b::l)=.bu (a::b::l):=rfl
end Go.Am
namespace Go.Am
variable {P:Program} {N n0:Nat} {σ:St}
inductive PF where
 |nil
 |take (i:Nat) (t:PF)
 |both (i:Nat) (t:PF) (j:Nat) (u:PF)
 |three (i:Nat) (t:PF) (j:Nat) (u:PF) (k:Nat) (v:PF)
 |four (i:Nat) (t:PF) (j:Nat) (u:PF) (k:Nat) (v:PF) (l:Nat) (w:PF)
def PF.ok(ops:Array Oper)(qs:List Nat):PF->Nat->Array Bool->Bool
 |.nil,n,aI=>n==0&&(Region.ready .any ops aI).isEmpty
 |.take _ _,0,_=>false
 |.take i t,n+1,aI=>Fi ops qs aI i (Je ops i)&&t.ok ops qs n (aI.setIfInBounds i true)
 |.both _ _ _ _,0,_=>false
 |.both i t j u,n+1,aI=>(Region.ready .any ops aI==[i,j])&&t.ok ops qs n (aI.setIfInBounds i true)&&u.ok ops qs n (aI.setIfInBounds j true)
 |.three _ _ _ _ _ _,0,_=>false
 |.three i t j u k v,n+1,aI=>(Region.ready .any ops aI==[i,j,k])&&t.ok ops qs n (aI.setIfInBounds i true)&&u.ok ops qs n (aI.setIfInBounds j true)&&v.ok ops qs n (aI.setIfInBounds k true)
 |.four _ _ _ _ _ _ _ _,0,_=>false
 |.four i t j u k v l w,n+1,aI=>(Region.ready .any ops aI==[i,j,k,l])&&t.ok ops qs n (aI.setIfInBounds i true)&&u.ok ops qs n (aI.setIfInBounds j true)&&v.ok ops qs n (aI.setIfInBounds k true)&&w.ok ops qs n (aI.setIfInBounds l true)
def jm(P:Program)(ops:Array Oper)(qs:List Nat):PF->(St->Prop)->St->Prop
 |.nil,K,σ=>K σ
 |.take i t,K,σ=>cj P ops qs i (jm P ops qs t K) σ
 |.both i t j u,K,σ=>cj P ops qs i (jm P ops qs t K) σ/\cj P ops qs j (jm P ops qs u K) σ
 |.three i t j u k v,K,σ=>cj P ops qs i (jm P ops qs t K) σ/\cj P ops qs j (jm P ops qs u K) σ/\cj P ops qs k (jm P ops qs v K) σ
 |.four i t j u k v l w,K,σ=>cj P ops qs i (jm P ops qs t K) σ/\cj P ops qs j (jm P ops qs u K) σ/\cj P ops qs k (jm P ops qs v K) σ/\cj P ops qs l (jm P ops qs w K) σ
def ur{ops:Array Oper}{qs:List Nat}{K:St->Prop}:∀ (t:PF) (n:Nat) (aI:Array Bool) (σ:St),t.ok ops qs n aI=true->jm P ops qs t K σ->uc P ops qs K n aI σ
 |.nil,n,aI,σ,h,hp=>by
  simp only[PF.ok,bg,beq_iff_eq,List.isEmpty_iff]at h;obtain⟨rfl,h⟩:=h;exact⟨h,hp⟩
 |.take _ _,0,_,_,h,_=>by simp[PF.ok]at h
 |.take i t,n+1,aI,σ,h,hp=>by
  simp only[PF.ok,bg]at h;exact P9 h.1 (mL (λs hs=>ur t n _ s h.2 hs) hp)
 |.both _ _ _ _,0,_,_,h,_=>by simp[PF.ok]at h
 |.both i t j u,n+1,aI,σ,h,hp=>by
  simp only[PF.ok,bg,beq_iff_eq]at h;obtain⟨⟨h1,h2⟩,h3⟩:=h;refine⟨λe=>by rw[h1]at e;simp at e,λk hk=>?_⟩;rw[h1]at hk;simp only[bm,iT,or_false]at hk;rcases hk with rfl|rfl
  ·exact mL (λs hs=>ur t n _ s h2 hs) hp.1
  ·exact mL (λs hs=>ur u n _ s h3 hs) hp.2
 |.three _ _ _ _ _ _,0,_,_,h,_=>by simp[PF.ok]at h
 |.three i t j u k v,n+1,aI,σ,h,hp=>by
  simp only[PF.ok,bg,beq_iff_eq]at h;obtain⟨⟨⟨h1,h2⟩,h3⟩,h4⟩:=h;refine⟨λe=>by rw[h1]at e;simp at e,λx hk=>?_⟩;rw[h1]at hk;simp only[bm,iT,or_false]at hk;rcases hk with rfl|rfl|rfl
  ·exact mL (λs hs=>ur t n _ s h2 hs) hp.1
  ·exact mL (λs hs=>ur u n _ s h3 hs) hp.2.1
  ·exact mL (λs hs=>ur v n _ s h4 hs) hp.2.2
 |.four _ _ _ _ _ _ _ _,0,_,_,h,_=>by simp[PF.ok]at h
 |.four i t j u k v l w,n+1,aI,σ,h,hp=>by
  simp only[PF.ok,bg,beq_iff_eq]at h;obtain⟨⟨⟨⟨h1,h2⟩,h3⟩,h4⟩,h5⟩:=h;refine⟨λe=>by rw[h1]at e;simp at e,λx hk=>?_⟩;rw[h1]at hk;simp only[bm,iT,or_false]at hk;rcases hk with rfl|rfl|rfl|rfl
  ·exact mL (λs hs=>ur t n _ s h2 hs) hp.1
  ·exact mL (λs hs=>ur u n _ s h3 hs) hp.2.1
  ·exact mL (λs hs=>ur v n _ s h4 hs) hp.2.2.1
  ·exact mL (λs hs=>ur w n _ s h5 hs) hp.2.2.2
def aeC{id:Nat}{ops:Array Oper}{Q:Exit->St->Prop}(qs:List Nat)(t:PF)(hm:P.follows .mixedOrders=true)(hd:fU N ops=true)(ht:t.ok ops qs ops.size (Array.replicate ops.size false)=true)(h:jm P ops qs t (Q .normal) σ):W P N n0 (.region id ops true) Q σ :=
 P8 qs hm hd (ur t _ _ σ ht h)
section
variable {ops:Array Oper} {qs:List Nat} {K:St->Prop} {i j k l:Nat} {t u v w:PF}
def s9:jm P ops qs .nil K σ=K σ:=rfl
def uu:jm P ops qs (.take i t) K σ=cj P ops qs i (jm P ops qs t K) σ:=rfl
def uv:jm P ops qs (.both i t j u) K σ=(cj P ops qs i (jm P ops qs t K) σ/\cj P ops qs j (jm P ops qs u K) σ):=rfl
def uw:jm P ops qs (.three i t j u k v) K σ=(cj P ops qs i (jm P ops qs t K) σ/\cj P ops qs j (jm P ops qs u K) σ/\cj P ops qs k (jm P ops qs v K) σ):=rfl
def ux:jm P ops qs (.four i t j u k v l w) K σ=(cj P ops qs i (jm P ops qs t K) σ/\cj P ops qs j (jm P ops qs u K) σ/\cj P ops qs k (jm P ops qs v K) σ/\cj P ops qs l (jm P ops qs w K) σ):=rfl
end
end Go.Am

