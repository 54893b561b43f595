import Derived.Test.YtodilglobhifaaaDoorX07
set_option linter.all false
set_option maxHeartbeats 0
set_option maxRecDepth 20000
open Bool renaming true_and→fH,false_and→uu
open List renaming range'→g8
namespace Go.Am
def xo(k:IntKind)(n:Int):cC (.int k n)=.lit (.int k n):=by first|rfl|(cases b<;>rfl)|(simp only[cC];done)|(unfold dh;split<;>simp_all)
def xp(b:Bool):cC (.bool b)=.lit (.bool b):=by first|rfl|(cases b<;>rfl)|(simp only[cC];done)|(unfold dh;split<;>simp_all)
def xq(a:Option Addr)(n c:Nat):cC (.slice a n c)=.lit (.slice a n c):=by first|rfl|(cases b<;>rfl)|(simp only[cC];done)|(unfold dh;split<;>simp_all)
def xr(s:ByteArray):cC (.string s)=.lit (.string s):=by first|rfl|(cases b<;>rfl)|(simp only[cC];done)|(unfold dh;split<;>simp_all)
def xu(s:Array Value):cC (.tuple s)=.lit (.tuple s):=by first|rfl|(cases b<;>rfl)|(simp only[cC];done)|(unfold dh;split<;>simp_all)
def Ek(ρ:Nat->Nat)(v:Value):aG ρ (.lit v)=.lit v:=by first|rfl|(cases b<;>rfl)|(simp only[cC];done)|(unfold dh;split<;>simp_all)
def El(ρ:Nat->Nat)(s:Nat)(r:List (List AV)):aG ρ (.tree s r)=.tree s r:=by first|rfl|(cases b<;>rfl)|(simp only[cC];done)|(unfold dh;split<;>simp_all)
def Em(ρ:Nat->Nat)(r:List AV):aG ρ (.bO r)=.bO r:=by first|rfl|(cases b<;>rfl)|(simp only[cC];done)|(unfold dh;split<;>simp_all)
def En(ρ:Nat->Nat):aG ρ .undef=.undef:=by first|rfl|(cases b<;>rfl)|(simp only[cC];done)|(unfold dh;split<;>simp_all)
def Eo(v:Value):cellsOf (.lit v)=[.lit v]:=by first|rfl|(cases b<;>rfl)|(simp only[cC];done)|(unfold dh;split<;>simp_all)
def Ep(s:Nat)(r:List (List AV)):cellsOf (.tree s r)=[.tree s r]:=by first|rfl|(cases b<;>rfl)|(simp only[cC];done)|(unfold dh;split<;>simp_all)
def Er(r:List AV):cellsOf (.bO r)=[.bO r]:=by first|rfl|(cases b<;>rfl)|(simp only[cC];done)|(unfold dh;split<;>simp_all)
def Es(a b c d:Nat):cellsOf (.ref a b c d)=[.ref a b c d]:=by first|rfl|(cases b<;>rfl)|(simp only[cC];done)|(unfold dh;split<;>simp_all)
def Et(a b c:Nat):cellsOf (.ptr a b c)=[.ptr a b c]:=by first|rfl|(cases b<;>rfl)|(simp only[cC];done)|(unfold dh;split<;>simp_all)
def Eu(id:Nat):cellsOf (.cJ id)=[.cJ id]:=rfl
def Ev(t:TypeId)(v:AV):cellsOf (.dW t v)=[.dW t v]:=rfl
def Ew(f:FuncId)(l:List AV):cellsOf (.fn f l)=[.fn f l]:=by first|rfl|(cases b<;>rfl)|(simp only[cC];done)|(unfold dh;split<;>simp_all)
def Ex(t:Bool)(s:Array Value)(b:AV):dh t (.lit (.tuple s)) b=if t=true then .lit (.tuple s) else b:=by first|rfl|(cases b<;>rfl)|(simp only[cC];done)|(unfold dh;split<;>simp_all)
def Ey(t:Bool)(s:Array Value)(b:AV):dh t b (.lit (.tuple s))=if t=true then b else .lit (.tuple s):=by first|rfl|(cases b<;>rfl)|(simp only[cC];done)|(unfold dh;split<;>simp_all)
def Ez(t:Bool)(s u:List AV):dh t (.agg s) (.agg u)=if t=true then .agg s else .agg u:=by first|rfl|(cases b<;>rfl)|(simp only[cC];done)|(unfold dh;split<;>simp_all)
def EA(l:List AV):bt (.agg l)=false:=by first|rfl|(cases b<;>rfl)|(simp only[cC];done)|(unfold dh;split<;>simp_all)
def EB(l:List AV):bt (.bA l)=false:=by first|rfl|(cases b<;>rfl)|(simp only[cC];done)|(unfold dh;split<;>simp_all)
def EC  : bt .undef=false:=by first|rfl|(cases b<;>rfl)|(simp only[cC];done)|(unfold dh;split<;>simp_all)
def ED(k:IntKind)(n:Int):Value.oneCell' (.int k n)=true:=by first|rfl|(cases b<;>rfl)|(simp only[cC];done)|(unfold dh;split<;>simp_all)
def EE(b:Bool):Value.oneCell' (.bool b)=true:=by first|rfl|(cases b<;>rfl)|(simp only[cC];done)|(unfold dh;split<;>simp_all)
def EF(a:Option Addr)(n c:Nat):Value.oneCell' (.slice a n c)=true:=by first|rfl|(cases b<;>rfl)|(simp only[cC];done)|(unfold dh;split<;>simp_all)
def EG(s:ByteArray):Value.oneCell' (.string s)=true:=by first|rfl|(cases b<;>rfl)|(simp only[cC];done)|(unfold dh;split<;>simp_all)
def EH(a:Option Addr):Value.oneCell' (.pointer a)=true:=by first|rfl|(cases b<;>rfl)|(simp only[cC];done)|(unfold dh;split<;>simp_all)
def EI(a:Option Nat):Value.oneCell' (.map a)=true:=by first|rfl|(cases b<;>rfl)|(simp only[cC];done)|(unfold dh;split<;>simp_all)
def Pc:=U4 @sT.eq_1 @sT.eq_2 @pJ.eq_1 @pJ.eq_2 @sU.eq_1 @sU.eq_2 @jO.eq_1 (U4 @jO.eq_2 @jO.eq_3 @Aq.eq_1 @Ar.eq_1 @dG.eq_1 @dG.eq_2 @dG.eq_3 (U4 @dG.eq_4 @dG.eq_5 @dG.eq_6 @dG.eq_7 @dG.eq_8 @dG.eq_9 @dG.eq_10 (U4 @dG.eq_11 @dG.eq_12 @dG.eq_13 @h9.eq_1 @dm.eq_1 @jO.eq_4 @EJ (UZ @EK @EL @EM))))
def Sc:=U4 @ev.eq_1 @ev.eq_2 @ev.eq_3 @ev.eq_4 @cC.eq_1 @St.put.eq_1 @St.put.eq_2 (U4 @nm.eq_1 @nm.eq_2 @nn.eq_1 @nn.eq_2 @dh.eq_1 @jP.eq_1 @jP.eq_2 (U4 @dv.eq_1 @dv.eq_2 @aG.eq_1 @aG.eq_2 @aG.eq_3 @aG.eq_4 @aG.eq_5 (U4 @aG.eq_6 @jQ.eq_1 @jQ.eq_2 @a9.eq_1 @rowOf.eq_1 @jq.eq_1 @jr.eq_1 (U4 @jr.eq_2 @kW.eq_1 @kW.eq_2 @cellsOf.eq_1 @setCells.eq_1 @setCells.eq_2 @ia.eq_1 (U4 @ia.eq_2 @ib.eq_1 @ib.eq_2 @bt.eq_1 @bt.eq_2 @bt.eq_3 @bt.eq_4 (U4 @bt.eq_5 @bt.eq_6 @Ty.isAgg.eq_1 @Value.oneCell'.eq_1 @Value.oneCell'.eq_2 @mr.eq_1 @ox.eq_1 (U4 @ox.eq_2 @aP.eq_1 @cf.eq_1 @cu.eq_1 @bV.eq_1 @uL.eq_1 @gy.eq_1 (U4 @au.eq_1 @jR.eq_1 @jR.eq_2 @xw @EN @As @EO (U4 @Au @EP @fH @uu @xo @xp @xq (U4 @xr @xu @Ek @El @Em @En @Eo (U4 @Ep @Er @Es @Et @Ew @Ex @Ey (U4 @Ez @EA @EB @EC @ED @EE @EF (U4 @EG @EH @EI @bt.eq_7 @Ev @ER @ES (U4 @ET @Av.eq_1 @jS.eq_1 @jS.eq_2 @aG.eq_7 @bt.eq_8 @Eu (U4 @EU @EV @EW @EX @EY @EZ @E0 (U0 @gJ.eq_1 @keyOf.eq_1 @keyOf.eq_2 @e8.eq_1))))))))))))))))
def Lc:=U4 @ev.eq_1 @ev.eq_2 @ev.eq_3 @ev.eq_4 @cC.eq_1 @St.put.eq_1 @St.put.eq_2 (U1 @xo @xp @xq @xr @xu)
def nj{P:Program}{N n0:Nat}(id:Nat){ops:Array Oper}{d:Bool}{y:Code}{Q:Exit->St->Prop}{σ:St}(h:W P N n0 (.seq (.region id ops d) y) Q σ):W P N n0 (.seq (.region id ops d) y) Q σ:=h
def nk{P:Program}{N n0:Nat}(id:Nat){ops:Array Oper}{d:Bool}{Q:Exit->St->Prop}{σ:St}(h:W P N n0 (.region id ops d) Q σ):W P N n0 (.region id ops d) Q σ:=h
end Go.Am
namespace Go.Am
variable {P:Program} {N n0:Nat} {σ:St}
section
variable {dst:Option Tmp} {tt:TypeId} {p:String} {af:Array Edge} {g:Option (Nat×Bool)} {K:St->Prop} {hh:Nat}
end
def Aw{P:Program}{N n0:Nat}{σ:St}{Q:Exit->St->Prop}(n:Nat){id:Nat}{ops:Array Oper}(hd:dQ N ops=true)(o:Oper)(ho:ops[n]?=some o)(h:∀ K:St->Prop,(∀ s,Q .normal s->K s)->opsL P ops (ops.toList.take n) (sV P o (opsL P ops (ops.toList.drop (n+1)) K)) σ):W P N n0 (.region id ops false) Q σ:=by
 intro os γ0 a w hn aT;refine wp_region ?_;have fK:n<ops.size:=(Array.getElem?_eq_some_iff.1 ho).1;have e:List.range ops.size=g8 0 (ops.toList.take n).length++(n::g8 (n+1) (ops.toList.drop (n+1)).length):=by
  rw[List.range_eq_range',<- List.range'_succ];have:=List.range'_append (s:=0) (m:=n) (n:=(ops.toList.drop (n+1)).length+1) (step:=1);simp only[Nat.zero_add,Nat.one_mul]at this;rw[show(ops.toList.take n).length=n by simp;omega,this];congr 1;simp;omega
 rw[e];refine pK _ a w ?_;refine ku (jt hd) (K:=sV P o (opsL P ops (ops.toList.drop (n+1)) (Q .normal))) (λσ' a' w' hk cK=>?_) (ops.toList.take n) 0 σ a w (λk hk=>?_) (h _ (λ_ h=>h)) aT
 ·show wpOps P ops _ _ a' w';rw[wpOps_cons];unfold wpOp;simp only[ho];have hw:Region.wanted o (yielded ops a'.tmps)=true:=by simp[Region.wanted,hk.1]
  rw[if_pos hw];left;refine E1 hk cK (jt hd o (List.mem_of_getElem? (by simpa using ho))) (λσ2 a2 w2 dH q6=>?_);refine ku (jt hd) (K:=Q .normal) (λoy a3 w3 fW oz=>⟨oy,fW,oz⟩) (ops.toList.drop (n+1)) (n+1) σ2 a2 w2 (λk hk=>?_) dH q6;rw[List.getElem?_drop];simp
 ·simp only[List.length_take,Array.length_toList]at hk;rw[List.getElem?_take_of_lt z8];simp
end Go.Am
namespace Go.Am
variable {P:Program} {N n0:Nat} {σ:St} {Q:Exit->St->Prop}
def q7:Exit->Bool
 |.normal=>true
 |_=>false
def uM(id:Nat):Exit->Bool
 |.normal=>true
 |.exit j=>j==id
 |_=>false
def E2{e:Exit}(h:q7 e=false):e≠.normal:=by intro h2;subst h2;simp[q7]at h
def E3{id:Nat}{e:Exit}(h:uM id e=false):e≠.normal/\e≠.exit id:=by
 constructor
 ·intro h2;subst h2;simp[uM]at h
 ·intro h2;subst h2;simp[uM]at h
theorem rk{id:Nat}{ops:Array Oper}{y:Code}(h:∀ K:St->Prop,(∀ s,W P N n0 y Q s->K s)->opsL P ops ops.toList K σ)(hd:dQ N ops=true:=by decide):W P N n0 (.seq (.region id ops false) y) Q σ:=E4 hd h
theorem MP{id:Nat}{ops:Array Oper}(h:∀ K:St->Prop,(∀ s,Q .normal s->K s)->opsL P ops ops.toList K σ)(hd:dQ N ops=true:=by decide):W P N n0 (.region id ops false) Q σ:=MQ hd h
theorem rd{id:Nat}{ops:Array Oper}{y:Code}(h:∀ K:St->Prop,(∀ s,W P N n0 y Q s->K s)->opsL P ops ops.toList K σ)(hm:P.follows .mixedOrders=true:=by rfl)(hd:dQ N ops=true:=by decide)(ht:q8 ops=true:=by decide +kernel):W P N n0 (.seq (.region id ops true) y) Q σ:=MR hm hd ht h
theorem MS{id:Nat}{ops:Array Oper}(h:∀ K:St->Prop,(∀ s,Q .normal s->K s)->opsL P ops ops.toList K σ)(hm:P.follows .mixedOrders=true:=by rfl)(hd:dQ N ops=true:=by decide)(ht:q8 ops=true:=by decide +kernel):W P N n0 (.region id ops true) Q σ:=MT hm hd ht h
theorem rb{id:Nat}{ops:Array Oper}{y:Code}(h:∀ K:St->Prop,(∀ s,W P N n0 y Q s->K s)->lM P ops ops.toList K σ)(hm:P.follows .mixedOrders=true:=by rfl)(hd:dQ N ops=true:=by decide)(ht:xy ops=true:=by decide +kernel):W P N n0 (.seq (.region id ops true) y) Q σ:=MU hm hd ht h
theorem uN{id:Nat}{ops:Array Oper}(h:∀ K:St->Prop,(∀ s,Q .normal s->K s)->lM P ops ops.toList K σ)(hm:P.follows .mixedOrders=true:=by rfl)(hd:dQ N ops=true:=by decide)(ht:xy ops=true:=by decide +kernel):W P N n0 (.region id ops true) Q σ:=MV hm hd ht h
theorem ra{id:Nat}{ops:Array Oper}{y:Code}(h:∀ K:St->Prop,(∀ s,W P N n0 y Q s->K s)->lN P ops ops.toList K σ)(hm:P.follows .mixedOrders=true:=by rfl)(hd:dQ N ops=true:=by decide)(ht:xz ops=true:=by decide +kernel):W P N n0 (.seq (.region id ops true) y) Q σ:=MW hm hd ht h
theorem uO{id:Nat}{ops:Array Oper}(h:∀ K:St->Prop,(∀ s,Q .normal s->K s)->lN P ops ops.toList K σ)(hm:P.follows .mixedOrders=true:=by rfl)(hd:dQ N ops=true:=by decide)(ht:xz ops=true:=by decide +kernel):W P N n0 (.region id ops true) Q σ:=MX hm hd ht h
def Wk{x y:Code}(h:∀ Q':Exit->St->Prop,(∀ s,W P N n0 y Q s->Q' .normal s)->(∀ e s,q7 e=false->Q e s->Q' e s)->W P N n0 x Q' σ):W P N n0 (.seq x y) Q σ :=
 MY λQ' h1 h2=>h Q' h1 λe s he=>h2 e s (E2 he)
def Wb{id:Nat}{c:Code}(h:∀ Q':Exit->St->Prop,(∀ s,Q .normal s->Q' .normal s)->(∀ s,Q .normal s->Q' (.exit id) s)->(∀ e s,uM id e=false->Q e s->Q' e s)->W P N n0 c Q' σ):W P N n0 (.block id c) Q σ :=
 MZ λQ' h1 h2 h3=>h Q' h1 h2 λe s he=>h3 e s (E3 he).1 (E3 he).2
theorem Wc{c:Operand}{x y:Code}{t:Bool}(ht:t=true->W P N n0 x Q σ)(hf:t=false->W P N n0 y Q σ)(hc:ev σ c=.lit (.bool t):=by(simp only[Go.Am.oA,Go.Am.Lc,↓reduceIte,Nat.reduceEqDiff,Nat.reduceBEq];exact rfl)):W P N n0 (.cond c x y) Q σ:=M0 hc ht hf
def bu{α:Type}{c:Code}(S:α->St)(I:α->Prop)(M:α->Nat)(x0:α)(hI:I x0)(h0:aR n0 σ (S x0))(round:∀ x,I x->∀ Q':Exit->St->Prop,(∀ s y,I y->M y<M x->aR n0 s (S y)->Q' .normal s)->(∀ e s,q7 e=false->Q e s->Q' e s)->W P N n0 c Q' (S x)):W P N n0 (.loop c) Q σ :=
 M1 S I M x0 hI h0 λx hx Q' h1 h2=>round x hx Q' h1 λe s he=>h2 e s (E2 he)
end Go.Am
namespace Go.Am
variable {P:Program} {N n0:Nat} {σ:St} {Q:Exit->St->Prop}
end Go.Am
namespace Go.Am
variable {P:Program} {N n0:Nat} {σ:St} {Q:Exit->St->Prop}
class Head (p:Prop):Prop where
 on:True
section
variable {ops:Array Oper} {o:Oper} {l:List Oper} {K:St->Prop}
instance:Head (opsL P ops (o::l) K σ):=⟨trivial⟩
instance {qs:List Nat}{t:PT}:Head (e9 P ops qs t K σ):=⟨trivial⟩
instance {qs:List Nat}{i:Nat}:Head (kX P ops qs i (o::l) K σ):=⟨trivial⟩
instance:Head (lN P ops (o::l) K σ):=⟨trivial⟩
instance:Head (lM P ops (o::l) K σ):=⟨trivial⟩
end
def gO{p:Prop}[Head p](h:p):p:=h
class xA (p:Prop) (b:outParam Bool) (A B:outParam Prop):Prop where
 sp:(b=true->A)->(b=false->B)->p
instance {o:Oper}{K:St->Prop}{b want:Bool}:xA (ju P o K b want σ) b (ju P o K true want σ) (ju P o K false want σ):=⟨M3⟩
instance {q:Bool}{o:Oper}{K:St->Prop}{b want:Bool}:xA (jT q P o K b want σ) b (jT q P o K true want σ) (jT q P o K false want σ):=⟨M4⟩
def gS{p:Prop}{b:Bool}{A B:Prop}[h:xA p b A B](h1:b=true->A)(h2:b=false->B):p:=h.sp h1 h2
def E5:Code->Option Exit
 |.skip=>some .normal
 |.label _=>some .normal
 |.exit id=>some (.exit id)
 |.ret=>some .ret
 |_=>none
def Wz{c:Code}{e:Exit}(hc:E5 c=some e)(h:Q e σ):W P N n0 c Q σ:=by
 cases c<;>simp[E5]at hc;all_goals subst hc
 all_goals first|exact M5 h|exact M6 h|exact M7 h|exact M8 h
def xB(P:Program)(d:Bool)(ops:Array Oper):Bool:=!d||(P.follows .mixedOrders&&q8 ops)
theorem rr{id:Nat}{ops:Array Oper}{d:Bool}{y:Code}(h:∀ K:St->Prop,(∀ s,W P N n0 y Q s->K s)->opsL P ops ops.toList K σ)(ht:xB P d ops=true:=by decide +kernel)(hd:dQ N ops=true:=by decide):W P N n0 (.seq (.region id ops d) y) Q σ:=by
 cases d
 ·exact rk h hd
 ·have h2:P.follows .mixedOrders=true/\q8 ops=true:=by simpa [xB] using ht
  exact rd h h2.1 hd h2.2
theorem np{id:Nat}{ops:Array Oper}{d:Bool}(h:∀ K:St->Prop,(∀ s,Q .normal s->K s)->opsL P ops ops.toList K σ)(ht:xB P d ops=true:=by decide +kernel)(hd:dQ N ops=true:=by decide):W P N n0 (.region id ops d) Q σ:=by
 cases d
 ·exact MP h hd
 ·have h2:P.follows .mixedOrders=true/\q8 ops=true:=by simpa [xB] using ht
  exact MS h h2.1 hd h2.2
class uP (rows:List (List AV)) (sz:outParam Nat):Prop where
 wid:∀ row∈rows,row.length=sz
 bp:∀ row∈rows,∀ v∈row,(∃ x,v=AV.lit x)\/∃ s r,v=AV.tree s r
instance (xs:List Int):uP (ints xs) 1:=⟨jv _,mu _⟩
instance (xs:List Bool):uP (bP xs) 1:=⟨M9 _,M' _⟩
instance (xs:List (List Int)):uP (aU xs) 1:=⟨Ax _,Na _⟩
instance {α:Type}{enc:α->List AV}{sz:Nat}[Row enc sz](xs:List α):uP (rowsOf enc xs) sz:=⟨pL _,xC _⟩
theorem bd.fz{kp:Nat->Prop}{ρ:Nat->Nat}{id sz len:Nat}{rows:List (List AV)}[h:uP rows sz](ho:σ.aa[id]?=some (.arr sz rows))(hl:len=rows.length)(lO:¬ kp id:=by first|exact oB (by decide)|decide):bd σ kp ρ true (.tree sz rows) (.ref id sz 0 len):=bd.bp ho h.wid hl lO h.bp
theorem aR.se(ab:List Nat)(snap:Bool){l:List (Nat×AV)}{co:List Ob}(ho:jU (a9 σ.aa.length ab) σ.aa ab co)(h:lP (bd σ (kept ab co) (a9 σ.aa.length ab) snap) σ.env l)(cm:ab.Nodup:=by decide)(hn:n0<=ab.length:=by decide)(bZ:∀ i,i<n0->ab.getD i 0=i:=by decide):aR n0 σ ⟨Am.ax l,co⟩:=aR.ab ab snap l co cm ho hn bZ h
theorem Nb(ab:List Nat)(snap:Bool){v res:AV}{aL:List Ob}(ho:jU (a9 σ.aa.length ab) σ.aa ab aL)(h:bd σ (kept ab aL) (a9 σ.aa.length ab) snap res v)(cm:ab.Nodup:=by decide)(hn:n0<=ab.length:=by decide)(bZ:∀ i,i<n0->ab.getD i 0=i:=by decide):jV n0 σ v res aL:=pM ab snap cm ho hn bZ h
end Go.Am
namespace Go.Am
def E6:ic []=.bA []:=rfl
def E7(a b:AV)(l:List AV):ic (a::b::l)=.bA (a::b::l):=rfl
end Go.Am
namespace Go.Am
variable {P:Program} {N n0:Nat} {σ:St}
inductive PF where
 |nil
 |take (i:Nat) (t:PF)
 |both (i:Nat) (t:PF) (j:Nat) (u:PF)
 |three (i:Nat) (t:PF) (j:Nat) (u:PF) (k:Nat) (v:PF)
 |four (i:Nat) (t:PF) (j:Nat) (u:PF) (k:Nat) (v:PF) (l:Nat) (w:PF)
def PF.ok(ops:Array Oper)(qs:List Nat):PF->Nat->Array Bool->Bool
 |.nil,n,listed=>n==0&&(Region.ready .any ops listed).isEmpty
 |.take _ _,0,_=>false
 |.take i t,n+1,listed=>xD ops qs listed i (E8 ops i)&&t.ok ops qs n (listed.setIfInBounds i true)
 |.both _ _ _ _,0,_=>false
 |.both i t j u,n+1,listed=>(Region.ready .any ops listed==[i,j])&&t.ok ops qs n (listed.setIfInBounds i true)&&u.ok ops qs n (listed.setIfInBounds j true)
 |.three _ _ _ _ _ _,0,_=>false
 |.three i t j u k v,n+1,listed=>(Region.ready .any ops listed==[i,j,k])&&t.ok ops qs n (listed.setIfInBounds i true)&&u.ok ops qs n (listed.setIfInBounds j true)&&v.ok ops qs n (listed.setIfInBounds k true)
 |.four _ _ _ _ _ _ _ _,0,_=>false
 |.four i t j u k v l w,n+1,listed=>(Region.ready .any ops listed==[i,j,k,l])&&t.ok ops qs n (listed.setIfInBounds i true)&&u.ok ops qs n (listed.setIfInBounds j true)&&v.ok ops qs n (listed.setIfInBounds k true)&&w.ok ops qs n (listed.setIfInBounds l true)
section
variable {ops:Array Oper} {qs:List Nat} {K:St->Prop} {i j k l:Nat} {t u v w:PF}
end
end Go.Am

