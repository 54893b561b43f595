import Derived.Test.YtodilglobhifaaaGreatDoorX07
set_option linter.all false
set_option maxHeartbeats 0
set_option maxRecDepth 20000
open Bool renaming true_and→eR,false_and→oU,and_eq_true→bb
open List renaming range'→jN,mem_cons→cI,not_mem_nil→lf
namespace Go.Am
def B1(k:IntKind)(n:Int):dD (.int k n)=.lit (.int k n):=by first|rfl|(cases b<;>rfl)|(simp only[dD];done)|(unfold eG;split<;>simp_all)
def B2(b:Bool):dD (.bool b)=.lit (.bool b):=by first|rfl|(cases b<;>rfl)|(simp only[dD];done)|(unfold eG;split<;>simp_all)
def B3(a:Option Addr)(n c:Nat):dD (.slice a n c)=.lit (.slice a n c):=by first|rfl|(cases b<;>rfl)|(simp only[dD];done)|(unfold eG;split<;>simp_all)
def B4(s:ByteArray):dD (.string s)=.lit (.string s):=by first|rfl|(cases b<;>rfl)|(simp only[dD];done)|(unfold eG;split<;>simp_all)
def B5(s:Array Value):dD (.tuple s)=.lit (.tuple s):=by first|rfl|(cases b<;>rfl)|(simp only[dD];done)|(unfold eG;split<;>simp_all)
def MH(ρ:Nat->Nat)(v:Value):aU ρ (.lit v)=.lit v:=by first|rfl|(cases b<;>rfl)|(simp only[dD];done)|(unfold eG;split<;>simp_all)
def MI(ρ:Nat->Nat)(s:Nat)(r:List (List AV)):aU ρ (.tree s r)=.tree s r:=by first|rfl|(cases b<;>rfl)|(simp only[dD];done)|(unfold eG;split<;>simp_all)
def MJ(ρ:Nat->Nat)(r:List AV):aU ρ (.bU r)=.bU r:=by first|rfl|(cases b<;>rfl)|(simp only[dD];done)|(unfold eG;split<;>simp_all)
def MK(ρ:Nat->Nat):aU ρ .undef=.undef:=by first|rfl|(cases b<;>rfl)|(simp only[dD];done)|(unfold eG;split<;>simp_all)
def ML(v:Value):cellsOf (.lit v)=[.lit v]:=by first|rfl|(cases b<;>rfl)|(simp only[dD];done)|(unfold eG;split<;>simp_all)
def MN(s:Nat)(r:List (List AV)):cellsOf (.tree s r)=[.tree s r]:=by first|rfl|(cases b<;>rfl)|(simp only[dD];done)|(unfold eG;split<;>simp_all)
def MO(r:List AV):cellsOf (.bU r)=[.bU r]:=by first|rfl|(cases b<;>rfl)|(simp only[dD];done)|(unfold eG;split<;>simp_all)
def MP(a b c d:Nat):cellsOf (.ref a b c d)=[.ref a b c d]:=by first|rfl|(cases b<;>rfl)|(simp only[dD];done)|(unfold eG;split<;>simp_all)
def MQ(a b c:Nat):cellsOf (.ptr a b c)=[.ptr a b c]:=by first|rfl|(cases b<;>rfl)|(simp only[dD];done)|(unfold eG;split<;>simp_all)
def MR(id:Nat):cellsOf (.dP id)=[.dP id]:=rfl
def MS(t:TypeId)(v:AV):cellsOf (.fI t v)=[.fI t v]:=rfl
def MT(f:FuncId)(l:List AV):cellsOf (.fn f l)=[.fn f l]:=by first|rfl|(cases b<;>rfl)|(simp only[dD];done)|(unfold eG;split<;>simp_all)
def MU(t:Bool)(s:Array Value)(b:AV):eG t (.lit (.tuple s)) b=if t=true then .lit (.tuple s) else b:=by first|rfl|(cases b<;>rfl)|(simp only[dD];done)|(unfold eG;split<;>simp_all)
def MV(t:Bool)(s:Array Value)(b:AV):eG t b (.lit (.tuple s))=if t=true then b else .lit (.tuple s):=by first|rfl|(cases b<;>rfl)|(simp only[dD];done)|(unfold eG;split<;>simp_all)
def MW(t:Bool)(s u:List AV):eG t (.agg s) (.agg u)=if t=true then .agg s else .agg u:=by first|rfl|(cases b<;>rfl)|(simp only[dD];done)|(unfold eG;split<;>simp_all)
def MX(l:List AV):ca (.agg l)=false:=by first|rfl|(cases b<;>rfl)|(simp only[dD];done)|(unfold eG;split<;>simp_all)
def MY(l:List AV):ca (.bH l)=false:=by first|rfl|(cases b<;>rfl)|(simp only[dD];done)|(unfold eG;split<;>simp_all)
def MZ  : ca .undef=false:=by first|rfl|(cases b<;>rfl)|(simp only[dD];done)|(unfold eG;split<;>simp_all)
def M0(k:IntKind)(n:Int):Value.oneCell' (.int k n)=true:=by first|rfl|(cases b<;>rfl)|(simp only[dD];done)|(unfold eG;split<;>simp_all)
def M1(b:Bool):Value.oneCell' (.bool b)=true:=by first|rfl|(cases b<;>rfl)|(simp only[dD];done)|(unfold eG;split<;>simp_all)
def M3(a:Option Addr)(n c:Nat):Value.oneCell' (.slice a n c)=true:=by first|rfl|(cases b<;>rfl)|(simp only[dD];done)|(unfold eG;split<;>simp_all)
def M4(s:ByteArray):Value.oneCell' (.string s)=true:=by first|rfl|(cases b<;>rfl)|(simp only[dD];done)|(unfold eG;split<;>simp_all)
def M5(a:Option Addr):Value.oneCell' (.pointer a)=true:=by first|rfl|(cases b<;>rfl)|(simp only[dD];done)|(unfold eG;split<;>simp_all)
def M6(a:Option Nat):Value.oneCell' (.map a)=true:=by first|rfl|(cases b<;>rfl)|(simp only[dD];done)|(unfold eG;split<;>simp_all)
def Pc:=aaK @xo.eq_1 @xo.eq_2 @ur.eq_1 @ur.eq_2 @xp.eq_1 @xp.eq_2 @mG.eq_1 (aaK @mG.eq_2 @mG.eq_3 @Fv.eq_1 @Fw.eq_1 @fe.eq_1 @fe.eq_2 @fe.eq_3 (aaK @fe.eq_4 @fe.eq_5 @fe.eq_6 @fe.eq_7 @fe.eq_8 @fe.eq_9 @fe.eq_10 (aaK @fe.eq_11 @fe.eq_12 @fe.eq_13 @kf.eq_1 @dO.eq_1 @mG.eq_4 @M7 (aaq @M8 @M9 @M'))))
def Sc:=aaK @ev.eq_1 @ev.eq_2 @ev.eq_3 @ev.eq_4 @dD.eq_1 @St.put.eq_1 @St.put.eq_2 (aaK @rm.eq_1 @rm.eq_2 @rn.eq_1 @rn.eq_2 @eG.eq_1 @mO.eq_1 @mO.eq_2 (aaK @eU.eq_1 @eU.eq_2 @aU.eq_1 @aU.eq_2 @aU.eq_3 @aU.eq_4 @aU.eq_5 (aaK @aU.eq_6 @mP.eq_1 @mP.eq_2 @bu.eq_1 @rowOf.eq_1 @lZ.eq_1 @l4.eq_1 (aaK @l4.eq_2 @n8.eq_1 @n8.eq_2 @cellsOf.eq_1 @setCells.eq_1 @setCells.eq_2 @kh.eq_1 (aaK @kh.eq_2 @ki.eq_1 @ki.eq_2 @ca.eq_1 @ca.eq_2 @ca.eq_3 @ca.eq_4 (aaK @ca.eq_5 @ca.eq_6 @Ty.isAgg.eq_1 @Value.oneCell'.eq_1 @Value.oneCell'.eq_2 @qa.eq_1 @sS.eq_1 (aaK @sS.eq_2 @aB.eq_1 @bG.eq_1 @bw.eq_1 @aO.eq_1 @kH.eq_1 @cN.eq_1 (aaK @av.eq_1 @mQ.eq_1 @mQ.eq_2 @B6 @Na @Fx @Nb (aaK @Fy @Nc @eR @oU @B1 @B2 @B3 (aaK @B4 @B5 @MH @MI @MJ @MK @ML (aaK @MN @MO @MP @MQ @MT @MU @MV (aaK @MW @MX @MY @MZ @M0 @M1 @M3 (aaK @M4 @M5 @M6 @ca.eq_7 @MS @Nf @Ng (aaK @Nh @Fz.eq_1 @mR.eq_1 @mR.eq_2 @aU.eq_7 @ca.eq_8 @MR (aaK @Ni @Nj @Nk @Nl @Nn @Np @Nq (aau @jQ.eq_1 @keyOf.eq_1 @keyOf.eq_2 @g9.eq_1))))))))))))))))
def Lc:=aaK @ev.eq_1 @ev.eq_2 @ev.eq_3 @ev.eq_4 @dD.eq_1 @St.put.eq_1 @St.put.eq_2 (aax @B1 @B2 @B3 @B4 @B5)
def gx{P:Program}{N n0:Nat}(id:Nat){ops:Array Oper}{d:Bool}{y:Code}{Q:Exit->St->Prop}{σ:St}(h:W P N n0 (.seq (.region id ops d) y) Q σ):W P N n0 (.seq (.region id ops d) y) Q σ:=h
def gy{P:Program}{N n0:Nat}(id:Nat){ops:Array Oper}{d:Bool}{Q:Exit->St->Prop}{σ:St}(h:W P N n0 (.region id ops d) Q σ):W P N n0 (.region id ops d) Q σ:=h
end Go.Am
namespace Go.Am
variable {P:Program} {N n0:Nat} {σ:St}
section
variable {dst:Option Tmp} {tt:TypeId} {p:String} {af:Array Edge} {g:Option (Nat×Bool)} {K:St->Prop} {hh:Nat}
end
def pe{P:Program}{N n0:Nat}{σ:St}{Q:Exit->St->Prop}(n:Nat){id:Nat}{ops:Array Oper}(hd:dY N ops=true)(o:Oper)(ho:ops[n]?=some o)(h:∀ K:St->Prop,(∀ s,Q .normal s->K s)->opsL P ops (ops.toList.take n) (xq P o (opsL P ops (ops.toList.drop (n+1)) K)) σ):W P N n0 (.region id ops false) Q σ:=by
 intro os γ0 a w hn az;refine wp_region ?_;have fR:n<ops.size:=(Array.getElem?_eq_some_iff.1 ho).1;have e:List.range ops.size=jN 0 (ops.toList.take n).length++(n::jN (n+1) (ops.toList.drop (n+1)).length):=by
  rw[List.range_eq_range',<- List.range'_succ];have:=List.range'_append (s:=0) (m:=n) (n:=(ops.toList.drop (n+1)).length+1) (step:=1);simp only[Nat.zero_add,Nat.one_mul]at this;rw[show(ops.toList.take n).length=n by simp;omega,this];congr 1;simp;omega
 rw[e];refine uu _ a w ?_;refine nC (kL hd) (K:=xq P o (opsL P ops (ops.toList.drop (n+1)) (Q .normal))) (λσ' a' w' hk cr=>?_) (ops.toList.take n) 0 σ a w (λk hk=>?_) (h _ (λ_ h=>h)) az
 ·show wpOps P ops _ _ a' w';rw[wpOps_cons];unfold wpOp;simp only[ho];have hw:Region.wanted o (yielded ops a'.tmps)=true:=by simp[Region.wanted,hk.1]
  rw[if_pos hw];left;refine Nr hk cr (kL hd o (List.mem_of_getElem? (by simpa using ho))) (λσ2 a2 w2 bd vA=>?_);refine nC (kL hd) (K:=Q .normal) (λsT a3 w3 iW sU=>⟨sT,iW,sU⟩) (ops.toList.drop (n+1)) (n+1) σ2 a2 w2 (λk hk=>?_) bd vA;rw[List.getElem?_drop];simp
 ·simp only[List.length_take,Array.length_toList]at hk;rw[List.getElem?_take_of_lt Bv];simp
end Go.Am
namespace Go.Am
variable {P:Program} {N n0:Nat} {σ:St} {Q:Exit->St->Prop}
def p6:Exit->Bool
 |.normal=>true
 |_=>false
def vy(id:Nat):Exit->Bool
 |.normal=>true
 |.exit j=>j==id
 |_=>false
def B7{e:Exit}(h:p6 e=false):e≠.normal:=by intro h2;subst h2;simp[p6]at h
def FA{id:Nat}{e:Exit}(h:vy id e=false):e≠.normal/\e≠.exit id:=by
 constructor
 ·intro h2;subst h2;simp[vy]at h
 ·intro h2;subst h2;simp[vy]at h
theorem rk{id:Nat}{ops:Array Oper}{y:Code}(h:∀ K:St->Prop,(∀ s,W P N n0 y Q s->K s)->opsL P ops ops.toList K σ)(hd:dY N ops=true:=by decide):W P N n0 (.seq (.region id ops false) y) Q σ:=Ns hd h
theorem Nt{id:Nat}{ops:Array Oper}(h:∀ K:St->Prop,(∀ s,Q .normal s->K s)->opsL P ops ops.toList K σ)(hd:dY N ops=true:=by decide):W P N n0 (.region id ops false) Q σ:=Wi hd h
theorem rd{id:Nat}{ops:Array Oper}{y:Code}(h:∀ K:St->Prop,(∀ s,W P N n0 y Q s->K s)->opsL P ops ops.toList K σ)(hm:P.follows .mixedOrders=true:=by rfl)(hd:dY N ops=true:=by decide)(ht:vB ops=true:=by decide +kernel):W P N n0 (.seq (.region id ops true) y) Q σ:=Wj hm hd ht h
theorem Wl{id:Nat}{ops:Array Oper}(h:∀ K:St->Prop,(∀ s,Q .normal s->K s)->opsL P ops ops.toList K σ)(hm:P.follows .mixedOrders=true:=by rfl)(hd:dY N ops=true:=by decide)(ht:vB ops=true:=by decide +kernel):W P N n0 (.region id ops true) Q σ:=Wm hm hd ht h
theorem rb{id:Nat}{ops:Array Oper}{y:Code}(h:∀ K:St->Prop,(∀ s,W P N n0 y Q s->K s)->pf P ops ops.toList K σ)(hm:P.follows .mixedOrders=true:=by rfl)(hd:dY N ops=true:=by decide)(ht:B8 ops=true:=by decide +kernel):W P N n0 (.seq (.region id ops true) y) Q σ:=Wn hm hd ht h
theorem zj{id:Nat}{ops:Array Oper}(h:∀ K:St->Prop,(∀ s,Q .normal s->K s)->pf P ops ops.toList K σ)(hm:P.follows .mixedOrders=true:=by rfl)(hd:dY N ops=true:=by decide)(ht:B8 ops=true:=by decide +kernel):W P N n0 (.region id ops true) Q σ:=Wo hm hd ht h
theorem ra{id:Nat}{ops:Array Oper}{y:Code}(h:∀ K:St->Prop,(∀ s,W P N n0 y Q s->K s)->pg P ops ops.toList K σ)(hm:P.follows .mixedOrders=true:=by rfl)(hd:dY N ops=true:=by decide)(ht:B9 ops=true:=by decide +kernel):W P N n0 (.seq (.region id ops true) y) Q σ:=Wp hm hd ht h
theorem zk{id:Nat}{ops:Array Oper}(h:∀ K:St->Prop,(∀ s,Q .normal s->K s)->pg P ops ops.toList K σ)(hm:P.follows .mixedOrders=true:=by rfl)(hd:dY N ops=true:=by decide)(ht:B9 ops=true:=by decide +kernel):W P N n0 (.region id ops true) Q σ:=Wq hm hd ht h
def Wk{x y:Code}(h:∀ Q':Exit->St->Prop,(∀ s,W P N n0 y Q s->Q' .normal s)->(∀ e s,p6 e=false->Q e s->Q' e s)->W P N n0 x Q' σ):W P N n0 (.seq x y) Q σ :=
 Wr λQ' h1 h2=>h Q' h1 λe s he=>h2 e s (B7 he)
def Wb{id:Nat}{c:Code}(h:∀ Q':Exit->St->Prop,(∀ s,Q .normal s->Q' .normal s)->(∀ s,Q .normal s->Q' (.exit id) s)->(∀ e s,vy id e=false->Q e s->Q' e s)->W P N n0 c Q' σ):W P N n0 (.block id c) Q σ :=
 Ws λQ' h1 h2 h3=>h Q' h1 h2 λe s he=>h3 e s (FA he).1 (FA he).2
theorem Wc{c:Operand}{x y:Code}{t:Bool}(ht:t=true->W P N n0 x Q σ)(hf:t=false->W P N n0 y Q σ)(hc:ev σ c=.lit (.bool t):=by(simp only[Go.Am.rh,Go.Am.Lc,↓reduceIte,Nat.reduceEqDiff,Nat.reduceBEq];exact rfl)):W P N n0 (.cond c x y) Q σ:=Wt hc ht hf
def aW{α:Type}{c:Code}(S:α->St)(I:α->Prop)(M:α->Nat)(x0:α)(hI:I x0)(h0:aC n0 σ (S x0))(round:∀ x,I x->∀ Q':Exit->St->Prop,(∀ s y,I y->M y<M x->aC n0 s (S y)->Q' .normal s)->(∀ e s,p6 e=false->Q e s->Q' e s)->W P N n0 c Q' (S x)):W P N n0 (.loop c) Q σ :=
 Wu S I M x0 hI h0 λx hx Q' h1 h2=>round x hx Q' h1 λe s he=>h2 e s (B7 he)
end Go.Am
namespace Go.Am
variable {P:Program} {N n0:Nat} {σ:St} {Q:Exit->St->Prop}
end Go.Am
namespace Go.Am
variable {P:Program} {N n0:Nat} {σ:St} {Q:Exit->St->Prop}
class Head (p:Prop):Prop where
 on:True
section
variable {ops:Array Oper} {o:Oper} {l:List Oper} {K:St->Prop}
instance:Head (opsL P ops (o::l) K σ):=⟨trivial⟩
instance {qs:List Nat}{t:PT}:Head (hJ P ops qs t K σ):=⟨trivial⟩
instance {qs:List Nat}{i:Nat}:Head (n9 P ops qs i (o::l) K σ):=⟨trivial⟩
instance:Head (pg P ops (o::l) K σ):=⟨trivial⟩
instance:Head (pf P ops (o::l) K σ):=⟨trivial⟩
end
def gO{p:Prop}[Head p](h:p):p:=h
class B' (p:Prop) (b:outParam Bool) (A B:outParam Prop):Prop where
 sp:(b=true->A)->(b=false->B)->p
instance {o:Oper}{K:St->Prop}{b want:Bool}:B' (l5 P o K b want σ) b (l5 P o K true want σ) (l5 P o K false want σ):=⟨Wv⟩
instance {q:Bool}{o:Oper}{K:St->Prop}{b want:Bool}:B' (mS q P o K b want σ) b (mS q P o K true want σ) (mS q P o K false want σ):=⟨Ww⟩
def gS{p:Prop}{b:Bool}{A B:Prop}[h:B' p b A B](h1:b=true->A)(h2:b=false->B):p:=h.sp h1 h2
def Ca:Code->Option Exit
 |.skip=>some .normal
 |.label _=>some .normal
 |.exit id=>some (.exit id)
 |.ret=>some .ret
 |_=>none
def Wz{c:Code}{e:Exit}(hc:Ca c=some e)(h:Q e σ):W P N n0 c Q σ:=by
 cases c<;>simp[Ca]at hc;all_goals subst hc
 all_goals first|exact Wx h|exact Wy h|exact WA h|exact WB h
def Cb(P:Program)(d:Bool)(ops:Array Oper):Bool:=!d||(P.follows .mixedOrders&&vB ops)
theorem rr{id:Nat}{ops:Array Oper}{d:Bool}{y:Code}(h:∀ K:St->Prop,(∀ s,W P N n0 y Q s->K s)->opsL P ops ops.toList K σ)(ht:Cb P d ops=true:=by decide +kernel)(hd:dY N ops=true:=by decide):W P N n0 (.seq (.region id ops d) y) Q σ:=by
 cases d
 ·exact rk h hd
 ·have h2:P.follows .mixedOrders=true/\vB ops=true:=by simpa [Cb] using ht
  exact rd h h2.1 hd h2.2
theorem rj{id:Nat}{ops:Array Oper}{d:Bool}(h:∀ K:St->Prop,(∀ s,Q .normal s->K s)->opsL P ops ops.toList K σ)(ht:Cb P d ops=true:=by decide +kernel)(hd:dY N ops=true:=by decide):W P N n0 (.region id ops d) Q σ:=by
 cases d
 ·exact Nt h hd
 ·have h2:P.follows .mixedOrders=true/\vB ops=true:=by simpa [Cb] using ht
  exact Wl h h2.1 hd h2.2
class zo (rows:List (List AV)) (sz:outParam Nat):Prop where
 wid:∀ row∈rows,row.length=sz
 bV:∀ row∈rows,∀ v∈row,(∃ x,v=AV.lit x)\/∃ s r,v=AV.tree s r
instance (xs:List Int):zo (ints xs) 1:=⟨lh _,o9 _⟩
instance (xs:List Bool):zo (b8 xs) 1:=⟨Nu _,WC _⟩
instance (xs:List (List Int)):zo (cV xs) 1:=⟨FB _,WE _⟩
instance {α:Type}{enc:α->List AV}{sz:Nat}[Row enc sz](xs:List α):zo (rowsOf enc xs) sz:=⟨nD _,sV _⟩
theorem bt.fz{kp:Nat->Prop}{ρ:Nat->Nat}{id sz len:Nat}{rows:List (List AV)}[h:zo rows sz](ho:σ.aa[id]?=some (.arr sz rows))(hl:len=rows.length)(ph:¬ kp id:=by first|exact nE (by decide)|decide):bt σ kp ρ true (.tree sz rows) (.ref id sz 0 len):=bt.bV ho h.wid hl ph h.bV
theorem aC.se(ae:List Nat)(snap:Bool){l:List (Nat×AV)}{co:List Ob}(ho:mJ (bu σ.aa.length ae) σ.aa ae co)(h:pd (bt σ (kept ae co) (bu σ.aa.length ae) snap) σ.env l)(cp:ae.Nodup:=by decide)(hn:n0<=ae.length:=by decide)(cO:∀ i,i<n0->ae.getD i 0=i:=by decide):aC n0 σ ⟨Am.ao l,co⟩:=aC.ae ae snap l co cp ho hn cO h
theorem V1(ae:List Nat)(snap:Bool){v res:AV}{aZ:List Ob}(ho:mJ (bu σ.aa.length ae) σ.aa ae aZ)(h:bt σ (kept ae aZ) (bu σ.aa.length ae) snap res v)(cp:ae.Nodup:=by decide)(hn:n0<=ae.length:=by decide)(cO:∀ i,i<n0->ae.getD i 0=i:=by decide):mK n0 σ v res aZ:=rp ae snap cp ho hn cO h
end Go.Am
namespace Go.Am
def MC:eM []=.bH []:=rfl
def MD(a b:AV)(l:List AV):eM (a::b::l)=.bH (a::b::l):=rfl
end Go.Am
namespace Go.Am
variable {P:Program} {N n0:Nat} {σ:St}
inductive PF where
 |nil
 |take (i:Nat) (t:PF)
 |both (i:Nat) (t:PF) (j:Nat) (u:PF)
 |three (i:Nat) (t:PF) (j:Nat) (u:PF) (k:Nat) (v:PF)
 |four (i:Nat) (t:PF) (j:Nat) (u:PF) (k:Nat) (v:PF) (l:Nat) (w:PF)
def PF.ok(ops:Array Oper)(qs:List Nat):PF->Nat->Array Bool->Bool
 |.nil,n,listed=>n==0&&(Region.ready .any ops listed).isEmpty
 |.take _ _,0,_=>false
 |.take i t,n+1,listed=>Cc ops qs listed i (Nv ops i)&&t.ok ops qs n (listed.setIfInBounds i true)
 |.both _ _ _ _,0,_=>false
 |.both i t j u,n+1,listed=>(Region.ready .any ops listed==[i,j])&&t.ok ops qs n (listed.setIfInBounds i true)&&u.ok ops qs n (listed.setIfInBounds j true)
 |.three _ _ _ _ _ _,0,_=>false
 |.three i t j u k v,n+1,listed=>(Region.ready .any ops listed==[i,j,k])&&t.ok ops qs n (listed.setIfInBounds i true)&&u.ok ops qs n (listed.setIfInBounds j true)&&v.ok ops qs n (listed.setIfInBounds k true)
 |.four _ _ _ _ _ _ _ _,0,_=>false
 |.four i t j u k v l w,n+1,listed=>(Region.ready .any ops listed==[i,j,k,l])&&t.ok ops qs n (listed.setIfInBounds i true)&&u.ok ops qs n (listed.setIfInBounds j true)&&v.ok ops qs n (listed.setIfInBounds k true)&&w.ok ops qs n (listed.setIfInBounds l true)
def gL(P:Program)(ops:Array Oper)(qs:List Nat):PF->(St->Prop)->St->Prop
 |.nil,K,σ=>K σ
 |.take i t,K,σ=>b9 P ops qs i (gL P ops qs t K) σ
 |.both i t j u,K,σ=>b9 P ops qs i (gL P ops qs t K) σ/\b9 P ops qs j (gL P ops qs u K) σ
 |.three i t j u k v,K,σ=>b9 P ops qs i (gL P ops qs t K) σ/\b9 P ops qs j (gL P ops qs u K) σ/\b9 P ops qs k (gL P ops qs v K) σ
 |.four i t j u k v l w,K,σ=>b9 P ops qs i (gL P ops qs t K) σ/\b9 P ops qs j (gL P ops qs u K) σ/\b9 P ops qs k (gL P ops qs v K) σ/\b9 P ops qs l (gL P ops qs w K) σ
def qb{ops:Array Oper}{qs:List Nat}{K:St->Prop}:∀ (t:PF) (n:Nat) (listed:Array Bool) (σ:St),t.ok ops qs n listed=true->gL P ops qs t K σ->qc P ops qs K n listed σ
 |.nil,n,listed,σ,h,hp=>by
  simp only[PF.ok,bb,beq_iff_eq,List.isEmpty_iff]at h;obtain⟨rfl,h⟩:=h;exact⟨h,hp⟩
 |.take _ _,0,_,_,h,_=>by simp[PF.ok]at h
 |.take i t,n+1,listed,σ,h,hp=>by
  simp only[PF.ok,bb]at h;exact Nw h.1 (kM (λs hs=>qb t n _ s h.2 hs) hp)
 |.both _ _ _ _,0,_,_,h,_=>by simp[PF.ok]at h
 |.both i t j u,n+1,listed,σ,h,hp=>by
  simp only[PF.ok,bb,beq_iff_eq]at h;obtain⟨⟨h1,h2⟩,h3⟩:=h;refine⟨λe=>by rw[h1]at e;simp at e,λk hk=>?_⟩;rw[h1]at hk;simp only[cI,lf,or_false]at hk;rcases hk with rfl|rfl
  ·exact kM (λs hs=>qb t n _ s h2 hs) hp.1
  ·exact kM (λs hs=>qb u n _ s h3 hs) hp.2
 |.three _ _ _ _ _ _,0,_,_,h,_=>by simp[PF.ok]at h
 |.three i t j u k v,n+1,listed,σ,h,hp=>by
  simp only[PF.ok,bb,beq_iff_eq]at h;obtain⟨⟨⟨h1,h2⟩,h3⟩,h4⟩:=h;refine⟨λe=>by rw[h1]at e;simp at e,λx hk=>?_⟩;rw[h1]at hk;simp only[cI,lf,or_false]at hk;rcases hk with rfl|rfl|rfl
  ·exact kM (λs hs=>qb t n _ s h2 hs) hp.1
  ·exact kM (λs hs=>qb u n _ s h3 hs) hp.2.1
  ·exact kM (λs hs=>qb v n _ s h4 hs) hp.2.2
 |.four _ _ _ _ _ _ _ _,0,_,_,h,_=>by simp[PF.ok]at h
 |.four i t j u k v l w,n+1,listed,σ,h,hp=>by
  simp only[PF.ok,bb,beq_iff_eq]at h;obtain⟨⟨⟨⟨h1,h2⟩,h3⟩,h4⟩,h5⟩:=h;refine⟨λe=>by rw[h1]at e;simp at e,λx hk=>?_⟩;rw[h1]at hk;simp only[cI,lf,or_false]at hk;rcases hk with rfl|rfl|rfl|rfl
  ·exact kM (λs hs=>qb t n _ s h2 hs) hp.1
  ·exact kM (λs hs=>qb u n _ s h3 hs) hp.2.1
  ·exact kM (λs hs=>qb v n _ s h4 hs) hp.2.2.1
  ·exact kM (λs hs=>qb w n _ s h5 hs) hp.2.2.2
def WG{id:Nat}{ops:Array Oper}{Q:Exit->St->Prop}(qs:List Nat)(t:PF)(hm:P.follows .mixedOrders=true)(hd:dY N ops=true)(ht:t.ok ops qs ops.size (Array.replicate ops.size false)=true)(h:gL P ops qs t (Q .normal) σ):W P N n0 (.region id ops true) Q σ :=
 Nx qs hm hd (qb t _ _ σ ht h)
section
variable {ops:Array Oper} {qs:List Nat} {K:St->Prop} {i j k l:Nat} {t u v w:PF}
def FC:gL P ops qs .nil K σ=K σ:=rfl
def Ny:gL P ops qs (.take i t) K σ=b9 P ops qs i (gL P ops qs t K) σ:=rfl
def Nz:gL P ops qs (.both i t j u) K σ=(b9 P ops qs i (gL P ops qs t K) σ/\b9 P ops qs j (gL P ops qs u K) σ):=rfl
def NA:gL P ops qs (.three i t j u k v) K σ=(b9 P ops qs i (gL P ops qs t K) σ/\b9 P ops qs j (gL P ops qs u K) σ/\b9 P ops qs k (gL P ops qs v K) σ):=rfl
def NC:gL P ops qs (.four i t j u k v l w) K σ=(b9 P ops qs i (gL P ops qs t K) σ/\b9 P ops qs j (gL P ops qs u K) σ/\b9 P ops qs k (gL P ops qs v K) σ/\b9 P ops qs l (gL P ops qs w K) σ):=rfl
end
end Go.Am

