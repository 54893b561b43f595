import Derived.Test.YtdipcmigdbnheaaGreatX05
import Derived.Laws.IdiomRangeMap
set_option linter.all false
set_option maxHeartbeats 0
set_option maxRecDepth 20000
open List renaming range→aN,range'→lU,range'_succ→ue,range'_append→ED,mem_of_getElem?→gf,getElem?_drop→mY,length_take→iL,getElem?_take_of_lt→EA,getElem?_eq_some_iff→aM,getElem?_set→bV,getD_eq_getElem?_getD→aA,getElem?_append_left→cd,getElem?_append_right→eu,length_set→bE
open Array renaming getElem?_eq_some_iff→nZ,length_toList→rK
open Nat renaming one_mul→pz,zero_add→eW,lt_of_lt_of_le→EJ,lt_irrefl→xq
open Option renaming some→cT
namespace Go.Am
variable {P:Program} {N n0:Nat} {σ:St} {Q:Exit->St->Prop}
def tx:Exit->Bool
 |.normal=>true
 |_=>false
def z'(id:Nat):Exit->Bool
 |.normal=>true
 |.exit j=>j==id
 |_=>false
def M'{e:Exit}(h:tx e=false):e≠.normal:=by intro h2;subst h2;simp[tx]at h
def Na{id:Nat}{e:Exit}(h:z' id e=false):e≠.normal/\e≠.exit id:=by
 constructor
 ·intro h2;subst h2;simp[z']at h
 ·intro h2;subst h2;simp[z']at h
theorem rk{id:Nat}{ops:Array Oper}{y:Code}(h:∀ K:St->Prop,(∀ s,W P N n0 y Q s->K s)->opsL P ops ops.toList K σ)(hd:fS N ops=true:=by decide):W P N n0 (.seq (.region id ops false) y) Q σ:=tk hd h
theorem YE{id:Nat}{ops:Array Oper}(h:∀ K:St->Prop,(∀ s,Q .normal s->K s)->opsL P ops ops.toList K σ)(hd:fS N ops=true:=by decide):W P N n0 (.region id ops false) Q σ:=Wp hd h
theorem rd{id:Nat}{ops:Array Oper}{y:Code}(h:∀ K:St->Prop,(∀ s,W P N n0 y Q s->K s)->opsL P ops ops.toList K σ)(hm:P.follows .mixedOrders=true:=by rfl)(hd:fS N ops=true:=by decide)(ht:vY ops=true:=by decide +kernel):W P N n0 (.seq (.region id ops true) y) Q σ:=Wq hm hd ht h
theorem YF{id:Nat}{ops:Array Oper}(h:∀ K:St->Prop,(∀ s,Q .normal s->K s)->opsL P ops ops.toList K σ)(hm:P.follows .mixedOrders=true:=by rfl)(hd:fS N ops=true:=by decide)(ht:vY ops=true:=by decide +kernel):W P N n0 (.region id ops true) Q σ:=Wr hm hd ht h
theorem rb{id:Nat}{ops:Array Oper}{y:Code}(h:∀ K:St->Prop,(∀ s,W P N n0 y Q s->K s)->pW P ops ops.toList K σ)(hm:P.follows .mixedOrders=true:=by rfl)(hd:fS N ops=true:=by decide)(ht:CE ops=true:=by decide +kernel):W P N n0 (.seq (.region id ops true) y) Q σ:=Yg hm hd ht h
theorem Aa{id:Nat}{ops:Array Oper}(h:∀ K:St->Prop,(∀ s,Q .normal s->K s)->pW P ops ops.toList K σ)(hm:P.follows .mixedOrders=true:=by rfl)(hd:fS N ops=true:=by decide)(ht:CE ops=true:=by decide +kernel):W P N n0 (.region id ops true) Q σ:=Yh hm hd ht h
theorem ra{id:Nat}{ops:Array Oper}{y:Code}(h:∀ K:St->Prop,(∀ s,W P N n0 y Q s->K s)->pV P ops ops.toList K σ)(hm:P.follows .mixedOrders=true:=by rfl)(hd:fS N ops=true:=by decide)(ht:CA ops=true:=by decide +kernel):W P N n0 (.seq (.region id ops true) y) Q σ:=Yd hm hd ht h
theorem Ab{id:Nat}{ops:Array Oper}(h:∀ K:St->Prop,(∀ s,Q .normal s->K s)->pV P ops ops.toList K σ)(hm:P.follows .mixedOrders=true:=by rfl)(hd:fS N ops=true:=by decide)(ht:CA ops=true:=by decide +kernel):W P N n0 (.region id ops true) Q σ:=Ye hm hd ht h
def Wk{x y:Code}(h:∀ Q':Exit->St->Prop,(∀ s,W P N n0 y Q s->Q' .normal s)->(∀ e s,tx e=false->Q e s->Q' e s)->W P N n0 x Q' σ):W P N n0 (.seq x y) Q σ :=
 WS λQ' h1 h2=>h Q' h1 λe s he=>h2 e s (M' he)
def Wb{id:Nat}{c:Code}(h:∀ Q':Exit->St->Prop,(∀ s,Q .normal s->Q' .normal s)->(∀ s,Q .normal s->Q' (.exit id) s)->(∀ e s,z' id e=false->Q e s->Q' e s)->W P N n0 c Q' σ):W P N n0 (.block id c) Q σ :=
 Wm λQ' h1 h2 h3=>h Q' h1 h2 λe s he=>h3 e s (Na he).1 (Na he).2
theorem Wc{c:Operand}{x y:Code}{t:Bool}(ht:t=true->W P N n0 x Q σ)(hf:t=false->W P N n0 y Q σ)(hc:ev σ c=.lit (.bool t):=by(simp only[Go.Am.l9,Go.Am.Lc,↓reduceIte,Nat.reduceEqDiff,Nat.reduceBEq];exact rfl)):W P N n0 (.cond c x y) Q σ:=zD hc ht hf
def aW{α:Type}{c:Code}(S:α->St)(I:α->Prop)(M:α->Nat)(x0:α)(hI:I x0)(h0:aB n0 σ (S x0))(round:∀ x,I x->∀ Q':Exit->St->Prop,(∀ s y,I y->M y<M x->aB n0 s (S y)->Q' .normal s)->(∀ e s,tx e=false->Q e s->Q' e s)->W P N n0 c Q' (S x)):W P N n0 (.loop c) Q σ :=
 We S I M x0 hI h0 λx hx Q' h1 h2=>round x hx Q' h1 λe s he=>h2 e s (M' he)
end Go.Am
namespace Go.Am
variable {P:Program} {N n0:Nat} {σ:St} {Q:Exit->St->Prop}
def YG{K0:St->Prop}(n m:Nat){ops:Array Oper}(hd:fS N ops=true)(o o2:Oper)(ho:ops[n]?=some o)(dF:ops[n+1+m]?=some o2){os:List Ob}{γ0:Cx}{a:Act}{w:World}{R:Exit->Act->World->Prop}(aR:gl N os γ0 σ a w)(CP:∀ σ' a' w',K0 σ'->gl N os γ0 σ' a' w'->R .normal a' w')(h:opsL P ops (ops.toList.take n) (sj P o (opsL P ops ((ops.toList.drop (n+1)).take m) (sj P o2 (opsL P ops (ops.toList.drop (n+1+m+1)) K0)))) σ):
  wpOps P ops R (aN ops.size) a w:=by
 have Fs:n+1+m<ops.size:=(nZ.1 dF).1;have e:aN ops.size=lU 0 (ops.toList.take n).length++(n::(lU (n+1) ((ops.toList.drop (n+1)).take m).length++((n+1+m)::lU (n+1+m+1) (ops.toList.drop (n+1+m+1)).length))):=by
  rw[List.range_eq_range',<- ue];have h1:((ops.toList.drop (n+1)).take m).length=m:=aaZ;have h2:(ops.toList.take n).length=n:=aaZ;have h3:(ops.toList.drop (n+1+m+1)).length=ops.size-(n+1+m+1):=Jd;rw[h1,h2,h3];have a1:=ED (s:=n+1) (m:=m) (n:=ops.size-(n+1+m+1)+1) (step:=1);simp only[pz]at a1;rw[a1,<- ue];have a2:=ED (s:=0) (m:=n) (n:=m+(ops.size-(n+1+m+1)+1)+1) (step:=1);simp only[eW,pz]at a2;rw[a2];congr 1;omega
 rw[e];refine v5 _ a w ?_;refine qG (pK hd) (K:=sj P o (opsL P ops ((ops.toList.drop (n+1)).take m) (sj P o2 (opsL P ops (ops.toList.drop (n+1+m+1)) K0)))) (λσ' a' w' hk eP=>?_) (ops.toList.take n) 0 σ a w (λk hk=>?_) h aR
 ·show wpOps P ops _ _ a' w';rw[wpOps_cons];unfold wpOp;simp only[ho];have hw:Region.wanted o (yielded ops a'.tmps)=true:=by simp[Region.wanted,hk.1]
  rw[if_pos hw];left;refine F3 hk eP (pK hd o (gf (by simpa using ho))) (λσ2 a2 w2 bK z7=>?_);refine v5 _ a2 w2 ?_;refine qG (pK hd) (K:=sj P o2 (opsL P ops (ops.toList.drop (n+1+m+1)) K0)) (λσ' a' w' hk eP=>?_) ((ops.toList.drop (n+1)).take m) (n+1) σ2 a2 w2 (λk hk=>?_) bK z7
  ·show wpOps P ops _ _ a' w';rw[wpOps_cons];unfold wpOp;simp only[dF];have hw:Region.wanted o2 (yielded ops a'.tmps)=true:=by simp[Region.wanted,hk.1]
   rw[if_pos hw];left;refine F3 hk eP (pK hd o2 (gf (by simpa using dF))) (λσ2 a2 w2 bK z7=>?_);refine qG (pK hd) (K:=K0) (λz8 a3 w3 kq qX=>CP z8 a3 w3 kq qX) (ops.toList.drop (n+1+m+1)) (n+1+m+1) σ2 a2 w2 (λk hk=>?_) bK z7;rw[mY];simp
  ·simp only[iL,List.length_drop,rK]at hk;rw[EA I6,mY];simp
 ·simp only[iL,rK]at hk;rw[EA I6];simp
def YH(n m:Nat){id:Nat}{ops:Array Oper}(hd:fS N ops=true)(o o2:Oper)(ho:ops[n]?=some o)(dF:ops[n+1+m]?=some o2)(h:∀ K:St->Prop,(∀ s,Q .normal s->K s)->opsL P ops (ops.toList.take n) (sj P o (opsL P ops ((ops.toList.drop (n+1)).take m) (sj P o2 (opsL P ops (ops.toList.drop (n+1+m+1)) K)))) σ):W P N n0 (.region id ops false) Q σ:=by
 intro os γ0 a w hn aR;refine wp_region ?_;exact YG n m hd o o2 ho dF aR (λz8 a3 w3 kq qX=>⟨z8,kq,qX⟩) (h _ (λ_ h=>h))
end Go.Am
namespace Go.Am
variable {P:Program} {N n0:Nat} {σ:St} {Q:Exit->St->Prop}
class Head (p:Prop):Prop where
 on:True
section
variable {ops:Array Oper} {o:Oper} {l:List Oper} {K:St->Prop}
instance:Head (opsL P ops (o::l) K σ):=⟨trivial⟩
instance {qs:List Nat}{t:PT}:Head (iP P ops qs t K σ):=⟨trivial⟩
instance {qs:List Nat}{i:Nat}:Head (oX P ops qs i (o::l) K σ):=⟨trivial⟩
instance:Head (pV P ops (o::l) K σ):=⟨trivial⟩
instance:Head (pW P ops (o::l) K σ):=⟨trivial⟩
end
def gO{p:Prop}[Head p](h:p):p:=h
class CQ (p:Prop) (b:outParam Bool) (A B:outParam Prop):Prop where
 sp:(b=true->A)->(b=false->B)->p
instance {o:Oper}{K:St->Prop}{b want:Bool}:CQ (mH P o K b want σ) b (mH P o K true want σ) (mH P o K false want σ):=⟨WT⟩
instance {q:Bool}{o:Oper}{K:St->Prop}{b want:Bool}:CQ (m8 q P o K b want σ) b (m8 q P o K true want σ) (m8 q P o K false want σ):=⟨Wa⟩
def gS{p:Prop}{b:Bool}{A B:Prop}[h:CQ p b A B](h1:b=true->A)(h2:b=false->B):p:=h.sp h1 h2
def Nb:Code->Option Exit
 |.skip=>some .normal
 |.label _=>some .normal
 |.exit id=>some (.exit id)
 |.ret=>some .ret
 |_=>none
def Wz{c:Code}{e:Exit}(hc:Nb c=some e)(h:Q e σ):W P N n0 c Q σ:=by
 cases c<;>simp[Nb]at hc;all_goals subst hc
 all_goals first|exact zC h|exact WO h|exact WQ h|exact WN h
def CR(P:Program)(d:Bool)(ops:Array Oper):Bool:=!d||(P.follows .mixedOrders&&vY ops)
theorem rr{id:Nat}{ops:Array Oper}{d:Bool}{y:Code}(h:∀ K:St->Prop,(∀ s,W P N n0 y Q s->K s)->opsL P ops ops.toList K σ)(ht:CR P d ops=true:=by decide +kernel)(hd:fS N ops=true:=by decide):W P N n0 (.seq (.region id ops d) y) Q σ:=by
 cases d
 ·exact rk h hd
 ·have h2:P.follows .mixedOrders=true/\vY ops=true:=by simpa [CR] using ht
  exact rd h h2.1 hd h2.2
theorem sr{id:Nat}{ops:Array Oper}{d:Bool}(h:∀ K:St->Prop,(∀ s,Q .normal s->K s)->opsL P ops ops.toList K σ)(ht:CR P d ops=true:=by decide +kernel)(hd:fS N ops=true:=by decide):W P N n0 (.region id ops d) Q σ:=by
 cases d
 ·exact YE h hd
 ·have h2:P.follows .mixedOrders=true/\vY ops=true:=by simpa [CR] using ht
  exact YF h h2.1 hd h2.2
class Ad (rows:List (List AV)) (sz:outParam Nat):Prop where
 wid:∀ row∈rows,row.length=sz
 bS:∀ row∈rows,∀ v∈row,(∃ x,v=AV.lit x)\/∃ s r,v=AV.tree s r
instance (xs:List Int):Ad (ints xs) 1:=⟨pO _,qD _⟩
instance (xs:List Bool):Ad (aY xs) 1:=⟨zt _,B1 _⟩
instance (xs:List (List Int)):Ad (fF xs) 1:=⟨JZ _,JY _⟩
instance {α:Type}{enc:α->List AV}{sz:Nat}[Row enc sz](xs:List α):Ad (rowsOf enc xs) sz:=⟨eF _,jh _⟩
theorem aE.fz{kp:Nat->Prop}{ρ:Nat->Nat}{id sz len:Nat}{rows:List (List AV)}[h:Ad rows sz](ho:σ.aa[id]?=some (.arr sz rows))(hl:len=rows.length)(pJ:¬ kp id:=by first|exact gG (by decide)|decide):aE σ kp ρ true (.tree sz rows) (.ref id sz 0 len):=aE.bS ho h.wid hl pJ h.bS
theorem aB.se(ak:List Nat)(snap:Bool){l:List (Nat×AV)}{co:List Ob}(ho:ng (bm σ.aa.length ak) σ.aa ak co)(h:pM (aE σ (kept ak co) (bm σ.aa.length ak) snap) σ.env l)(cu:ak.Nodup:=by decide)(hn:n0<=ak.length:=by decide)(cP:∀ i,i<n0->ak.getD i 0=i:=by decide):aB n0 σ ⟨Am.ax l,co⟩:=aB.ak ak snap l co cu ho hn cP h
theorem YI(ak:List Nat)(snap:Bool){v res:AV}{bg:List Ob}(ho:ng (bm σ.aa.length ak) σ.aa ak bg)(h:aE σ (kept ak bg) (bm σ.aa.length ak) snap res v)(cu:ak.Nodup:=by decide)(hn:n0<=ak.length:=by decide)(cP:∀ i,i<n0->ak.getD i 0=i:=by decide):mB n0 σ v res bg:=du ak snap cu ho hn cP h
end Go.Am
namespace Go.Am
def Nc:dK []=.bO []:=rfl
def Nf(a b:AV)(l:List AV):dK (a::b::l)=.bO (a::b::l):=rfl
end Go.Am
namespace Go.Am
variable {P:Program} {N n0:Nat} {σ:St}
inductive PF where
 |nil
 |take (i:Nat) (t:PF)
 |both (i:Nat) (t:PF) (j:Nat) (u:PF)
 |three (i:Nat) (t:PF) (j:Nat) (u:PF) (k:Nat) (v:PF)
 |four (i:Nat) (t:PF) (j:Nat) (u:PF) (k:Nat) (v:PF) (l:Nat) (w:PF)
def PF.ok(ops:Array Oper)(qs:List Nat):PF->Nat->Array Bool->Bool
 |.nil,n,aL=>n==0&&(Region.ready .any ops aL).isEmpty
 |.take _ _,0,_=>false
 |.take i t,n+1,aL=>BQ ops qs aL i (E4 ops i)&&t.ok ops qs n (aL.setIfInBounds i true)
 |.both _ _ _ _,0,_=>false
 |.both i t j u,n+1,aL=>(Region.ready .any ops aL==[i,j])&&t.ok ops qs n (aL.setIfInBounds i true)&&u.ok ops qs n (aL.setIfInBounds j true)
 |.three _ _ _ _ _ _,0,_=>false
 |.three i t j u k v,n+1,aL=>(Region.ready .any ops aL==[i,j,k])&&t.ok ops qs n (aL.setIfInBounds i true)&&u.ok ops qs n (aL.setIfInBounds j true)&&v.ok ops qs n (aL.setIfInBounds k true)
 |.four _ _ _ _ _ _ _ _,0,_=>false
 |.four i t j u k v l w,n+1,aL=>(Region.ready .any ops aL==[i,j,k,l])&&t.ok ops qs n (aL.setIfInBounds i true)&&u.ok ops qs n (aL.setIfInBounds j true)&&v.ok ops qs n (aL.setIfInBounds k true)&&w.ok ops qs n (aL.setIfInBounds l true)
def jk(P:Program)(ops:Array Oper)(qs:List Nat):PF->(St->Prop)->St->Prop
 |.nil,K,σ=>K σ
 |.take i t,K,σ=>cQ P ops qs i (jk P ops qs t K) σ
 |.both i t j u,K,σ=>cQ P ops qs i (jk P ops qs t K) σ/\cQ P ops qs j (jk P ops qs u K) σ
 |.three i t j u k v,K,σ=>cQ P ops qs i (jk P ops qs t K) σ/\cQ P ops qs j (jk P ops qs u K) σ/\cQ P ops qs k (jk P ops qs v K) σ
 |.four i t j u k v l w,K,σ=>cQ P ops qs i (jk P ops qs t K) σ/\cQ P ops qs j (jk P ops qs u K) σ/\cQ P ops qs k (jk P ops qs v K) σ/\cQ P ops qs l (jk P ops qs w K) σ
section
variable {ops:Array Oper} {qs:List Nat} {K:St->Prop} {i j k l:Nat} {t u v w:PF}
def Ng:jk P ops qs .nil K σ=K σ:=rfl
def Nh:jk P ops qs (.take i t) K σ=cQ P ops qs i (jk P ops qs t K) σ:=rfl
def Ni:jk P ops qs (.both i t j u) K σ=(cQ P ops qs i (jk P ops qs t K) σ/\cQ P ops qs j (jk P ops qs u K) σ):=rfl
def Nj:jk P ops qs (.three i t j u k v) K σ=(cQ P ops qs i (jk P ops qs t K) σ/\cQ P ops qs j (jk P ops qs u K) σ/\cQ P ops qs k (jk P ops qs v K) σ):=rfl
def Nk:jk P ops qs (.four i t j u k v l w) K σ=(cQ P ops qs i (jk P ops qs t K) σ/\cQ P ops qs j (jk P ops qs u K) σ/\cQ P ops qs k (jk P ops qs v K) σ/\cQ P ops qs l (jk P ops qs w K) σ):=rfl
end
def Fc:=abm @Ng @Nh @Ni @Nj @Nk
end Go.Am
namespace Go.Am
variable {P:Program} {N n0:Nat} {σ:St}
def Nl(dst:Option Tmp)(t:TypeId)(a:Operand)(tt:TypeId)(p:String)(af:Array Edge)(g:Option (Nat×Bool))(K:St->Prop):kJ true P ⟨dst,.load t a,tt,p,af,g⟩ σ K=qA P t dst K σ (ev σ a):=rfl
def Lq:=abe @Nl @qA.eq_1
def aB.oo(d id:Nat){cells:List AV}(ho:σ.aa[id]?=some (.var cells))(hd:σ.env d=.ptr id 0 0)(kh:∀ v∈cells,(∃ x,v=.lit x)\/∃ s r,v=.tree s r):aB n0 σ ⟨iv σ.env d (.cq cells),σ.aa.set id .gone⟩:=by
 intro os γ0 γ _ hs hf;have vQ:id<σ.aa.length:=(aM.1 ho).1
 let aD:Cx:={ γ with Z:=λb=>γ.Z b\/∃ o cap,γ.blk id=some (b,o,cap) }
 let dD:=σ.aa.set id .gone
 have fD:∀ i,dD[i]?=if i=id then some .gone else σ.aa[i]?:=by
  intro i;show(σ.aa.set id _)[i]?=_;rw[bV];by_cases h1:i=id
  ·subst h1;simp[vQ]
  ·simp[Ne.symm h1,h1]
 have hR:∀ v cv,az σ.aa γ.w γ.Z γ.blk v cv->az dD aD.w aD.Z aD.blk v cv:=λv cv hv =>
  hv.mono (λb hb=>⟨.inl hb,rfl⟩) (λi o hi=>by
   rw[fD];by_cases h1:i=id
   ·left;rw[if_pos h1]
   ·rw[if_neg h1];by_cases hg:o=.gone
    ·subst hg;exact .inl hi
    ·exact .inr ⟨rfl,o,hi,Ob.jz hg⟩)
 have cp:∀ i,Live dD i->Live σ.aa i/\i≠id:=by
  rintro i⟨o,hi,hg⟩;rw[fD]at hi;split at hi
  ·simp at hi;exact absurd hi.symm hg
  ·rename_i h2;exact⟨⟨o,hi,hg⟩,h2⟩
 have m7:Live σ.aa id:=⟨_,ho,Jd⟩;obtain⟨b,cap,cur,t,h1,h2,h3,h4⟩:=hs.ei _ _ ho;have rV:=hs.ax d;rw[hd]at rV;have jd:az dD aD.w aD.Z aD.blk (.cq cells) (γ.tmps.getD d Go.undef):=by
  generalize γ.tmps.getD d Go.undef=cv at rV;cases rV with
  |bS _ _ h=>cases h
  |lC _ _ _ _ h=>rw[ho]at h;simp at h
  |l4 _ _ b2 aeK aeL h hb =>
   rw[h1]at hb;simp only[cT.injEq,Prod.mk.injEq]at hb;obtain⟨rfl,_,_⟩:=hb;refine .cq cells b 0 (λj=>cur.getD j Go.undef) (.inr ⟨0,cap,h1⟩) (λj x hx=>?_) (λj x hx=>?_)
   ·rw[eW];exact xJ h2 (by rw[h3];exact(aM.1 hx).1)
   ·have dE:b9 σ (λy=>y≠id) x x:=by
     rcases kh x (gf hx) with⟨v,rfl⟩|⟨s,r,rfl⟩
     ·exact .lit v
     ·exact .tree s r
    exact dE.zj hs (γc:=aD) (λb hb=>.inl hb) rfl (λx b o cap cP _ hb=>.inr ⟨o,cap,by rw[show id=x by simpa using(Decidable.not_not.1 cP).symm];exact hb⟩) _ (h4 j x hx)
  |mG _ _ _ _ _ _ _ _ h=>rw[ho]at h;simp at h
 refine⟨aD,rfl,rfl,⟨λk=>?_,?_,λi j b o c o' c' hi hj=>hs.inj i j b o c o' c' (cp i hi).1 (cp j hj).1,?_,?_⟩,?_⟩
 ·show az dD aD.w aD.Z aD.blk (iv σ.env d (.cq cells) k) (γ.tmps.getD k Go.undef);simp only[iv];split
  ·rename_i e;subst e;exact jd
  ·exact hR _ _ (hs.ax k)
 ·intro i o hi;have hi':dD[i]?=some o:=hi;rw[fD]at hi';split at hi'
  ·simp only[cT.injEq]at hi';subst hi';trivial
  ·by_cases hg:o=.gone
   ·subst hg;trivial
   ·exact(hs.ei i o hi').mono hR rfl (λ_ _ _ _=>rfl)
 ·rintro b ⟨i,o,c',hi,hb⟩ (hz|⟨o',cap,cX⟩)
  ·exact hs.nz b ⟨i,o,c',(cp i hi).1,hb⟩ hz
  ·exact(cp i hi).2 (hs.inj i id b o c' o' cap (cp i hi).1 m7 hb cX)
 ·rintro b (hz|⟨o,cap,hb⟩)
  ·exact hs.gD b hz
  ·exact hs.blt m7 hb
 ·refine⟨hf.lB,hf.tape,hf.output,hf.size,hf.aw,λb hb=>.inl (hf.z0 b hb),?_,?_,by show os.length<=dD.length;simp[dD];exact hf.len,?_⟩
  ·rintro b (hz|⟨o,cap,hb⟩)
   ·exact hf.z1 b hz
   ·exact .inr (hf.own b ⟨id,o,cap,m7,hb⟩)
  ·rintro b ⟨i,o,c',hi,hb⟩;exact hf.own b ⟨i,o,c',(cp i hi).1,hb⟩
  ·intro i hi hl;obtain⟨h1,x,x',hx,cZ,hk⟩:=hf.ki i hi (cp i hl).1;have g6:Live dD i:=hl;obtain⟨o,dF,pG⟩:=g6;refine⟨h1,x,o,hx,dF,?_⟩;rw[fD]at dF;split at dF
   ·simp at dF;exact absurd dF.symm pG
   ·rw[cZ]at dF;simp only[cT.injEq]at dF;subst dF;exact hk
end Go.Am
namespace Go.Am
variable {P:Program} {N n0:Nat} {σ:St}
inductive Gh where
 |map (ix:List (Value×Value))
 |iter (mb since:Nat) (seen:List Nat)
def Gh.At(w:World)(b:Nat):Gh->Prop
 |.map ix=>w.heap[b]?=some (.map (fI ix) ix.length)
 |.iter mb since seen=>w.heap[b]?=some (.mapIter (some mb) since seen.toArray since)
def Gh.At.heap{w w':World}{b:Nat}{g:Gh}(h:g.At w b)(e:w'.heap[b]?=w.heap[b]?):g.At w' b:=by
 cases g<;>exact e.trans h
def Gh.At.lt{w:World}{b:Nat}{g:Gh}(h:g.At w b):b<w.heap.size:=by
 cases g<;>exact(nZ.1 h).1
abbrev Mem:=Nat->Option Gh
def nF(μ:Mem)(b:Nat)(g:Gh):Mem:=λk=>if k=b then some g else μ k
def CS(μ:Mem)(b:Nat)(g:Gh):nF μ b g b=some g:=by simp[nF]
def uR(μ:Mem){b c:Nat}(g:Gh)(h:c≠b):nF μ b g c=μ c:=by simp[nF,h]
def Ae:Mem:=λ_=>none
structure pY(μ:Mem)(os:List Ob)(γ0 γ:Cx):Prop where
 gh:∀ b g,μ b=some g->g.At γ.w b
 fresh:∀ b g,μ b=some g->γ0.w.heap.size<=b
 CT:∀ b g,μ b=some g->¬ γ.Z b
 yd:∀ b g,μ b=some g->¬ nt os γ.blk b
def pY.nil(os:List Ob)(γ0 γ:Cx):pY Ae os γ0 γ:=⟨by simp[Ae],by simp[Ae],by simp[Ae],by simp[Ae]⟩
def pY.aw{μ:Mem}{os os':List Ob}{γ0 γ aD:Cx}(h:pY μ os γ0 γ)(hf:Fr os γ os' aD):pY μ os' γ0 aD :=
 ⟨λb g hp=>(h.gh b g hp).heap (hf.aw _ (h.gh b g hp).lt (h.yd b g hp)),h.fresh,λb g hp hz=>by
  rcases hf.z1 _ hz with h1|h1|h1
  ·exact h.CT b g hp h1
  ·exact h.yd b g hp h1
  ·have:=(h.gh b g hp).lt;omega,λb g hp ho=>by
  rcases hf.own _ ho with h1|h1
  ·exact h.yd b g hp h1
  ·have:=(h.gh b g hp).lt;omega⟩
def pY.le{μ Nn:Mem}{os:List Ob}{γ0 γ:Cx}(h:pY μ os γ0 γ)(hl:∀ b g,Nn b=some g->μ b=some g):pY Nn os γ0 γ :=
 ⟨λb g hp=>h.gh b g (hl b g hp),λb g hp=>h.fresh b g (hl b g hp),λb g hp=>h.CT b g (hl b g hp),λb g hp=>h.yd b g (hl b g hp)⟩
def tz(N:Nat)(os:List Ob)(γ0:Cx)(σ:St)(μ:Mem)(a:Act)(w:World):Prop :=
 a.defers=[]/\a.tmps.size=N/\∃ γ,γ.w=w/\γ.tmps=a.tmps/\bk σ γ/\Fr os γ0 σ.aa γ/\pY μ σ.aa γ0 γ
variable {Q:Exit->St->Mem->Prop} {μ:Mem}
def ye(n0:Nat)(σ σ':St):Prop:=∀ (os:List Ob) (γ0 γ:Cx),os.length=n0->bk σ γ->Fr os γ0 σ.aa γ ->
 ∃ aD,aD.w=γ.w/\aD.tmps=γ.tmps/\bk σ' aD/\Fr os γ0 σ'.aa aD/\(∀ b,aD.Z b->γ.Z b\/nt σ.aa γ.blk b)/\∀ b,nt σ'.aa aD.blk b->nt σ.aa γ.blk b
def ye.ax(l:List (Nat×AV))(os:List Ob)(ho:σ.aa=os)(h:Has σ.env l):ye n0 σ ⟨ax l,os⟩:=by
 subst ho;intro os γ0 γ _ hs hf;refine⟨γ,rfl,rfl,⟨λk=>?_,hs.ei,hs.inj,hs.nz,hs.gD⟩,hf,λ_ h=>.inl h,λ_ h=>h⟩;rcases BS l k with h'|⟨p,hp,rfl,h'⟩
 ·show az _ _ _ _ (Am.ax l k) _;rw[h'];exact .undef _
 ·show az _ _ _ _ (Am.ax l p.1) _;rw[h',<- h.mem p hp];exact hs.ax p.1
theorem ye.se(ak:List Nat)(snap:Bool){l:List (Nat×AV)}{co:List Ob}(ho:ng (bm σ.aa.length ak) σ.aa ak co)(h:pM (aE σ (kept ak co) (bm σ.aa.length ak) snap) σ.env l)(cu:ak.Nodup:=by decide)(hn:n0<=ak.length:=by decide)(cP:∀ i,i<n0->ak.getD i 0=i:=by decide):ye n0 σ ⟨Am.ax l,co⟩:=by
 intro os γ0 γ tj hs hf;obtain⟨h1,h2,h3⟩:=ho.spec;obtain⟨aD,a1,a2,a3,a4⟩:=hs.select ak snap co cu h1 h2 h3 (Am.ax l) γ.tmps (fun k=>by
  rcases BS l k with h'|⟨p,hp,rfl,h'⟩
  ·exact .inl h'
  ·right;rw[h'];exact⟨_,h.mem p hp,hs.ax p.1⟩)
 obtain⟨b1,b2,b3,b4⟩:=a4;refine⟨aD,a1,a2,a3,hf.select (by omega) h1 (fun i hi=>cP i (by omega)) a1 ⟨b1,b2,b3,b4⟩,b3,?_⟩;rintro b⟨i,o,c,hi,hb⟩;have bq:=hi.lt;rw[b1 i bq]at hb;exact⟨_,o,c,(b4 i hi).1,hb⟩
end Go.Am
namespace Go.Am
variable {P:Program} {N n0:Nat} {σ:St}
def iE(L:List (Int×Value)):List (Value×Value):=L.map λp=>(.int .i64 p.1,p.2)
def ss(x:Int)(v:Value):List (Int×Value)->List (Int×Value)
 |[]=>[(x,v)]
 |p::r=>if p.1=x then(x,v)::r else p::ss x v r
def Np(x:Int):List (Int×Value)->Option Value
 |[]=>none
 |p::r=>if p.1=x then some p.2 else Np x r
def run_checkKey{kt:TypeId}(hk:P.underlying kt=some (.int .i64))(e:Bool)(x:Int)(w:World):(Instr.checkKey e 10000 kt (.int .i64 x)).run P w=.ok () w:=by
 have h:∀ d:Nat,(Instr.checkKey e (d+1) kt (.int .i64 x)).run P w=.ok () w:=λd=>by simp[Instr.checkKey,run_underlying hk]
 exact h 9999
end Go.Am
namespace Go.Am
variable {P:Program} {N n0:Nat} {σ:St}
def bk.Af{γ:Cx}(h:bk σ γ){w':World}{b:Nat}(hz:¬ γ.Z b)(ho:¬ nt σ.aa γ.blk b)(hk:∀ k,k≠b->k<γ.w.heap.size->w'.heap[k]?=γ.w.heap[k]?)(a6:γ.w.heap.size<=w'.heap.size):bk σ { γ with w:=w' }:=by
 have hR:∀ v cv,az σ.aa γ.w γ.Z γ.blk v cv->az σ.aa w' γ.Z γ.blk v cv:=λv cv hv =>
  hv.mono (λk Gi=>⟨Gi,hk k (λe=>hz (e▸Gi)) (h.gD k Gi)⟩) (λi x hx=>by
   by_cases cK:x=.gone
   ·subst cK;exact .inl hx
   ·exact .inr ⟨rfl,x,hx,Ob.jz cK⟩)
 refine⟨λk=>hR _ _ (h.ax k),λi o hi=>?_,h.inj,h.nz,λk aJ=>EJ (h.gD k aJ) a6⟩;by_cases cK:o=.gone
 ·subst cK;trivial
 ·exact(h.ei i o hi).mono hR rfl (λk x c hb=>hk k (λe=>ho ⟨i,x,c,⟨o,hi,cK⟩,e▸hb⟩) (h.blt ⟨o,hi,cK⟩ hb))
def Fr.Af{os:List Ob}{γ0 γ:Cx}(h:Fr os γ0 σ.aa γ){w':World}{b:Nat}(hb:γ0.w.heap.size<=b)(hk:∀ k,k≠b->k<γ.w.heap.size->w'.heap[k]?=γ.w.heap[k]?)(a6:γ.w.heap.size<=w'.heap.size)(h1:w'.os=γ.w.os)(h2:w'.tape=γ.w.tape)(h3:w'.output=γ.w.output):Fr os γ0 σ.aa { γ with w:=w' } :=
 ⟨h1.trans h.lB,h2.trans h.tape,h3.trans h.output,Nat.le_trans h.size a6,λk aJ ho=>(hk k I6 (EJ aJ h.size)).trans (h.aw k aJ ho),h.z0,h.z1,h.own,h.len,h.ki⟩
def pY.Af{μ:Mem}{os:List Ob}{γ0 γ:Cx}(h:pY μ os γ0 γ){w':World}{b:Nat}{g:Gh}(hz:¬ γ.Z b)(ho:¬ nt os γ.blk b)(hb:γ0.w.heap.size<=b)(hk:∀ k,k≠b->k<γ.w.heap.size->w'.heap[k]?=γ.w.heap[k]?)(hg:g.At w' b):pY (nF μ b g) os γ0 { γ with w:=w' }:=by
 have one:∀ k g',nF μ b g k=some g'->(k=b/\g'=g)\/(k≠b/\μ k=some g'):=λk g' h'=>by
  by_cases e:k=b
  ·subst e;rw[CS]at h';exact .inl ⟨rfl,by simpa using h'.symm⟩
  ·rw[uR μ g e]at h';exact .inr ⟨e,h'⟩
 refine⟨λk g' h'=>?_,λk g' h'=>?_,λk g' h'=>?_,λk g' h'=>?_⟩<;>rcases one k g' h' with⟨rfl,rfl⟩|⟨e,h2⟩
 ·exact hg
 ·exact(h.gh k g' h2).heap (hk k e (h.gh k g' h2).lt)
 ·exact hb
 ·exact h.fresh k g' h2
 ·exact hz
 ·exact h.CT k g' h2
 ·exact ho
 ·exact h.yd k g' h2
variable {μ:Mem}
def YJ(P:Program)(t:TypeId):Prop:=∃ kt et,P.underlying t=some (.map kt et)/\P.underlying kt=some (.int .i64)
def Gj(P:Program)(t:TypeId):Prop:=∃ kt et,P.underlying t=some (.map kt et)
def YK(P:Program)(t:TypeId)(z:Value):Prop:=∃ kt et,P.underlying t=some (.map kt et)/\P.underlying kt=some (.int .i64)/\∀ w:World,(zeroValue et).run P w=.ok z w
def YL(P:Program)(o:Oper)(op:BinOp)(t:TypeId)(x y:AV)(σ:St)(μ:Mem)(K:St->Mem->Prop):Prop :=
 match x with
 |.lit (.map a)=>Gj P t/\y=.lit (.map none)/\match op with|.eql=>K (σ.put o.dst (.lit (.bool a.isNone))) μ|.neq=>K (σ.put o.dst (.lit (.bool (!a.isNone)))) μ|_=>False
 |_=>a8 P o σ λs=>K s μ
def YM(P:Program)(o:Oper)(args:List AV)(eY:List TypeId)(σ:St)(μ:Mem)(K:St->Mem->Prop):Prop :=
 match args with
 |[.lit (.map (some b))]=>∃ t ix,eY=[t]/\Gj P t/\μ b=some (.map ix)/\K (σ.put o.dst (aa3 (ix.length:Nat))) μ
 |_=>a8 P o σ λs=>K s μ
def Nq(P:Program)(o:Oper)(σ:St)(μ:Mem)(K:St->Mem->Prop):Prop :=
 match o.op with
 |.makeMap _ none=>∀ b,μ b=none->K (σ.put o.dst (.lit (.map (some b)))) (nF μ b (.map []))
 |.lookup t x i false=>∃ n z,ev σ i=aa3 n/\YK P t z /\
   ((ev σ x=.lit (.map none)/\K (σ.put o.dst (.lit z)) μ)\/∃ b L,ev σ x=.lit (.map (some b))/\μ b=some (.map (iE L))/\K (σ.put o.dst (.lit ((Np n L).getD z))) μ)
 |.mapUpdate t m k x=>∃ b n L v,YJ P t/\ev σ m=.lit (.map (some b))/\ev σ k=aa3 n/\ev σ x=.lit v/\μ b=some (.map (iE L))/\K (σ.put o.dst .undef) (nF μ b (.map (iE (ss n v L))))
 |.range t x=>∃ b ix,Gj P t/\ev σ x=.lit (.map (some b))/\μ b=some (.map ix)/\∀ r,μ r=none->K (σ.put o.dst (.lit (.pointer (some ⟨r,0,none⟩)))) (nF μ r (.iter b ix.length []))
 |.next x false=>∃ r b seen ix,ev σ x=.lit (.pointer (some ⟨r,0,none⟩))/\μ r=some (.iter b ix.length seen)/\μ b=some (.map ix) /\
   ((∀ j<ix.length,j∈seen)->K (σ.put o.dst (.bO [.lit (.bool false)])) μ) /\
   ∀ j p,ix[j]?=some p->j ∉ seen->K (σ.put o.dst (.bO [.lit (.bool true),.lit p.1,.lit p.2])) (nF μ r (.iter b ix.length (seen++[j])))
 |.entry x=>∃ r b seen j ix p,ev σ x=.lit (.pointer (some ⟨r,0,none⟩))/\μ r=some (.iter b ix.length (seen++[j]))/\μ b=some (.map ix)/\ix[j]?=some p/\K (σ.put o.dst (.bO [.lit p.1,.lit p.2])) μ
 |.binOp op t x y _=>YL P o op t (ev σ x) (ev σ y) σ μ K
 |.call ⟨.builtin .len,args,eY⟩=>YM P o (args.toList.map (ev σ)) eY.toList σ μ K
 |_=>a8 P o σ λs=>K s μ
def tz.block{os:List Ob}{γ0:Cx}{a:Act}{w w':World}(h:tz N os γ0 σ μ a w){b:Nat}{g:Gh}(hb:(∃ g',μ b=some g')\/b=w.heap.size)(hk:∀ k,k≠b->k<w.heap.size->w'.heap[k]?=w.heap[k]?)(a6:w.heap.size<=w'.heap.size)(h1:w'.os=w.os)(h2:w'.tape=w.tape)(h3:w'.output=w.output)(hg:g.At w' b):tz N os γ0 σ (nF μ b g) a w':=by
 obtain⟨iN,tA,γ,rfl,ha,hs,hf,hm⟩:=h;have cX:¬ γ.Z b/\¬ nt σ.aa γ.blk b/\γ0.w.heap.size<=b:=by
  rcases hb with⟨g',pP⟩|rfl
  ·exact⟨hm.CT _ _ pP,hm.yd _ _ pP,hm.fresh _ _ pP⟩
  ·refine⟨λhz=>xq _ (hs.gD _ hz),?_,hf.size⟩;rintro⟨i,o,c,hl,hb⟩;exact xq _ (hs.blt hl hb)
 exact⟨iN,tA,{ γ with w:=w' },rfl,ha,hs.Af cX.1 cX.2.1 hk a6,hf.Af cX.2.2 hk a6 h1 h2 h3,hm.Af cX.1 cX.2.1 cX.2.2 hk hg⟩
def tz.ev{os:List Ob}{γ0:Cx}{a:Act}{w:World}(h:tz N os γ0 σ μ a w){x:Operand}{v:Value}(hx:ev σ x=.lit v):a.eval x=v:=by
 obtain⟨_,_,γ,rfl,ha,hs,_⟩:=h;have:=sc hs ha x;rw[hx]at this;exact this.cH
def tz.at{os:List Ob}{γ0:Cx}{a:Act}{w:World}(h:tz N os γ0 σ μ a w){b:Nat}{g:Gh}(hb:μ b=some g):g.At w b:=by
 obtain⟨_,_,γ,rfl,ha,hs,_,hm⟩:=h;exact hm.gh _ _ hb
def tz.none{os:List Ob}{γ0:Cx}{a:Act}{w:World}(h:tz N os γ0 σ μ a w):μ w.heap.size=none:=by
 cases hb:μ w.heap.size with
 |none=>rfl
 |some g=>exact absurd (h.at hb).lt (xq _)
def wC(P:Program)(o:Oper)(K:St->Mem->Prop)(b want:Bool)(σ:St)(μ:Mem):Prop:=(b=want->Nq P o σ μ K)/\(b≠want->K (σ.put o.dst (.lit (.tuple #[]))) μ)
def CU(P:Program)(ops:Array Oper):List Oper->(St->Mem->Prop)->St->Mem->Prop
 |[],K,σ,μ=>K σ μ
 |o::r,K,σ,μ =>
  match o.guard with
  |none=>Nq P o σ μ (CU P ops r K)
  |some (j,want) =>
   match (ops[j]?).bind (·.dst) with
   |none=>False
   |some d =>
    match σ.env d with
    |.lit (.bool b)=>wC P o (CU P ops r K) b want σ μ
    |.lit (.tuple vs)=>vs = #[]/\CU P ops r K (σ.put o.dst (.lit (.tuple #[]))) μ
    |_=>False
end Go.Am
namespace Go.Am
variable {P:Program} {N n0:Nat} {σ:St} {μ:Mem} {Q:Exit->St->Mem->Prop}
section
variable {ops:Array Oper} {o:Oper} {l:List Oper} {K:St->Mem->Prop}
instance:Head (CU P ops (o::l) K σ μ):=⟨trivial⟩
def YN{b want:Bool}(h1:b=true->wC P o K true want σ μ)(h2:b=false->wC P o K false want σ μ):wC P o K b want σ μ:=by
 cases b
 ·exact h2 rfl
 ·exact h1 rfl
instance {b want:Bool}:CQ (wC P o K b want σ μ) b (wC P o K true want σ μ) (wC P o K false want σ μ):=⟨YN⟩
variable {dst:Option Tmp} {tt:TypeId} {p:String} {af:Array Edge} {g:Option (Nat×Bool)}
end
end Go.Am
namespace Go.Am
variable {P:Program} {N n0:Nat} {σ:St} {μ:Mem} {K:St->Mem->Prop} {dst:Option Tmp} {tt:TypeId} {p:String} {af:Array Edge} {g:Option (Nat×Bool)}
def ye.refl:ye n0 σ σ:=λos γ0 γ _ hs hf=>⟨γ,rfl,rfl,hs,hf,λ_ h=>.inl h,λ_ h=>h⟩
end Go.Am
namespace Go.Am
variable {P:Program} {N n0:Nat} {σ:St}
def uS{f:FuncId}{args:List AV}{dst:Option Tmp}{K:St->Prop}{gk:AV->List Ob->Prop}(h:ez P f args σ.aa gk)(hK:∀ res bg,gk res bg->σ.aa.length<=bg.length/\K ((⟨σ.env,bg⟩:St).put dst res)):ma P f args dst K σ:=by
 refine⟨aN σ.aa.length,false,args,σ.aa,gk,h,⟨List.nodup_range,Jd,?_,rfl,?_⟩,λres bg hp=>⟨Jd,?_⟩⟩
 ·intro j o hj;have bq:=(aM.1 hj).1;rw[uz,zr];simpa [aA,List.getElem?_range bq] using hj
 ·intro j c d hc hd;rw[hc]at hd;simp only[cT.injEq]at hd;subst hd;exact .eq (by rw[uz,uy])
 ·obtain⟨hl,hK⟩:=hK res bg hp;rw[uz,uy];have:bg.map (bH (λj=>j))=bg:=by
   have h:bH (λj=>j)=id:=by funext o;exact zr o
   simp[h]
  rw[this,JI _ _ hl];exact hK
def Gk{Q:Exit->St->Prop}(n:Nat){id:Nat}{ops:Array Oper}(hd:fS N ops=true)(h:∀ K K1:St->Prop,(∀ s,Q .normal s->K s)->(∀ s s1,aB n0 s s1->opsL P ops (ops.toList.drop n) K s1->K1 s)->opsL P ops (ops.toList.take n) K1 σ):W P N n0 (.region id ops false) Q σ:=by
 intro os γ0 a w hn aR;refine wp_region ?_;exact Wt (pK hd) hn (K:=Q .normal) (K1:=λs=>∃ s1,aB n0 s s1/\opsL P ops (ops.toList.drop n) (Q .normal) s1) (λσ' a' w' hK eP=>⟨σ',hK,eP⟩) n (λs h=>h) σ a w (h _ _ (λ_ h=>h) (λs s1 h1 h2=>⟨s1,h1,h2⟩)) aR
def an.YO{f:FuncId}{sz:Nat}{pre post:List AV}{aa bg:List Ob}{res:AV}(h:an P f (pre++.tree sz []::post) aa res bg):an P f (pre++.lit (.slice none 0 0)::post) aa res bg:=by
 refine⟨h.1,λγ a6 hs=>h.2 γ (by simpa using a6) ⟨λk=>?_,hs.ei,hs.inj,hs.nz,hs.gD⟩⟩;have:=hs.ax k;dsimp only at this ⊢;by_cases hk:k=pre.length
 ·subst hk;have e1:(pre++AV.lit (.slice none 0 0)::post).getD pre.length .undef=.lit (.slice none 0 0):=Jd;have e2:(pre++AV.tree sz []::post).getD pre.length .undef=.tree sz []:=Jd;rw[e1]at this;rw[e2,this.cH];exact .bS _ _ (.nil _ _ _)
 ·have e:(pre++AV.tree sz []::post).getD k .undef=(pre++AV.lit (.slice none 0 0)::post).getD k .undef:=by
   simp only[aA];congr 1;rcases Nat.lt_or_ge k pre.length with h1|h1
   ·rw[cd h1,cd h1]
   ·rw[eu h1,eu h1,show k-pre.length=(k-pre.length-1)+1 by omega];rfl
  rw[e];exact this
end Go.Am
namespace Go.Am
variable {P:Program} {N n0:Nat} {σ:St} {Q:Exit->St->Prop}
def aB.Gl(a id r0 c sz CV:Nat){R:List (List AV)}{cells:List AV}{rows:List (List AV)}(ho:σ.aa[id]?=some (.arr CV R))(aZ:R[r0]?=some cells)(ha:σ.aa[a]?=some (.arr sz rows))(hc:cells[c]?=some (.ref a sz 0 rows.length))(zZ:a≠id)(hw:∀ row∈rows,row.length=sz)(kh:∀ row∈rows,∀ v∈row,(∃ x,v=.lit x)\/∃ s r,v=.tree s r):aB n0 σ ⟨σ.env,(σ.aa.set a .gone).set id (.arr CV (R.set r0 (cells.set c (.tree sz rows))))⟩:=by
 intro os γ0 γ _ hs hf;have vQ:id<σ.aa.length:=(aM.1 ho).1;have gp:a<σ.aa.length:=(aM.1 ha).1
 let aD:Cx:={ γ with Z:=λb=>γ.Z b\/∃ o cap,γ.blk a=some (b,o,cap) }
 let dD:=(σ.aa.set a .gone).set id (.arr CV (R.set r0 (cells.set c (.tree sz rows))))
 have fD:∀ i,dD[i]?=if i=id then some (.arr CV (R.set r0 (cells.set c (.tree sz rows)))) else if i=a then some .gone else σ.aa[i]?:=by
  intro i;show((σ.aa.set a .gone).set id _)[i]?=_;rw[bV,bV];by_cases h1:i=id
  ·subst h1;simp[vQ]
  ·by_cases h2:i=a
   ·subst h2;simp[Ne.symm h1,h1,gp]
   ·simp[Ne.symm h1,Ne.symm h2,h1,h2]
 have hR:∀ v cv,az σ.aa γ.w γ.Z γ.blk v cv->az dD aD.w aD.Z aD.blk v cv:=λv cv hv =>
  hv.mono (λb hb=>⟨.inl hb,rfl⟩) (λi o hi=>by
   rw[fD];by_cases h1:i=id
   ·subst h1;rw[ho]at hi;simp only[cT.injEq]at hi;subst hi;right;exact⟨rfl,_,by rw[if_pos rfl],by simp[Ob.dP]⟩
   ·rw[if_neg h1];by_cases h2:i=a
    ·left;rw[if_pos h2]
    ·rw[if_neg h2];by_cases hg:o=.gone
     ·subst hg;exact .inl hi
     ·exact .inr ⟨rfl,o,hi,Ob.jz hg⟩)
 have cp:∀ i,Live dD i->Live σ.aa i/\i≠a:=by
  rintro i⟨o,hi,hg⟩;rw[fD]at hi;split at hi
  ·rename_i h1;subst h1;exact⟨⟨_,ho,Jd⟩,Ne.symm zZ⟩
  ·split at hi
   ·simp at hi;exact absurd hi.symm hg
   ·rename_i h2;exact⟨⟨o,hi,hg⟩,h2⟩
 have m7:Live σ.aa a:=⟨_,ha,Jd⟩;refine⟨aD,rfl,rfl,⟨λk=>hR _ _ (hs.ax k),?_,λi j b o c o' c' hi hj=>hs.inj i j b o c o' c' (cp i hi).1 (cp j hj).1,?_,?_⟩,?_⟩
 ·intro i o hi;have hi':dD[i]?=some o:=hi;rw[fD]at hi';split at hi'
  ·rename_i h1;subst h1;simp only[cT.injEq]at hi';subst hi';obtain⟨h0,hr,aP⟩:=hs.ei _ _ ho;have zW:r0<R.length:=(aM.1 aZ).1;refine⟨h0,λrow wD=>?_,?_⟩
   ·rcases List.mem_or_eq_of_mem_set wD with h|h
    ·exact hr row h
    ·subst h;rw[bE];exact hr cells (gf aZ)
   ·rcases aP with⟨h1,h2⟩|⟨b,o,cap,cur,t,h1,h2,h3,h4,h5,h6⟩
    ·exact absurd (show r0<0 by rw[h2]at zW;exact zW) (Nat.not_lt_zero _)
    ·refine .inr ⟨b,o,cap,cur,t,h1,h2,h3,by rw[bE];exact h4,h5,λr k v hv=>?_⟩;unfold cellAt at hv;rw[bV]at hv;by_cases e:r0=r
     ·subst e;rw[if_pos rfl,if_pos zW,Option.bind_some,bV]at hv;split at hv
      ·rename_i e;subst e;split at hv
       ·simp only[cT.injEq]at hv;subst hv;have dE:b9 σ (λx=>x≠a) (.tree sz rows) (.ref a sz 0 rows.length):=b9.flat ha hw rfl Jd kh;exact .bS _ _ (dE.zj hs (γc:=aD) (λb hb=>.inl hb) rfl (λx b o cap cP _ hb=>.inr ⟨o,cap,by rw[show a=x by simpa using(Decidable.not_not.1 cP).symm];exact hb⟩) _ (h6 r0 c _ (by unfold cellAt;rw[aZ];exact hc)))
       ·simp at hv
      ·exact hR _ _ (h6 r0 k v (by unfold cellAt;rw[aZ];exact hv))
     ·rw[if_neg e]at hv;exact hR _ _ (h6 r k v hv)
  ·split at hi'
   ·simp only[cT.injEq]at hi';subst hi';trivial
   ·by_cases hg:o=.gone
    ·subst hg;trivial
    ·exact(hs.ei i o hi').mono hR rfl (λ_ _ _ _=>rfl)
 ·rintro b ⟨i,o,c',hi,hb⟩ (hz|⟨o',cap,cX⟩)
  ·exact hs.nz b ⟨i,o,c',(cp i hi).1,hb⟩ hz
  ·exact(cp i hi).2 (hs.inj i a b o c' o' cap (cp i hi).1 m7 hb cX)
 ·rintro b (hz|⟨o,cap,hb⟩)
  ·exact hs.gD b hz
  ·exact hs.blt m7 hb
 ·refine⟨hf.lB,hf.tape,hf.output,hf.size,hf.aw,λb hb=>.inl (hf.z0 b hb),?_,?_,by show os.length<=dD.length;simp[dD];exact hf.len,?_⟩
  ·rintro b (hz|⟨o,cap,hb⟩)
   ·exact hf.z1 b hz
   ·exact .inr (hf.own b ⟨a,o,cap,m7,hb⟩)
  ·rintro b ⟨i,o,c',hi,hb⟩;exact hf.own b ⟨i,o,c',(cp i hi).1,hb⟩
  ·intro i hi hl;obtain⟨h1,x,x',hx,cZ,hk⟩:=hf.ki i hi (cp i hl).1;have zI:=(cp i hl).2;have g6:Live dD i:=hl;obtain⟨o,dF,pG⟩:=g6;refine⟨h1,x,o,hx,dF,?_⟩;rw[fD]at dF;split at dF
   ·rename_i e;subst e;rw[ho]at cZ;simp only[cT.injEq]at cZ dF;subst cZ;subst dF;refine Ob.F0 hk (by simp[Ob.dP])
   ·rw[cZ]at dF;simp only[cT.injEq]at dF;subst dF;exact hk
end Go.Am

