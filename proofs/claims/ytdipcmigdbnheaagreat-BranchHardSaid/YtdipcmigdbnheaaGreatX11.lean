import Derived.Test.YtdipcmigdbnheaaGreatX08
set_option linter.unusedVariables false
set_option linter.unusedSimpArgs false
set_option linter.unnecessarySimpa false
set_option linter.unusedSectionVars false
set_option maxHeartbeats 64000000
set_option maxRecDepth 20000
open Bool renaming true_and→g9,false_and→qc,and_eq_true→bh,false_or→lQ,or_eq_true→kB
open List renaming all_eq_true→fK,mem_cons→bZ,mem_of_getElem?→gw,map_congr_left→lP,mem_append→cy,range→aT,contains_iff_mem→q9,not_mem_nil→kC,range'→mz,range_eq_range'→vd,range'_succ→vc,range'_append→Ge,getElem?_drop→nI,length_take→ez,getElem?_take_of_lt→Gc
open Array renaming toList_append→yu,replicate→wC,getElem?_eq_some_iff→oL,length_toList→sr
open Nat renaming zero_add→eR,one_mul→sq
namespace Go.Am
theorem EY (k:IntKind) (n:Int):dY (.int k n)=.lit (.int k n):=by first|rfl|(cases b<;>rfl)|(simp only[dY];done)|(unfold fe;split<;>simp_all)
theorem EZ (b:Bool):dY (.bool b)=.lit (.bool b):=by first|rfl|(cases b<;>rfl)|(simp only[dY];done)|(unfold fe;split<;>simp_all)
theorem E0 (a:Option Addr) (n c:Nat):dY (.slice a n c)=.lit (.slice a n c):=by first|rfl|(cases b<;>rfl)|(simp only[dY];done)|(unfold fe;split<;>simp_all)
theorem E1 (s:ByteArray):dY (.string s)=.lit (.string s):=by first|rfl|(cases b<;>rfl)|(simp only[dY];done)|(unfold fe;split<;>simp_all)
theorem E2 (s:Array Value):dY (.tuple s)=.lit (.tuple s):=by first|rfl|(cases b<;>rfl)|(simp only[dY];done)|(unfold fe;split<;>simp_all)
theorem Pu (ρ:Nat→Nat) (v:Value):aX ρ (.lit v)=.lit v:=by first|rfl|(cases b<;>rfl)|(simp only[dY];done)|(unfold fe;split<;>simp_all)
theorem Pv (ρ:Nat→Nat) (s:Nat) (r:List (List AV)):aX ρ (.tree s r)=.tree s r:=by first|rfl|(cases b<;>rfl)|(simp only[dY];done)|(unfold fe;split<;>simp_all)
theorem Px (ρ:Nat→Nat) (r:List AV):aX ρ (.db r)=.db r:=by first|rfl|(cases b<;>rfl)|(simp only[dY];done)|(unfold fe;split<;>simp_all)
theorem Py (ρ:Nat→Nat):aX ρ .undef=.undef:=by first|rfl|(cases b<;>rfl)|(simp only[dY];done)|(unfold fe;split<;>simp_all)
theorem Pz (v:Value):cellsOf (.lit v)=[.lit v]:=by first|rfl|(cases b<;>rfl)|(simp only[dY];done)|(unfold fe;split<;>simp_all)
theorem PA (s:Nat) (r:List (List AV)):cellsOf (.tree s r)=[.tree s r]:=by first|rfl|(cases b<;>rfl)|(simp only[dY];done)|(unfold fe;split<;>simp_all)
theorem PD (r:List AV):cellsOf (.db r)=[.db r]:=by first|rfl|(cases b<;>rfl)|(simp only[dY];done)|(unfold fe;split<;>simp_all)
theorem PE (a b c d:Nat):cellsOf (.ref a b c d)=[.ref a b c d]:=by first|rfl|(cases b<;>rfl)|(simp only[dY];done)|(unfold fe;split<;>simp_all)
theorem PG (a b c:Nat):cellsOf (.ptr a b c)=[.ptr a b c]:=by first|rfl|(cases b<;>rfl)|(simp only[dY];done)|(unfold fe;split<;>simp_all)
theorem PH (id:Nat):cellsOf (.gl id)=[.gl id]:=rfl
theorem PI (t:TypeId) (v:AV):cellsOf (.gz t v)=[.gz t v]:=rfl
theorem PJ (f:FuncId) (l:List AV):cellsOf (.fn f l)=[.fn f l]:=by first|rfl|(cases b<;>rfl)|(simp only[dY];done)|(unfold fe;split<;>simp_all)
theorem PL (t:Bool) (s:Array Value) (b:AV):fe t (.lit (.tuple s)) b=if t=true then .lit (.tuple s) else b:=by first|rfl|(cases b<;>rfl)|(simp only[dY];done)|(unfold fe;split<;>simp_all)
theorem PN (t:Bool) (s:Array Value) (b:AV):fe t b (.lit (.tuple s))=if t=true then b else .lit (.tuple s):=by first|rfl|(cases b<;>rfl)|(simp only[dY];done)|(unfold fe;split<;>simp_all)
theorem PO (t:Bool) (s u:List AV):fe t (.agg s) (.agg u)=if t=true then .agg s else .agg u:=by first|rfl|(cases b<;>rfl)|(simp only[dY];done)|(unfold fe;split<;>simp_all)
theorem PQ (l:List AV):cm (.agg l)=false:=by first|rfl|(cases b<;>rfl)|(simp only[dY];done)|(unfold fe;split<;>simp_all)
theorem PR (l:List AV):cm (.bL l)=false:=by first|rfl|(cases b<;>rfl)|(simp only[dY];done)|(unfold fe;split<;>simp_all)
theorem PS  : cm .undef=false:=by first|rfl|(cases b<;>rfl)|(simp only[dY];done)|(unfold fe;split<;>simp_all)
theorem PU (k:IntKind) (n:Int):Value.oneCell' (.int k n)=true:=by first|rfl|(cases b<;>rfl)|(simp only[dY];done)|(unfold fe;split<;>simp_all)
theorem PV (b:Bool):Value.oneCell' (.bool b)=true:=by first|rfl|(cases b<;>rfl)|(simp only[dY];done)|(unfold fe;split<;>simp_all)
theorem PW (a:Option Addr) (n c:Nat):Value.oneCell' (.slice a n c)=true:=by first|rfl|(cases b<;>rfl)|(simp only[dY];done)|(unfold fe;split<;>simp_all)
theorem PX (s:ByteArray):Value.oneCell' (.string s)=true:=by first|rfl|(cases b<;>rfl)|(simp only[dY];done)|(unfold fe;split<;>simp_all)
theorem PY (a:Option Addr):Value.oneCell' (.pointer a)=true:=by first|rfl|(cases b<;>rfl)|(simp only[dY];done)|(unfold fe;split<;>simp_all)
theorem PZ (a:Option Nat):Value.oneCell' (.map a)=true:=by first|rfl|(cases b<;>rfl)|(simp only[dY];done)|(unfold fe;split<;>simp_all)
theorem Pc:type_of% @yH.eq_1∧type_of% @yH.eq_2∧type_of% @vo.eq_1∧type_of% @vo.eq_2∧type_of% @yI.eq_1∧type_of% @yI.eq_2∧type_of% @rm.eq_1∧type_of% @rm.eq_2∧type_of% @rm.eq_3∧type_of% @GJ.eq_1∧type_of% @GL.eq_1∧type_of% @fS.eq_1∧type_of% @fS.eq_2∧type_of% @fS.eq_3∧type_of% @fS.eq_4∧type_of% @fS.eq_5∧type_of% @fS.eq_6∧type_of% @fS.eq_7∧type_of% @fS.eq_8∧type_of% @fS.eq_9∧type_of% @fS.eq_10∧type_of% @fS.eq_11∧type_of% @fS.eq_12∧type_of% @fS.eq_13∧type_of% @lB.eq_1∧type_of% @dV.eq_1 :=
  ⟨@yH.eq_1,@yH.eq_2,@vo.eq_1,@vo.eq_2,@yI.eq_1,@yI.eq_2,@rm.eq_1,@rm.eq_2,@rm.eq_3,@GJ.eq_1,@GL.eq_1,@fS.eq_1,@fS.eq_2,@fS.eq_3,@fS.eq_4,@fS.eq_5,@fS.eq_6,@fS.eq_7,@fS.eq_8,@fS.eq_9,@fS.eq_10,@fS.eq_11,@fS.eq_12,@fS.eq_13,@lB.eq_1,@dV.eq_1⟩
theorem Sc:type_of% @ev.eq_1∧type_of% @ev.eq_2∧type_of% @ev.eq_3∧type_of% @ev.eq_4∧type_of% @dY.eq_1∧type_of% @St.put.eq_1∧type_of% @St.put.eq_2∧type_of% @sF.eq_1∧type_of% @sF.eq_2∧type_of% @sG.eq_1∧type_of% @sG.eq_2∧type_of% @fe.eq_1∧type_of% @iR.eq_1∧type_of% @iR.eq_2∧type_of% @dM.eq_1∧type_of% @dM.eq_2∧type_of% @aX.eq_1∧type_of% @aX.eq_2∧type_of% @aX.eq_3∧type_of% @aX.eq_4∧type_of% @aX.eq_5∧type_of% @aX.eq_6∧type_of% @m7.eq_1∧type_of% @m7.eq_2∧type_of% @bd.eq_1∧type_of% @rowOf.eq_1∧type_of% @mZ.eq_1∧type_of% @m4.eq_1∧type_of% @m4.eq_2∧type_of% @pE.eq_1∧type_of% @pE.eq_2∧type_of% @cellsOf.eq_1∧type_of% @setCells.eq_1∧type_of% @setCells.eq_2∧type_of% @lz.eq_1∧type_of% @lz.eq_2∧type_of% @lA.eq_1∧type_of% @lA.eq_2∧type_of% @cm.eq_1∧type_of% @cm.eq_2∧type_of% @cm.eq_3∧type_of% @cm.eq_4∧type_of% @cm.eq_5∧type_of% @cm.eq_6∧type_of% @Ty.isAgg.eq_1∧type_of% @Value.oneCell'.eq_1∧type_of% @Value.oneCell'.eq_2∧type_of% @rO.eq_1∧type_of% @uu.eq_1∧type_of% @uu.eq_2∧type_of% @ar.eq_1∧type_of% @bX.eq_1∧type_of% @bn.eq_1∧type_of% @aV.eq_1∧type_of% @gG.eq_1∧type_of% @aU.eq_1∧type_of% @aG.eq_1∧type_of% @jy.eq_1∧type_of% @jy.eq_2∧type_of% @D6∧type_of% @Ny∧type_of% @HL∧type_of% @NH∧type_of% @HN∧type_of% @NI∧type_of% @g9∧type_of% @qc∧type_of% @EY∧type_of% @EZ∧type_of% @E0∧type_of% @E1∧type_of% @E2∧type_of% @Pu∧type_of% @Pv∧type_of% @Px∧type_of% @Py∧type_of% @Pz∧type_of% @PA∧type_of% @PD∧type_of% @PE∧type_of% @PG∧type_of% @PJ∧type_of% @PL∧type_of% @PN∧type_of% @PO∧type_of% @PQ∧type_of% @PR∧type_of% @PS∧type_of% @PU∧type_of% @PV∧type_of% @PW∧type_of% @PX∧type_of% @PY∧type_of% @PZ∧type_of% @cm.eq_7∧type_of% @PI∧type_of% @Lo∧type_of% @LS∧type_of% @LU∧type_of% @GK.eq_1∧type_of% @nN.eq_1∧type_of% @nN.eq_2∧type_of% @aX.eq_7∧type_of% @cm.eq_8∧type_of% @PH∧type_of% @LL∧type_of% @LM∧type_of% @LN∧type_of% @LR∧type_of% @LP∧type_of% @LQ∧type_of% @Lh∧type_of% @kY.eq_1∧type_of% @keyOf.eq_1∧type_of% @keyOf.eq_2∧type_of% @jz.eq_1 :=
  ⟨@ev.eq_1,@ev.eq_2,@ev.eq_3,@ev.eq_4,@dY.eq_1,@St.put.eq_1,@St.put.eq_2,@sF.eq_1,@sF.eq_2,@sG.eq_1,@sG.eq_2,@fe.eq_1,@iR.eq_1,@iR.eq_2,@dM.eq_1,@dM.eq_2,@aX.eq_1,@aX.eq_2,@aX.eq_3,@aX.eq_4,@aX.eq_5,@aX.eq_6,@m7.eq_1,@m7.eq_2,@bd.eq_1,@rowOf.eq_1,@mZ.eq_1,@m4.eq_1,@m4.eq_2,@pE.eq_1,@pE.eq_2,@cellsOf.eq_1,@setCells.eq_1,@setCells.eq_2,@lz.eq_1,@lz.eq_2,@lA.eq_1,@lA.eq_2,@cm.eq_1,@cm.eq_2,@cm.eq_3,@cm.eq_4,@cm.eq_5,@cm.eq_6,@Ty.isAgg.eq_1,@Value.oneCell'.eq_1,@Value.oneCell'.eq_2,@rO.eq_1,@uu.eq_1,@uu.eq_2,@ar.eq_1,@bX.eq_1,@bn.eq_1,@aV.eq_1,@gG.eq_1,@aU.eq_1,@aG.eq_1,@jy.eq_1,@jy.eq_2,@D6,@Ny,@HL,@NH,@HN,@NI,@g9,@qc,@EY,@EZ,@E0,@E1,@E2,@Pu,@Pv,@Px,@Py,@Pz,@PA,@PD,@PE,@PG,@PJ,@PL,@PN,@PO,@PQ,@PR,@PS,@PU,@PV,@PW,@PX,@PY,@PZ,@cm.eq_7,@PI,@Lo,@LS,@LU,@GK.eq_1,@nN.eq_1,@nN.eq_2,@aX.eq_7,@cm.eq_8,@PH,@LL,@LM,@LN,@LR,@LP,@LQ,@Lh,@kY.eq_1,@keyOf.eq_1,@keyOf.eq_2,@jz.eq_1⟩
theorem Lc:type_of% @ev.eq_1∧type_of% @ev.eq_2∧type_of% @ev.eq_3∧type_of% @ev.eq_4∧type_of% @dY.eq_1∧type_of% @St.put.eq_1∧type_of% @St.put.eq_2∧type_of% @EY∧type_of% @EZ∧type_of% @E0∧type_of% @E1∧type_of% @E2 :=
  ⟨@ev.eq_1,@ev.eq_2,@ev.eq_3,@ev.eq_4,@dY.eq_1,@St.put.eq_1,@St.put.eq_2,@EY,@EZ,@E0,@E1,@E2⟩
theorem im {P:Program} {N n0:Nat} (id:Nat) {ops:Array Oper} {d:Bool} {y:Code} {Q:Exit→St→Prop} {σ:St} (h:W P N n0 (.seq (.region id ops d) y) Q σ):W P N n0 (.seq (.region id ops d) y) Q σ:=h
theorem iq {P:Program} {N n0:Nat} (id:Nat) {ops:Array Oper} {d:Bool} {Q:Exit→St→Prop} {σ:St} (h:W P N n0 (.region id ops d) Q σ):W P N n0 (.region id ops d) Q σ:=h
end Go.Am
namespace Go.Am
variable {P:Program} {N n0:Nat} {σ:St}
def vY:Ob→Bool
  | .gone=>false
  | .var cs=>iO cs
  | .arr _ rows=>rows.all iO
  | .mp _ _=>false
theorem P0 {ρ:Nat→Nat} {o:Ob} (h:vY o=true):bC ρ o=o:=by
  cases o with
  | gone=>simp[vY] at h
  | var cs =>
    have:=yO ρ cs h
    rw[ue] at this
    simp[bC,this]
  | arr sz rows=>exact AN (by simpa [vY,fK] using h)
  | mp ag L=>simp[vY] at h
def P1 (hd:Nat) (c a:AV):Prop:=(a=c∧gT c=true)∨(c=.ptr 0 0 0∧a=.ptr hd 0 0)
def BU (P:Program) (hd:Nat) (g:FuncId) (args:List AV) (dst:Option Tmp) (K:St→Prop) (σ:St):Prop :=
  ∃ cW D res D',ao P g cW [D] res [D']∧vY D=true∧vY D'=true∧σ.aa[hd]?=some D∧gT res=true∧fD (P1 hd) cW args∧K ((⟨σ.env,σ.aa.set hd D'⟩:St).put dst res)
theorem abp {hd:Nat} {g:FuncId} {args:List AV} {dst:Option Tmp} {K:St→Prop} (h:BU P hd g args dst K σ):pD P g args dst K σ:=by
  obtain ⟨cW,D,res,D',h1,h2,h3,h4,h5,h6,h7⟩:=h
  obtain ⟨h8,h9⟩:=h6.spec
  have hρ:bd σ.aa.length [hd] 0=hd:=by simp[bd]
  refine⟨[hd],false,cW,[D],res,[D'],h1,⟨by simp,rfl,fun j o hj=>?_,h8,fun j c d hc rA=>?_,by simp⟩,?_⟩
  · cases j with
    | zero=>simp at hj;subst hj;simp[P0 h2,h4]
    | succ j=>simp at hj
  · rcases h9 j c d hc rA with ⟨rfl,hn⟩ | ⟨rfl,rfl⟩
    · exact .pure hn
    · exact .eq (by simp[aX,hρ])
  · have e:dM σ.aa [hd] ([D'].map (bC (bd σ.aa.length [hd])))=σ.aa.set hd D':=by simp[dM,P0 h3]
    show K (({ σ with aa:=dM σ.aa [hd] ([D'].map (bC (bd σ.aa.length [hd]))) }:St).put dst (aX (bd σ.aa.length [hd]) res))
    rw[e,wT _ _ h5];exact h7
def vZ (hd:Nat) (P:Program) (o:Oper) (σ:St) (K:St→Prop):Prop :=
  match o.op with
  | .call { callee:=.value f,args,.. } =>
    match ev σ f with
    | .fn g bk=>BU P hd g (args.toList.map (ev σ)++bk) o.dst K σ
    | _=>False
  | _=>False
theorem abr {hd:Nat} {o:Oper} {K:St→Prop} (h:vZ hd P o σ K):bf P o σ K:=by
  unfold vZ at h
  unfold bf
  split at h
  · rename_i f args fc cT
    simp only[cT]
    split at h
    · rename_i g bk he
      simp only[he]
      exact abp h
    · exact h.elim
  · exact h.elim
def nC (hd:Nat):AV→Bool
  | .ptr id _ _=>id != hd
  | .ref id _ _ _=>id != hd
  | .gl id=>id != hd
  | _=>true
def qP (hd:Nat) (σ:St):List Operand→Bool
  | []=>true
  | x::l=>nC hd (ev σ x) && qP hd σ l
def ey (hd:Nat) (q:Bool) (o:Oper) (σ:St):Bool:=q || cls o.op == 0 || decide (3≤cls o.op) || qP hd σ o.op.operands.toList
theorem P3 {hd:Nat}:∀ {l:List Operand},qP hd σ l=true→∀ x∈l,rC (ev σ x)≠some hd
  | [],_,x,hx=>by simp at hx
  | y::l,h,x,hx=>by
    simp only[qP,bh] at h
    rcases bZ.1 hx with rfl | hx
    · intro e
      have h1:=h.1
      cases hv:ev σ x<;>rw[hv] at e h1<;>simp[rC,nC] at e h1
      · exact h1 e
      · exact h1 e
      · exact h1 e
    · exact P3 h.2 x hx
theorem IH {hd:Nat} {σ2:St}:∀ {l:List Operand},(∀ x∈l,ev σ2 x=ev σ x)→qP hd σ2 l=qP hd σ l
  | [],_=>rfl
  | y::l,h=>by
    simp only[qP]
    rw[h y (by simp),IH fun x hx=>h x (by simp[hx])]
def jT (P:Program) (ops:Array Oper) (hd:Nat) (q dc:Bool) (o:Oper) (K:St→Prop) (σ:St):Prop :=
  match dc with
  | true=>o.guard=none∧vZ hd P o σ K
  | false=>ey hd q o σ=true∧dV P ops q o K σ
def gN (q dc:Bool) (o:Oper):Nat:=if dc then 6 else fE q o
def BV (hd c:Nat) (a b:List Ob):Prop:=if c=6 then ∀ id,id≠hd→b[id]?=a[id]? else j' c a b
theorem abt {N:Nat} {os:List Ob} {γ0:Cx} {ops:Array Oper} {hh:Nat} (hd:∀ o∈ops.toList,∀ d,o.dst=some d→d<N) {q dc:Bool} {i:Nat} {o:Oper} (hi:ops[i]?=some o) {σ:St} {K:St→Prop}
    (h:jT P ops hh q dc o K σ) {a:Act} {w:World} (aQ:gA N os γ0 σ a w) {Q:Exit→Act→World→Prop} {next:Act→World→Prop} (hn:∀ σ' a' w',K σ'→gA N os γ0 σ' a' w'→next a' w'):wpOp P ops Q i next a w:=by
  cases dc with
  | false=>exact Mf hd hi h.2 aQ hn
  | true =>
    have cp:o∈ops.toList:=gw (by simpa using hi)
    unfold wpOp
    simp only[hi]
    have hw:Region.wanted o (yielded ops a.tmps)=true:=by simp[Region.wanted,h.1]
    rw[if_pos hw]
    left
    exact wO (abr h.2) aQ (hd o cp) hn
theorem E3 {ops:Array Oper} {hh:Nat} {q dc:Bool} {o:Oper} {σ:St} {K:St→Prop} (hW:jT P ops hh q dc o K σ) :
    ∃ v os,BV hh (gN q dc o) σ.aa os∧K ((⟨σ.env,os⟩:St).put o.dst v)∧∀ (e2:Nat→AV) (K2:St→Prop),(∀ t∈o.looksAt ops,e2 t=σ.env t)→K2 ((⟨e2,os⟩:St).put o.dst v)→jT P ops hh q dc o K2 ⟨e2,σ.aa⟩:=by
  cases dc with
  | false =>
    obtain ⟨hc,hW⟩:=hW
    obtain ⟨v,os,h1,h2,h3⟩:=AH hW
    refine⟨v,os,?_,h2,fun e2 K2 hl hK=>⟨?_,h3 e2 K2 hl hK⟩⟩
    · unfold BV gN
      simp only[Bool.false_eq_true,if_false]
      rw[if_neg]
      · exact h1
      · unfold fE
        split
        · omega
        · unfold cls;split<;>omega
    · unfold ey at hc ⊢
      rw[IH (σ:=σ) (tZ hl)];exact hc
  | true =>
    obtain ⟨hg,hW⟩:=hW
    unfold vZ at hW
    split at hW
    · rename_i f args fc cT
      split at hW
      · rename_i g bk he
        obtain ⟨cW,D,res,D',h1,h2,h3,h4,h5,h6,h7⟩:=hW
        refine⟨res,σ.aa.set hh D',?_,h7,fun e2 K2 hl hK=>⟨hg,?_⟩⟩
        · unfold BV gN
          simp only[if_true]
          intro id cN
          rw[List.getElem?_set,if_neg (Ne.symm cN)]
        · unfold vZ
          simp only[cT]
          have hx:=tZ (os:=σ.aa) hl
          have e1:ev ⟨e2,σ.aa⟩ f=.fn g bk:=by rw[← he];exact hx f (by simp[cT,Op.operands,Call.operands])
          have e3:args.toList.map (ev ⟨e2,σ.aa⟩)=args.toList.map (ev σ):=lP fun y hy=>hx y (by simp only[cT,Op.operands,Call.operands,yu,cy];exact .inr hy)
          simp only[e1,e3]
          exact⟨cW,D,res,D',h1,h2,h3,h4,h5,h6,hK⟩
      · exact hW.elim
    · exact hW.elim
theorem abu {o:Oper} {σ:St} {K:St→Prop} (hc:cls o.op≤2) (hW:bf P o σ K) :
    ∃ v,K (σ.put o.dst v)∧∀ (σ2:St) (K2:St→Prop),(∀ x∈o.op.operands.toList,ev σ2 x=ev σ x)→(∀ x∈o.op.operands.toList,∀ id,rC (ev σ x)=some id→iP (cls o.op) σ.aa[id]? σ2.aa[id]?)→K2 (σ2.put o.dst v)→bf P o σ2 K2:=by
  unfold bf at hW ⊢
  split at hW
  · rename_i f args fc cT
    rw[cT] at hc
    simp[cls] at hc
  · rename_i r m args fc cT
    rw[cT] at hc
    simp[cls] at hc
  · rename_i dL
    obtain ⟨v,h2,h3⟩:=Mh hc hW
    refine⟨v,h2,fun σ2 K2 hx ho hK=>?_⟩
    exact h3 σ2 K2 hx (ho) hK
theorem P4 {q:Bool} {o:Oper} {σ:St} {K:St→Prop} (hc:fE q o≤2) (hW:kX q P o σ K) :
    ∃ v,K (σ.put o.dst v)∧∀ (σ2:St) (K2:St→Prop),(∀ x∈o.op.operands.toList,ev σ2 x=ev σ x)→(∀ x∈o.op.operands.toList,∀ id,rC (ev σ x)=some id→iP (fE q o) σ.aa[id]? σ2.aa[id]?)→K2 (σ2.put o.dst v)→kX q P o σ2 K2:=by
  cases q with
  | false=>exact abu hc hW
  | true =>
    unfold kX at hW ⊢
    simp only at hW ⊢
    split at hW
    · rename_i f args fc cT
      simp only[cT]
      split at hW
      · rename_i g bk he
        obtain ⟨res,h1,h2,h3,h4⟩:=hW
        refine⟨res,h4,fun σ2 K2 hx _ hK=>?_⟩
        have e1:ev σ2 f=.fn g bk:=by rw[← he];exact hx f (by simp[Op.operands,Call.operands])
        have e3:args.toList.map (ev σ2)=args.toList.map (ev σ):=lP fun y hy=>hx y (by simp only[Op.operands,Call.operands,yu,cy];exact .inr hy)
        simp only[e1,e3]
        exact⟨res,h1,h2,h3,hK⟩
      · exact hW.elim
    · rename_i t a cT
      obtain ⟨x,h1,h2⟩:=GO hW
      refine⟨x,h1,fun σ2 K2 hx _ hK=>?_⟩
      rw[hx a (by simp[cT,Op.operands])]
      exact h2 _ K2 hK
    · exact hW.elim
theorem abv {ops:Array Oper} {q:Bool} {o:Oper} {σ:St} {K:St→Prop} (hc:fE q o≤2) (hW:dV P ops q o K σ) :
    ∃ v,K (σ.put o.dst v)∧∀ (σ2:St) (K2:St→Prop),(∀ t∈o.looksAt ops,σ2.env t=σ.env t)→(∀ x∈o.op.operands.toList,∀ id,rC (ev σ x)=some id→iP (fE q o) σ.aa[id]? σ2.aa[id]?)→K2 (σ2.put o.dst v)→dV P ops q o K2 σ2:=by
  unfold dV at hW ⊢
  cases hg:o.guard with
  | none =>
    simp only[hg] at hW
    obtain ⟨v,h2,h3⟩:=P4 hc hW
    exact⟨v,h2,fun σ2 K2 hl ho hK=>h3 σ2 K2 (tZ (e2:=σ2.env) (os:=σ2.aa) hl) ho hK⟩
  | some jw =>
    obtain ⟨j,want⟩:=jw
    simp only[hg] at hW
    cases ep:(ops[j]?).bind (·.dst) with
    | none=>simp[ep] at hW
    | some d =>
      simp only[ep] at hW
      split at hW
      · rename_i b he
        by_cases gY:b=want
        · obtain ⟨v,h2,h3⟩:=P4 hc (hW.1 gY)
          refine⟨v,h2,fun σ2 K2 hl ho hK=>?_⟩
          have:σ2.env d=.lit (.bool b):=by rw[hl d (uc hg ep)];exact he
          simp only[ep,this]
          exact⟨fun _=>h3 σ2 K2 (tZ (e2:=σ2.env) (os:=σ2.aa) hl) ho hK,fun hn=>absurd gY hn⟩
        · refine⟨.lit (.tuple #[]),hW.2 gY,fun σ2 K2 hl ho hK=>?_⟩
          have:σ2.env d=.lit (.bool b):=by rw[hl d (uc hg ep)];exact he
          simp only[ep,this]
          exact⟨fun hn=>absurd hn gY,fun _=>hK⟩
      · rename_i vs he
        refine⟨.lit (.tuple #[]),hW.2,fun σ2 K2 hl ho hK=>?_⟩
        have:σ2.env d=.lit (.tuple vs):=by rw[hl d (uc hg ep)];exact he
        simp only[ep,this]
        exact⟨hW.1,hK⟩
      · exact hW.elim
theorem P5 {ops:Array Oper} {hh:Nat} {q dc:Bool} {o:Oper} {σ:St} {K:St→Prop} (hc:gN q dc o≤2) (hW:jT P ops hh q dc o K σ) :
    ∃ v,K (σ.put o.dst v)∧∀ (σ2:St) (K2:St→Prop),(∀ t∈o.looksAt ops,σ2.env t=σ.env t)→(∀ (id:Nat),id≠hh→iP (gN q dc o) σ.aa[id]? σ2.aa[id]?)→K2 (σ2.put o.dst v)→jT P ops hh q dc o K2 σ2:=by
  cases dc with
  | true=>simp[gN] at hc
  | false =>
    obtain ⟨hk,hW⟩:=hW
    have jA:fE q o≤2:=by simpa [gN] using hc
    obtain ⟨v,h1,h2⟩:=abv jA hW
    refine⟨v,h1,fun σ2 K2 hl ho hK=>⟨?_,h2 σ2 K2 hl (fun x hx id hp=>?_) hK⟩⟩
    · unfold ey at hk ⊢
      rw[IH (σ:=σ) (tZ (e2:=σ2.env) (os:=σ2.aa) hl)];exact hk
    · have cf:∀ id,id≠hh→iP (fE q o) σ.aa[id]? σ2.aa[id]?:=by simpa [gN] using ho
      by_cases h0:fE q o=0
      · rw[h0];simp[iP]
      · refine cf id fun e=>?_
        subst e
        unfold fE at h0 jA
        split at h0
        · omega
        · rename_i hq
          simp only[hq] at jA
          have E4:q=false:=by simpa using hq
          subst E4
          unfold ey at hk
          have HC:cls o.op≤2:=by simpa using jA
          have h3:decide (3≤cls o.op)=false:=decide_eq_false (by omega)
          have h4:(cls o.op == 0)=false:=by simpa using h0
          rw[h3,h4] at hk
          simp only[lQ] at hk
          exact P3 hk x hx hp
def E5 (ci ck:Nat):Bool:=yL ci ck || (decide (ci≤2) && ck == 6)
theorem abw {hh ci ck:Nat} (h:(ci == 0 || (ci == 1 && decide (ck≤4)) || (ci == 2 && decide (ck≤3)) || (decide (ci≤2) && ck == 6))=true) {a b:List Ob} (he:BV hh ck a b) (id:Nat) (cN:id≠hh):iP ci a[id]? b[id]?:=by
  unfold BV at he
  split at he
  · rename_i h6
    subst h6
    rw[he id cN]
    unfold iP
    split
    · trivial
    · split
      · intro o ho;exact⟨o,ho,wP o⟩
      · intro o ho;exact ho
  · rename_i h6
    refine Mm ?_ he id
    have:(ck == 6)=false:=by simpa using h6
    rw[this] at h
    simpa using h
theorem abx {ops:Array Oper} {hh:Nat} {qi qk di dk:Bool} {oi ok:Oper} (ha:oi.apart ops ok=true) (hi:gN qi di oi≤2)
    (hc:(gN qi di oi == 0 || (gN qi di oi == 1 && decide (gN qk dk ok≤4)) || (gN qi di oi == 2 && decide (gN qk dk ok≤3)) || (decide (gN qi di oi≤2) && gN qk dk ok == 6))=true) {σ:St} {K:St→Prop}
    (h:jT P ops hh qi di oi (jT P ops hh qk dk ok K) σ):jT P ops hh qk dk ok (jT P ops hh qi di oi K) σ:=by
  obtain ⟨a1,a2,a3⟩:=Oper.apart_spec ha
  obtain ⟨v,h1,run⟩:=P5 hi h
  obtain ⟨vk,os,wQ,h2,AI⟩:=E3 h1
  rw[Dq] at wQ AI
  refine AI σ.env _ (fun t ht=>(vu fun d hd e=>a1 d hd (e ▸ ht)).symm) ?_
  refine run _ _ (fun t ht=>?_) (fun id cN=>?_) ?_
  · rw[vu fun d hd e=>a3 d hd (e ▸ ht)]
  · rw[Dq];exact abw hc wQ id cN
  · rw[Dr] at h2
    rw[Dp (fun d hd e=>a2 d e hd)]
    exact h2
theorem aby {ops:Array Oper} {hh:Nat} {qi qk di dk:Bool} {oi ok:Oper} (ha:oi.apart ops ok=true) (hk:gN qk dk ok=0) {σ:St} {K:St→Prop}
    (h:jT P ops hh qi di oi (jT P ops hh qk dk ok K) σ):jT P ops hh qk dk ok (jT P ops hh qi di oi K) σ:=by
  obtain ⟨a1,a2,a3⟩:=Oper.apart_spec ha
  obtain ⟨vi,os,wQ,h1,run⟩:=E3 h
  obtain ⟨vk,h2,GP⟩:=P5 (by omega) h1
  refine GP σ _ (fun t ht=>(vu (σ:=⟨σ.env,os⟩) fun d hd e=>a1 d hd (e ▸ ht)).symm) (fun id _=>by rw[hk];simp[iP]) ?_
  rw[Ml]
  refine run _ _ (fun t ht=>vu fun d hd e=>a3 d hd (e ▸ ht)) ?_
  rw[Dr,Dp (fun d hd e=>a2 d e hd)]
  exact h2
theorem abz {ops:Array Oper} {hh:Nat} {qi qk di dk:Bool} {oi ok:Oper} (ha:oi.apart ops ok=true) (hc:E5 (gN qi di oi) (gN qk dk ok)=true) {σ:St} {K:St→Prop}
    (h:jT P ops hh qi di oi (jT P ops hh qk dk ok K) σ):jT P ops hh qk dk ok (jT P ops hh qi di oi K) σ:=by
  by_cases hk:gN qk dk ok=0
  · exact aby ha hk h
  · have jA:(gN qi di oi == 0 || (gN qi di oi == 1 && decide (gN qk dk ok≤4)) || (gN qi di oi == 2 && decide (gN qk dk ok≤3)) || (decide (gN qi di oi≤2) && gN qk dk ok == 6))=true:=by
      simp only[E5,yL,kB,bh,beq_iff_eq,decide_eq_true_eq] at hc ⊢
      rcases hc with (((h | h) | h) | h) | h
      · exact .inl (.inl (.inl h))
      · exact absurd h hk
      · exact .inl (.inl (.inr h))
      · exact .inl (.inr h)
      · exact .inr h
    refine abx ha ?_ jA h
    simp only[kB,bh,beq_iff_eq,decide_eq_true_eq] at jA
    omega
def gf (P:Program) (ops:Array Oper) (hh:Nat) (qs ds:List Nat) (i:Nat) (K:St→Prop) (σ:St):Prop :=
  match ops[i]? with
  | none=>K σ
  | some o=>jT P ops hh (qs.contains i) (ds.contains i) o K σ
def tg (P:Program) (ops:Array Oper) (hh:Nat) (qs ds:List Nat) (K:St→Prop):Nat→Array Bool→St→Prop
  | 0,aR,σ=>Region.ready .any ops aR=[]∧K σ
  | n+1,aR,σ=>(Region.ready .any ops aR=[]→K σ)∧∀ i∈Region.ready .any ops aR,gf P ops hh qs ds i (tg P ops hh qs ds K n (aR.setIfInBounds i true)) σ
theorem abA {ops:Array Oper} {hh:Nat} {q dc:Bool} {o:Oper} {σ:St} {K K2:St→Prop} (hk:∀ s,K s→K2 s) (h:jT P ops hh q dc o K σ):jT P ops hh q dc o K2 σ:=by
  obtain ⟨v,os,_,h2,run⟩:=E3 h
  exact run σ.env K2 (fun _ _=>rfl) (hk _ h2)
theorem abB {ops:Array Oper} {hh:Nat} {q dc:Bool} {o:Oper} {σ:St} {K:St→Prop} (h:jT P ops hh q dc o K σ) :∃s,K s:=by
  obtain ⟨v,os,_,h2,run⟩:=E3 h
  exact⟨_,h2⟩
theorem v3 {ops:Array Oper} {hh:Nat} {qs ds:List Nat} {i:Nat} {σ:St} {K K2:St→Prop} (hk:∀ s,K s→K2 s) (h:gf P ops hh qs ds i K σ):gf P ops hh qs ds i K2 σ:=by
  unfold gf at h ⊢
  split at h
  · exact hk _ h
  · exact abA hk h
theorem abC {ops:Array Oper} {hh:Nat} {qs ds:List Nat} {i:Nat} {σ:St} {K:St→Prop} (h:gf P ops hh qs ds i K σ) :∃s,K s:=by
  unfold gf at h
  split at h
  · exact⟨_,h⟩
  · exact abB h
theorem II {os:List Ob} {γ0:Cx} {ops:Array Oper} {hh:Nat} {qs ds:List Nat} (hd:∀ o∈ops.toList,∀ d,o.dst=some d→d<N) {K:St→Prop} {Q:Exit→Act→World→Prop}
    (hQ:∀ σ' a' w',K σ'→gA N os γ0 σ' a' w'→Q .normal a' w'):∀ (n:Nat) (aR:Array Bool) (σ:St) (a:Act) (w:World),tg P ops hh qs ds K n aR σ→gA N os γ0 σ a w→wpAny P .any ops Q n aR a w
  | 0,aR,σ,a,w,h,aQ=>⟨h.1,hQ _ _ _ h.2 aQ⟩
  | n+1,aR,σ,a,w,h,aQ=>by
    refine⟨fun hr=>hQ _ _ _ (h.1 hr) aQ,fun i hi=>?_⟩
    have:=h.2 i hi
    unfold gf at this
    split at this
    · rename_i hi'
      unfold wpOp
      simp only[hi']
      exact II hd hQ n _ _ _ _ this aQ
    · rename_i o hi'
      exact abt hd hi' this aQ fun σ' a' w' hK eU=>II hd hQ n _ _ _ _ hK eU
theorem abD {id:Nat} {ops:Array Oper} {Q:Exit→St→Prop} (hh:Nat) (qs ds:List Nat) (hm:P.follows .mixedOrders=true) (hd:gm N ops=true)
    (h:tg P ops hh qs ds (Q .normal) ops.size (wC ops.size false) σ):W P N n0 (.region id ops true) Q σ:=by
  intro os γ0 a w _ aQ
  refine wp_region_any hm ?_
  exact II (qm hd) (K:=Q .normal) (fun σ' a' w' hK eU=>⟨σ',hK,eU⟩) _ _ _ _ _ h aQ.drawn
theorem abE {ops:Array Oper} {hh:Nat} {qs ds:List Nat} {K:St→Prop} {i:Nat} {o:Oper} (hi:ops[i]?=some o) (D:List Nat) (Yd:i∈D)
    (hD:∀ j∈D,j=i∨∃ oj,ops[j]?=some oj∧∃ e∈oj.after,Region.binds .any e=true∧e.on∈D):∀ (fuel:Nat) (aR:Array Bool) (σ:St),(∀ j∈D,aR.getD j true=false) →
      i∈Region.ready .any ops aR →
      (∀ j oj,ops[j]?=some oj→aR.getD j true=false→j ∉ D→o.apart ops oj=true∧E5 (gN (qs.contains i) (ds.contains i) o) (gN (qs.contains j) (ds.contains j) oj)=true) →
      gf P ops hh qs ds i (tg P ops hh qs ds K fuel (aR.setIfInBounds i true)) σ→tg P ops hh qs ds K (fuel+1) aR σ:=by
  intro fuel
  induction fuel with
  | zero =>
    intro aR σ hu hr m6 h
    refine⟨fun e=>by rw[e] at hr;simp at hr,fun k hk=>?_⟩
    by_cases gZ:k=i
    · subst gZ;exact h
    · obtain ⟨s,hs⟩:=abC h
      have:=ready_mono hk gZ
      rw[hs.1] at this
      simp at this
  | succ m ih =>
    intro aR σ hu hr m6 h
    refine⟨fun e=>by rw[e] at hr;simp at hr,fun k hk=>?_⟩
    by_cases gZ:k=i
    · subst gZ;exact h
    · have AK:=mem_ready.1 hk
      obtain ⟨dx,ok,aQ,dW⟩:=AK
      have ud:k ∉ D:=by
        intro ud
        rcases hD k ud with e | ⟨oj,kF,e,he,hb,wR⟩
        · exact gZ e
        · rw[aQ] at kF
          simp only[Option.some.injEq] at kF
          subst kF
          have h1:=dW e he hb
          have h2:=hu e.on wR
          rw[Array.getD_eq_getD_getElem?] at h1 h2
          cases hx:aR[e.on]? with
          | none=>rw[hx] at h1;simp at h1
          | some b=>rw[hx] at h1 h2;simp at h1 h2;rw[h1] at h2;simp at h2
      obtain ⟨ha,hc⟩:=m6 k ok aQ dx ud
      have h1:gf P ops hh qs ds i (gf P ops hh qs ds k (tg P ops hh qs ds K m ((aR.setIfInBounds i true).setIfInBounds k true))) σ :=
        v3 (fun s hs=>hs.2 k (ready_mono hk gZ)) h
      have h2:gf P ops hh qs ds k (gf P ops hh qs ds i (tg P ops hh qs ds K m ((aR.setIfInBounds i true).setIfInBounds k true))) σ:=by
        unfold gf at h1 ⊢
        simp only[hi,aQ] at h1 ⊢
        exact abz ha hc h1
      refine v3 (fun s hs=>?_) h2
      refine ih (aR.setIfInBounds k true) s (fun j hj=>?_) (ready_mono hr (Ne.symm gZ)) (fun j oj kF hl qn=>?_) ?_
      · have dL:k≠j:=fun e=>ud (by rw[e];exact hj)
        rw[getD_set_ne _ dL];exact hu j hj
      · refine m6 j oj kF ?_ qn
        by_cases AL:k=j
        · subst AL;exact dx
        · rwa [getD_set_ne _ AL] at hl
      · rw[Array.setIfInBounds_comm _ _ (Ne.symm gZ)] at hs
        exact hs
def IJ (ops:Array Oper) (qs ds:List Nat) (aR:Array Bool) (i:Nat) (D:List Nat):Bool :=
  match ops[i]? with
  | none=>false
  | some o =>
    D.contains i && D.all (fun j=>j == i || match ops[j]? with | some oj=>oj.after.any (fun e=>Region.binds .any e && D.contains e.on) | none=>false) &&
    D.all (fun j=>!aR.getD j true) && o.after.all (fun e=>!Region.binds .any e || aR.getD e.on false) &&
    (aT ops.size).all fun j=>D.contains j || aR.getD j true || match ops[j]? with | some oj=>o.apart ops oj && E5 (gN (qs.contains i) (ds.contains i) o) (gN (qs.contains j) (ds.contains j) oj) | none=>true
theorem abF {ops:Array Oper} {hh:Nat} {qs ds:List Nat} {K:St→Prop} {i:Nat} {D:List Nat} {fuel:Nat} {aR:Array Bool} (h:IJ ops qs ds aR i D=true)
    (hs:gf P ops hh qs ds i (tg P ops hh qs ds K fuel (aR.setIfInBounds i true)) σ):tg P ops hh qs ds K (fuel+1) aR σ:=by
  unfold IJ at h
  cases hi:ops[i]? with
  | none=>simp[hi] at h
  | some o =>
    simp only[hi,bh,fK,q9,kB,beq_iff_eq,Bool.not_eq_true'] at h
    obtain ⟨⟨⟨⟨h1,h2⟩,h3⟩,h4⟩,h5⟩:=h
    refine abE hi D h1 (fun j hj=>?_) fuel aR σ h3 ?_ ?_ hs
    · rcases h2 j hj with h | h
      · exact .inl h
      · right
        split at h
        · rename_i oj kF
          rw[Array.any_eq_true'] at h
          obtain ⟨e,he,hb⟩:=h
          simp only[bh,q9] at hb
          exact⟨oj,kF,e,he,hb.1,hb.2⟩
        · simp at h
    · rw[mem_ready]
      refine⟨h3 i h1,o,hi,fun e he hb=>?_⟩
      rw[Array.all_eq_true'] at h4
      have:=h4 e he
      simpa [hb] using this
    · intro j oj kF hl qn
      have hj:j<ops.size:=(oL.1 kF).1
      rcases h5 j (List.mem_range.2 hj) with (h | h) | h
      · exact absurd h qn
      · rw[hl] at h;simp at h
      · simpa [kF] using h
def PT.oo (ops:Array Oper) (qs ds:List Nat):PT→Nat→Array Bool→Bool
  | .nil,n,aR=>n == 0 && (Region.ready .any ops aR).isEmpty
  | .take _ _,0,_=>false
  | .take i t,n+1,aR=>IJ ops qs ds aR i (GR ops i) && t.oo ops qs ds n (aR.setIfInBounds i true)
  | .both _ _ _ _,0,_=>false
  | .both i t j u,n+1,aR=>(Region.ready .any ops aR == [i,j]) && t.oo ops qs ds n (aR.setIfInBounds i true) && u.oo ops qs ds n (aR.setIfInBounds j true)
  | .three _ _ _ _ _ _,0,_=>false
  | .three i t j u k v,n+1,aR=>(Region.ready .any ops aR == [i,j,k]) && t.oo ops qs ds n (aR.setIfInBounds i true) && u.oo ops qs ds n (aR.setIfInBounds j true) && v.oo ops qs ds n (aR.setIfInBounds k true)
def mn (P:Program) (ops:Array Oper) (hh:Nat) (qs ds:List Nat):PT→(St→Prop)→St→Prop
  | .nil,K,σ=>K σ
  | .take i t,K,σ=>gf P ops hh qs ds i (mn P ops hh qs ds t K) σ
  | .both i t j u,K,σ=>gf P ops hh qs ds i (mn P ops hh qs ds t K) σ∧gf P ops hh qs ds j (mn P ops hh qs ds u K) σ
  | .three i t j u k v,K,σ=>gf P ops hh qs ds i (mn P ops hh qs ds t K) σ∧gf P ops hh qs ds j (mn P ops hh qs ds u K) σ∧gf P ops hh qs ds k (mn P ops hh qs ds v K) σ
theorem xO {ops:Array Oper} {hh:Nat} {qs ds:List Nat} {K:St→Prop}:∀ (t:PT) (n:Nat) (aR:Array Bool) (σ:St),t.oo ops qs ds n aR=true→mn P ops hh qs ds t K σ→tg P ops hh qs ds K n aR σ
  | .nil,n,aR,σ,h,hp=>by
    simp only[PT.oo,bh,beq_iff_eq,List.isEmpty_iff] at h
    obtain ⟨rfl,h⟩:=h
    exact⟨h,hp⟩
  | .take _ _,0,_,_,h,_=>by simp[PT.oo] at h
  | .take i t,n+1,aR,σ,h,hp=>by
    simp only[PT.oo,bh] at h
    exact abF h.1 (v3 (fun s hs=>xO t n _ s h.2 hs) hp)
  | .both _ _ _ _,0,_,_,h,_=>by simp[PT.oo] at h
  | .both i t j u,n+1,aR,σ,h,hp=>by
    simp only[PT.oo,bh,beq_iff_eq] at h
    obtain ⟨⟨h1,h2⟩,h3⟩:=h
    refine⟨fun e=>by rw[h1] at e;simp at e,fun k hk=>?_⟩
    rw[h1] at hk
    simp only[bZ,kC,or_false] at hk
    rcases hk with rfl | rfl
    · exact v3 (fun s hs=>xO t n _ s h2 hs) hp.1
    · exact v3 (fun s hs=>xO u n _ s h3 hs) hp.2
  | .three _ _ _ _ _ _,0,_,_,h,_=>by simp[PT.oo] at h
  | .three i t j u k v,n+1,aR,σ,h,hp=>by
    simp only[PT.oo,bh,beq_iff_eq] at h
    obtain ⟨⟨⟨h1,h2⟩,h3⟩,h4⟩:=h
    refine⟨fun e=>by rw[h1] at e;simp at e,fun x hk=>?_⟩
    rw[h1] at hk
    simp only[bZ,kC,or_false] at hk
    rcases hk with rfl | rfl | rfl
    · exact v3 (fun s hs=>xO t n _ s h2 hs) hp.1
    · exact v3 (fun s hs=>xO u n _ s h3 hs) hp.2.1
    · exact v3 (fun s hs=>xO v n _ s h4 hs) hp.2.2
theorem P6 {id:Nat} {ops:Array Oper} {Q:Exit→St→Prop} (hh:Nat) (qs ds:List Nat) (t:PT) (hm:P.follows .mixedOrders=true) (hd:gm N ops=true) (ht:t.oo ops qs ds ops.size (wC ops.size false)=true)
    (h:mn P ops hh qs ds t (Q .normal) σ):W P N n0 (.region id ops true) Q σ :=
  abD hh qs ds hm hd (xO t _ _ σ ht h)
theorem P7 {ops:Array Oper} {hh:Nat} {qs ds:List Nat} {K:St→Prop}:mn P ops hh qs ds .nil K σ=K σ:=rfl
theorem P8 {ops:Array Oper} {hh:Nat} {qs ds:List Nat} {i:Nat} {t:PT} {K:St→Prop}:mn P ops hh qs ds (.take i t) K σ=gf P ops hh qs ds i (mn P ops hh qs ds t K) σ:=rfl
theorem P9 {ops:Array Oper} {hh:Nat} {qs ds:List Nat} {i j k:Nat} {t u v:PT} {K:St→Prop}:mn P ops hh qs ds (.three i t j u k v) K σ=(gf P ops hh qs ds i (mn P ops hh qs ds t K) σ∧gf P ops hh qs ds j (mn P ops hh qs ds u K) σ∧gf P ops hh qs ds k (mn P ops hh qs ds v K) σ):=rfl
theorem Qa {ops:Array Oper} {hh:Nat} {qs ds:List Nat} {i j:Nat} {t u:PT} {K:St→Prop}:mn P ops hh qs ds (.both i t j u) K σ=(gf P ops hh qs ds i (mn P ops hh qs ds t K) σ∧gf P ops hh qs ds j (mn P ops hh qs ds u K) σ):=rfl
theorem Qd {ops:Array Oper} {hh:Nat} {q:Bool} {o:Oper} {K:St→Prop}:jT P ops hh q true o K σ=(o.guard=none∧vZ hh P o σ K):=rfl
theorem Qe {ops:Array Oper} {hh:Nat} {q:Bool} {o:Oper} {K:St→Prop}:jT P ops hh q false o K σ=(ey hh q o σ=true∧dV P ops q o K σ):=rfl
def Qf (P:Program) (hh:Nat) (dst:Option Tmp) (args:List AV) (K:St→Prop) (σ:St):AV→Prop
  | .fn g bk=>BU P hh g (args++bk) dst K σ
  | _=>False
theorem Qg {hh:Nat} {dst:Option Tmp} {args:List AV} {K:St→Prop} {g:FuncId} {bk:List AV}:Qf P hh dst args K σ (.fn g bk)=BU P hh g (args++bk) dst K σ:=rfl
section
variable {dst:Option Tmp} {tt:TypeId} {p:String} {af:Array Edge} {g:Option (Nat × Bool)} {K:St→Prop} {hh:Nat}
theorem Qh (f:Operand) (args:Array Operand) (fc:Array TypeId):vZ hh P ⟨dst,.call ⟨.value f,args,fc⟩,tt,p,af,g⟩ σ K=Qf P hh dst (args.toList.map (ev σ)) K σ (ev σ f):=by
  simp only[vZ]
  cases ev σ f<;>rfl
theorem Qi {o:Oper}:ey hh true o σ=true:=by simp[ey]
theorem Qj (t:TypeId) (a:Operand):ey hh false ⟨dst,.load t a,tt,p,af,g⟩ σ=nC hh (ev σ a):=by simp[ey,cls,Op.operands,qP]
theorem Qk (t:TypeId) (a:Operand) (f:Nat):ey hh false ⟨dst,.fieldAddr t a f,tt,p,af,g⟩ σ=nC hh (ev σ a):=by simp[ey,cls,Op.operands,qP]
theorem Qm (a:Operand):ey hh false ⟨dst,.nilCheck a,tt,p,af,g⟩ σ=nC hh (ev σ a):=by simp[ey,cls,Op.operands,qP]
theorem Qn (t:TypeId) (a i:Operand):ey hh false ⟨dst,.indexAddr t a i,tt,p,af,g⟩ σ=(nC hh (ev σ a) && nC hh (ev σ i)):=by simp[ey,cls,Op.operands,qP]
theorem Qo (x:Operand) (fc:Array TypeId):ey hh false ⟨dst,.call ⟨.builtin .len,#[x],fc⟩,tt,p,af,g⟩ σ=nC hh (ev σ x):=by simp[ey,cls,Op.operands,Call.operands,qP]
theorem mo {o:Oper} (h:(cls o.op == 0 || decide (3≤cls o.op))=true):ey hh false o σ=true:=by simp only[ey,lQ,h,Bool.true_or]
theorem Qp (id r c:Nat):nC hh (.ptr id r c) = !(id == hh):=rfl
theorem Qq (id a b c:Nat):nC hh (.ref id a b c) = !(id == hh):=rfl
theorem Qr (v:Value):nC hh (.lit v)=true:=rfl
theorem Qs (s:Nat) (r:List (List AV)):nC hh (.tree s r)=true:=rfl
theorem Qt (r:List AV):nC hh (.db r)=true:=rfl
theorem Qu (r:List AV):nC hh (.agg r)=true:=rfl
theorem Qv (r:List AV):nC hh (.bL r)=true:=rfl
theorem Qw:nC hh .undef=true:=rfl
theorem Qx (x:Operand):ey hh false ⟨dst,.move x,tt,p,af,g⟩ σ=true:=mo (by rfl)
theorem Qy (x:Operand):ey hh false ⟨dst,.assign x,tt,p,af,g⟩ σ=true:=mo (by rfl)
theorem Qz (c a b:Operand):ey hh false ⟨dst,.pick c a b,tt,p,af,g⟩ σ=true:=mo (by rfl)
theorem QA (op:BinOp) (t:TypeId) (x y:Operand) (yt:TypeId):ey hh false ⟨dst,.binOp op t x y yt,tt,p,af,g⟩ σ=true:=mo (by rfl)
theorem QB (op:UnOp) (t:TypeId) (x:Operand):ey hh false ⟨dst,.unOp op t x,tt,p,af,g⟩ σ=true:=mo (by rfl)
theorem QC (fn:Fn) (a b:Array Operand):ey hh false ⟨dst,.makeFunc fn a b,tt,p,af,g⟩ σ=true:=mo (by rfl)
theorem QD (s:TypeId) (x:Operand) (f:Nat):ey hh false ⟨dst,.field s x f,tt,p,af,g⟩ σ=true:=mo (by rfl)
theorem QE (x:Operand) (i:Nat):ey hh false ⟨dst,.extract x i,tt,p,af,g⟩ σ=true:=mo (by rfl)
theorem QF (t:TypeId) (parts:Array (Nat × Operand)):ey hh false ⟨dst,.build t parts,tt,p,af,g⟩ σ=true:=mo (by rfl)
theorem QG (e:TypeId):ey hh false ⟨dst,.alloc e,tt,p,af,g⟩ σ=true:=mo (by rfl)
theorem QH (e:TypeId) (x:Operand):ey hh false ⟨dst,.box e x,tt,p,af,g⟩ σ=true:=mo (by rfl)
theorem QI (t:TypeId) (l c:Operand):ey hh false ⟨dst,.makeSlice t l c,tt,p,af,g⟩ σ=true:=mo (by rfl)
theorem QJ (t:TypeId) (len:Nat) (parts:Array (Nat × Operand)):ey hh false ⟨dst,.buildSlice t len parts,tt,p,af,g⟩ σ=true:=mo (by rfl)
theorem QK (t:TypeId) (a x:Operand):ey hh false ⟨dst,.store t a x,tt,p,af,g⟩ σ=true:=mo (by rfl)
theorem QL (f:Operand) (args:Array Operand) (fc:Array TypeId):ey hh false ⟨dst,.call ⟨.value f,args,fc⟩,tt,p,af,g⟩ σ=true:=mo (by rfl)
theorem QM (args:Array Operand) (fc:Array TypeId):ey hh false ⟨dst,.call ⟨.builtin .append,args,fc⟩,tt,p,af,g⟩ σ=true:=mo (by rfl)
theorem QN (args:Array Operand) (fc:Array TypeId):ey hh false ⟨dst,.call ⟨.builtin .min,args,fc⟩,tt,p,af,g⟩ σ=true:=mo (by rfl)
theorem QO (args:Array Operand) (fc:Array TypeId):ey hh false ⟨dst,.call ⟨.builtin .max,args,fc⟩,tt,p,af,g⟩ σ=true:=mo (by rfl)
end
theorem Hc:type_of% @P7∧type_of% @P8∧type_of% @P9∧type_of% @Qa∧type_of% @Qd∧type_of% @Qe∧type_of% @Qg∧type_of% @Qh∧type_of% @Qi∧type_of% @Qj∧type_of% @Qk∧type_of% @Qm∧type_of% @Qn∧type_of% @Qo∧type_of% @Qp∧type_of% @Qq∧type_of% @Qr∧type_of% @Qs∧type_of% @Qt∧type_of% @Qu∧type_of% @Qv∧type_of% @Qw∧type_of% @Qx∧type_of% @Qy∧type_of% @Qz∧type_of% @QA∧type_of% @QB∧type_of% @QC∧type_of% @QD∧type_of% @QE∧type_of% @QF∧type_of% @QG∧type_of% @QH∧type_of% @QI∧type_of% @QJ∧type_of% @QK∧type_of% @QL∧type_of% @QM∧type_of% @QN∧type_of% @QO :=
  ⟨@P7,@P8,@P9,@Qa,@Qd,@Qe,@Qg,@Qh,@Qi,@Qj,@Qk,@Qm,@Qn,@Qo,@Qp,@Qq,@Qr,@Qs,@Qt,@Qu,@Qv,@Qw,@Qx,@Qy,@Qz,@QA,@QB,@QC,@QD,@QE,@QF,@QG,@QH,@QI,@QJ,@QK,@QL,@QM,@QN,@QO⟩
theorem BW {hh:Nat} {f:FuncId} {args cW:List AV} {D D':Ob} {dst:Option Tmp} {K:St→Prop} {res:AV} (h:ao P f cW [D] res [D']) (h1:vY D=true) (h2:vY D'=true) (h3:σ.aa[hh]?=some D) (h4:gT res=true)
    (h5:fD (P1 hh) cW args) (hK:K ((⟨σ.env,σ.aa.set hh D'⟩:St).put dst res)):BU P hh f args dst K σ:=⟨cW,D,res,D',h,h1,h2,h3,h4,h5,hK⟩
theorem sV {P:Program} {N n0:Nat} {σ:St} {Q:Exit→St→Prop} (n:Nat) {id:Nat} {ops:Array Oper} (hd:gm N ops=true) (o:Oper) (ho:ops[n]?=some o)
    (h:∀ K:St→Prop,(∀ s,Q .normal s→K s)→opsL P ops (ops.toList.take n) (sT P o (opsL P ops (ops.toList.drop (n+1)) K)) σ):W P N n0 (.region id ops false) Q σ:=by
  intro os γ0 a w hn aQ
  refine wp_region ?_
  have G':n<ops.size:=(oL.1 ho).1
  have e:aT ops.size=mz 0 (ops.toList.take n).length++(n::mz (n+1) (ops.toList.drop (n+1)).length):=by
    rw[vd,← vc]
    have:=Ge (s:=0) (m:=n) (n:=(ops.toList.drop (n+1)).length+1) (step:=1)
    simp only[eR,sq] at this
    rw[show (ops.toList.take n).length=n by simp;omega,this]
    congr 1
    simp;omega
  rw[e]
  refine wN _ a w ?_
  refine rn (qm hd) (K:=sT P o (opsL P ops (ops.toList.drop (n+1)) (Q .normal))) (fun σ' a' w' hk eU=>?_) (ops.toList.take n) 0 σ a w (fun k hk=>?_) (h _ (fun _ h=>h)) aQ
  · show wpOps P ops _ _ a' w'
    rw[wpOps_cons]
    unfold wpOp
    simp only[ho]
    have hw:Region.wanted o (yielded ops a'.tmps)=true:=by simp[Region.wanted,hk.1]
    rw[if_pos hw]
    left
    refine HP hk eU (qm hd o (gw (by simpa using ho))) (fun σ2 a2 w2 bQ v5=>?_)
    refine rn (qm hd) (K:=Q .normal) (fun BX a3 w3 lL o8=>⟨BX,lL,o8⟩) (ops.toList.drop (n+1)) (n+1) σ2 a2 w2 (fun k hk=>?_) bQ v5
    rw[nI]
    simp
  · simp only[ez,sr] at hk
    rw[Gc (by omega)]
    simp
end Go.Am
namespace Go.Am
variable {P:Program} {N n0:Nat} {σ:St} {Q:Exit→St→Prop}
def rX:Exit→Bool
  | .normal=>true
  | _=>false
def BY (id:Nat):Exit→Bool
  | .normal=>true
  | .exit j=>j == id
  | _=>false
theorem IE {e:Exit} (h:rX e=false):e≠.normal:=by intro h2;subst h2;simp[rX] at h
theorem QP {id:Nat} {e:Exit} (h:BY id e=false):e≠.normal∧e≠.exit id:=by
  constructor
  · intro h2;subst h2;simp[BY] at h
  · intro h2;subst h2;simp[BY] at h
theorem rk {id:Nat} {ops:Array Oper} {y:Code} (h:∀ K:St→Prop,(∀ s,W P N n0 y Q s→K s)→opsL P ops ops.toList K σ) (hd:gm N ops=true:=by decide):W P N n0 (.seq (.region id ops false) y) Q σ:=w8 hd h
theorem rke {id:Nat} {ops:Array Oper} (h:∀ K:St→Prop,(∀ s,Q .normal s→K s)→opsL P ops ops.toList K σ) (hd:gm N ops=true:=by decide):W P N n0 (.region id ops false) Q σ:=Yr hd h
theorem rd {id:Nat} {ops:Array Oper} {y:Code} (h:∀ K:St→Prop,(∀ s,W P N n0 y Q s→K s)→opsL P ops ops.toList K σ) (hm:P.follows .mixedOrders=true:=by rfl) (hd:gm N ops=true:=by decide) (ht:wV ops=true:=by decide +kernel):W P N n0 (.seq (.region id ops true) y) Q σ:=Ys hm hd ht h
theorem rde {id:Nat} {ops:Array Oper} (h:∀ K:St→Prop,(∀ s,Q .normal s→K s)→opsL P ops ops.toList K σ) (hm:P.follows .mixedOrders=true:=by rfl) (hd:gm N ops=true:=by decide) (ht:wV ops=true:=by decide +kernel):W P N n0 (.region id ops true) Q σ:=Yt hm hd ht h
theorem rb {id:Nat} {ops:Array Oper} {y:Code} (h:∀ K:St→Prop,(∀ s,W P N n0 y Q s→K s)→qC P ops ops.toList K σ) (hm:P.follows .mixedOrders=true:=by rfl) (hd:gm N ops=true:=by decide) (ht:Ea ops=true:=by decide +kernel):W P N n0 (.seq (.region id ops true) y) Q σ:=ZP hm hd ht h
theorem BZ {id:Nat} {ops:Array Oper} (h:∀ K:St→Prop,(∀ s,Q .normal s→K s)→qC P ops ops.toList K σ) (hm:P.follows .mixedOrders=true:=by rfl) (hd:gm N ops=true:=by decide) (ht:Ea ops=true:=by decide +kernel):W P N n0 (.region id ops true) Q σ:=ZQ hm hd ht h
theorem ra {id:Nat} {ops:Array Oper} {y:Code} (h:∀ K:St→Prop,(∀ s,W P N n0 y Q s→K s)→qA P ops ops.toList K σ) (hm:P.follows .mixedOrders=true:=by rfl) (hd:gm N ops=true:=by decide) (ht:D9 ops=true:=by decide +kernel):W P N n0 (.seq (.region id ops true) y) Q σ:=ZM hm hd ht h
theorem B0 {id:Nat} {ops:Array Oper} (h:∀ K:St→Prop,(∀ s,Q .normal s→K s)→qA P ops ops.toList K σ) (hm:P.follows .mixedOrders=true:=by rfl) (hd:gm N ops=true:=by decide) (ht:D9 ops=true:=by decide +kernel):W P N n0 (.region id ops true) Q σ:=ZN hm hd ht h
theorem Wk {x y:Code} (h:∀ Q':Exit→St→Prop,(∀ s,W P N n0 y Q s→Q' .normal s)→(∀ e s,rX e=false→Q e s→Q' e s)→W P N n0 x Q' σ):W P N n0 (.seq x y) Q σ :=
  YQ fun Q' h1 h2=>h Q' h1 fun e s he=>h2 e s (IE he)
theorem Wb {id:Nat} {c:Code} (h:∀ Q':Exit→St→Prop,(∀ s,Q .normal s→Q' .normal s)→(∀ s,Q .normal s→Q' (.exit id) s)→(∀ e s,BY id e=false→Q e s→Q' e s)→W P N n0 c Q' σ):W P N n0 (.block id c) Q σ :=
  Yo fun Q' h1 h2 h3=>h Q' h1 h2 fun e s he=>h3 e s (QP he).1 (QP he).2
theorem Wc {c:Operand} {x y:Code} {t:Bool} (ht:t=true→W P N n0 x Q σ) (hf:t=false→W P N n0 y Q σ) (hc:ev σ c=.lit (.bool t):=by (simp only[Go.Am.n7,Go.Am.Lc,↓reduceIte,Nat.reduceEqDiff,Nat.reduceBEq];exact rfl)):W P N n0 (.cond c x y) Q σ:=DK hc ht hf
theorem aI {α:Type} {c:Code} (S:α→St) (I:α→Prop) (M:α→Nat) (x0:α) (hI:I x0) (h0:aA n0 σ (S x0))
    (round:∀ x,I x→∀ Q':Exit→St→Prop,(∀ s y,I y→M y<M x→aA n0 s (S y)→Q' .normal s)→(∀ e s,rX e=false→Q e s→Q' e s)→W P N n0 c Q' (S x)):W P N n0 (.loop c) Q σ :=
  Yh S I M x0 hI h0 fun x hx Q' h1 h2=>round x hx Q' h1 fun e s he=>h2 e s (IE he)
end Go.Am
namespace Go.Am
variable {P:Program} {N n0:Nat} {σ:St} {Q:Exit→St→Prop}
theorem abI {K0:St→Prop} (n m:Nat) {ops:Array Oper} (hd:gm N ops=true) (o o2:Oper) (ho:ops[n]?=some o) (dO:ops[n+1+m]?=some o2)
    {os:List Ob} {γ0:Cx} {a:Act} {w:World} {R:Exit→Act→World→Prop} (aQ:gA N os γ0 σ a w) (xP:∀ σ' a' w',K0 σ'→gA N os γ0 σ' a' w'→R .normal a' w')
    (h:opsL P ops (ops.toList.take n) (sT P o (opsL P ops ((ops.toList.drop (n+1)).take m) (sT P o2 (opsL P ops (ops.toList.drop (n+1+m+1)) K0)))) σ) :
    wpOps P ops R (aT ops.size) a w:=by
  have G':n+1+m<ops.size:=(oL.1 dO).1
  have e:aT ops.size=mz 0 (ops.toList.take n).length++(n::(mz (n+1) ((ops.toList.drop (n+1)).take m).length++((n+1+m)::mz (n+1+m+1) (ops.toList.drop (n+1+m+1)).length))):=by
    rw[vd,← vc]
    have h1:((ops.toList.drop (n+1)).take m).length=m:=by simp;omega
    have h2:(ops.toList.take n).length=n:=by simp;omega
    have h3:(ops.toList.drop (n+1+m+1)).length=ops.size - (n+1+m+1):=by simp
    rw[h1,h2,h3]
    have a1:=Ge (s:=n+1) (m:=m) (n:=ops.size - (n+1+m+1)+1) (step:=1)
    simp only[sq] at a1
    rw[a1,← vc]
    have a2:=Ge (s:=0) (m:=n) (n:=m+(ops.size - (n+1+m+1)+1)+1) (step:=1)
    simp only[eR,sq] at a2
    rw[a2]
    congr 1
    omega
  rw[e]
  refine wN _ a w ?_
  refine rn (qm hd) (K:=sT P o (opsL P ops ((ops.toList.drop (n+1)).take m) (sT P o2 (opsL P ops (ops.toList.drop (n+1+m+1)) K0)))) (fun σ' a' w' hk eU=>?_) (ops.toList.take n) 0 σ a w (fun k hk=>?_) h aQ
  · show wpOps P ops _ _ a' w'
    rw[wpOps_cons]
    unfold wpOp
    simp only[ho]
    have hw:Region.wanted o (yielded ops a'.tmps)=true:=by simp[Region.wanted,hk.1]
    rw[if_pos hw]
    left
    refine HP hk eU (qm hd o (gw (by simpa using ho))) (fun σ2 a2 w2 bQ v5=>?_)
    refine wN _ a2 w2 ?_
    refine rn (qm hd) (K:=sT P o2 (opsL P ops (ops.toList.drop (n+1+m+1)) K0)) (fun σ' a' w' hk eU=>?_) ((ops.toList.drop (n+1)).take m) (n+1) σ2 a2 w2 (fun k hk=>?_) bQ v5
    · show wpOps P ops _ _ a' w'
      rw[wpOps_cons]
      unfold wpOp
      simp only[dO]
      have hw:Region.wanted o2 (yielded ops a'.tmps)=true:=by simp[Region.wanted,hk.1]
      rw[if_pos hw]
      left
      refine HP hk eU (qm hd o2 (gw (by simpa using dO))) (fun σ2 a2 w2 bQ v5=>?_)
      refine rn (qm hd) (K:=K0) (fun BX a3 w3 lL o8=>xP BX a3 w3 lL o8) (ops.toList.drop (n+1+m+1)) (n+1+m+1) σ2 a2 w2 (fun k hk=>?_) bQ v5
      rw[nI]
      simp
    · simp only[ez,List.length_drop,sr] at hk
      rw[Gc (by omega),nI]
      simp
  · simp only[ez,sr] at hk
    rw[Gc (by omega)]
    simp
theorem abJ (n m:Nat) {id:Nat} {ops:Array Oper} (hd:gm N ops=true) (o o2:Oper) (ho:ops[n]?=some o) (dO:ops[n+1+m]?=some o2)
    (h:∀ K:St→Prop,(∀ s,Q .normal s→K s)→opsL P ops (ops.toList.take n) (sT P o (opsL P ops ((ops.toList.drop (n+1)).take m) (sT P o2 (opsL P ops (ops.toList.drop (n+1+m+1)) K)))) σ):W P N n0 (.region id ops false) Q σ:=by
  intro os γ0 a w hn aQ
  refine wp_region ?_
  exact abI n m hd o o2 ho dO aQ (fun BX a3 w3 lL o8=>⟨BX,lL,o8⟩) (h _ (fun _ h=>h))
end Go.Am
namespace Go.Am
variable {P:Program} {N n0:Nat} {σ:St} {Q:Exit→St→Prop}
class Head (p:Prop):Prop where
  on:True
section
variable {ops:Array Oper} {o:Oper} {l:List Oper} {K:St→Prop}
instance:Head (opsL P ops (o::l) K σ):=⟨trivial⟩
instance {qs:List Nat} {t:PT}:Head (iQ P ops qs t K σ):=⟨trivial⟩
instance {qs:List Nat} {i:Nat}:Head (pL P ops qs i (o::l) K σ):=⟨trivial⟩
instance:Head (qA P ops (o::l) K σ):=⟨trivial⟩
instance:Head (qC P ops (o::l) K σ):=⟨trivial⟩
end
theorem gO {p:Prop} [Head p] (h:p):p:=h
class EU (p:Prop) (b:outParam Bool) (A B:outParam Prop):Prop where
  sp:(b=true→A)→(b=false→B)→p
instance {o:Oper} {K:St→Prop} {b want:Bool}:EU (ng P o K b want σ) b (ng P o K true want σ) (ng P o K false want σ):=⟨YR⟩
instance {q:Bool} {o:Oper} {K:St→Prop} {b want:Bool}:EU (nS q P o K b want σ) b (nS q P o K true want σ) (nS q P o K false want σ):=⟨Yf⟩
theorem gS {p:Prop} {b:Bool} {A B:Prop} [h:EU p b A B] (h1:b=true→A) (h2:b=false→B):p:=h.sp h1 h2
def QQ:Code→Option Exit
  | .skip=>some .normal
  | .label _=>some .normal
  | .exit id=>some (.exit id)
  | .ret=>some .ret
  | _=>none
theorem Wz {c:Code} {e:Exit} (hc:QQ c=some e) (h:Q e σ):W P N n0 c Q σ:=by
  cases c<;>simp[QQ] at hc
  all_goals subst hc
  all_goals first|exact DJ h|exact YN h|exact YO h|exact YM h
def E6 (P:Program) (d:Bool) (ops:Array Oper):Bool:=!d || (P.follows .mixedOrders && wV ops)
theorem rr {id:Nat} {ops:Array Oper} {d:Bool} {y:Code} (h:∀ K:St→Prop,(∀ s,W P N n0 y Q s→K s)→opsL P ops ops.toList K σ) (ht:E6 P d ops=true:=by decide +kernel) (hd:gm N ops=true:=by decide):W P N n0 (.seq (.region id ops d) y) Q σ:=by
  cases d
  · exact rk h hd
  · have h2:P.follows .mixedOrders=true∧wV ops=true:=by simpa [E6] using ht
    exact rd h h2.1 hd h2.2
theorem th {id:Nat} {ops:Array Oper} {d:Bool} (h:∀ K:St→Prop,(∀ s,Q .normal s→K s)→opsL P ops ops.toList K σ) (ht:E6 P d ops=true:=by decide +kernel) (hd:gm N ops=true:=by decide):W P N n0 (.region id ops d) Q σ:=by
  cases d
  · exact rke h hd
  · have h2:P.follows .mixedOrders=true∧wV ops=true:=by simpa [E6] using ht
    exact rde h h2.1 hd h2.2
class B1 (rows:List (List AV)) (sz:outParam Nat):Prop where
  wid:∀ row∈rows,row.length=sz
  cd:∀ row∈rows,∀ v∈row,(∃ x,v=AV.lit x)∨∃ s r,v=AV.tree s r
instance (xs:List Int):B1 (ints xs) 1:=⟨qq _,sL _⟩
instance (xs:List Bool):B1 (bg xs) 1:=⟨G0 _,MK _⟩
instance (xs:List (List Int)):B1 (j9 xs) 1:=⟨Yv _,Yu _⟩
instance {α:Type} {enc:α→List AV} {sz:Nat} [Row enc sz] (xs:List α):B1 (rowsOf enc xs) sz:=⟨fZ _,l9 _⟩
theorem aN.fz {kp:Nat→Prop} {ρ:Nat→Nat} {id sz len:Nat} {rows:List (List AV)} [h:B1 rows sz] (ho:σ.aa[id]?=some (.arr sz rows)) (hl:len=rows.length)
    (qj:¬ kp id:=by first|exact hU (by decide)|decide):aN σ kp ρ true (.tree sz rows) (.ref id sz 0 len):=aN.cd ho h.wid hl qj h.cd
theorem aA.se (aj:List Nat) (snap:Bool) {l:List (Nat × AV)} {co:List Ob} (ho:nQ (bd σ.aa.length aj) σ.aa aj co) (h:qo (aN σ (kept aj co) (bd σ.aa.length aj) snap) σ.env l)
    (bR:aj.Nodup:=by decide) (hn:n0≤aj.length:=by decide) (cN:∀ i,i<n0→aj.getD i 0=i:=by decide):aA n0 σ ⟨Am.av l,co⟩:=aA.aj aj snap l co bR ho hn cN h
theorem IK (aj:List Nat) (snap:Bool) {v res:AV} {ba:List Ob} (ho:nQ (bd σ.aa.length aj) σ.aa aj ba) (h:aN σ (kept aj ba) (bd σ.aa.length aj) snap res v)
    (bR:aj.Nodup:=by decide) (hn:n0≤aj.length:=by decide) (cN:∀ i,i<n0→aj.getD i 0=i:=by decide):m5 n0 σ v res ba:=eA aj snap bR ho hn cN h
end Go.Am
namespace Go.Am
theorem QR:ee []=.bL []:=rfl
theorem QT (a b:AV) (l:List AV):ee (a::b::l)=.bL (a::b::l):=rfl
end Go.Am
namespace Go.Am
variable {P:Program} {N n0:Nat} {σ:St}
inductive PF where
  | nil
  | take (i:Nat) (t:PF)
  | both (i:Nat) (t:PF) (j:Nat) (u:PF)
  | three (i:Nat) (t:PF) (j:Nat) (u:PF) (k:Nat) (v:PF)
  | four (i:Nat) (t:PF) (j:Nat) (u:PF) (k:Nat) (v:PF) (l:Nat) (w:PF)
def PF.ok (ops:Array Oper) (qs:List Nat):PF→Nat→Array Bool→Bool
  | .nil,n,aR=>n == 0 && (Region.ready .any ops aR).isEmpty
  | .take _ _,0,_=>false
  | .take i t,n+1,aR=>Ds ops qs aR i (GR ops i) && t.ok ops qs n (aR.setIfInBounds i true)
  | .both _ _ _ _,0,_=>false
  | .both i t j u,n+1,aR=>(Region.ready .any ops aR == [i,j]) && t.ok ops qs n (aR.setIfInBounds i true) && u.ok ops qs n (aR.setIfInBounds j true)
  | .three _ _ _ _ _ _,0,_=>false
  | .three i t j u k v,n+1,aR=>(Region.ready .any ops aR == [i,j,k]) && t.ok ops qs n (aR.setIfInBounds i true) && u.ok ops qs n (aR.setIfInBounds j true) && v.ok ops qs n (aR.setIfInBounds k true)
  | .four _ _ _ _ _ _ _ _,0,_=>false
  | .four i t j u k v l w,n+1,aR=>(Region.ready .any ops aR == [i,j,k,l]) && t.ok ops qs n (aR.setIfInBounds i true) && u.ok ops qs n (aR.setIfInBounds j true) && v.ok ops qs n (aR.setIfInBounds k true) && w.ok ops qs n (aR.setIfInBounds l true)
def jq (P:Program) (ops:Array Oper) (qs:List Nat):PF→(St→Prop)→St→Prop
  | .nil,K,σ=>K σ
  | .take i t,K,σ=>cO P ops qs i (jq P ops qs t K) σ
  | .both i t j u,K,σ=>cO P ops qs i (jq P ops qs t K) σ∧cO P ops qs j (jq P ops qs u K) σ
  | .three i t j u k v,K,σ=>cO P ops qs i (jq P ops qs t K) σ∧cO P ops qs j (jq P ops qs u K) σ∧cO P ops qs k (jq P ops qs v K) σ
  | .four i t j u k v l w,K,σ=>cO P ops qs i (jq P ops qs t K) σ∧cO P ops qs j (jq P ops qs u K) σ∧cO P ops qs k (jq P ops qs v K) σ∧cO P ops qs l (jq P ops qs w K) σ
section
variable {ops:Array Oper} {qs:List Nat} {K:St→Prop} {i j k l:Nat} {t u v w:PF}
theorem QU:jq P ops qs .nil K σ=K σ:=rfl
theorem QV:jq P ops qs (.take i t) K σ=cO P ops qs i (jq P ops qs t K) σ:=rfl
theorem QW:jq P ops qs (.both i t j u) K σ=(cO P ops qs i (jq P ops qs t K) σ∧cO P ops qs j (jq P ops qs u K) σ):=rfl
theorem QX:jq P ops qs (.three i t j u k v) K σ=(cO P ops qs i (jq P ops qs t K) σ∧cO P ops qs j (jq P ops qs u K) σ∧cO P ops qs k (jq P ops qs v K) σ):=rfl
theorem QY:jq P ops qs (.four i t j u k v l w) K σ=(cO P ops qs i (jq P ops qs t K) σ∧cO P ops qs j (jq P ops qs u K) σ∧cO P ops qs k (jq P ops qs v K) σ∧cO P ops qs l (jq P ops qs w K) σ):=rfl
end
theorem Fc:type_of% @QU∧type_of% @QV∧type_of% @QW∧type_of% @QX∧type_of% @QY:=⟨@QU,@QV,@QW,@QX,@QY⟩
end Go.Am

