import Derived.Test.YtfoopmojjjpapaaGreatX09
set_option linter.all false
set_option maxHeartbeats 0
set_option maxRecDepth 20000
open Bool renaming true_and→gK,false_and→qU,and_eq_true→bb,false_or→pf,or_eq_true→lD
open List renaming all_eq_true→fW,mem_cons→bw,mem_of_getElem?→gI,map_congr_left→tI,mem_append→cG,range→bu,contains_iff_mem→sq,isEmpty_iff→PR,not_mem_nil→iM,range'→mB,range_eq_range'→wv,range'_succ→wu,range'_append→Gz,getElem?_drop→nM,length_take→eY,getElem?_take_of_lt→Gy
open Array renaming toList_append→B9,replicate→wz,getElem?_eq_some_iff→mW,length_toList→sg
open Nat renaming zero_add→gJ,one_mul→wx
namespace Go.Am
def IG(k:IntKind)(n:Int):eI (.int k n)=.lit (.int k n):=by first|rfl|(cases b<;>rfl)|(simp only[eI];done)|(unfold gp;split<;>simp_all)
def IH(b:Bool):eI (.bool b)=.lit (.bool b):=by first|rfl|(cases b<;>rfl)|(simp only[eI];done)|(unfold gp;split<;>simp_all)
def II(a:Option Addr)(n c:Nat):eI (.slice a n c)=.lit (.slice a n c):=by first|rfl|(cases b<;>rfl)|(simp only[eI];done)|(unfold gp;split<;>simp_all)
def IJ(s:ByteArray):eI (.string s)=.lit (.string s):=by first|rfl|(cases b<;>rfl)|(simp only[eI];done)|(unfold gp;split<;>simp_all)
def IK(s:Array Value):eI (.tuple s)=.lit (.tuple s):=by first|rfl|(cases b<;>rfl)|(simp only[eI];done)|(unfold gp;split<;>simp_all)
def Wh(ρ:Nat->Nat)(v:Value):bk ρ (.lit v)=.lit v:=by first|rfl|(cases b<;>rfl)|(simp only[eI];done)|(unfold gp;split<;>simp_all)
def Wi(ρ:Nat->Nat)(s:Nat)(r:List (List AV)):bk ρ (.tree s r)=.tree s r:=by first|rfl|(cases b<;>rfl)|(simp only[eI];done)|(unfold gp;split<;>simp_all)
def Wj(ρ:Nat->Nat)(r:List AV):bk ρ (.cB r)=.cB r:=by first|rfl|(cases b<;>rfl)|(simp only[eI];done)|(unfold gp;split<;>simp_all)
def Wl(ρ:Nat->Nat):bk ρ .undef=.undef:=by first|rfl|(cases b<;>rfl)|(simp only[eI];done)|(unfold gp;split<;>simp_all)
def Wm(v:Value):cellsOf (.lit v)=[.lit v]:=by first|rfl|(cases b<;>rfl)|(simp only[eI];done)|(unfold gp;split<;>simp_all)
def Wn(s:Nat)(r:List (List AV)):cellsOf (.tree s r)=[.tree s r]:=by first|rfl|(cases b<;>rfl)|(simp only[eI];done)|(unfold gp;split<;>simp_all)
def Wo(r:List AV):cellsOf (.cB r)=[.cB r]:=by first|rfl|(cases b<;>rfl)|(simp only[eI];done)|(unfold gp;split<;>simp_all)
def Wp(a b c d:Nat):cellsOf (.ref a b c d)=[.ref a b c d]:=by first|rfl|(cases b<;>rfl)|(simp only[eI];done)|(unfold gp;split<;>simp_all)
def Wq(a b c:Nat):cellsOf (.ptr a b c)=[.ptr a b c]:=by first|rfl|(cases b<;>rfl)|(simp only[eI];done)|(unfold gp;split<;>simp_all)
def Wr(id:Nat):cellsOf (.dD id)=[.dD id]:=rfl
def Ws(t:TypeId)(v:AV):cellsOf (.iC t v)=[.iC t v]:=rfl
def Wt(f:FuncId)(l:List AV):cellsOf (.fn f l)=[.fn f l]:=by first|rfl|(cases b<;>rfl)|(simp only[eI];done)|(unfold gp;split<;>simp_all)
def Wu(t:Bool)(s:Array Value)(b:AV):gp t (.lit (.tuple s)) b=if t=true then .lit (.tuple s) else b:=by first|rfl|(cases b<;>rfl)|(simp only[eI];done)|(unfold gp;split<;>simp_all)
def Wv(t:Bool)(s:Array Value)(b:AV):gp t b (.lit (.tuple s))=if t=true then b else .lit (.tuple s):=by first|rfl|(cases b<;>rfl)|(simp only[eI];done)|(unfold gp;split<;>simp_all)
def Ww(t:Bool)(s u:List AV):gp t (.agg s) (.agg u)=if t=true then .agg s else .agg u:=by first|rfl|(cases b<;>rfl)|(simp only[eI];done)|(unfold gp;split<;>simp_all)
def Wx(l:List AV):c8 (.agg l)=false:=by first|rfl|(cases b<;>rfl)|(simp only[eI];done)|(unfold gp;split<;>simp_all)
def Wy(l:List AV):c8 (.bD l)=false:=by first|rfl|(cases b<;>rfl)|(simp only[eI];done)|(unfold gp;split<;>simp_all)
def WC  : c8 .undef=false:=by first|rfl|(cases b<;>rfl)|(simp only[eI];done)|(unfold gp;split<;>simp_all)
def WD(k:IntKind)(n:Int):Value.oneCell' (.int k n)=true:=by first|rfl|(cases b<;>rfl)|(simp only[eI];done)|(unfold gp;split<;>simp_all)
def WE(b:Bool):Value.oneCell' (.bool b)=true:=by first|rfl|(cases b<;>rfl)|(simp only[eI];done)|(unfold gp;split<;>simp_all)
def WG(a:Option Addr)(n c:Nat):Value.oneCell' (.slice a n c)=true:=by first|rfl|(cases b<;>rfl)|(simp only[eI];done)|(unfold gp;split<;>simp_all)
def WH(s:ByteArray):Value.oneCell' (.string s)=true:=by first|rfl|(cases b<;>rfl)|(simp only[eI];done)|(unfold gp;split<;>simp_all)
def WI(a:Option Addr):Value.oneCell' (.pointer a)=true:=by first|rfl|(cases b<;>rfl)|(simp only[eI];done)|(unfold gp;split<;>simp_all)
def WJ(a:Option Nat):Value.oneCell' (.map a)=true:=by first|rfl|(cases b<;>rfl)|(simp only[eI];done)|(unfold gp;split<;>simp_all)
def Pc:=aaP @Ck.eq_1 @Ck.eq_2 @zb.eq_1 @zb.eq_2 @Cl.eq_1 @Cl.eq_2 @qW.eq_1 (aaP @qW.eq_2 @qW.eq_3 @Kx.eq_1 @Kz.eq_1 @gU.eq_1 @gU.eq_2 @gU.eq_3 (aaP @gU.eq_4 @gU.eq_5 @gU.eq_6 @gU.eq_7 @gU.eq_8 @gU.eq_9 @gU.eq_10 (aaP @gU.eq_11 @gU.eq_12 @gU.eq_13 @nh.eq_1 @er.eq_1 @qW.eq_4 @Sw (aad @Sx @Sy @Sz))))
def Sc:=aaP @ev.eq_1 @ev.eq_2 @ev.eq_3 @ev.eq_4 @eI.eq_1 @St.put.eq_1 @St.put.eq_2 (aaP @wK.eq_1 @wK.eq_2 @wL.eq_1 @wL.eq_2 @gp.eq_1 @jX.eq_1 @jX.eq_2 (aaP @e8.eq_1 @e8.eq_2 @bk.eq_1 @bk.eq_2 @bk.eq_3 @bk.eq_4 @bk.eq_5 (aaP @bk.eq_6 @ql.eq_1 @ql.eq_2 @bq.eq_1 @rowOf.eq_1 @pg.eq_1 @oJ.eq_1 (aaP @oJ.eq_2 @lW.eq_1 @lW.eq_2 @cellsOf.eq_1 @setCells.eq_1 @setCells.eq_2 @nf.eq_1 (aaP @nf.eq_2 @ng.eq_1 @ng.eq_2 @c8.eq_1 @c8.eq_2 @c8.eq_3 @c8.eq_4 (aaP @c8.eq_5 @c8.eq_6 @Ty.isAgg.eq_1 @Value.oneCell'.eq_1 @Value.oneCell'.eq_2 @vB.eq_1 @yh.eq_1 (aaP @yh.eq_2 @an.eq_1 @cp.eq_1 @aW.eq_1 @aI.eq_1 @rz.eq_1 @dv.eq_1 (aaP @bd.eq_1 @qg.eq_1 @qg.eq_2 @HG @SG @LW @SN (aaP @LY @SO @gK @qU @IG @IH @II (aaP @IJ @IK @Wh @Wi @Wj @Wl @Wm (aaP @Wn @Wo @Wp @Wq @Wt @Wu @Wv (aaP @Ww @Wx @Wy @WC @WD @WE @WG (aaP @WH @WI @WJ @c8.eq_7 @Ws @Qv @QX (aaP @QY @Ky.eq_1 @qf.eq_1 @qf.eq_2 @bk.eq_7 @c8.eq_8 @Wr (aaP @QR @QS @QT @QW @QU @QV @Qo (aae @mG.eq_1 @keyOf.eq_1 @keyOf.eq_2 @kD.eq_1))))))))))))))))
def Lc:=aaP @ev.eq_1 @ev.eq_2 @ev.eq_3 @ev.eq_4 @eI.eq_1 @St.put.eq_1 @St.put.eq_2 (aaf @IG @IH @II @IJ @IK)
def eM{P:Program}{N n0:Nat}(id:Nat){ops:Array Oper}{d:Bool}{y:Code}{Q:Exit->St->Prop}{σ:St}(h:W P N n0 (.seq (.region id ops d) y) Q σ):W P N n0 (.seq (.region id ops d) y) Q σ:=h
def eN{P:Program}{N n0:Nat}(id:Nat){ops:Array Oper}{d:Bool}{Q:Exit->St->Prop}{σ:St}(h:W P N n0 (.region id ops d) Q σ):W P N n0 (.region id ops d) Q σ:=h
end Go.Am
namespace Go.Am
variable {P:Program} {N n0:Nat} {σ:St}
def zV:Ob->Bool
 |.gone=>false
 |.var cs=>mH cs
 |.arr _ rows=>rows.all mH
 |.mp _ _=>false
def WK{ρ:Nat->Nat}{o:Ob}(h:zV o=true):bM ρ o=o:=by
 cases o with
 |gone=>simp[zV]at h
 |var cs =>
  have:=Cr ρ cs h;rw[xZ]at this;simp[bM,this]
 |arr sz rows=>exact D9 (by simpa [zV,fW] using h)
 |mp ag L=>simp[zV]at h
def WL(hd:Nat)(c a:AV):Prop:=(a=c/\kZ c=true)\/(c=.ptr 0 0 0/\a=.ptr hd 0 0)
def Fc(P:Program)(hd:Nat)(g:FuncId)(args:List AV)(dst:Option Tmp)(K:St->Prop)(σ:St):Prop :=
 ∃ dL D res D',Holds P g dL [D] res [D']/\zV D=true/\zV D'=true/\σ.aa[hd]?=some D/\kZ res=true/\jE (WL hd) dL args/\K ((⟨σ.env,σ.aa.set hd D'⟩:St).put dst res)
def ah8{hd:Nat}{g:FuncId}{args:List AV}{dst:Option Tmp}{K:St->Prop}(h:Fc P hd g args dst K σ):tP P g args dst K σ:=by
 obtain⟨dL,D,res,D',h1,h2,h3,h4,h5,h6,h7⟩:=h;obtain⟨h8,h9⟩:=h6.spec;have hρ:bq σ.aa.length [hd] 0=hd:=by simp[bq]
 refine⟨[hd],false,dL,[D],res,[D'],h1,⟨GM,rfl,λj o hj=>?_,h8,λj c d hc vo=>?_,GM⟩,?_⟩
 ·cases j with
  |zero=>simp at hj;subst hj;simp[WK h2,h4]
  |succ j=>simp at hj
 ·rcases h9 j c d hc vo with⟨rfl,hn⟩|⟨rfl,rfl⟩
  ·exact .pure hn
  ·exact .eq (by simp[bk,hρ])
 ·have e:e8 σ.aa [hd] ([D'].map (bM (bq σ.aa.length [hd])))=σ.aa.set hd D':=by simp[e8,WK h3]
  show K (({ σ with aa:=e8 σ.aa [hd] ([D'].map (bM (bq σ.aa.length [hd]))) }:St).put dst (bk (bq σ.aa.length [hd]) res));rw[e,AI _ _ h5];exact h7
def zW(hd:Nat)(P:Program)(o:Oper)(σ:St)(K:St->Prop):Prop :=
 match o.op with
 |.call { callee:=.value f,args,.. } =>
  match ev σ f with
  |.fn g bC=>Fc P hd g (args.toList.map (ev σ)++bC) o.dst K σ
  |_=>False
 |_=>False
def ah'{hd:Nat}{o:Oper}{K:St->Prop}(h:zW hd P o σ K):aL P o σ K:=by
 unfold zW at h;unfold aL;split at h
 ·rename_i f args cC cM;simp only[cM];split at h
  ·rename_i g bC he;simp only[he];exact ah8 h
  ·exact h.elim
 ·exact h.elim
def pR(hd:Nat):AV->Bool
 |.ptr id _ _=>id != hd
 |.ref id _ _ _=>id != hd
 |.dD id=>id != hd
 |_=>true
def uI(hd:Nat)(σ:St):List Operand->Bool
 |[]=>true
 |x::l=>pR hd (ev σ x)&&uI hd σ l
def fh(hd:Nat)(q:Bool)(o:Oper)(σ:St):Bool:=q||cls o.op==0||decide (3<=cls o.op)||uI hd σ o.op.operands.toList
def WN{hd:Nat}:∀ {l:List Operand},uI hd σ l=true->∀ x∈l,pC (ev σ x)≠some hd
 |[],_,x,hx=>by simp at hx
 |y::l,h,x,hx=>by
  simp only[uI,bb]at h;rcases bw.1 hx with rfl|hx
  ·intro e;have h1:=h.1;cases hv:ev σ x<;>rw[hv]at e h1<;>simp[pC,pR]at e h1
   ·exact h1 e
   ·exact h1 e
   ·exact h1 e
  ·exact WN h.2 x hx
def M6{hd:Nat}{σ2:St}:∀ {l:List Operand},(∀ x∈l,ev σ2 x=ev σ x)->uI hd σ2 l=uI hd σ l
 |[],_=>rfl
 |y::l,h=>by
  simp only[uI];rw[h y GM,M6 λx hx=>h x (by simp[hx])]
def lr(P:Program)(ops:Array Oper)(hd:Nat)(q dc:Bool)(o:Oper)(K:St->Prop)(σ:St):Prop :=
 match dc with
 |true=>o.guard=none/\zW hd P o σ K
 |false=>fh hd q o σ=true/\er P ops q o K σ
def cZ(q dc:Bool)(o:Oper):Nat:=if dc then 6 else e9 q o
def Fe(hd c:Nat)(a b:List Ob):Prop:=if c=6 then ∀ id,id≠hd->b[id]?=a[id]? else k0 c a b
def aia{N:Nat}{os:List Ob}{γ0:Cx}{ops:Array Oper}{hh:Nat}(hd:∀ o∈ops.toList,∀ d,o.dst=some d->d<N){q dc:Bool}{i:Nat}{o:Oper}(hi:ops[i]?=some o){σ:St}{K:St->Prop}(h:lr P ops hh q dc o K σ){a:Act}{w:World}(ax:fX N os γ0 σ a w){Q:Exit->Act->World->Prop}{next:Act->World->Prop}(hn:∀ σ' a' w',K σ'->fX N os γ0 σ' a' w'->next a' w'):wpOp P ops Q i next a w:=by
 cases dc with
 |false=>exact KD hd hi h.2 ax hn
 |true =>
  have bR:o∈ops.toList:=gI (by simpa using hi);unfold wpOp;simp only[hi];have hw:Region.wanted o (yielded ops a.tmps)=true:=by simp[Region.wanted,h.1]
  rw[if_pos hw];left;exact xX (ah' h.2) ax (hd o bR) hn
def IL{ops:Array Oper}{hh:Nat}{q dc:Bool}{o:Oper}{σ:St}{K:St->Prop}(hW:lr P ops hh q dc o K σ):
  ∃ v os,Fe hh (cZ q dc o) σ.aa os/\K ((⟨σ.env,os⟩:St).put o.dst v)/\∀ (e2:Nat->AV) (K2:St->Prop),(∀ t∈o.looksAt ops,e2 t=σ.env t)->K2 ((⟨e2,os⟩:St).put o.dst v)->lr P ops hh q dc o K2 ⟨e2,σ.aa⟩:=by
 cases dc with
 |false =>
  obtain⟨hc,hW⟩:=hW;obtain⟨v,os,h1,h2,h3⟩:=Cn hW;refine⟨v,os,?_,h2,λe2 K2 hl hK=>⟨?_,h3 e2 K2 hl hK⟩⟩
  ·unfold Fe cZ;simp only[Bool.false_eq_true,if_false];rw[if_neg]
   ·exact h1
   ·unfold e9;split
    ·omega
    ·unfold cls;split<;>omega
  ·unfold fh at hc ⊢;rw[M6 (σ:=σ) (tR hl)];exact hc
 |true =>
  obtain⟨hg,hW⟩:=hW;unfold zW at hW;split at hW
  ·rename_i f args cC cM;split at hW
   ·rename_i g bC he;obtain⟨dL,D,res,D',h1,h2,h3,h4,h5,h6,h7⟩:=hW;refine⟨res,σ.aa.set hh D',?_,h7,λe2 K2 hl hK=>⟨hg,?_⟩⟩
    ·unfold Fe cZ;simp only[if_true];intro id bX;rw[List.getElem?_set,if_neg (Ne.symm bX)]
    ·unfold zW;simp only[cM];have hx:=tR (os:=σ.aa) hl;have e1:ev ⟨e2,σ.aa⟩ f=.fn g bC:=by rw[<- he];exact hx f (by simp[cM,Op.operands,Call.operands])
     have e3:args.toList.map (ev ⟨e2,σ.aa⟩)=args.toList.map (ev σ):=tI λy hy=>hx y (by simp only[cM,Op.operands,Call.operands,B9,cG];exact .inr hy);simp only[e1,e3];exact⟨dL,D,res,D',h1,h2,h3,h4,h5,h6,hK⟩
   ·exact hW.elim
  ·exact hW.elim
def aib{o:Oper}{σ:St}{K:St->Prop}(hc:cls o.op<=2)(hW:aL P o σ K):
  ∃ v,K (σ.put o.dst v)/\∀ (σ2:St) (K2:St->Prop),(∀ x∈o.op.operands.toList,ev σ2 x=ev σ x)->(∀ x∈o.op.operands.toList,∀ id,pC (ev σ x)=some id->im (cls o.op) σ.aa[id]? σ2.aa[id]?)->K2 (σ2.put o.dst v)->aL P o σ2 K2:=by
 unfold aL at hW ⊢;split at hW
 ·rename_i f args cC cM;rw[cM]at hc;simp[cls]at hc
 ·rename_i r m args cC cM;rw[cM]at hc;simp[cls]at hc
 ·rename_i cy;obtain⟨v,h2,h3⟩:=Ro hc hW;refine⟨v,h2,λσ2 K2 hx ho hK=>?_⟩;exact h3 σ2 K2 hx (ho) hK
def WO{q:Bool}{o:Oper}{σ:St}{K:St->Prop}(hc:e9 q o<=2)(hW:mF q P o σ K):
  ∃ v,K (σ.put o.dst v)/\∀ (σ2:St) (K2:St->Prop),(∀ x∈o.op.operands.toList,ev σ2 x=ev σ x)->(∀ x∈o.op.operands.toList,∀ id,pC (ev σ x)=some id->im (e9 q o) σ.aa[id]? σ2.aa[id]?)->K2 (σ2.put o.dst v)->mF q P o σ2 K2:=by
 cases q with
 |false=>exact aib hc hW
 |true =>
  unfold mF at hW ⊢;simp only at hW ⊢;split at hW
  ·rename_i f args cC cM;simp only[cM];split at hW
   ·rename_i g bC he;obtain⟨res,h1,h2,h3,h4⟩:=hW;refine⟨res,h4,λσ2 K2 hx _ hK=>?_⟩;have e1:ev σ2 f=.fn g bC:=by rw[<- he];exact hx f (by simp[Op.operands,Call.operands])
    have e3:args.toList.map (ev σ2)=args.toList.map (ev σ):=tI λy hy=>hx y (by simp only[Op.operands,Call.operands,B9,cG];exact .inr hy);simp only[e1,e3];exact⟨res,h1,h2,h3,hK⟩
   ·exact hW.elim
  ·rename_i t a cM;obtain⟨x,h1,h2⟩:=KC hW;refine⟨x,h1,λσ2 K2 hx _ hK=>?_⟩;rw[hx a (by simp[cM,Op.operands])];exact h2 _ K2 hK
  ·exact hW.elim
def WQ{ops:Array Oper}{q:Bool}{o:Oper}{σ:St}{K:St->Prop}(hc:e9 q o<=2)(hW:er P ops q o K σ):
  ∃ v,K (σ.put o.dst v)/\∀ (σ2:St) (K2:St->Prop),(∀ t∈o.looksAt ops,σ2.env t=σ.env t)->(∀ x∈o.op.operands.toList,∀ id,pC (ev σ x)=some id->im (e9 q o) σ.aa[id]? σ2.aa[id]?)->K2 (σ2.put o.dst v)->er P ops q o K2 σ2:=by
 unfold er at hW ⊢;cases hg:o.guard with
 |none =>
  simp only[hg]at hW;obtain⟨v,h2,h3⟩:=WO hc hW;exact⟨v,h2,λσ2 K2 hl ho hK=>h3 σ2 K2 (tR (e2:=σ2.env) (os:=σ2.aa) hl) ho hK⟩
 |some jw =>
  obtain⟨j,want⟩:=jw;simp only[hg]at hW;cases ep:(ops[j]?).bind (·.dst) with
  |none=>simp[ep]at hW
  |some d =>
   simp only[ep]at hW;split at hW
   ·rename_i b he;by_cases gM:b=want
    ·obtain⟨v,h2,h3⟩:=WO hc (hW.1 gM);refine⟨v,h2,λσ2 K2 hl ho hK=>?_⟩;have:σ2.env d=.lit (.bool b):=by rw[hl d (xY hg ep)];exact he
     simp only[ep,this];exact⟨λ_=>h3 σ2 K2 (tR (e2:=σ2.env) (os:=σ2.aa) hl) ho hK,λhn=>absurd gM hn⟩
    ·refine⟨.lit (.tuple #[]),hW.2 gM,λσ2 K2 hl ho hK=>?_⟩;have:σ2.env d=.lit (.bool b):=by rw[hl d (xY hg ep)];exact he
     simp only[ep,this];exact⟨λhn=>absurd hn gM,λ_=>hK⟩
   ·rename_i vs he;refine⟨.lit (.tuple #[]),hW.2,λσ2 K2 hl ho hK=>?_⟩;have:σ2.env d=.lit (.tuple vs):=by rw[hl d (xY hg ep)];exact he
    simp only[ep,this];exact⟨hW.1,hK⟩
   ·exact hW.elim
def WR{ops:Array Oper}{hh:Nat}{q dc:Bool}{o:Oper}{σ:St}{K:St->Prop}(hc:cZ q dc o<=2)(hW:lr P ops hh q dc o K σ):
  ∃ v,K (σ.put o.dst v)/\∀ (σ2:St) (K2:St->Prop),(∀ t∈o.looksAt ops,σ2.env t=σ.env t)->(∀ (id:Nat),id≠hh->im (cZ q dc o) σ.aa[id]? σ2.aa[id]?)->K2 (σ2.put o.dst v)->lr P ops hh q dc o K2 σ2:=by
 cases dc with
 |true=>simp[cZ]at hc
 |false =>
  obtain⟨hk,hW⟩:=hW;have fY:e9 q o<=2:=by simpa [cZ] using hc
  obtain⟨v,h1,h2⟩:=WQ fY hW;refine⟨v,h1,λσ2 K2 hl ho hK=>⟨?_,h2 σ2 K2 hl (λx hx id hp=>?_) hK⟩⟩
  ·unfold fh at hk ⊢;rw[M6 (σ:=σ) (tR (e2:=σ2.env) (os:=σ2.aa) hl)];exact hk
  ·have cm:∀ id,id≠hh->im (e9 q o) σ.aa[id]? σ2.aa[id]?:=by simpa [cZ] using ho
   by_cases h0:e9 q o=0
   ·rw[h0];simp[im]
   ·refine cm id λe=>?_;subst e;unfold e9 at h0 fY;split at h0
    ·omega
    ·rename_i hq;simp only[hq]at fY;have xn:q=false:=by simpa using hq
     subst xn;unfold fh at hk;have zy:cls o.op<=2:=by simpa using fY
     have h3:decide (3<=cls o.op)=false:=decide_eq_false GK;have h4:(cls o.op==0)=false:=by simpa using h0
     rw[h3,h4]at hk;simp only[pf]at hk;exact WN hk x hx hp
def Bx(ci ck:Nat):Bool:=AF ci ck||(decide (ci<=2)&&ck==6)
def aic{hh ci ck:Nat}(h:(ci==0||(ci==1&&decide (ck<=4))||(ci==2&&decide (ck<=3))||(decide (ci<=2)&&ck==6))=true){a b:List Ob}(he:Fe hh ck a b)(id:Nat)(bX:id≠hh):im ci a[id]? b[id]?:=by
 unfold Fe at he;split at he
 ·rename_i h6;subst h6;rw[he id bX];unfold im;split
  ·trivial
  ·split
   ·intro o ho;exact⟨o,ho,zi o⟩
   ·intro o ho;exact ho
 ·rename_i h6;refine KF ?_ he id;have:(ck==6)=false:=by simpa using h6
  rw[this]at h;simpa using h
def aid{ops:Array Oper}{hh:Nat}{qi qk di dk:Bool}{oi ok:Oper}(ha:oi.apart ops ok=true)(hi:cZ qi di oi<=2)(hc:(cZ qi di oi==0||(cZ qi di oi==1&&decide (cZ qk dk ok<=4))||(cZ qi di oi==2&&decide (cZ qk dk ok<=3))||(decide (cZ qi di oi<=2)&&cZ qk dk ok==6))=true){σ:St}{K:St->Prop}(h:lr P ops hh qi di oi (lr P ops hh qk dk ok K) σ):lr P ops hh qk dk ok (lr P ops hh qi di oi K) σ:=by
 obtain⟨a1,a2,a3⟩:=Oper.apart_spec ha;obtain⟨v,h1,run⟩:=WR hi h;obtain⟨vk,os,vf,h2,zj⟩:=IL h1;rw[Cp]at vf zj;refine zj σ.env _ (λt ht=>(tS λd hd e=>a1 d hd (e▸ht)).symm) ?_;refine run _ _ (λt ht=>?_) (λid bX=>?_) ?_
 ·rw[tS λd hd e=>a3 d hd (e▸ht)]
 ·rw[Cp];exact aic hc vf id bX
 ·rw[Cq]at h2;rw[Co (λd hd e=>a2 d e hd)];exact h2
def aie{ops:Array Oper}{hh:Nat}{qi qk di dk:Bool}{oi ok:Oper}(ha:oi.apart ops ok=true)(hk:cZ qk dk ok=0){σ:St}{K:St->Prop}(h:lr P ops hh qi di oi (lr P ops hh qk dk ok K) σ):lr P ops hh qk dk ok (lr P ops hh qi di oi K) σ:=by
 obtain⟨a1,a2,a3⟩:=Oper.apart_spec ha;obtain⟨vi,os,vf,h1,run⟩:=IL h;obtain⟨vk,h2,D7⟩:=WR GK h1;refine D7 σ _ (λt ht=>(tS (σ:=⟨σ.env,os⟩) λd hd e=>a1 d hd (e▸ht)).symm) (λid _=>by rw[hk];simp[im]) ?_;rw[KE];refine run _ _ (λt ht=>tS λd hd e=>a3 d hd (e▸ht)) ?_;rw[Cq,Co (λd hd e=>a2 d e hd)];exact h2
def aif{ops:Array Oper}{hh:Nat}{qi qk di dk:Bool}{oi ok:Oper}(ha:oi.apart ops ok=true)(hc:Bx (cZ qi di oi) (cZ qk dk ok)=true){σ:St}{K:St->Prop}(h:lr P ops hh qi di oi (lr P ops hh qk dk ok K) σ):lr P ops hh qk dk ok (lr P ops hh qi di oi K) σ:=by
 by_cases hk:cZ qk dk ok=0
 ·exact aie ha hk h
 ·have fY:(cZ qi di oi==0||(cZ qi di oi==1&&decide (cZ qk dk ok<=4))||(cZ qi di oi==2&&decide (cZ qk dk ok<=3))||(decide (cZ qi di oi<=2)&&cZ qk dk ok==6))=true:=by
   simp only[Bx,AF,lD,bb,beq_iff_eq,decide_eq_true_eq]at hc ⊢;rcases hc with(((h|h)|h)|h)|h
   ·exact .inl (.inl (.inl h))
   ·exact absurd h hk
   ·exact .inl (.inl (.inr h))
   ·exact .inl (.inr h)
   ·exact .inr h
  refine aid ha ?_ fY h;simp only[lD,bb,beq_iff_eq,decide_eq_true_eq]at fY;omega
def gz(P:Program)(ops:Array Oper)(hh:Nat)(qs ds:List Nat)(i:Nat)(K:St->Prop)(σ:St):Prop :=
 match ops[i]? with
 |none=>K σ
 |some o=>lr P ops hh (qs.contains i) (ds.contains i) o K σ
def xo(P:Program)(ops:Array Oper)(hh:Nat)(qs ds:List Nat)(K:St->Prop):Nat->Array Bool->St->Prop
 |0,aG,σ=>Region.ready .any ops aG=[]/\K σ
 |n+1,aG,σ=>(Region.ready .any ops aG=[]->K σ)/\∀ i∈Region.ready .any ops aG,gz P ops hh qs ds i (xo P ops hh qs ds K n (aG.setIfInBounds i true)) σ
def aih{ops:Array Oper}{hh:Nat}{q dc:Bool}{o:Oper}{σ:St}{K K2:St->Prop}(hk:∀ s,K s->K2 s)(h:lr P ops hh q dc o K σ):lr P ops hh q dc o K2 σ:=by
 obtain⟨v,os,_,h2,run⟩:=IL h;exact run σ.env K2 (λ_ _=>rfl) (hk _ h2)
def aii{ops:Array Oper}{hh:Nat}{q dc:Bool}{o:Oper}{σ:St}{K:St->Prop}(h:lr P ops hh q dc o K σ):∃s,K s:=by
 obtain⟨v,os,_,h2,run⟩:=IL h;exact⟨_,h2⟩
def zX{ops:Array Oper}{hh:Nat}{qs ds:List Nat}{i:Nat}{σ:St}{K K2:St->Prop}(hk:∀ s,K s->K2 s)(h:gz P ops hh qs ds i K σ):gz P ops hh qs ds i K2 σ:=by
 unfold gz at h ⊢;split at h
 ·exact hk _ h
 ·exact aih hk h
def aij{ops:Array Oper}{hh:Nat}{qs ds:List Nat}{i:Nat}{σ:St}{K:St->Prop}(h:gz P ops hh qs ds i K σ):∃s,K s:=by
 unfold gz at h;split at h
 ·exact⟨_,h⟩
 ·exact aii h
def M7{os:List Ob}{γ0:Cx}{ops:Array Oper}{hh:Nat}{qs ds:List Nat}(hd:∀ o∈ops.toList,∀ d,o.dst=some d->d<N){K:St->Prop}{Q:Exit->Act->World->Prop}(hQ:∀ σ' a' w',K σ'->fX N os γ0 σ' a' w'->Q .normal a' w'):∀ (n:Nat) (aG:Array Bool) (σ:St) (a:Act) (w:World),xo P ops hh qs ds K n aG σ->fX N os γ0 σ a w->wpAny P .any ops Q n aG a w
 |0,aG,σ,a,w,h,ax=>⟨h.1,hQ _ _ _ h.2 ax⟩
 |n+1,aG,σ,a,w,h,ax=>by
  refine⟨λhr=>hQ _ _ _ (h.1 hr) ax,λi hi=>?_⟩;have:=h.2 i hi;unfold gz at this;split at this
  ·rename_i ar;unfold wpOp;simp only[ar];exact M7 hd hQ n _ _ _ _ this ax
  ·rename_i o ar;exact aia hd ar this ax λσ' a' w' hK cW=>M7 hd hQ n _ _ _ _ hK cW
def aik{id:Nat}{ops:Array Oper}{Q:Exit->St->Prop}(hh:Nat)(qs ds:List Nat)(hm:P.follows .mixedOrders=true)(hd:fq N ops=true)(h:xo P ops hh qs ds (Q .normal) ops.size (wz ops.size false) σ):W P N n0 (.region id ops true) Q σ:=by
 intro os γ0 a w _ ax;refine wp_region_any hm ?_;exact M7 (oL hd) (K:=Q .normal) (λσ' a' w' hK cW=>⟨σ',hK,cW⟩) _ _ _ _ _ h ax.drawn
def ail{ops:Array Oper}{hh:Nat}{qs ds:List Nat}{K:St->Prop}{i:Nat}{o:Oper}(hi:ops[i]?=some o)(D:List Nat)(Rt:i∈D)(hD:∀ j∈D,j=i\/∃ oj,ops[j]?=some oj/\∃ e∈oj.after,Region.binds .any e=true/\e.on∈D):∀ (fuel:Nat) (aG:Array Bool) (σ:St),(∀ j∈D,aG.getD j true=false) ->
   i∈Region.ready .any ops aG ->
   (∀ j oj,ops[j]?=some oj->aG.getD j true=false->j ∉ D->o.apart ops oj=true/\Bx (cZ (qs.contains i) (ds.contains i) o) (cZ (qs.contains j) (ds.contains j) oj)=true) ->
   gz P ops hh qs ds i (xo P ops hh qs ds K fuel (aG.setIfInBounds i true)) σ->xo P ops hh qs ds K (fuel+1) aG σ:=by
 intro fuel
 induction fuel with
 |zero =>
  intro aG σ hu hr k8 h;refine⟨λe=>by rw[e]at hr;simp at hr,λk hk=>?_⟩;by_cases fD:k=i
  ·subst fD;exact h
  ·obtain⟨s,hs⟩:=aij h;have:=ready_mono hk fD;rw[hs.1]at this;simp at this
 |succ m ih =>
  intro aG σ hu hr k8 h;refine⟨λe=>by rw[e]at hr;simp at hr,λk hk=>?_⟩;by_cases fD:k=i
  ·subst fD;exact h
  ·have AG:=mem_ready.1 hk;obtain⟨eG,ok,ax,ec⟩:=AG;have q6:k ∉ D:=by
    intro q6;rcases hD k q6 with e|⟨oj,iq,e,he,hb,pj⟩
    ·exact fD e
    ·rw[ax]at iq;simp only[Option.some.injEq]at iq;subst iq;have h1:=ec e he hb;have h2:=hu e.on pj;rw[Array.getD_eq_getD_getElem?]at h1 h2;cases hx:aG[e.on]? with
     |none=>rw[hx]at h1;simp at h1
     |some b=>rw[hx]at h1 h2;simp at h1 h2;rw[h1]at h2;simp at h2
   obtain⟨ha,hc⟩:=k8 k ok ax eG q6;have h1:gz P ops hh qs ds i (gz P ops hh qs ds k (xo P ops hh qs ds K m ((aG.setIfInBounds i true).setIfInBounds k true))) σ :=
    zX (λs hs=>hs.2 k (ready_mono hk fD)) h
   have h2:gz P ops hh qs ds k (gz P ops hh qs ds i (xo P ops hh qs ds K m ((aG.setIfInBounds i true).setIfInBounds k true))) σ:=by
    unfold gz at h1 ⊢;simp only[hi,ax]at h1 ⊢;exact aif ha hc h1
   refine zX (λs hs=>?_) h2;refine ih (aG.setIfInBounds k true) s (λj hj=>?_) (ready_mono hr (Ne.symm fD)) (λj oj iq hl pk=>?_) ?_
   ·have cy:k≠j:=λe=>q6 (by rw[e];exact hj);rw[getD_set_ne _ cy];exact hu j hj
   ·refine k8 j oj iq ?_ pk;by_cases zl:k=j
    ·subst zl;exact eG
    ·rwa [getD_set_ne _ zl]at hl
   ·rw[Array.setIfInBounds_comm _ _ (Ne.symm fD)]at hs;exact hs
def Ff(ops:Array Oper)(qs ds:List Nat)(aG:Array Bool)(i:Nat)(D:List Nat):Bool :=
 match ops[i]? with
 |none=>false
 |some o =>
  D.contains i&&D.all (λj=>j==i||match ops[j]? with|some oj=>oj.after.any (λe=>Region.binds .any e&&D.contains e.on)|none=>false) &&
  D.all (λj=>!aG.getD j true)&&o.after.all (λe=>!Region.binds .any e||aG.getD e.on false) &&
  (bu ops.size).all λj=>D.contains j||aG.getD j true||match ops[j]? with|some oj=>o.apart ops oj&&Bx (cZ (qs.contains i) (ds.contains i) o) (cZ (qs.contains j) (ds.contains j) oj)|none=>true
def aim{ops:Array Oper}{hh:Nat}{qs ds:List Nat}{K:St->Prop}{i:Nat}{D:List Nat}{fuel:Nat}{aG:Array Bool}(h:Ff ops qs ds aG i D=true)(hs:gz P ops hh qs ds i (xo P ops hh qs ds K fuel (aG.setIfInBounds i true)) σ):xo P ops hh qs ds K (fuel+1) aG σ:=by
 unfold Ff at h;cases hi:ops[i]? with
 |none=>simp[hi]at h
 |some o =>
  simp only[hi,bb,fW,sq,lD,beq_iff_eq,Bool.not_eq_true']at h;obtain⟨⟨⟨⟨h1,h2⟩,h3⟩,h4⟩,h5⟩:=h;refine ail hi D h1 (λj hj=>?_) fuel aG σ h3 ?_ ?_ hs
  ·rcases h2 j hj with h|h
   ·exact .inl h
   ·right;split at h
    ·rename_i oj iq;rw[Array.any_eq_true']at h;obtain⟨e,he,hb⟩:=h;simp only[bb,sq]at hb;exact⟨oj,iq,e,he,hb.1,hb.2⟩
    ·simp at h
  ·rw[mem_ready];refine⟨h3 i h1,o,hi,λe he hb=>?_⟩;rw[Array.all_eq_true']at h4;have:=h4 e he;simpa [hb] using this
  ·intro j oj iq hl pk;have hj:j<ops.size:=(mW.1 iq).1;rcases h5 j (List.mem_range.2 hj) with(h|h)|h
   ·exact absurd h pk
   ·rw[hl]at h;simp at h
   ·simpa [iq] using h
def PT.kR(ops:Array Oper)(qs ds:List Nat):PT->Nat->Array Bool->Bool
 |.nil,n,aG=>n==0&&(Region.ready .any ops aG).isEmpty
 |.take _ _,0,_=>false
 |.take i t,n+1,aG=>Ff ops qs ds aG i (KH ops i)&&t.kR ops qs ds n (aG.setIfInBounds i true)
 |.both _ _ _ _,0,_=>false
 |.both i t j u,n+1,aG=>(Region.ready .any ops aG==[i,j])&&t.kR ops qs ds n (aG.setIfInBounds i true)&&u.kR ops qs ds n (aG.setIfInBounds j true)
 |.three _ _ _ _ _ _,0,_=>false
 |.three i t j u k v,n+1,aG=>(Region.ready .any ops aG==[i,j,k])&&t.kR ops qs ds n (aG.setIfInBounds i true)&&u.kR ops qs ds n (aG.setIfInBounds j true)&&v.kR ops qs ds n (aG.setIfInBounds k true)
def ov(P:Program)(ops:Array Oper)(hh:Nat)(qs ds:List Nat):PT->(St->Prop)->St->Prop
 |.nil,K,σ=>K σ
 |.take i t,K,σ=>gz P ops hh qs ds i (ov P ops hh qs ds t K) σ
 |.both i t j u,K,σ=>gz P ops hh qs ds i (ov P ops hh qs ds t K) σ/\gz P ops hh qs ds j (ov P ops hh qs ds u K) σ
 |.three i t j u k v,K,σ=>gz P ops hh qs ds i (ov P ops hh qs ds t K) σ/\gz P ops hh qs ds j (ov P ops hh qs ds u K) σ/\gz P ops hh qs ds k (ov P ops hh qs ds v K) σ
def By{ops:Array Oper}{hh:Nat}{qs ds:List Nat}{K:St->Prop}:∀ (t:PT) (n:Nat) (aG:Array Bool) (σ:St),t.kR ops qs ds n aG=true->ov P ops hh qs ds t K σ->xo P ops hh qs ds K n aG σ
 |.nil,n,aG,σ,h,hp=>by
  simp only[PT.kR,bb,beq_iff_eq,PR]at h;obtain⟨rfl,h⟩:=h;exact⟨h,hp⟩
 |.take _ _,0,_,_,h,_=>by simp[PT.kR]at h
 |.take i t,n+1,aG,σ,h,hp=>by
  simp only[PT.kR,bb]at h;exact aim h.1 (zX (λs hs=>By t n _ s h.2 hs) hp)
 |.both _ _ _ _,0,_,_,h,_=>by simp[PT.kR]at h
 |.both i t j u,n+1,aG,σ,h,hp=>by
  simp only[PT.kR,bb,beq_iff_eq]at h;obtain⟨⟨h1,h2⟩,h3⟩:=h;refine⟨λe=>by rw[h1]at e;simp at e,λk hk=>?_⟩;rw[h1]at hk;simp only[bw,iM,or_false]at hk;rcases hk with rfl|rfl
  ·exact zX (λs hs=>By t n _ s h2 hs) hp.1
  ·exact zX (λs hs=>By u n _ s h3 hs) hp.2
 |.three _ _ _ _ _ _,0,_,_,h,_=>by simp[PT.kR]at h
 |.three i t j u k v,n+1,aG,σ,h,hp=>by
  simp only[PT.kR,bb,beq_iff_eq]at h;obtain⟨⟨⟨h1,h2⟩,h3⟩,h4⟩:=h;refine⟨λe=>by rw[h1]at e;simp at e,λx hk=>?_⟩;rw[h1]at hk;simp only[bw,iM,or_false]at hk;rcases hk with rfl|rfl|rfl
  ·exact zX (λs hs=>By t n _ s h2 hs) hp.1
  ·exact zX (λs hs=>By u n _ s h3 hs) hp.2.1
  ·exact zX (λs hs=>By v n _ s h4 hs) hp.2.2
def M8{id:Nat}{ops:Array Oper}{Q:Exit->St->Prop}(hh:Nat)(qs ds:List Nat)(t:PT)(hm:P.follows .mixedOrders=true)(hd:fq N ops=true)(ht:t.kR ops qs ds ops.size (wz ops.size false)=true)(h:ov P ops hh qs ds t (Q .normal) σ):W P N n0 (.region id ops true) Q σ :=
 aik hh qs ds hm hd (By t _ _ σ ht h)
def WT{ops:Array Oper}{hh:Nat}{qs ds:List Nat}{K:St->Prop}:ov P ops hh qs ds .nil K σ=K σ:=rfl
def WU{ops:Array Oper}{hh:Nat}{qs ds:List Nat}{i:Nat}{t:PT}{K:St->Prop}:ov P ops hh qs ds (.take i t) K σ=gz P ops hh qs ds i (ov P ops hh qs ds t K) σ:=rfl
def WV{ops:Array Oper}{hh:Nat}{qs ds:List Nat}{i j k:Nat}{t u v:PT}{K:St->Prop}:ov P ops hh qs ds (.three i t j u k v) K σ=(gz P ops hh qs ds i (ov P ops hh qs ds t K) σ/\gz P ops hh qs ds j (ov P ops hh qs ds u K) σ/\gz P ops hh qs ds k (ov P ops hh qs ds v K) σ):=rfl
def WW{ops:Array Oper}{hh:Nat}{qs ds:List Nat}{i j:Nat}{t u:PT}{K:St->Prop}:ov P ops hh qs ds (.both i t j u) K σ=(gz P ops hh qs ds i (ov P ops hh qs ds t K) σ/\gz P ops hh qs ds j (ov P ops hh qs ds u K) σ):=rfl
def WX{ops:Array Oper}{hh:Nat}{q:Bool}{o:Oper}{K:St->Prop}:lr P ops hh q true o K σ=(o.guard=none/\zW hh P o σ K):=rfl
def WY{ops:Array Oper}{hh:Nat}{q:Bool}{o:Oper}{K:St->Prop}:lr P ops hh q false o K σ=(fh hh q o σ=true/\er P ops q o K σ):=rfl
def WZ(P:Program)(hh:Nat)(dst:Option Tmp)(args:List AV)(K:St->Prop)(σ:St):AV->Prop
 |.fn g bC=>Fc P hh g (args++bC) dst K σ
 |_=>False
def W2{hh:Nat}{dst:Option Tmp}{args:List AV}{K:St->Prop}{g:FuncId}{bC:List AV}:WZ P hh dst args K σ (.fn g bC)=Fc P hh g (args++bC) dst K σ:=rfl
section
variable {dst:Option Tmp} {tt:TypeId} {p:String} {af:Array Edge} {g:Option (Nat×Bool)} {K:St->Prop} {hh:Nat}
def W3(f:Operand)(args:Array Operand)(cC:Array TypeId):zW hh P ⟨dst,.call ⟨.value f,args,cC⟩,tt,p,af,g⟩ σ K=WZ P hh dst (args.toList.map (ev σ)) K σ (ev σ f):=by
 simp only[zW];cases ev σ f<;>rfl
def W4{o:Oper}:fh hh true o σ=true:=by simp[fh]
def W5(t:TypeId)(a:Operand):fh hh false ⟨dst,.load t a,tt,p,af,g⟩ σ=pR hh (ev σ a):=by simp[fh,cls,Op.operands,uI]
def W6(t:TypeId)(a:Operand)(f:Nat):fh hh false ⟨dst,.fieldAddr t a f,tt,p,af,g⟩ σ=pR hh (ev σ a):=by simp[fh,cls,Op.operands,uI]
def W7(a:Operand):fh hh false ⟨dst,.nilCheck a,tt,p,af,g⟩ σ=pR hh (ev σ a):=by simp[fh,cls,Op.operands,uI]
def W8(t:TypeId)(a i:Operand):fh hh false ⟨dst,.indexAddr t a i,tt,p,af,g⟩ σ=(pR hh (ev σ a)&&pR hh (ev σ i)):=by simp[fh,cls,Op.operands,uI]
def W9(x:Operand)(cC:Array TypeId):fh hh false ⟨dst,.call ⟨.builtin .len,#[x],cC⟩,tt,p,af,g⟩ σ=pR hh (ev σ x):=by simp[fh,cls,Op.operands,Call.operands,uI]
def ox{o:Oper}(h:(cls o.op==0||decide (3<=cls o.op))=true):fh hh false o σ=true:=by simp only[fh,pf,h,Bool.true_or]
def Xa(id r c:Nat):pR hh (.ptr id r c) = !(id==hh):=rfl
def Xf(id a b c:Nat):pR hh (.ref id a b c) = !(id==hh):=rfl
def Xj(v:Value):pR hh (.lit v)=true:=rfl
def Xm(s:Nat)(r:List (List AV)):pR hh (.tree s r)=true:=rfl
def Xp(r:List AV):pR hh (.cB r)=true:=rfl
def Xt(r:List AV):pR hh (.agg r)=true:=rfl
def XA(r:List AV):pR hh (.bD r)=true:=rfl
def XB:pR hh .undef=true:=rfl
def XC(x:Operand):fh hh false ⟨dst,.move x,tt,p,af,g⟩ σ=true:=ox P8
def XD(x:Operand):fh hh false ⟨dst,.assign x,tt,p,af,g⟩ σ=true:=ox P8
def XE(c a b:Operand):fh hh false ⟨dst,.pick c a b,tt,p,af,g⟩ σ=true:=ox P8
def XF(op:BinOp)(t:TypeId)(x y:Operand)(yt:TypeId):fh hh false ⟨dst,.binOp op t x y yt,tt,p,af,g⟩ σ=true:=ox P8
def XG(op:UnOp)(t:TypeId)(x:Operand):fh hh false ⟨dst,.unOp op t x,tt,p,af,g⟩ σ=true:=ox P8
def XH(fn:Fn)(a b:Array Operand):fh hh false ⟨dst,.makeFunc fn a b,tt,p,af,g⟩ σ=true:=ox P8
def XI(s:TypeId)(x:Operand)(f:Nat):fh hh false ⟨dst,.field s x f,tt,p,af,g⟩ σ=true:=ox P8
def XJ(x:Operand)(i:Nat):fh hh false ⟨dst,.extract x i,tt,p,af,g⟩ σ=true:=ox P8
def XK(t:TypeId)(parts:Array (Nat×Operand)):fh hh false ⟨dst,.build t parts,tt,p,af,g⟩ σ=true:=ox P8
def XL(e:TypeId):fh hh false ⟨dst,.alloc e,tt,p,af,g⟩ σ=true:=ox P8
def XM(e:TypeId)(x:Operand):fh hh false ⟨dst,.box e x,tt,p,af,g⟩ σ=true:=ox P8
def XN(t:TypeId)(l c:Operand):fh hh false ⟨dst,.makeSlice t l c,tt,p,af,g⟩ σ=true:=ox P8
def XO(t:TypeId)(len:Nat)(parts:Array (Nat×Operand)):fh hh false ⟨dst,.buildSlice t len parts,tt,p,af,g⟩ σ=true:=ox P8
def XP(t:TypeId)(a x:Operand):fh hh false ⟨dst,.store t a x,tt,p,af,g⟩ σ=true:=ox P8
def XQ(f:Operand)(args:Array Operand)(cC:Array TypeId):fh hh false ⟨dst,.call ⟨.value f,args,cC⟩,tt,p,af,g⟩ σ=true:=ox P8
def XR(args:Array Operand)(cC:Array TypeId):fh hh false ⟨dst,.call ⟨.builtin .append,args,cC⟩,tt,p,af,g⟩ σ=true:=ox P8
def XS(args:Array Operand)(cC:Array TypeId):fh hh false ⟨dst,.call ⟨.builtin .min,args,cC⟩,tt,p,af,g⟩ σ=true:=ox P8
def XT(args:Array Operand)(cC:Array TypeId):fh hh false ⟨dst,.call ⟨.builtin .max,args,cC⟩,tt,p,af,g⟩ σ=true:=ox P8
end
def Hc:=aaP @WT @WU @WV @WW @WX @WY @W2 (aaP @W3 @W4 @W5 @W6 @W7 @W8 @W9 (aaP @Xa @Xf @Xj @Xm @Xp @Xt @XA (aaP @XB @XC @XD @XE @XF @XG @XH (aaP @XI @XJ @XK @XL @XM @XN @XO (aaf @XP @XQ @XR @XS @XT)))))
def Bz{hh:Nat}{f:FuncId}{args dL:List AV}{D D':Ob}{dst:Option Tmp}{K:St->Prop}{res:AV}(h:Holds P f dL [D] res [D'])(h1:zV D=true)(h2:zV D'=true)(h3:σ.aa[hh]?=some D)(h4:kZ res=true)(h5:jE (WL hh) dL args)(hK:K ((⟨σ.env,σ.aa.set hh D'⟩:St).put dst res)):Fc P hh f args dst K σ:=⟨dL,D,res,D',h,h1,h2,h3,h4,h5,hK⟩
def oa{P:Program}{N n0:Nat}{σ:St}{Q:Exit->St->Prop}(n:Nat){id:Nat}{ops:Array Oper}(hd:fq N ops=true)(o:Oper)(ho:ops[n]?=some o)(h:∀ K:St->Prop,(∀ s,Q .normal s->K s)->opsL P ops (ops.toList.take n) (uj P o (opsL P ops (ops.toList.drop (n+1)) K)) σ):W P N n0 (.region id ops false) Q σ:=by
 intro os γ0 a w hn ax;refine wp_region ?_;have rf:n<ops.size:=(mW.1 ho).1;have e:bu ops.size=mB 0 (ops.toList.take n).length++(n::mB (n+1) (ops.toList.drop (n+1)).length):=by
  rw[wv,<- wu];have:=Gz (s:=0) (m:=n) (n:=(ops.toList.drop (n+1)).length+1) (step:=1);simp only[gJ,wx]at this;rw[show(ops.toList.take n).length=n by simp;omega,this];congr 1;simp;omega
 rw[e];refine zh _ a w ?_;refine sH (oL hd) (K:=uj P o (opsL P ops (ops.toList.drop (n+1)) (Q .normal))) (λσ' a' w' hk cW=>?_) (ops.toList.take n) 0 σ a w (λk hk=>?_) (h _ (λ_ h=>h)) ax
 ·show wpOps P ops _ _ a' w';rw[wpOps_cons];unfold wpOp;simp only[ho];have hw:Region.wanted o (yielded ops a'.tmps)=true:=by simp[Region.wanted,hk.1]
  rw[if_pos hw];left;refine HM hk cW (oL hd o (gI (by simpa using ho))) (λσ2 a2 w2 bz wU=>?_);refine sH (oL hd) (K:=Q .normal) (λBb a3 w3 gx wV=>⟨Bb,gx,wV⟩) (ops.toList.drop (n+1)) (n+1) σ2 a2 w2 (λk hk=>?_) bz wU;rw[nM];simp
 ·simp only[eY,sg]at hk;rw[Gy GK];simp
end Go.Am
namespace Go.Am
variable {P:Program} {N n0:Nat} {σ:St} {Q:Exit->St->Prop}
def uF:Exit->Bool
 |.normal=>true
 |_=>false
def Bv(id:Nat):Exit->Bool
 |.normal=>true
 |.exit j=>j==id
 |_=>false
def IA{e:Exit}(h:uF e=false):e≠.normal:=by intro h2;subst h2;simp[uF]at h
def M0{id:Nat}{e:Exit}(h:Bv id e=false):e≠.normal/\e≠.exit id:=by
 constructor
 ·intro h2;subst h2;simp[Bv]at h
 ·intro h2;subst h2;simp[Bv]at h
theorem rk{id:Nat}{ops:Array Oper}{y:Code}(h:∀ K:St->Prop,(∀ s,W P N n0 y Q s->K s)->opsL P ops ops.toList K σ)(hd:fq N ops=true:=by decide):W P N n0 (.seq (.region id ops false) y) Q σ:=Li hd h
theorem M9{id:Nat}{ops:Array Oper}(h:∀ K:St->Prop,(∀ s,Q .normal s->K s)->opsL P ops ops.toList K σ)(hd:fq N ops=true:=by decide):W P N n0 (.region id ops false) Q σ:=aeQ hd h
theorem rd{id:Nat}{ops:Array Oper}{y:Code}(h:∀ K:St->Prop,(∀ s,W P N n0 y Q s->K s)->opsL P ops ops.toList K σ)(hm:P.follows .mixedOrders=true:=by rfl)(hd:fq N ops=true:=by decide)(ht:AJ ops=true:=by decide +kernel):W P N n0 (.seq (.region id ops true) y) Q σ:=aeR hm hd ht h
theorem rde{id:Nat}{ops:Array Oper}(h:∀ K:St->Prop,(∀ s,Q .normal s->K s)->opsL P ops ops.toList K σ)(hm:P.follows .mixedOrders=true:=by rfl)(hd:fq N ops=true:=by decide)(ht:AJ ops=true:=by decide +kernel):W P N n0 (.region id ops true) Q σ:=aeS hm hd ht h
theorem rb{id:Nat}{ops:Array Oper}{y:Code}(h:∀ K:St->Prop,(∀ s,W P N n0 y Q s->K s)->uh P ops ops.toList K σ)(hm:P.follows .mixedOrders=true:=by rfl)(hd:fq N ops=true:=by decide)(ht:HL ops=true:=by decide +kernel):W P N n0 (.seq (.region id ops true) y) Q σ:=aga hm hd ht h
theorem Fg{id:Nat}{ops:Array Oper}(h:∀ K:St->Prop,(∀ s,Q .normal s->K s)->uh P ops ops.toList K σ)(hm:P.follows .mixedOrders=true:=by rfl)(hd:fq N ops=true:=by decide)(ht:HL ops=true:=by decide +kernel):W P N n0 (.region id ops true) Q σ:=agb hm hd ht h
theorem ra{id:Nat}{ops:Array Oper}{y:Code}(h:∀ K:St->Prop,(∀ s,W P N n0 y Q s->K s)->ug P ops ops.toList K σ)(hm:P.follows .mixedOrders=true:=by rfl)(hd:fq N ops=true:=by decide)(ht:HK ops=true:=by decide +kernel):W P N n0 (.seq (.region id ops true) y) Q σ:=af8 hm hd ht h
theorem Fh{id:Nat}{ops:Array Oper}(h:∀ K:St->Prop,(∀ s,Q .normal s->K s)->ug P ops ops.toList K σ)(hm:P.follows .mixedOrders=true:=by rfl)(hd:fq N ops=true:=by decide)(ht:HK ops=true:=by decide +kernel):W P N n0 (.region id ops true) Q σ:=af9 hm hd ht h
def Wk{x y:Code}(h:∀ Q':Exit->St->Prop,(∀ s,W P N n0 y Q s->Q' .normal s)->(∀ e s,uF e=false->Q e s->Q' e s)->W P N n0 x Q' σ):W P N n0 (.seq x y) Q σ :=
 W_k λQ' h1 h2=>h Q' h1 λe s he=>h2 e s (IA he)
def Wb{id:Nat}{c:Code}(h:∀ Q':Exit->St->Prop,(∀ s,Q .normal s->Q' .normal s)->(∀ s,Q .normal s->Q' (.exit id) s)->(∀ e s,Bv id e=false->Q e s->Q' e s)->W P N n0 c Q' σ):W P N n0 (.block id c) Q σ :=
 aeN λQ' h1 h2 h3=>h Q' h1 h2 λe s he=>h3 e s (M0 he).1 (M0 he).2
theorem Wc{c:Operand}{x y:Code}{t:Bool}(ht:t=true->W P N n0 x Q σ)(hf:t=false->W P N n0 y Q σ)(hc:ev σ c=.lit (.bool t):=by(simp only[Go.Am.ui,Go.Am.Lc,↓reduceIte,Nat.reduceEqDiff,Nat.reduceBEq];exact rfl)):W P N n0 (.cond c x y) Q σ:=R5 hc ht hf
def aR{α:Type}{c:Code}(S:α->St)(I:α->Prop)(M:α->Nat)(x0:α)(hI:I x0)(h0:aH n0 σ (S x0))(round:∀ x,I x->∀ Q':Exit->St->Prop,(∀ s y,I y->M y<M x->aH n0 s (S y)->Q' .normal s)->(∀ e s,uF e=false->Q e s->Q' e s)->W P N n0 c Q' (S x)):W P N n0 (.loop c) Q σ :=
 aeM S I M x0 hI h0 λx hx Q' h1 h2=>round x hx Q' h1 λe s he=>h2 e s (IA he)
end Go.Am
namespace Go.Am
variable {P:Program} {N n0:Nat} {σ:St} {Q:Exit->St->Prop}
def aio{K0:St->Prop}(n m:Nat){ops:Array Oper}(hd:fq N ops=true)(o o2:Oper)(ho:ops[n]?=some o)(dt:ops[n+1+m]?=some o2){os:List Ob}{γ0:Cx}{a:Act}{w:World}{R:Exit->Act->World->Prop}(ax:fX N os γ0 σ a w)(aip:∀ σ' a' w',K0 σ'->fX N os γ0 σ' a' w'->R .normal a' w')(h:opsL P ops (ops.toList.take n) (uj P o (opsL P ops ((ops.toList.drop (n+1)).take m) (uj P o2 (opsL P ops (ops.toList.drop (n+1+m+1)) K0)))) σ):
  wpOps P ops R (bu ops.size) a w:=by
 have rf:n+1+m<ops.size:=(mW.1 dt).1;have e:bu ops.size=mB 0 (ops.toList.take n).length++(n::(mB (n+1) ((ops.toList.drop (n+1)).take m).length++((n+1+m)::mB (n+1+m+1) (ops.toList.drop (n+1+m+1)).length))):=by
  rw[wv,<- wu];have h1:((ops.toList.drop (n+1)).take m).length=m:=P2;have h2:(ops.toList.take n).length=n:=P2;have h3:(ops.toList.drop (n+1+m+1)).length=ops.size-(n+1+m+1):=GM;rw[h1,h2,h3];have a1:=Gz (s:=n+1) (m:=m) (n:=ops.size-(n+1+m+1)+1) (step:=1);simp only[wx]at a1;rw[a1,<- wu];have a2:=Gz (s:=0) (m:=n) (n:=m+(ops.size-(n+1+m+1)+1)+1) (step:=1);simp only[gJ,wx]at a2;rw[a2];congr 1;omega
 rw[e];refine zh _ a w ?_;refine sH (oL hd) (K:=uj P o (opsL P ops ((ops.toList.drop (n+1)).take m) (uj P o2 (opsL P ops (ops.toList.drop (n+1+m+1)) K0)))) (λσ' a' w' hk cW=>?_) (ops.toList.take n) 0 σ a w (λk hk=>?_) h ax
 ·show wpOps P ops _ _ a' w';rw[wpOps_cons];unfold wpOp;simp only[ho];have hw:Region.wanted o (yielded ops a'.tmps)=true:=by simp[Region.wanted,hk.1]
  rw[if_pos hw];left;refine HM hk cW (oL hd o (gI (by simpa using ho))) (λσ2 a2 w2 bz wU=>?_);refine zh _ a2 w2 ?_;refine sH (oL hd) (K:=uj P o2 (opsL P ops (ops.toList.drop (n+1+m+1)) K0)) (λσ' a' w' hk cW=>?_) ((ops.toList.drop (n+1)).take m) (n+1) σ2 a2 w2 (λk hk=>?_) bz wU
  ·show wpOps P ops _ _ a' w';rw[wpOps_cons];unfold wpOp;simp only[dt];have hw:Region.wanted o2 (yielded ops a'.tmps)=true:=by simp[Region.wanted,hk.1]
   rw[if_pos hw];left;refine HM hk cW (oL hd o2 (gI (by simpa using dt))) (λσ2 a2 w2 bz wU=>?_);refine sH (oL hd) (K:=K0) (λBb a3 w3 gx wV=>aip Bb a3 w3 gx wV) (ops.toList.drop (n+1+m+1)) (n+1+m+1) σ2 a2 w2 (λk hk=>?_) bz wU;rw[nM];simp
  ·simp only[eY,List.length_drop,sg]at hk;rw[Gy GK,nM];simp
 ·simp only[eY,sg]at hk;rw[Gy GK];simp
def agL(n m:Nat){id:Nat}{ops:Array Oper}(hd:fq N ops=true)(o o2:Oper)(ho:ops[n]?=some o)(dt:ops[n+1+m]?=some o2)(h:∀ K:St->Prop,(∀ s,Q .normal s->K s)->opsL P ops (ops.toList.take n) (uj P o (opsL P ops ((ops.toList.drop (n+1)).take m) (uj P o2 (opsL P ops (ops.toList.drop (n+1+m+1)) K)))) σ):W P N n0 (.region id ops false) Q σ:=by
 intro os γ0 a w hn ax;refine wp_region ?_;exact aio n m hd o o2 ho dt ax (λBb a3 w3 gx wV=>⟨Bb,gx,wV⟩) (h _ (λ_ h=>h))
end Go.Am
namespace Go.Am
variable {P:Program} {N n0:Nat} {σ:St} {Q:Exit->St->Prop}
class Head (p:Prop):Prop where
 on:True
section
variable {ops:Array Oper} {o:Oper} {l:List Oper} {K:St->Prop}
instance:Head (opsL P ops (o::l) K σ):=⟨trivial⟩
instance {qs:List Nat}{t:PT}:Head (jW P ops qs t K σ):=⟨trivial⟩
instance {qs:List Nat}{i:Nat}:Head (sS P ops qs i (o::l) K σ):=⟨trivial⟩
instance:Head (ug P ops (o::l) K σ):=⟨trivial⟩
instance:Head (uh P ops (o::l) K σ):=⟨trivial⟩
end
def gO{p:Prop}[Head p](h:p):p:=h
class IF (p:Prop) (b:outParam Bool) (A B:outParam Prop):Prop where
 sp:(b=true->A)->(b=false->B)->p
instance {o:Oper}{K:St->Prop}{b want:Bool}:IF (pB P o K b want σ) b (pB P o K true want σ) (pB P o K false want σ):=⟨afc⟩
instance {q:Bool}{o:Oper}{K:St->Prop}{b want:Bool}:IF (qj q P o K b want σ) b (qj q P o K true want σ) (qj q P o K false want σ):=⟨aeK⟩
def gS{p:Prop}{b:Bool}{A B:Prop}[h:IF p b A B](h1:b=true->A)(h2:b=false->B):p:=h.sp h1 h2
def Iz:Code->Option Exit
 |.skip=>some .normal
 |.label _=>some .normal
 |.exit id=>some (.exit id)
 |.ret=>some .ret
 |_=>none
def Wz{c:Code}{e:Exit}(hc:Iz c=some e)(h:Q e σ):W P N n0 c Q σ:=by
 cases c<;>simp[Iz]at hc;all_goals subst hc
 all_goals first|exact R4 h|exact ae9 h|exact ae' h|exact ae8 h
def IM(P:Program)(d:Bool)(ops:Array Oper):Bool:=!d||(P.follows .mixedOrders&&AJ ops)
theorem rr{id:Nat}{ops:Array Oper}{d:Bool}{y:Code}(h:∀ K:St->Prop,(∀ s,W P N n0 y Q s->K s)->opsL P ops ops.toList K σ)(ht:IM P d ops=true:=by decide +kernel)(hd:fq N ops=true:=by decide):W P N n0 (.seq (.region id ops d) y) Q σ:=by
 cases d
 ·exact rk h hd
 ·have h2:P.follows .mixedOrders=true/\AJ ops=true:=by simpa [IM] using ht
  exact rd h h2.1 hd h2.2
theorem uo{id:Nat}{ops:Array Oper}{d:Bool}(h:∀ K:St->Prop,(∀ s,Q .normal s->K s)->opsL P ops ops.toList K σ)(ht:IM P d ops=true:=by decide +kernel)(hd:fq N ops=true:=by decide):W P N n0 (.region id ops d) Q σ:=by
 cases d
 ·exact M9 h hd
 ·have h2:P.follows .mixedOrders=true/\AJ ops=true:=by simpa [IM] using ht
  exact rde h h2.1 hd h2.2
class Fi (rows:List (List AV)) (sz:outParam Nat):Prop where
 wid:∀ row∈rows,row.length=sz
 cO:∀ row∈rows,∀ v∈row,(∃ x,v=AV.lit x)\/∃ s r,v=AV.tree s r
instance (xs:List Int):Fi (ints xs) 1:=⟨vh _,x8 _⟩
instance (xs:List Bool):Fi (a8 xs) 1:=⟨KV _,RP _⟩
instance (xs:List (List Int)):Fi (fM xs) 1:=⟨aeU _,aeT _⟩
instance {α:Type}{enc:α->List AV}{sz:Nat}[Row enc sz](xs:List α):Fi (rowsOf enc xs) sz:=⟨jd _,oS _⟩
theorem aZ.fz{kp:Nat->Prop}{ρ:Nat->Nat}{id sz len:Nat}{rows:List (List AV)}[h:Fi rows sz](ho:σ.aa[id]?=some (.arr sz rows))(hl:len=rows.length)(tQ:¬ kp id:=by first|exact jD (by decide)|decide):aZ σ kp ρ true (.tree sz rows) (.ref id sz 0 len):=aZ.cO ho h.wid hl tQ h.cO
theorem aH.se(aj:List Nat)(snap:Bool){l:List (Nat×AV)}{co:List Ob}(ho:qh (bq σ.aa.length aj) σ.aa aj co)(h:tU (aZ σ (kept aj co) (bq σ.aa.length aj) snap) σ.env l)(bV:aj.Nodup:=by decide)(hn:n0<=aj.length:=by decide)(bX:∀ i,i<n0->aj.getD i 0=i:=by decide):aH n0 σ ⟨Am.ao l,co⟩:=aH.aj aj snap l co bV ho hn bX h
theorem M'(aj:List Nat)(snap:Bool){v res:AV}{bn:List Ob}(ho:qh (bq σ.aa.length aj) σ.aa aj bn)(h:aZ σ (kept aj bn) (bq σ.aa.length aj) snap res v)(bV:aj.Nodup:=by decide)(hn:n0<=aj.length:=by decide)(bX:∀ i,i<n0->aj.getD i 0=i:=by decide):oK n0 σ v res bn:=iD aj snap bV ho hn bX h
end Go.Am
namespace Go.Am
def XU:dE []=.bD []:=rfl
def XV(a b:AV)(l:List AV):dE (a::b::l)=.bD (a::b::l):=rfl
end Go.Am
namespace Go.Am
variable {P:Program} {N n0:Nat} {σ:St}
inductive PF where
 |nil
 |take (i:Nat) (t:PF)
 |both (i:Nat) (t:PF) (j:Nat) (u:PF)
 |three (i:Nat) (t:PF) (j:Nat) (u:PF) (k:Nat) (v:PF)
 |four (i:Nat) (t:PF) (j:Nat) (u:PF) (k:Nat) (v:PF) (l:Nat) (w:PF)
def PF.ok(ops:Array Oper)(qs:List Nat):PF->Nat->Array Bool->Bool
 |.nil,n,aG=>n==0&&(Region.ready .any ops aG).isEmpty
 |.take _ _,0,_=>false
 |.take i t,n+1,aG=>G2 ops qs aG i (KH ops i)&&t.ok ops qs n (aG.setIfInBounds i true)
 |.both _ _ _ _,0,_=>false
 |.both i t j u,n+1,aG=>(Region.ready .any ops aG==[i,j])&&t.ok ops qs n (aG.setIfInBounds i true)&&u.ok ops qs n (aG.setIfInBounds j true)
 |.three _ _ _ _ _ _,0,_=>false
 |.three i t j u k v,n+1,aG=>(Region.ready .any ops aG==[i,j,k])&&t.ok ops qs n (aG.setIfInBounds i true)&&u.ok ops qs n (aG.setIfInBounds j true)&&v.ok ops qs n (aG.setIfInBounds k true)
 |.four _ _ _ _ _ _ _ _,0,_=>false
 |.four i t j u k v l w,n+1,aG=>(Region.ready .any ops aG==[i,j,k,l])&&t.ok ops qs n (aG.setIfInBounds i true)&&u.ok ops qs n (aG.setIfInBounds j true)&&v.ok ops qs n (aG.setIfInBounds k true)&&w.ok ops qs n (aG.setIfInBounds l true)
def jT(P:Program)(ops:Array Oper)(qs:List Nat):PF->(St->Prop)->St->Prop
 |.nil,K,σ=>K σ
 |.take i t,K,σ=>cj P ops qs i (jT P ops qs t K) σ
 |.both i t j u,K,σ=>cj P ops qs i (jT P ops qs t K) σ/\cj P ops qs j (jT P ops qs u K) σ
 |.three i t j u k v,K,σ=>cj P ops qs i (jT P ops qs t K) σ/\cj P ops qs j (jT P ops qs u K) σ/\cj P ops qs k (jT P ops qs v K) σ
 |.four i t j u k v l w,K,σ=>cj P ops qs i (jT P ops qs t K) σ/\cj P ops qs j (jT P ops qs u K) σ/\cj P ops qs k (jT P ops qs v K) σ/\cj P ops qs l (jT P ops qs w K) σ
def vP{ops:Array Oper}{qs:List Nat}{K:St->Prop}:∀ (t:PF) (n:Nat) (aG:Array Bool) (σ:St),t.ok ops qs n aG=true->jT P ops qs t K σ->vg P ops qs K n aG σ
 |.nil,n,aG,σ,h,hp=>by
  simp only[PF.ok,bb,beq_iff_eq,PR]at h;obtain⟨rfl,h⟩:=h;exact⟨h,hp⟩
 |.take _ _,0,_,_,h,_=>by simp[PF.ok]at h
 |.take i t,n+1,aG,σ,h,hp=>by
  simp only[PF.ok,bb]at h;exact Ru h.1 (nS (λs hs=>vP t n _ s h.2 hs) hp)
 |.both _ _ _ _,0,_,_,h,_=>by simp[PF.ok]at h
 |.both i t j u,n+1,aG,σ,h,hp=>by
  simp only[PF.ok,bb,beq_iff_eq]at h;obtain⟨⟨h1,h2⟩,h3⟩:=h;refine⟨λe=>by rw[h1]at e;simp at e,λk hk=>?_⟩;rw[h1]at hk;simp only[bw,iM,or_false]at hk;rcases hk with rfl|rfl
  ·exact nS (λs hs=>vP t n _ s h2 hs) hp.1
  ·exact nS (λs hs=>vP u n _ s h3 hs) hp.2
 |.three _ _ _ _ _ _,0,_,_,h,_=>by simp[PF.ok]at h
 |.three i t j u k v,n+1,aG,σ,h,hp=>by
  simp only[PF.ok,bb,beq_iff_eq]at h;obtain⟨⟨⟨h1,h2⟩,h3⟩,h4⟩:=h;refine⟨λe=>by rw[h1]at e;simp at e,λx hk=>?_⟩;rw[h1]at hk;simp only[bw,iM,or_false]at hk;rcases hk with rfl|rfl|rfl
  ·exact nS (λs hs=>vP t n _ s h2 hs) hp.1
  ·exact nS (λs hs=>vP u n _ s h3 hs) hp.2.1
  ·exact nS (λs hs=>vP v n _ s h4 hs) hp.2.2
 |.four _ _ _ _ _ _ _ _,0,_,_,h,_=>by simp[PF.ok]at h
 |.four i t j u k v l w,n+1,aG,σ,h,hp=>by
  simp only[PF.ok,bb,beq_iff_eq]at h;obtain⟨⟨⟨⟨h1,h2⟩,h3⟩,h4⟩,h5⟩:=h;refine⟨λe=>by rw[h1]at e;simp at e,λx hk=>?_⟩;rw[h1]at hk;simp only[bw,iM,or_false]at hk;rcases hk with rfl|rfl|rfl|rfl
  ·exact nS (λs hs=>vP t n _ s h2 hs) hp.1
  ·exact nS (λs hs=>vP u n _ s h3 hs) hp.2.1
  ·exact nS (λs hs=>vP v n _ s h4 hs) hp.2.2.1
  ·exact nS (λs hs=>vP w n _ s h5 hs) hp.2.2.2
def aiq{id:Nat}{ops:Array Oper}{Q:Exit->St->Prop}(qs:List Nat)(t:PF)(hm:P.follows .mixedOrders=true)(hd:fq N ops=true)(ht:t.ok ops qs ops.size (wz ops.size false)=true)(h:jT P ops qs t (Q .normal) σ):W P N n0 (.region id ops true) Q σ :=
 Rs qs hm hd (vP t _ _ σ ht h)
section
variable {ops:Array Oper} {qs:List Nat} {K:St->Prop} {i j k l:Nat} {t u v w:PF}
def uJ:jT P ops qs .nil K σ=K σ:=rfl
def vQ:jT P ops qs (.take i t) K σ=cj P ops qs i (jT P ops qs t K) σ:=rfl
def vR:jT P ops qs (.both i t j u) K σ=(cj P ops qs i (jT P ops qs t K) σ/\cj P ops qs j (jT P ops qs u K) σ):=rfl
def vS:jT P ops qs (.three i t j u k v) K σ=(cj P ops qs i (jT P ops qs t K) σ/\cj P ops qs j (jT P ops qs u K) σ/\cj P ops qs k (jT P ops qs v K) σ):=rfl
def vT:jT P ops qs (.four i t j u k v l w) K σ=(cj P ops qs i (jT P ops qs t K) σ/\cj P ops qs j (jT P ops qs u K) σ/\cj P ops qs k (jT P ops qs v K) σ/\cj P ops qs l (jT P ops qs w K) σ):=rfl
end
end Go.Am

