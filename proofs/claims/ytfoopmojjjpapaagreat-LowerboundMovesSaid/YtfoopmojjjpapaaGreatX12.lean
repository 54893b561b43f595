import Derived.Test.YtfoopmojjjpapaaGreatX10
set_option linter.all false
set_option maxHeartbeats 0
set_option maxRecDepth 20000
open Bool renaming true_and→iu,false_and→pT
namespace Go.Am
def Gi(k:IntKind)(n:Int):ef (.int k n)=.lit (.int k n):=by first|rfl|(cases b<;>rfl)|(simp only[ef];done)|(unfold fP;split<;>simp_all)
def Gj(b:Bool):ef (.bool b)=.lit (.bool b):=by first|rfl|(cases b<;>rfl)|(simp only[ef];done)|(unfold fP;split<;>simp_all)
def Gk(a:Option Addr)(n c:Nat):ef (.slice a n c)=.lit (.slice a n c):=by first|rfl|(cases b<;>rfl)|(simp only[ef];done)|(unfold fP;split<;>simp_all)
def Gl(s:ByteArray):ef (.string s)=.lit (.string s):=by first|rfl|(cases b<;>rfl)|(simp only[ef];done)|(unfold fP;split<;>simp_all)
def Gm(s:Array Value):ef (.tuple s)=.lit (.tuple s):=by first|rfl|(cases b<;>rfl)|(simp only[ef];done)|(unfold fP;split<;>simp_all)
def TD(ρ:Nat->Nat)(v:Value):bf ρ (.lit v)=.lit v:=by first|rfl|(cases b<;>rfl)|(simp only[ef];done)|(unfold fP;split<;>simp_all)
def TE(ρ:Nat->Nat)(s:Nat)(r:List (List AV)):bf ρ (.tree s r)=.tree s r:=by first|rfl|(cases b<;>rfl)|(simp only[ef];done)|(unfold fP;split<;>simp_all)
def TF(ρ:Nat->Nat)(r:List AV):bf ρ (.cd r)=.cd r:=by first|rfl|(cases b<;>rfl)|(simp only[ef];done)|(unfold fP;split<;>simp_all)
def TG(ρ:Nat->Nat):bf ρ .undef=.undef:=by first|rfl|(cases b<;>rfl)|(simp only[ef];done)|(unfold fP;split<;>simp_all)
def TH(v:Value):cellsOf (.lit v)=[.lit v]:=by first|rfl|(cases b<;>rfl)|(simp only[ef];done)|(unfold fP;split<;>simp_all)
def TI(s:Nat)(r:List (List AV)):cellsOf (.tree s r)=[.tree s r]:=by first|rfl|(cases b<;>rfl)|(simp only[ef];done)|(unfold fP;split<;>simp_all)
def TJ(r:List AV):cellsOf (.cd r)=[.cd r]:=by first|rfl|(cases b<;>rfl)|(simp only[ef];done)|(unfold fP;split<;>simp_all)
def TK(a b c d:Nat):cellsOf (.ref a b c d)=[.ref a b c d]:=by first|rfl|(cases b<;>rfl)|(simp only[ef];done)|(unfold fP;split<;>simp_all)
def TL(a b c:Nat):cellsOf (.ptr a b c)=[.ptr a b c]:=by first|rfl|(cases b<;>rfl)|(simp only[ef];done)|(unfold fP;split<;>simp_all)
def TM(id:Nat):cellsOf (.dt id)=[.dt id]:=rfl
def TN(t:TypeId)(v:AV):cellsOf (.gZ t v)=[.gZ t v]:=rfl
def TO(f:FuncId)(l:List AV):cellsOf (.fn f l)=[.fn f l]:=by first|rfl|(cases b<;>rfl)|(simp only[ef];done)|(unfold fP;split<;>simp_all)
def TP(t:Bool)(s:Array Value)(b:AV):fP t (.lit (.tuple s)) b=if t=true then .lit (.tuple s) else b:=by first|rfl|(cases b<;>rfl)|(simp only[ef];done)|(unfold fP;split<;>simp_all)
def TQ(t:Bool)(s:Array Value)(b:AV):fP t b (.lit (.tuple s))=if t=true then b else .lit (.tuple s):=by first|rfl|(cases b<;>rfl)|(simp only[ef];done)|(unfold fP;split<;>simp_all)
def TR(t:Bool)(s u:List AV):fP t (.agg s) (.agg u)=if t=true then .agg s else .agg u:=by first|rfl|(cases b<;>rfl)|(simp only[ef];done)|(unfold fP;split<;>simp_all)
def TS(l:List AV):cV (.agg l)=false:=by first|rfl|(cases b<;>rfl)|(simp only[ef];done)|(unfold fP;split<;>simp_all)
def TT(l:List AV):cV (.bu l)=false:=by first|rfl|(cases b<;>rfl)|(simp only[ef];done)|(unfold fP;split<;>simp_all)
def TU  : cV .undef=false:=by first|rfl|(cases b<;>rfl)|(simp only[ef];done)|(unfold fP;split<;>simp_all)
def TV(k:IntKind)(n:Int):Value.oneCell' (.int k n)=true:=by first|rfl|(cases b<;>rfl)|(simp only[ef];done)|(unfold fP;split<;>simp_all)
def TW(b:Bool):Value.oneCell' (.bool b)=true:=by first|rfl|(cases b<;>rfl)|(simp only[ef];done)|(unfold fP;split<;>simp_all)
def TX(a:Option Addr)(n c:Nat):Value.oneCell' (.slice a n c)=true:=by first|rfl|(cases b<;>rfl)|(simp only[ef];done)|(unfold fP;split<;>simp_all)
def TY(s:ByteArray):Value.oneCell' (.string s)=true:=by first|rfl|(cases b<;>rfl)|(simp only[ef];done)|(unfold fP;split<;>simp_all)
def TZ(a:Option Addr):Value.oneCell' (.pointer a)=true:=by first|rfl|(cases b<;>rfl)|(simp only[ef];done)|(unfold fP;split<;>simp_all)
def T1(a:Option Nat):Value.oneCell' (.map a)=true:=by first|rfl|(cases b<;>rfl)|(simp only[ef];done)|(unfold fP;split<;>simp_all)
def Pc:=aaD @AS.eq_1 @AS.eq_2 @xJ.eq_1 @xJ.eq_2 @AT.eq_1 @AT.eq_2 @pW.eq_1 (aaD @pW.eq_2 @pW.eq_3 @IJ.eq_1 @IL.eq_1 @gy.eq_1 @gy.eq_2 @gy.eq_3 (aaD @gy.eq_4 @gy.eq_5 @gy.eq_6 @gy.eq_7 @gy.eq_8 @gy.eq_9 @gy.eq_10 (aaD @gy.eq_11 @gy.eq_12 @gy.eq_13 @ml.eq_1 @dX.eq_1 @pW.eq_4 @Qo (N0 @Qp @Qq @Qr))))
def Sc:=aaD @ev.eq_1 @ev.eq_2 @ev.eq_3 @ev.eq_4 @ef.eq_1 @St.put.eq_1 @St.put.eq_2 (aaD @vc.eq_1 @vc.eq_2 @vd.eq_1 @vd.eq_2 @fP.eq_1 @jy.eq_1 @jy.eq_2 (aaD @fl.eq_1 @fl.eq_2 @bf.eq_1 @bf.eq_2 @bf.eq_3 @bf.eq_4 @bf.eq_5 (aaD @bf.eq_6 @o8.eq_1 @o8.eq_2 @bq.eq_1 @rowOf.eq_1 @nV.eq_1 @nw.eq_1 (aaD @nw.eq_2 @k0.eq_1 @k0.eq_2 @cellsOf.eq_1 @setCells.eq_1 @setCells.eq_2 @mh.eq_1 (aaD @mh.eq_2 @mj.eq_1 @mj.eq_2 @cV.eq_1 @cV.eq_2 @cV.eq_3 @cV.eq_4 (aaD @cV.eq_5 @cV.eq_6 @Ty.isAgg.eq_1 @Value.oneCell'.eq_1 @Value.oneCell'.eq_2 @uj.eq_1 @wU.eq_1 (aaD @wU.eq_2 @ao.eq_1 @b6.eq_1 @aQ.eq_1 @aH.eq_1 @qo.eq_1 @db.eq_1 (aaD @dj.eq_1 @oY.eq_1 @oY.eq_2 @FT @Qv @JX @QC (aaD @JZ @QD @iu @pT @Gi @Gj @Gk (aaD @Gl @Gm @TD @TE @TF @TG @TH (aaD @TI @TJ @TK @TL @TO @TP @TQ (aaD @TR @TS @TT @TU @TV @TW @TX (aaD @TY @TZ @T1 @cV.eq_7 @TN @Oh @OL (aaD @ON @IK.eq_1 @oX.eq_1 @oX.eq_2 @bf.eq_7 @cV.eq_8 @TM (aaD @OF @OG @OH @OK @OI @OJ @N9 (aak @lK.eq_1 @keyOf.eq_1 @keyOf.eq_2 @j1.eq_1))))))))))))))))
def Lc:=aaD @ev.eq_1 @ev.eq_2 @ev.eq_3 @ev.eq_4 @ef.eq_1 @St.put.eq_1 @St.put.eq_2 (aal @Gi @Gj @Gk @Gl @Gm)
def ei{P:Program}{N n0:Nat}(id:Nat){ops:Array Oper}{d:Bool}{y:Code}{Q:Exit->St->Prop}{σ:St}(h:W P N n0 (.seq (.region id ops d) y) Q σ):W P N n0 (.seq (.region id ops d) y) Q σ:=h
def ej{P:Program}{N n0:Nat}(id:Nat){ops:Array Oper}{d:Bool}{Q:Exit->St->Prop}{σ:St}(h:W P N n0 (.region id ops d) Q σ):W P N n0 (.region id ops d) Q σ:=h
end Go.Am

