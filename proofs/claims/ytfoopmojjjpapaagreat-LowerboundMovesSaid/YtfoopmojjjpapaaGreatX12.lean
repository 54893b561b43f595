import Derived.Test.YtfoopmojjjpapaaGreatX10
set_option linter.all false
set_option maxHeartbeats 0
set_option maxRecDepth 20000
open Bool renaming true_and→iu,false_and→pU
namespace Go.Am
def Gl(k:IntKind)(n:Int):ef (.int k n)=.lit (.int k n):=by first|rfl|(cases b<;>rfl)|(simp only[ef];done)|(unfold fP;split<;>simp_all)
def Gm(b:Bool):ef (.bool b)=.lit (.bool b):=by first|rfl|(cases b<;>rfl)|(simp only[ef];done)|(unfold fP;split<;>simp_all)
def Gn(a:Option Addr)(n c:Nat):ef (.slice a n c)=.lit (.slice a n c):=by first|rfl|(cases b<;>rfl)|(simp only[ef];done)|(unfold fP;split<;>simp_all)
def Gp(s:ByteArray):ef (.string s)=.lit (.string s):=by first|rfl|(cases b<;>rfl)|(simp only[ef];done)|(unfold fP;split<;>simp_all)
def Gq(s:Array Value):ef (.tuple s)=.lit (.tuple s):=by first|rfl|(cases b<;>rfl)|(simp only[ef];done)|(unfold fP;split<;>simp_all)
def TG(ρ:Nat->Nat)(v:Value):bf ρ (.lit v)=.lit v:=by first|rfl|(cases b<;>rfl)|(simp only[ef];done)|(unfold fP;split<;>simp_all)
def TH(ρ:Nat->Nat)(s:Nat)(r:List (List AV)):bf ρ (.tree s r)=.tree s r:=by first|rfl|(cases b<;>rfl)|(simp only[ef];done)|(unfold fP;split<;>simp_all)
def TI(ρ:Nat->Nat)(r:List AV):bf ρ (.cd r)=.cd r:=by first|rfl|(cases b<;>rfl)|(simp only[ef];done)|(unfold fP;split<;>simp_all)
def TJ(ρ:Nat->Nat):bf ρ .undef=.undef:=by first|rfl|(cases b<;>rfl)|(simp only[ef];done)|(unfold fP;split<;>simp_all)
def TK(v:Value):cellsOf (.lit v)=[.lit v]:=by first|rfl|(cases b<;>rfl)|(simp only[ef];done)|(unfold fP;split<;>simp_all)
def TL(s:Nat)(r:List (List AV)):cellsOf (.tree s r)=[.tree s r]:=by first|rfl|(cases b<;>rfl)|(simp only[ef];done)|(unfold fP;split<;>simp_all)
def TM(r:List AV):cellsOf (.cd r)=[.cd r]:=by first|rfl|(cases b<;>rfl)|(simp only[ef];done)|(unfold fP;split<;>simp_all)
def TN(a b c d:Nat):cellsOf (.ref a b c d)=[.ref a b c d]:=by first|rfl|(cases b<;>rfl)|(simp only[ef];done)|(unfold fP;split<;>simp_all)
def TO(a b c:Nat):cellsOf (.ptr a b c)=[.ptr a b c]:=by first|rfl|(cases b<;>rfl)|(simp only[ef];done)|(unfold fP;split<;>simp_all)
def TP(id:Nat):cellsOf (.du id)=[.du id]:=rfl
def TQ(t:TypeId)(v:AV):cellsOf (.gZ t v)=[.gZ t v]:=rfl
def TR(f:FuncId)(l:List AV):cellsOf (.fn f l)=[.fn f l]:=by first|rfl|(cases b<;>rfl)|(simp only[ef];done)|(unfold fP;split<;>simp_all)
def TS(t:Bool)(s:Array Value)(b:AV):fP t (.lit (.tuple s)) b=if t=true then .lit (.tuple s) else b:=by first|rfl|(cases b<;>rfl)|(simp only[ef];done)|(unfold fP;split<;>simp_all)
def TT(t:Bool)(s:Array Value)(b:AV):fP t b (.lit (.tuple s))=if t=true then b else .lit (.tuple s):=by first|rfl|(cases b<;>rfl)|(simp only[ef];done)|(unfold fP;split<;>simp_all)
def TU(t:Bool)(s u:List AV):fP t (.agg s) (.agg u)=if t=true then .agg s else .agg u:=by first|rfl|(cases b<;>rfl)|(simp only[ef];done)|(unfold fP;split<;>simp_all)
def TV(l:List AV):cV (.agg l)=false:=by first|rfl|(cases b<;>rfl)|(simp only[ef];done)|(unfold fP;split<;>simp_all)
def TW(l:List AV):cV (.bu l)=false:=by first|rfl|(cases b<;>rfl)|(simp only[ef];done)|(unfold fP;split<;>simp_all)
def TX  : cV .undef=false:=by first|rfl|(cases b<;>rfl)|(simp only[ef];done)|(unfold fP;split<;>simp_all)
def TY(k:IntKind)(n:Int):Value.oneCell' (.int k n)=true:=by first|rfl|(cases b<;>rfl)|(simp only[ef];done)|(unfold fP;split<;>simp_all)
def TZ(b:Bool):Value.oneCell' (.bool b)=true:=by first|rfl|(cases b<;>rfl)|(simp only[ef];done)|(unfold fP;split<;>simp_all)
def T1(a:Option Addr)(n c:Nat):Value.oneCell' (.slice a n c)=true:=by first|rfl|(cases b<;>rfl)|(simp only[ef];done)|(unfold fP;split<;>simp_all)
def T2(s:ByteArray):Value.oneCell' (.string s)=true:=by first|rfl|(cases b<;>rfl)|(simp only[ef];done)|(unfold fP;split<;>simp_all)
def T3(a:Option Addr):Value.oneCell' (.pointer a)=true:=by first|rfl|(cases b<;>rfl)|(simp only[ef];done)|(unfold fP;split<;>simp_all)
def T4(a:Option Nat):Value.oneCell' (.map a)=true:=by first|rfl|(cases b<;>rfl)|(simp only[ef];done)|(unfold fP;split<;>simp_all)
def Pc:=aaI @AW.eq_1 @AW.eq_2 @xM.eq_1 @xM.eq_2 @AX.eq_1 @AX.eq_2 @pX.eq_1 (aaI @pX.eq_2 @pX.eq_3 @IL.eq_1 @IN.eq_1 @gy.eq_1 @gy.eq_2 @gy.eq_3 (aaI @gy.eq_4 @gy.eq_5 @gy.eq_6 @gy.eq_7 @gy.eq_8 @gy.eq_9 @gy.eq_10 (aaI @gy.eq_11 @gy.eq_12 @gy.eq_13 @ml.eq_1 @dX.eq_1 @pX.eq_4 @Qr (N3 @Qs @Qt @Qu))))
def Sc:=aaI @ev.eq_1 @ev.eq_2 @ev.eq_3 @ev.eq_4 @ef.eq_1 @St.put.eq_1 @St.put.eq_2 (aaI @vd.eq_1 @vd.eq_2 @vf.eq_1 @vf.eq_2 @fP.eq_1 @jy.eq_1 @jy.eq_2 (aaI @fl.eq_1 @fl.eq_2 @bf.eq_1 @bf.eq_2 @bf.eq_3 @bf.eq_4 @bf.eq_5 (aaI @bf.eq_6 @o8.eq_1 @o8.eq_2 @bq.eq_1 @rowOf.eq_1 @nV.eq_1 @nw.eq_1 (aaI @nw.eq_2 @k0.eq_1 @k0.eq_2 @cellsOf.eq_1 @setCells.eq_1 @setCells.eq_2 @mh.eq_1 (aaI @mh.eq_2 @mj.eq_1 @mj.eq_2 @cV.eq_1 @cV.eq_2 @cV.eq_3 @cV.eq_4 (aaI @cV.eq_5 @cV.eq_6 @Ty.isAgg.eq_1 @Value.oneCell'.eq_1 @Value.oneCell'.eq_2 @uj.eq_1 @wX.eq_1 (aaI @wX.eq_2 @ao.eq_1 @b6.eq_1 @aQ.eq_1 @aH.eq_1 @qq.eq_1 @db.eq_1 (aaI @dm.eq_1 @oY.eq_1 @oY.eq_2 @FY @Qy @JZ @QG (aaI @J1 @QH @iu @pU @Gl @Gm @Gn (aaI @Gp @Gq @TG @TH @TI @TJ @TK (aaI @TL @TM @TN @TO @TR @TS @TT (aaI @TU @TV @TW @TX @TY @TZ @T1 (aaI @T2 @T3 @T4 @cV.eq_7 @TQ @Ol @OP (aaI @OQ @IM.eq_1 @oX.eq_1 @oX.eq_2 @bf.eq_7 @cV.eq_8 @TP (aaI @OI @OJ @OK @OO @OL @ON @Od (aap @lK.eq_1 @keyOf.eq_1 @keyOf.eq_2 @jZ.eq_1))))))))))))))))
def Lc:=aaI @ev.eq_1 @ev.eq_2 @ev.eq_3 @ev.eq_4 @ef.eq_1 @St.put.eq_1 @St.put.eq_2 (aaq @Gl @Gm @Gn @Gp @Gq)
def ei{P:Program}{N n0:Nat}(id:Nat){ops:Array Oper}{d:Bool}{y:Code}{Q:Exit->St->Prop}{σ:St}(h:W P N n0 (.seq (.region id ops d) y) Q σ):W P N n0 (.seq (.region id ops d) y) Q σ:=h
def ej{P:Program}{N n0:Nat}(id:Nat){ops:Array Oper}{d:Bool}{Q:Exit->St->Prop}{σ:St}(h:W P N n0 (.region id ops d) Q σ):W P N n0 (.region id ops d) Q σ:=h
end Go.Am

