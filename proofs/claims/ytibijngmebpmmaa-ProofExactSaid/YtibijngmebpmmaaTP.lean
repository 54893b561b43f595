import Derived.Test.YtibijngmebpmmaaAmH
import Derived.Test.YtibijngmebpmmaaCS
import Derived.Test.YtibijngmebpmmaaTyB
import Derived.Test.YtibijngmebpmmaaM1
import Derived.Test.YtibijngmebpmmaaSM
import Derived.Test.YtibijngmebpmmaaSP
set_option linter.unusedVariables false
set_option linter.unusedSimpArgs false
set_option linter.unnecessarySimpa false
open Go Go.Am Go.Proofs Go.ChangeShapes Go.WideShapes Go.ChangeAt Go.RowKit
set_option maxRecDepth 20000
namespace T
variable {H:Type} {enc:TypeId × Value→H} {W:World} {sp:Nat→Bool} {base:Nat}
theorem undI:Try.prog.underlying 3=some (.int .i64):=by kernel_rfl
theorem cellI:Try.prog.cellsOf 3=1:=by kernel_rfl
theorem rdInt {n:Nat} {cs:List Value} {o:Nat} (h :∃y,DataW.trod enc Try.prog W base sp true n 3 ((cs.drop o).take 1)=some y) :∃a:Int,I64 a∧TreeR W (startZ W) (.lit (.int .i64 a)) (cs.getD o Go.undef):=by
  obtain ⟨y,h⟩:=h
  obtain ⟨a,h1,h2⟩:=reads_int undI n _ y h
  exact⟨a,h1,h2.cell (j:=0) rfl⟩
theorem reads_charge:Reads Try.prog enc W base sp 80 eCh (fun _=>True):=by
  intro fuel cs x h
  obtain ⟨hl,n,hf⟩:=reads_fields ty80 rfl h
  obtain ⟨a,_,ha⟩:=rdInt (hf (0,3,1) (by simp))
  obtain ⟨b,_,hb⟩:=rdInt (hf (1,3,1) (by simp))
  exact⟨(a,b),trivial,.mk2 hl ha hb⟩
theorem reads_load:Reads Try.prog enc W base sp 85 eLd (fun _=>True):=by
  intro fuel cs x h
  obtain ⟨hl,n,hf⟩:=reads_fields ty85 rfl h
  obtain ⟨a,_,ha⟩:=rdInt (hf (0,3,1) (by simp))
  obtain ⟨b,_,hb⟩:=rdInt (hf (1,3,1) (by simp))
  obtain ⟨c,_,hc⟩:=rdInt (hf (2,3,1) (by simp))
  exact⟨⟨a,b,c⟩,trivial,.mk3 hl ha hb hc⟩
theorem reads_time:Reads Try.prog enc W base sp 63 (fun o:Int × Int × Int × Int=>[.lit (.int .i64 o.1),.lit (.int .i64 o.2.1),.lit (.int .i64 o.2.2.1),.lit (.int .i64 o.2.2.2)]) (fun _=>True):=by
  intro fuel cs x h
  obtain ⟨hl,n,hf⟩:=reads_fields ty63 rfl h
  obtain ⟨a,_,ha⟩:=rdInt (hf (0,3,1) (by simp))
  obtain ⟨b,_,hb⟩:=rdInt (hf (1,3,1) (by simp))
  obtain ⟨c,_,hc⟩:=rdInt (hf (2,3,1) (by simp))
  obtain ⟨d,_,hd⟩:=rdInt (hf (3,3,1) (by simp))
  exact⟨(a,b,c,d),trivial,.mk4 hl ha hb hc hd⟩
theorem reads_placed:Reads Try.prog enc W base sp 65 (fun o:Int × Int × Int × Int × Int=>[.lit (.int .i64 o.1),.lit (.int .i64 o.2.1),.lit (.int .i64 o.2.2.1),.lit (.int .i64 o.2.2.2.1),.lit (.int .i64 o.2.2.2.2)]) (fun _=>True):=by
  intro fuel cs x h
  obtain ⟨hl,n,hf⟩:=reads_fields ty65 rfl h
  obtain ⟨y,h1⟩:=hf (0,63,4) (by simp)
  obtain ⟨⟨a,b,c,d⟩,_,ht⟩:=reads_time n _ y h1
  obtain ⟨e,_,he⟩:=rdInt (hf (4,3,1) (by simp))
  refine⟨(a,b,c,d,e),trivial,by simp[hl],fun j y hy=>?_⟩
  match j,hy with
  | 0,hy=>simp at hy;subst hy;exact ht.cell (j:=0) rfl
  | 1,hy=>simp at hy;subst hy;exact ht.cell (j:=1) rfl
  | 2,hy=>simp at hy;subst hy;exact ht.cell (j:=2) rfl
  | 3,hy=>simp at hy;subst hy;exact ht.cell (j:=3) rfl
  | 4,hy=>simp at hy;subst hy;exact he
theorem rdSlice {α:Type} {ea:α→List AV} {R:α→Prop} {t e:TypeId} {sz:Nat} (ht:Try.prog.underlying t=some (.slice e)) (hc:Try.prog.cellsOf e=sz) (hsz:0<sz) (hwid:∀ a,(ea a).length=sz) (he:Reads Try.prog enc W base sp e ea R)
    {n:Nat} {cs:List Value} {o:Nat} (h :∃y,DataW.trod enc Try.prog W base sp true n t ((cs.drop o).take 1)=some y) :∃l:List α,(∀ a∈l,R a)∧l.length<9223372036854775808∧TreeR W (startZ W) (.tree sz (l.map ea)) (cs.getD o Go.undef):=by
  obtain ⟨y,h⟩:=h
  obtain ⟨l,⟨h1,h2⟩,h3⟩:=reads_slice ht hc hsz hwid he n _ y h
  exact⟨l,h1,by unfold maxLen at h2;omega,h3.cell (j:=0) rfl⟩
theorem reads_option:Reads Try.prog enc W base sp 68 eOpt (fun o=>o.ch.length<9223372036854775808):=by
  intro fuel cs x h
  obtain ⟨hl,n,hf⟩:=reads_fields ty68 rfl h
  obtain ⟨y,h1⟩:=hf (0,65,5) (by simp)
  obtain ⟨⟨a,b,c,d,e⟩,_,ht⟩:=reads_placed n _ y h1
  obtain ⟨l,_,hll,hlt⟩:=rdSlice (sz:=2) (by kernel_rfl) (by kernel_rfl) (by decide) (fun _=>rfl) reads_charge (hf (5,66,1) (by simp))
  exact⟨⟨a,b,c,d,e,l⟩,hll,.mk6 hl (ht.cell (j:=0) rfl) (ht.cell (j:=1) rfl) (ht.cell (j:=2) rfl) (ht.cell (j:=3) rfl) (ht.cell (j:=4) rfl) hlt⟩
theorem reads_class:Reads Try.prog enc W base sp 56 eCls (fun l=>(∀ o∈l,o.ch.length<9223372036854775808)∧l.length<9223372036854775808):=by
  intro fuel cs x h
  obtain ⟨l,⟨h1,h2⟩,h3⟩:=reads_slice (sz:=6) (by kernel_rfl) (by kernel_rfl) (by decide) (fun _=>rfl) reads_option fuel cs x h
  exact⟨l,⟨h1,by unfold maxLen at h2;omega⟩,h3⟩
theorem reads_pair:Reads Try.prog enc W base sp 70 ePr (fun p=>p.tab.length<9223372036854775808):=by
  intro fuel cs x h
  obtain ⟨hl,n,hf⟩:=reads_fields ty70 rfl h
  obtain ⟨a,_,ha⟩:=rdInt (hf (0,3,1) (by simp))
  obtain ⟨b,_,hb⟩:=rdInt (hf (1,3,1) (by simp))
  obtain ⟨c,_,hc⟩:=rdInt (hf (2,3,1) (by simp))
  obtain ⟨l,_,hll,hlt⟩:=rdSlice (sz:=1) (by kernel_rfl) cellI (by decide) (fun _=>rfl) (reads_int undI) (hf (3,22,1) (by simp))
  exact⟨⟨a,b,c,l⟩,hll,.mk4 hl ha hb hc hlt⟩
theorem reads_count:Reads Try.prog enc W base sp 83 eCt (fun c=>c.loads.length<9223372036854775808):=by
  intro fuel cs x h
  obtain ⟨hl,n,hf⟩:=reads_fields ty83 rfl h
  obtain ⟨a,_,ha⟩:=rdInt (hf (0,3,1) (by simp))
  obtain ⟨l,_,hll,hlt⟩:=rdSlice (sz:=3) (by kernel_rfl) (by kernel_rfl) (by decide) (fun _=>rfl) reads_load (hf (1,81,1) (by simp))
  obtain ⟨c,_,hc⟩:=rdInt (hf (2,3,1) (by simp))
  obtain ⟨d,_,hd⟩:=rdInt (hf (3,3,1) (by simp))
  exact⟨⟨a,l,c,d⟩,hll,.mk4 hl ha hlt hc hd⟩
theorem reads_model:Reads Try.prog enc W base sp 31 eMdl MB:=by
  intro fuel cs x h
  obtain ⟨hl,n,hf⟩:=reads_fields ty31 rfl h
  obtain ⟨l,h1,h2,h3⟩:=rdSlice (sz:=1) (by kernel_rfl) (by kernel_rfl) (by decide) (fun _=>rfl) reads_class (hf (0,27,1) (by simp))
  obtain ⟨p,p1,p2,p3⟩:=rdSlice (sz:=4) (by kernel_rfl) (by kernel_rfl) (by decide) (fun _=>rfl) reads_pair (hf (1,28,1) (by simp))
  obtain ⟨c,c1,c2,c3⟩:=rdSlice (sz:=4) (by kernel_rfl) (by kernel_rfl) (by decide) (fun _=>rfl) reads_count (hf (2,29,1) (by simp))
  obtain ⟨r,_,hr⟩:=rdInt (hf (3,3,1) (by simp))
  exact⟨⟨l,p,c,r⟩,⟨h2,fun x hx=>(h1 x hx).2,fun x hx=>(h1 x hx).1,p2,p1,c2,c1⟩,.mk4 hl h3 p3 c3 hr⟩
end T
open Go Go.Am Go.Proofs Go.ChangeShapes Go.WideShapes Go.ChangeAt Go.RowKit
set_option maxRecDepth 20000
namespace T
variable {H:Type} {enc:TypeId × Value→H} {W:World} {sp:Nat→Bool} {base:Nat}
theorem reads_move:Reads Try.prog enc W base sp 102 eMv (fun _=>True):=by
  intro fuel cs x h
  obtain ⟨hl,n,hf⟩:=reads_fields ty102 rfl h
  obtain ⟨a,_,ha⟩:=rdInt (hf (0,3,1) (by simp))
  obtain ⟨b,_,hb⟩:=rdInt (hf (1,3,1) (by simp))
  obtain ⟨c,_,hc⟩:=rdInt (hf (2,3,1) (by simp))
  obtain ⟨d,_,hd⟩:=rdInt (hf (3,3,1) (by simp))
  exact⟨⟨a,b,c,d⟩,trivial,.mk4 hl ha hb hc hd⟩
end T
open Go Go.Am Go.Proofs Go.ChangeShapes Go.WideShapes Go.ChangeAt Go.RowKit
set_option maxRecDepth 20000
namespace T
variable {H:Type} {enc:TypeId × Value→H} {W:World} {sp:Nat→Bool} {base:Nat}
theorem reads_choice:Reads Try.prog enc W base sp 72 eCh (fun _=>True):=by
  intro fuel cs x h
  obtain ⟨hl,n,hf⟩:=reads_fields ty72 rfl h
  obtain ⟨a,_,ha⟩:=rdInt (hf (0,3,1) (by simp))
  obtain ⟨b,_,hb⟩:=rdInt (hf (1,3,1) (by simp))
  exact⟨(a,b),trivial,.mk2 hl ha hb⟩
theorem reads_cell:Reads Try.prog enc W base sp 73 eCell (fun l=>l.length<9223372036854775808):=by
  intro fuel cs x h
  obtain ⟨l,⟨h1,h2⟩,h3⟩:=reads_slice (sz:=2) (by kernel_rfl) (by kernel_rfl) (by decide) (fun _=>rfl) reads_choice fuel cs x h
  exact⟨l,by unfold maxLen at h2;omega,h3⟩
def NB2 (x:Nd):Prop:=x.kids.length<9223372036854775808∧x.mvs.length<9223372036854775808∧x.grp.length<9223372036854775808∧x.cells.length<9223372036854775808∧∀ l∈x.cells,l.length<9223372036854775808
theorem reads_node:Reads Try.prog enc W base sp 55 eNd NB2:=by
  intro fuel cs x h
  obtain ⟨hl,n,hf⟩:=reads_fields ty55 rfl h
  obtain ⟨a,_,ha⟩:=rdInt (hf (0,3,1) (by simp))
  obtain ⟨k,_,k1,k2⟩:=rdSlice (sz:=1) (by kernel_rfl) cellI (by decide) (fun _=>rfl) (reads_int undI) (hf (1,22,1) (by simp))
  obtain ⟨v,_,v1,v2⟩:=rdSlice (sz:=4) (by kernel_rfl) (by kernel_rfl) (by decide) (fun _=>rfl) reads_move (hf (2,52,1) (by simp))
  obtain ⟨g,_,g1,g2⟩:=rdSlice (sz:=1) (by kernel_rfl) cellI (by decide) (fun _=>rfl) (reads_int undI) (hf (3,22,1) (by simp))
  obtain ⟨c,c0,c1,c2⟩:=rdSlice (sz:=1) (by kernel_rfl) (by kernel_rfl) (by decide) (fun _=>rfl) reads_cell (hf (4,53,1) (by simp))
  refine⟨⟨a,k,v,g,c⟩,⟨k1,v1,g1,c1,c0⟩,by simp[hl,eNd],fun j y hy=>?_⟩
  match j,hy with
  | 0,hy=>simp[eNd] at hy;subst hy;exact ha
  | 1,hy=>simp[eNd] at hy;subst hy;exact k2
  | 2,hy=>simp[eNd] at hy;subst hy;exact v2
  | 3,hy=>simp[eNd] at hy;subst hy;exact g2
  | 4,hy=>simp[eNd] at hy;subst hy;exact c2
theorem reads_proof:Reads Try.prog enc W base sp 37 ePf PB:=by
  intro fuel cs x h
  obtain ⟨hl,n,hf⟩:=reads_fields ty37 rfl h
  obtain ⟨p,p0,p1,p2⟩:=rdSlice (sz:=5) (by kernel_rfl) (by kernel_rfl) (by decide) (fun _=>rfl) reads_node (hf (0,35,1) (by simp))
  refine⟨p,⟨p1,fun x hx=>(p0 x hx).1,fun x hx=>(p0 x hx).2.1,fun x hx=>(p0 x hx).2.2.1,fun x hx=>(p0 x hx).2.2.2.1,fun x hx=>(p0 x hx).2.2.2.2⟩,by simp[hl,ePf],fun j y hy=>?_⟩
  match j,hy with
  | 0,hy=>simp[ePf] at hy;subst hy;exact p2
end T

