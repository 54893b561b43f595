import Derived.Test.YtafhoboejkcmiaaX09
set_option linter.unusedVariables false
set_option linter.unusedSimpArgs false
set_option linter.unnecessarySimpa false
set_option linter.unusedSectionVars false
set_option maxHeartbeats 64000000
set_option maxRecDepth 20000
namespace Go.Am
variable {P:Program} {N n0:Nat} {σ:St}
section
variable {dst:Option Tmp} {tt:TypeId} {p:String} {af:Array Edge} {g:Option (Nat × Bool)} {K:St→Prop} {hh:Nat}
end
theorem W_region_ce {P:Program} {N n0:Nat} {σ:St} {Q:Exit→St→Prop} (n:Nat) {id:Nat} {ops:Array Oper} (hd:dstOK N ops=true) (o:Oper) (ho:ops[n]?=some o)
    (h:∀ K:St→Prop,(∀ s,Q .normal s→K s)→opsL P ops (ops.toList.take n) (callO P o (opsL P ops (ops.toList.drop (n+1)) K)) σ):W P N n0 (.region id ops false) Q σ:=by
  intro os γ0 a w hn hok
  refine wp_region ?_
  have hn':n<ops.size:=(Array.getElem?_eq_some_iff.1 ho).1
  have e:List.range ops.size=List.range' 0 (ops.toList.take n).length++(n::List.range' (n+1) (ops.toList.drop (n+1)).length):=by
    rw[List.range_eq_range',← List.range'_succ]
    have:=List.range'_append (s:=0) (m:=n) (n:=(ops.toList.drop (n+1)).length+1) (step:=1)
    simp only[Nat.zero_add,Nat.one_mul] at this
    rw[show (ops.toList.take n).length=n by simp;omega,this]
    congr 1
    simp;omega
  rw[e]
  refine wpOps_app _ a w ?_
  refine opsL_soundP (dstOK_spec hd) (K:=callO P o (opsL P ops (ops.toList.drop (n+1)) (Q .normal))) (fun σ' a' w' hk hok'=>?_) (ops.toList.take n) 0 σ a w (fun k hk=>?_) (h _ (fun _ h=>h)) hok
  · show wpOps P ops _ _ a' w'
    rw[wpOps_cons]
    unfold wpOp
    simp only[ho]
    have hw:Region.wanted o (yielded ops a'.tmps)=true:=by simp[Region.wanted,hk.1]
    rw[if_pos hw]
    left
    refine callO_sound hk hok' (dstOK_spec hd o (List.mem_of_getElem? (by simpa using ho))) (fun σ2 a2 w2 hk2 hok2=>?_)
    refine opsL_soundP (dstOK_spec hd) (K:=Q .normal) (fun σ3 a3 w3 hk3 hok3=>⟨σ3,hk3,hok3⟩) (ops.toList.drop (n+1)) (n+1) σ2 a2 w2 (fun k hk=>?_) hk2 hok2
    rw[List.getElem?_drop]
    simp
  · simp only[List.length_take,Array.length_toList] at hk
    rw[List.getElem?_take_of_lt (by omega)]
    simp
end Go.Am

