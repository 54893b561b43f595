import Derived.Test.YtmhloinjpcabcaaGreatX14
set_option linter.unusedVariables false
set_option linter.unusedSimpArgs false
set_option linter.unnecessarySimpa false
set_option linter.unusedSectionVars false
set_option maxHeartbeats 64000000
set_option maxRecDepth 20000
namespace Go.Am
variable {P:Program} {N n0:Nat} {σ:St} {μ:Mem} {Q:Exit→St→Mem→Prop}
section
variable {ops:Array Oper} {o:Oper} {l:List Oper} {K:St→Mem→Prop}
instance:Head (opsM P ops (o::l) K σ μ):=⟨trivial⟩
theorem guardMM_split {b want:Bool} (h1:b=true→guardMM P o K true want σ μ) (h2:b=false→guardMM P o K false want σ μ):guardMM P o K b want σ μ:=by
  cases b
  · exact h2 rfl
  · exact h1 rfl
instance {b want:Bool}:Grd (guardMM P o K b want σ μ) b (guardMM P o K true want σ μ) (guardMM P o K false want σ μ):=⟨guardMM_split⟩
variable {dst:Option Tmp} {tt:TypeId} {p:String} {af:Array Edge} {g:Option (Nat × Bool)}
end
end Go.Am
namespace Go.Am
variable {P:Program} {N n0:Nat} {σ:St} {μ:Mem} {K:St→Mem→Prop} {dst:Option Tmp} {tt:TypeId} {p:String} {af:Array Edge} {g:Option (Nat × Bool)}
theorem TurnsM.refl:TurnsM n0 σ σ:=fun os γ0 γ _ hs hf=>⟨γ,rfl,rfl,hs,hf,fun _ h=>.inl h,fun _ h=>h⟩
end Go.Am
namespace Go.Am
variable {P:Program} {N n0:Nat} {σ:St}
theorem W_region_te {Q:Exit→St→Prop} (n:Nat) {id:Nat} {ops:Array Oper} (hd:dstOK N ops=true) (h:∀ K K1:St→Prop,(∀ s,Q .normal s→K s)→(∀ s s1,Turns n0 s s1→opsL P ops (ops.toList.drop n) K s1→K1 s)→opsL P ops (ops.toList.take n) K1 σ):W P N n0 (.region id ops false) Q σ:=by
  intro os γ0 a w hn hok
  refine wp_region ?_
  exact opsL_soundT (dstOK_spec hd) hn (K:=Q .normal) (K1:=fun s=>∃ s1,Turns n0 s s1∧opsL P ops (ops.toList.drop n) (Q .normal) s1) (fun σ' a' w' hK hok'=>⟨σ',hK,hok'⟩) n (fun s h=>h) σ a w (h _ _ (fun _ h=>h) (fun s s1 h1 h2=>⟨s1,h1,h2⟩)) hok
end Go.Am
namespace Go.Am
variable {P:Program} {N n0:Nat} {σ:St} {Q:Exit→St→Prop}
end Go.Am

