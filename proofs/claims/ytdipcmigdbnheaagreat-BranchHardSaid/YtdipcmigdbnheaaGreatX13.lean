import Derived.Test.YtdipcmigdbnheaaGreatX12
set_option linter.unusedVariables false
set_option linter.unusedSimpArgs false
set_option linter.unnecessarySimpa false
set_option linter.unusedSectionVars false
set_option maxHeartbeats 64000000
set_option maxRecDepth 20000
open List renaming getElem?_eq_some_iff→aS,getD_eq_getElem?_getD→ay,getElem?_append_left→cj,getElem?_append_right→eE,getElem?_set→bS,length_set→bm
open Option renaming some→da
namespace Go.Am
variable {P:Program} {N n0:Nat} {σ:St} {μ:Mem} {Q:Exit→St→Mem→Prop}
theorem ml {c y:Code} (h:∀ Q':Exit→St→Prop,(∀ s,WM P N n0 y Q s μ→Q' .normal s)→(∀ e s,rX e=false→Q e s μ→Q' e s)→W P N σ.aa.length c Q' σ):WM P N n0 (.seq c y) Q σ μ :=
  abf fun Q' h1 h2=>abg (h (fun e s=>Q' e s μ) (fun s=>h1 s μ) (fun e s=>h2 e s μ))
section
variable {ops:Array Oper} {o:Oper} {l:List Oper} {K:St→Mem→Prop}
instance:Head (ET P ops (o::l) K σ μ):=⟨trivial⟩
theorem abh {b want:Bool} (h1:b=true→xM P o K true want σ μ) (h2:b=false→xM P o K false want σ μ):xM P o K b want σ μ:=by
  cases b
  · exact h2 rfl
  · exact h1 rfl
instance {b want:Bool}:EU (xM P o K b want σ μ) b (xM P o K true want σ μ) (xM P o K false want σ μ):=⟨abh⟩
variable {dst:Option Tmp} {tt:TypeId} {p:String} {af:Array Edge} {g:Option (Nat × Bool)}
end
end Go.Am
namespace Go.Am
variable {P:Program} {N n0:Nat} {σ:St} {μ:Mem} {K:St→Mem→Prop} {dst:Option Tmp} {tt:TypeId} {p:String} {af:Array Edge} {g:Option (Nat × Bool)}
theorem zU.refl:zU n0 σ σ:=fun os γ0 γ _ hs hf=>⟨γ,rfl,rfl,hs,hf,fun _ h=>.inl h,fun _ h=>h⟩
end Go.Am
namespace Go.Am
variable {P:Program} {N n0:Nat} {σ:St}
theorem xN {f:FuncId} {args:List AV} {dst:Option Tmp} {K:St→Prop} {ij:AV→List Ob→Prop} (h:fF P f args σ.aa ij)
    (hK:∀ res ba,ij res ba→σ.aa.length≤ba.length∧K ((⟨σ.env,ba⟩:St).put dst res)):nm P f args dst K σ:=by
  refine⟨List.range σ.aa.length,false,args,σ.aa,ij,h,⟨List.nodup_range,by simp,?_,rfl,?_⟩,fun res ba hp=>⟨by simp,?_⟩⟩
  · intro j o hj
    have bj:=(aS.1 hj).1
    rw[vq,AG]
    simpa [ay,List.getElem?_range bj] using hj
  · intro j c d hc hd
    rw[hc] at hd
    simp only[da.injEq] at hd
    subst hd
    exact .eq (by rw[vq,vr])
  · obtain ⟨hl,hK⟩:=hK res ba hp
    rw[vq,vr]
    have:ba.map (bC (fun j=>j))=ba:=by
      have h:bC (fun j=>j)=id:=by funext o;exact AG o
      simp[h]
    rw[this,Mt _ _ hl]
    exact hK
theorem HR {Q:Exit→St→Prop} (n:Nat) {id:Nat} {ops:Array Oper} (hd:gm N ops=true) (h:∀ K K1:St→Prop,(∀ s,Q .normal s→K s)→(∀ s s1,aA n0 s s1→opsL P ops (ops.toList.drop n) K s1→K1 s)→opsL P ops (ops.toList.take n) K1 σ):W P N n0 (.region id ops false) Q σ:=by
  intro os γ0 a w hn aQ
  refine wp_region ?_
  exact XT (qm hd) hn (K:=Q .normal) (K1:=fun s=>∃ s1,aA n0 s s1∧opsL P ops (ops.toList.drop n) (Q .normal) s1) (fun σ' a' w' hK eU=>⟨σ',hK,eU⟩) n (fun s h=>h) σ a w (h _ _ (fun _ h=>h) (fun s s1 h1 h2=>⟨s1,h1,h2⟩)) aQ
theorem ao.NT {f:FuncId} {sz:Nat} {pre post:List AV} {aa ba:List Ob} {res:AV} (h:ao P f (pre++.tree sz []::post) aa res ba):ao P f (pre++.lit (.slice none 0 0)::post) aa res ba:=by
  refine⟨h.1,fun γ aW hs=>h.2 γ (by simpa using aW) ⟨fun k=>?_,hs.er,hs.inj,hs.nz,hs.gB⟩⟩
  have:=hs.av k
  dsimp only at this ⊢
  by_cases hk:k=pre.length
  · subst hk
    have e1:(pre++AV.lit (.slice none 0 0)::post).getD pre.length .undef=.lit (.slice none 0 0):=by simp
    have e2:(pre++AV.tree sz []::post).getD pre.length .undef=.tree sz []:=by simp
    rw[e1] at this
    rw[e2,this.cH]
    exact .cd _ _ (.nil _ _ _)
  · have e:(pre++AV.tree sz []::post).getD k .undef=(pre++AV.lit (.slice none 0 0)::post).getD k .undef:=by
      simp only[ay]
      congr 1
      rcases Nat.lt_or_ge k pre.length with h1 | h1
      · rw[cj h1,cj h1]
      · rw[eE h1,eE h1,show k - pre.length=(k - pre.length - 1)+1 by omega];rfl
    rw[e];exact this
end Go.Am
namespace Go.Am
variable {P:Program} {N n0:Nat} {σ:St} {Q:Exit→St→Prop}
theorem aA.H5 (a id r0 c sz EV:Nat) {R:List (List AV)} {cells:List AV} {rows:List (List AV)} (ho:σ.aa[id]?=some (.arr EV R)) (a6:R[r0]?=some cells) (ha:σ.aa[a]?=some (.arr sz rows)) (hc:cells[c]?=some (.ref a sz 0 rows.length)) (Bi:a≠id)
    (hw:∀ row∈rows,row.length=sz) (lS:∀ row∈rows,∀ v∈row,(∃ x,v=.lit x)∨∃ s r,v=.tree s r):aA n0 σ ⟨σ.env,(σ.aa.set a .gone).set id (.arr EV (R.set r0 (cells.set c (.tree sz rows))))⟩:=by
  intro os γ0 γ _ hs hf
  have xr:id<σ.aa.length:=(aS.1 ho).1
  have ik:a<σ.aa.length:=(aS.1 ha).1
  let aB:Cx:={ γ with Z:=fun b=>γ.Z b∨∃ o cap,γ.blk a=some (b,o,cap) }
  let dT:=(σ.aa.set a .gone).set id (.arr EV (R.set r0 (cells.set c (.tree sz rows))))
  have eN:∀ i,dT[i]?=if i=id then some (.arr EV (R.set r0 (cells.set c (.tree sz rows)))) else if i=a then some .gone else σ.aa[i]?:=by
    intro i
    show ((σ.aa.set a .gone).set id _)[i]?=_
    rw[bS,bS]
    by_cases h1:i=id
    · subst h1;simp[xr]
    · by_cases h2:i=a
      · subst h2;simp[Ne.symm h1,h1,ik]
      · simp[Ne.symm h1,Ne.symm h2,h1,h2]
  have hR:∀ v cv,aw σ.aa γ.w γ.Z γ.blk v cv→aw dT aB.w aB.Z aB.blk v cv:=fun v cv hv =>
    hv.mono (fun b hb=>⟨.inl hb,rfl⟩) (fun i o hi=>by
      rw[eN]
      by_cases h1:i=id
      · subst h1
        rw[ho] at hi
        simp only[da.injEq] at hi
        subst hi
        right
        exact⟨rfl,_,by rw[if_pos rfl],by simp[Ob.dX]⟩
      · rw[if_neg h1]
        by_cases h2:i=a
        · left;rw[if_pos h2]
        · rw[if_neg h2]
          by_cases hg:o=.gone
          · subst hg;exact .inl hi
          · exact .inr ⟨rfl,o,hi,Ob.jB hg⟩)
  have cq:∀ i,Live dT i→Live σ.aa i∧i≠a:=by
    rintro i ⟨o,hi,hg⟩
    rw[eN] at hi
    split at hi
    · rename_i h1;subst h1;exact⟨⟨_,ho,by simp⟩,Ne.symm Bi⟩
    · split at hi
      · simp at hi;exact absurd hi.symm hg
      · rename_i h2;exact⟨⟨o,hi,hg⟩,h2⟩
  have n6:Live σ.aa a:=⟨_,ha,by simp⟩
  refine⟨aB,rfl,rfl,⟨fun k=>hR _ _ (hs.av k),?_,fun i j b o c o' c' hi hj=>hs.inj i j b o c o' c' (cq i hi).1 (cq j hj).1,?_,?_⟩,?_⟩
  · intro i o hi
    have hi':dT[i]?=some o:=hi
    rw[eN] at hi'
    split at hi'
    · rename_i h1
      subst h1
      simp only[da.injEq] at hi'
      subst hi'
      obtain ⟨h0,hr,aZ⟩:=hs.er _ _ ho
      have xj:r0<R.length:=(aS.1 a6).1
      refine⟨h0,fun row uv=>?_,?_⟩
      · rcases List.mem_or_eq_of_mem_set uv with h | h
        · exact hr row h
        · subst h;rw[bm];exact hr cells (List.mem_of_getElem? a6)
      · rcases aZ with ⟨h1,h2⟩ | ⟨b,o,cap,cur,t,h1,h2,h3,h4,h5,h6⟩
        · exact absurd (show r0<0 by rw[h2] at xj;exact xj) (Nat.not_lt_zero _)
        · refine .inr ⟨b,o,cap,cur,t,h1,h2,h3,by rw[bm];exact h4,h5,fun r k v hv=>?_⟩
          unfold cellAt at hv
          rw[bS] at hv
          by_cases e:r0=r
          · subst e
            rw[if_pos rfl,if_pos xj,Option.bind_some,bS] at hv
            split at hv
            · rename_i e
              subst e
              split at hv
              · simp only[da.injEq] at hv
                subst hv
                have dE:bV σ (fun x=>x≠a) (.tree sz rows) (.ref a sz 0 rows.length):=bV.flat ha hw rfl (by simp) lS
                exact .cd _ _ (dE.AQ hs (γc:=aB) (fun b hb=>.inl hb) rfl (fun x b o cap cN _ hb=>.inr ⟨o,cap,by rw[show a=x by simpa using (Decidable.not_not.1 cN).symm];exact hb⟩) _ (h6 r0 c _ (by unfold cellAt;rw[a6];exact hc)))
              · simp at hv
            · exact hR _ _ (h6 r0 k v (by unfold cellAt;rw[a6];exact hv))
          · rw[if_neg e] at hv
            exact hR _ _ (h6 r k v hv)
    · split at hi'
      · simp only[da.injEq] at hi';subst hi';trivial
      · by_cases hg:o=.gone
        · subst hg;trivial
        · exact (hs.er i o hi').mono hR rfl (fun _ _ _ _=>rfl)
  · rintro b ⟨i,o,c',hi,hb⟩ (hz | ⟨o',cap,cU⟩)
    · exact hs.nz b ⟨i,o,c',(cq i hi).1,hb⟩ hz
    · exact (cq i hi).2 (hs.inj i a b o c' o' cap (cq i hi).1 n6 hb cU)
  · rintro b (hz | ⟨o,cap,hb⟩)
    · exact hs.gB b hz
    · exact hs.blt n6 hb
  · refine⟨hf.lT,hf.tape,hf.output,hf.size,hf.fC,fun b hb=>.inl (hf.z0 b hb),?_,?_,by show os.length≤dT.length;simp[dT];exact hf.len,?_⟩
    · rintro b (hz | ⟨o,cap,hb⟩)
      · exact hf.z1 b hz
      · exact .inr (hf.own b ⟨a,o,cap,n6,hb⟩)
    · rintro b ⟨i,o,c',hi,hb⟩
      exact hf.own b ⟨i,o,c',(cq i hi).1,hb⟩
    · intro i hi hl
      obtain ⟨h1,x,x',hx,cX,hk⟩:=hf.kG i hi (cq i hl).1
      have A2:=(cq i hl).2
      have il:Live dT i:=hl
      obtain ⟨o,dO,ql⟩:=il
      refine⟨h1,x,o,hx,dO,?_⟩
      rw[eN] at dO
      split at dO
      · rename_i e
        subst e
        rw[ho] at cX
        simp only[da.injEq] at cX dO
        subst cX;subst dO
        refine Ob.HG hk (by simp[Ob.dX])
      · rw[cX] at dO
        simp only[da.injEq] at dO
        subst dO;exact hk
end Go.Am
namespace Go.Am
variable {P:Program} {N n0:Nat} {σ:St} {Q:Exit→St→Prop}
def Pp (v v':AV):Prop:=v'=v∨(v=.lit (.slice none 0 0)∧∃ s,v'=.tree s [])
def EW:List AV→List AV→Prop
  | [],[]=>True
  | c::cs,d::ds=>Pp c d∧EW cs ds
  | _,_=>False
theorem EW.get:∀ {cs ds:List AV},EW cs ds→cs.length=ds.length∧∀ (j:Nat) d,ds[j]?=some d→∃ c,cs[j]?=some c∧Pp c d
  | [],[],_=>⟨rfl,by simp⟩
  | c::cs,d::ds,h=>by
    obtain ⟨a,b⟩:=EW.get h.2
    refine⟨by simp[a],fun j d' hd=>?_⟩
    cases j with
    | zero=>simp at hd;subst hd;exact⟨c,rfl,h.1⟩
    | succ j=>exact b j d' (by simpa using hd)
  | [],_::_,h=>h.elim
  | _::_,[],h=>h.elim
end Go.Am

