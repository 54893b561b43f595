import Derived.Test.YtdipcmigdbnheaaGreatX11
set_option linter.unusedVariables false
set_option linter.unusedSimpArgs false
set_option linter.unnecessarySimpa false
set_option linter.unusedSectionVars false
set_option maxHeartbeats 64000000
set_option maxRecDepth 20000
open List renaming getElem?_eq_some_iff→aY,getD_eq_getElem?_getD→ay,getElem?_append_left→dH,getElem?_append_right→fA,getElem?_set→bO,length_set→bF
open Option renaming some→dw
namespace Go.Am
variable {P:Program} {N n0:Nat} {σ:St} {μ:Mem} {Q:Exit→St→Mem→Prop}
theorem ml {c y:Code} (h:∀ Q':Exit→St→Prop,(∀ s,WM P N n0 y Q s μ→Q' .normal s)→(∀ e s,sR e=false→Q e s μ→Q' e s)→W P N σ.aa.length c Q' σ):WM P N n0 (.seq c y) Q σ μ :=
  adn fun Q' h1 h2=>ado (h (fun e s=>Q' e s μ) (fun s=>h1 s μ) (fun e s=>h2 e s μ))
section
variable {ops:Array Oper} {o:Oper} {l:List Oper} {K:St→Mem→Prop}
instance:Head (FI P ops (o::l) K σ μ):=⟨trivial⟩
theorem adp {b want:Bool} (h1:b=true→yZ P o K true want σ μ) (h2:b=false→yZ P o K false want σ μ):yZ P o K b want σ μ:=by
  cases b
  · exact h2 rfl
  · exact h1 rfl
instance {b want:Bool}:FJ (yZ P o K b want σ μ) b (yZ P o K true want σ μ) (yZ P o K false want σ μ):=⟨adp⟩
variable {dst:Option Tmp} {tt:TypeId} {p:String} {af:Array Edge} {g:Option (Nat × Bool)}
end
end Go.Am
namespace Go.Am
variable {P:Program} {N n0:Nat} {σ:St} {μ:Mem} {K:St→Mem→Prop} {dst:Option Tmp} {tt:TypeId} {p:String} {af:Array Edge} {g:Option (Nat × Bool)}
theorem A1.refl:A1 n0 σ σ:=fun os γ0 γ _ hs hf=>⟨γ,rfl,rfl,hs,hf,fun _ h=>.inl h,fun _ h=>h⟩
end Go.Am
namespace Go.Am
variable {P:Program} {N n0:Nat} {σ:St}
theorem FL {f:FuncId} {args:List AV} {dst:Option Tmp} {K:St→Prop} {iC:AV→List Ob→Prop} (h:il P f args σ.aa iC)
    (hK:∀ res bh,iC res bh→σ.aa.length≤bh.length∧K ((⟨σ.env,bh⟩:St).put dst res)):pB P f args dst K σ:=by
  refine⟨List.range σ.aa.length,false,args,σ.aa,iC,h,⟨List.nodup_range,by simp,?_,rfl,?_⟩,fun res bh hp=>⟨by simp,?_⟩⟩
  · intro j o hj
    have aT:=(aY.1 hj).1
    rw[v9,BH]
    simpa [ay,List.getElem?_range aT] using hj
  · intro j c d hc hd
    rw[hc] at hd
    simp only[dw.injEq] at hd
    subst hd
    exact .eq (by rw[v9,wa])
  · obtain ⟨hl,hK⟩:=hK res bh hp
    rw[v9,wa]
    have:bh.map (bD (fun j=>j))=bh:=by
      have h:bD (fun j=>j)=id:=by funext o;exact BH o
      simp[h]
    rw[this,NM _ _ hl]
    exact hK
theorem JF {Q:Exit→St→Prop} (n:Nat) {id:Nat} {ops:Array Oper} (hd:gz N ops=true) (h:∀ K K1:St→Prop,(∀ s,Q .normal s→K s)→(∀ s s1,aQ n0 s s1→opsL P ops (ops.toList.drop n) K s1→K1 s)→opsL P ops (ops.toList.take n) K1 σ):W P N n0 (.region id ops false) Q σ:=by
  intro os γ0 a w hn aC
  refine wp_region ?_
  exact Zv (qP hd) hn (K:=Q .normal) (K1:=fun s=>∃ s1,aQ n0 s s1∧opsL P ops (ops.toList.drop n) (Q .normal) s1) (fun σ' a' w' hK e7=>⟨σ',hK,e7⟩) n (fun s h=>h) σ a w (h _ _ (fun _ h=>h) (fun s s1 h1 h2=>⟨s1,h1,h2⟩)) aC
theorem ao.acv {f:FuncId} {sz:Nat} {pre post:List AV} {aa bh:List Ob} {res:AV} (h:ao P f (pre++.tree sz []::post) aa res bh):ao P f (pre++.lit (.slice none 0 0)::post) aa res bh:=by
  refine⟨h.1,fun γ a5 hs=>h.2 γ (by simpa using a5) ⟨fun k=>?_,hs.eN,hs.inj,hs.nz,hs.iq⟩⟩
  have:=hs.aw k
  dsimp only at this ⊢
  by_cases hk:k=pre.length
  · subst hk
    have e1:(pre++AV.lit (.slice none 0 0)::post).getD pre.length .undef=.lit (.slice none 0 0):=by simp
    have e2:(pre++AV.tree sz []::post).getD pre.length .undef=.tree sz []:=by simp
    rw[e1] at this
    rw[e2,this.cH]
    exact .cI _ _ (.nil _ _ _)
  · have e:(pre++AV.tree sz []::post).getD k .undef=(pre++AV.lit (.slice none 0 0)::post).getD k .undef:=by
      simp only[ay]
      congr 1
      rcases Nat.lt_or_ge k pre.length with h1 | h1
      · rw[dH h1,dH h1]
      · rw[fA h1,fA h1,show k - pre.length=(k - pre.length - 1)+1 by omega];rfl
    rw[e];exact this
end Go.Am
namespace Go.Am
variable {P:Program} {N n0:Nat} {σ:St} {Q:Exit→St→Prop}
theorem aQ.I2 (a id r0 c sz FM:Nat) {R:List (List AV)} {cells:List AV} {rows:List (List AV)} (ho:σ.aa[id]?=some (.arr FM R)) (a6:R[r0]?=some cells) (ha:σ.aa[a]?=some (.arr sz rows)) (hc:cells[c]?=some (.ref a sz 0 rows.length)) (Cg:a≠id)
    (hw:∀ row∈rows,row.length=sz) (tw:∀ row∈rows,∀ v∈row,(∃ x,v=.lit x)∨∃ s r,v=.tree s r):aQ n0 σ ⟨σ.env,(σ.aa.set a .gone).set id (.arr FM (R.set r0 (cells.set c (.tree sz rows))))⟩:=by
  intro os γ0 γ _ hs hf
  have Ch:id<σ.aa.length:=(aY.1 ho).1
  have sm:a<σ.aa.length:=(aY.1 ha).1
  let aI:Cx:={ γ with Z:=fun b=>γ.Z b∨∃ o cap,γ.blk a=some (b,o,cap) }
  let fO:=(σ.aa.set a .gone).set id (.arr FM (R.set r0 (cells.set c (.tree sz rows))))
  have gX:∀ i,fO[i]?=if i=id then some (.arr FM (R.set r0 (cells.set c (.tree sz rows)))) else if i=a then some .gone else σ.aa[i]?:=by
    intro i
    show ((σ.aa.set a .gone).set id _)[i]?=_
    rw[bO,bO]
    by_cases h1:i=id
    · subst h1;simp[Ch]
    · by_cases h2:i=a
      · subst h2;simp[Ne.symm h1,h1,sm]
      · simp[Ne.symm h1,Ne.symm h2,h1,h2]
  have hR:∀ v cv,aB σ.aa γ.w γ.Z γ.blk v cv→aB fO aI.w aI.Z aI.blk v cv:=fun v cv hv =>
    hv.mono (fun b hb=>⟨.inl hb,rfl⟩) (fun i o hi=>by
      rw[gX]
      by_cases h1:i=id
      · subst h1
        rw[ho] at hi
        simp only[dw.injEq] at hi
        subst hi
        right
        exact⟨rfl,_,by rw[if_pos rfl],by simp[Ob.dU]⟩
      · rw[if_neg h1]
        by_cases h2:i=a
        · left;rw[if_pos h2]
        · rw[if_neg h2]
          by_cases hg:o=.gone
          · subst hg;exact .inl hi
          · exact .inr ⟨rfl,o,hi,Ob.jY hg⟩)
  have cM:∀ i,Live fO i→Live σ.aa i∧i≠a:=by
    rintro i ⟨o,hi,hg⟩
    rw[gX] at hi
    split at hi
    · rename_i h1;subst h1;exact⟨⟨_,ho,by simp⟩,Ne.symm Cg⟩
    · split at hi
      · simp at hi;exact absurd hi.symm hg
      · rename_i h2;exact⟨⟨o,hi,hg⟩,h2⟩
  have sG:Live σ.aa a:=⟨_,ha,by simp⟩
  refine⟨aI,rfl,rfl,⟨fun k=>hR _ _ (hs.aw k),?_,fun i j b o c o' c' hi hj=>hs.inj i j b o c o' c' (cM i hi).1 (cM j hj).1,?_,?_⟩,?_⟩
  · intro i o hi
    have ax:fO[i]?=some o:=hi
    rw[gX] at ax
    split at ax
    · rename_i h1
      subst h1
      simp only[dw.injEq] at ax
      subst ax
      obtain ⟨h0,hr,cj⟩:=hs.eN _ _ ho
      have yv:r0<R.length:=(aY.1 a6).1
      refine⟨h0,fun row y6=>?_,?_⟩
      · rcases List.mem_or_eq_of_mem_set y6 with h | h
        · exact hr row h
        · subst h;rw[bF];exact hr cells (List.mem_of_getElem? a6)
      · rcases cj with ⟨h1,h2⟩ | ⟨b,o,cap,cur,t,h1,h2,h3,h4,h5,h6⟩
        · exact absurd (show r0<0 by rw[h2] at yv;exact yv) (Nat.not_lt_zero _)
        · refine .inr ⟨b,o,cap,cur,t,h1,h2,h3,by rw[bF];exact h4,h5,fun r k v hv=>?_⟩
          unfold cellAt at hv
          rw[bO] at hv
          by_cases e:r0=r
          · subst e
            rw[if_pos rfl,if_pos yv,Option.bind_some,bO] at hv
            split at hv
            · rename_i e
              subst e
              split at hv
              · simp only[dw.injEq] at hv
                subst hv
                have eE:cw σ (fun x=>x≠a) (.tree sz rows) (.ref a sz 0 rows.length):=cw.flat ha hw rfl (by simp) tw
                exact .cI _ _ (eE.Ex hs (γc:=aI) (fun b hb=>.inl hb) rfl (fun x b o cap cT _ hb=>.inr ⟨o,cap,by rw[show a=x by simpa using (Decidable.not_not.1 cT).symm];exact hb⟩) _ (h6 r0 c _ (by unfold cellAt;rw[a6];exact hc)))
              · simp at hv
            · exact hR _ _ (h6 r0 k v (by unfold cellAt;rw[a6];exact hv))
          · rw[if_neg e] at hv
            exact hR _ _ (h6 r k v hv)
    · split at ax
      · simp only[dw.injEq] at ax;subst ax;trivial
      · by_cases hg:o=.gone
        · subst hg;trivial
        · exact (hs.eN i o ax).mono hR rfl (fun _ _ _ _=>rfl)
  · rintro b ⟨i,o,c',hi,hb⟩ (hz | ⟨o',cap,da⟩)
    · exact hs.nz b ⟨i,o,c',(cM i hi).1,hb⟩ hz
    · exact (cM i hi).2 (hs.inj i a b o c' o' cap (cM i hi).1 sG hb da)
  · rintro b (hz | ⟨o,cap,hb⟩)
    · exact hs.iq b hz
    · exact hs.blt sG hb
  · refine⟨hf.m5,hf.tape,hf.output,hf.size,hf.fV,fun b hb=>.inl (hf.z0 b hb),?_,?_,by show os.length≤fO.length;simp[fO];exact hf.len,?_⟩
    · rintro b (hz | ⟨o,cap,hb⟩)
      · exact hf.z1 b hz
      · exact .inr (hf.own b ⟨a,o,cap,sG,hb⟩)
    · rintro b ⟨i,o,c',hi,hb⟩
      exact hf.own b ⟨i,o,c',(cM i hi).1,hb⟩
    · intro i hi hl
      obtain ⟨h1,x,x',hx,cP,hk⟩:=hf.kz i hi (cM i hl).1
      have B2:=(cM i hl).2
      have kY:Live fO i:=hl
      obtain ⟨o,fh,tF⟩:=kY
      refine⟨h1,x,o,hx,fh,?_⟩
      rw[gX] at fh
      split at fh
      · rename_i e
        subst e
        rw[ho] at cP
        simp only[dw.injEq] at cP fh
        subst cP;subst fh
        refine Ob.Ik hk (by simp[Ob.dU])
      · rw[cP] at fh
        simp only[dw.injEq] at fh
        subst fh;exact hk
end Go.Am
namespace Go.Am
variable {P:Program} {N n0:Nat} {σ:St} {Q:Exit→St→Prop}
def SD (v v':AV):Prop:=v'=v∨(v=.lit (.slice none 0 0)∧∃ s,v'=.tree s [])
def FN:List AV→List AV→Prop
  | [],[]=>True
  | c::cs,d::ds=>SD c d∧FN cs ds
  | _,_=>False
theorem FN.get:∀ {cs ds:List AV},FN cs ds→cs.length=ds.length∧∀ (j:Nat) d,ds[j]?=some d→∃ c,cs[j]?=some c∧SD c d
  | [],[],_=>⟨rfl,by simp⟩
  | c::cs,d::ds,h=>by
    obtain ⟨a,b⟩:=FN.get h.2
    refine⟨by simp[a],fun j d' hd=>?_⟩
    cases j with
    | zero=>simp at hd;subst hd;exact⟨c,rfl,h.1⟩
    | succ j=>exact b j d' (by simpa using hd)
  | [],_::_,h=>h.elim
  | _::_,[],h=>h.elim
end Go.Am

