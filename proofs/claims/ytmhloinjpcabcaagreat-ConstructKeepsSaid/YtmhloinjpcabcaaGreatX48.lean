import Derived.Test.YtmhloinjpcabcaaGreatX18
import Derived.Test.YtmhloinjpcabcaaGreatX14
import Derived.Test.YtmhloinjpcabcaaGreatX09
set_option linter.unusedVariables false
set_option linter.unusedSimpArgs false
set_option linter.unnecessarySimpa false
set_option linter.unusedSectionVars false
set_option maxHeartbeats 64000000
set_option maxRecDepth 20000
namespace Go.Am
variable {P:Program} {N n0:Nat} {σ:St}
theorem Turns.frzS (d id sz:Nat) {rows:List (List AV)} (ho:σ.objs[id]?=some (.arr sz rows)) (hd:σ.env d=.ref id sz 0 rows.length)
    (hw:∀ row∈rows,row.length=sz) (hfz:∀ row∈rows,∀ v∈row,(∃ x,v=.lit x)∨∃ s r,v=.tree s r):Turns n0 σ ⟨upd σ.env d (.tree sz rows),σ.objs.set id .gone⟩:=by
  intro os γ0 γ _ hs hf
  have hidl:id<σ.objs.length:=(List.getElem?_eq_some_iff.1 ho).1
  let γ':Cx:={ γ with Z:=fun b=>γ.Z b∨∃ o cap,γ.blk id=some (b,o,cap) }
  let os2:=σ.objs.set id .gone
  have hget:∀ i,os2[i]?=if i=id then some .gone else σ.objs[i]?:=by
    intro i
    show (σ.objs.set id _)[i]?=_
    rw[List.getElem?_set]
    by_cases h1:i=id
    · subst h1;simp[hidl]
    · simp[Ne.symm h1,h1]
  have hR:∀ v cv,RelV σ.objs γ.w γ.Z γ.blk v cv→RelV os2 γ'.w γ'.Z γ'.blk v cv:=fun v cv hv =>
    hv.mono (fun b hb=>⟨.inl hb,rfl⟩) (fun i o hi=>by
      rw[hget]
      by_cases h1:i=id
      · left;rw[if_pos h1]
      · rw[if_neg h1]
        by_cases hg:o=.gone
        · subst hg;exact .inl hi
        · exact .inr ⟨rfl,o,hi,Ob.like_refl hg⟩)
  have hlive:∀ i,Live os2 i→Live σ.objs i∧i≠id:=by
    rintro i ⟨o,hi,hg⟩
    rw[hget] at hi
    split at hi
    · simp at hi;exact absurd hi.symm hg
    · rename_i h2;exact⟨⟨o,hi,hg⟩,h2⟩
  have hav:Live σ.objs id:=⟨_,ho,by simp⟩
  have hsd:=hs.slots d
  rw[hd] at hsd
  have hslot:RelV os2 γ'.w γ'.Z γ'.blk (.tree sz rows) (γ.tmps.getD d Go.undef):=by
    have hfr:Frz σ (fun x=>x≠id) (.tree sz rows) (.ref id sz 0 rows.length):=Frz.flat ho hw rfl (by simp) hfz
    exact .frz _ _ (hfr.treeR hs (γc:=γ') (fun b hb=>.inl hb) rfl (fun x b o cap hid _ hb=>.inr ⟨o,cap,by rw[show id=x by simpa using (Decidable.not_not.1 hid).symm];exact hb⟩) _ hsd)
  refine⟨γ',rfl,rfl,⟨fun k=>?_,?_,fun i j b o c o' c' hi hj=>hs.inj i j b o c o' c' (hlive i hi).1 (hlive j hj).1,?_,?_⟩,?_⟩
  · show RelV os2 γ'.w γ'.Z γ'.blk (upd σ.env d (.tree sz rows) k) (γ.tmps.getD k Go.undef)
    simp only[upd]
    split
    · rename_i e;subst e;exact hslot
    · exact hR _ _ (hs.slots k)
  · intro i o hi
    have hi':os2[i]?=some o:=hi
    rw[hget] at hi'
    split at hi'
    · simp only[Option.some.injEq] at hi';subst hi';trivial
    · by_cases hg:o=.gone
      · subst hg;trivial
      · exact (hs.obs i o hi').mono hR rfl (fun _ _ _ _=>rfl)
  · rintro b ⟨i,o,c',hi,hb⟩ (hz | ⟨o',cap,hb'⟩)
    · exact hs.nz b ⟨i,o,c',(hlive i hi).1,hb⟩ hz
    · exact (hlive i hi).2 (hs.inj i id b o c' o' cap (hlive i hi).1 hav hb hb')
  · rintro b (hz | ⟨o,cap,hb⟩)
    · exact hs.zlt b hz
    · exact hs.blt hav hb
  · refine⟨hf.eos,hf.tape,hf.output,hf.size,hf.keep,fun b hb=>.inl (hf.z0 b hb),?_,?_,by show os.length≤os2.length;simp[os2];exact hf.len,?_⟩
    · rintro b (hz | ⟨o,cap,hb⟩)
      · exact hf.z1 b hz
      · exact .inr (hf.own b ⟨id,o,cap,hav,hb⟩)
    · rintro b ⟨i,o,c',hi,hb⟩
      exact hf.own b ⟨i,o,c',(hlive i hi).1,hb⟩
    · intro i hi hl
      obtain ⟨h1,x,x',hx,hx',hk⟩:=hf.old i hi (hlive i hl).1
      have hl':Live os2 i:=hl
      obtain ⟨o,ho2,hg2⟩:=hl'
      refine⟨h1,x,o,hx,ho2,?_⟩
      rw[hget] at ho2
      split at ho2
      · simp at ho2;exact absurd ho2.symm hg2
      · rw[hx'] at ho2
        simp only[Option.some.injEq] at ho2
        subst ho2;exact hk
theorem HoldsR.mono {P:Program} {f:FuncId} {args:List AV} {objs:List Ob} {Post Post':AV→List Ob→Prop} (h:HoldsR P f args objs Post) (hp:∀ r os,Post r os→Post' r os):HoldsR P f args objs Post':=by
  refine⟨h.1,fun γ hs1 hs2=>Calls.mono (h.2 γ hs1 hs2) ?_⟩
  rintro e w' ⟨res,objs',cv,γ',h0,h1⟩
  exact⟨res,objs',cv,γ',hp _ _ h0,h1⟩
end Go.Am

