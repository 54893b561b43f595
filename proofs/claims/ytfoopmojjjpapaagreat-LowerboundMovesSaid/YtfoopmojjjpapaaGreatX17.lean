import Derived.Test.YtfoopmojjjpapaaGreatX16
set_option linter.all false
set_option maxHeartbeats 0
set_option maxRecDepth 20000
open List renaming getElem?_eq_some_iff→aR,getD_eq_getElem?_getD→aB,getElem?_append_left→eB,getElem?_append_right→gX,getElem?_set→bY,length_set→bK
open Option renaming some→cm
namespace Go.Am
variable {P:Program} {N n0:Nat} {σ:St}
def qy{f:FuncId}{args:List AV}{dst:Option Tmp}{K:St->Prop}{hJ:AV->List Ob->Prop}(h:cQ P f args σ.aa hJ)(hK:∀ res a8,hJ res a8->σ.aa.length<=a8.length/\K ((⟨σ.env,a8⟩:St).put dst res)):jz P f args dst K σ:=by
 refine⟨List.range σ.aa.length,false,args,σ.aa,hJ,h,⟨List.nodup_range,Iy,?_,rfl,?_⟩,λres a8 hp=>⟨Iy,?_⟩⟩
 ·intro j o hj;have a6:=(aR.1 hj).1;rw[xN,Cz];simpa [aB,List.getElem?_range a6] using hj
 ·intro j c d hc hd;rw[hc]at hd;simp only[cm.injEq]at hd;subst hd;exact .eq (by rw[xN,xO])
 ·obtain⟨hl,hK⟩:=hK res a8 hp;rw[xN,xO];have:a8.map (bH (λj=>j))=a8:=by
   have h:bH (λj=>j)=id:=by funext o;exact Cz o
   simp[h]
  rw[this,Pn _ _ hl];exact hK
def Kl{Q:Exit->St->Prop}(n:Nat){id:Nat}{ops:Array Oper}(hd:eU N ops=true)(h:∀ K K1:St->Prop,(∀ s,Q .normal s->K s)->(∀ s s1,aF n0 s s1->opsL P ops (ops.toList.drop n) K s1->K1 s)->opsL P ops (ops.toList.take n) K1 σ):W P N n0 (.region id ops false) Q σ:=by
 intro os γ0 a w hn ay;refine wp_region ?_;exact acg (nx hd) hn (K:=Q .normal) (K1:=λs=>∃ s1,aF n0 s s1/\opsL P ops (ops.toList.drop n) (Q .normal) s1) (λσ' a' w' hK cP=>⟨σ',hK,cP⟩) n (λs h=>h) σ a w (h _ _ (λ_ h=>h) (λs s1 h1 h2=>⟨s1,h1,h2⟩)) ay
def Holds.Dj{f:FuncId}{sz:Nat}{pre post:List AV}{aa a8:List Ob}{res:AV}(h:Holds P f (pre++.tree sz []::post) aa res a8):Holds P f (pre++.lit (.slice none 0 0)::post) aa res a8:=by
 refine⟨h.1,λγ aN hs=>h.2 γ (by simpa using aN) ⟨λk=>?_,hs.dF,hs.inj,hs.nz,hs.fZ,hs.gl⟩⟩;have:=hs.an k;dsimp only at this ⊢;by_cases hk:k=pre.length
 ·subst hk;have e1:(pre++AV.lit (.slice none 0 0)::post).getD pre.length .undef=.lit (.slice none 0 0):=Iy;have e2:(pre++AV.tree sz []::post).getD pre.length .undef=.tree sz []:=Iy;rw[e1]at this;rw[e2,this.cz];exact .cG _ _ (.nil _ _ _)
 ·have e:(pre++AV.tree sz []::post).getD k .undef=(pre++AV.lit (.slice none 0 0)::post).getD k .undef:=by
   simp only[aB];congr 1;rcases Nat.lt_or_ge k pre.length with h1|h1
   ·rw[eB h1,eB h1]
   ·rw[gX h1,gX h1,show k-pre.length=(k-pre.length-1)+1 by omega];rfl
  rw[e];exact this
end Go.Am
namespace Go.Am
variable {P:Program} {N n0:Nat} {σ:St} {Q:Exit->St->Prop}
def aF.UZ(a id r0 c sz Gu:Nat){R:List (List AV)}{cells:List AV}{rows:List (List AV)}(ho:σ.aa[id]?=some (.arr Gu R))(bN:R[r0]?=some cells)(ha:σ.aa[a]?=some (.arr sz rows))(hc:cells[c]?=some (.ref a sz 0 rows.length))(zB:a≠id)(hw:∀ row∈rows,row.length=sz)(u9:∀ row∈rows,∀ v∈row,(∃ x,v=.lit x)\/∃ s r,v=.tree s r):aF n0 σ ⟨σ.env,(σ.aa.set a .gone).set id (.arr Gu (R.set r0 (cells.set c (.tree sz rows))))⟩:=by
 intro os γ0 γ _ hs hf;have zC:id<σ.aa.length:=(aR.1 ho).1;have kM:a<σ.aa.length:=(aR.1 ha).1
 let az:Cx:={ γ with Z:=λb=>γ.Z b\/∃ o cap,γ.blk a=some (b,o,cap) }
 let os2:=(σ.aa.set a .gone).set id (.arr Gu (R.set r0 (cells.set c (.tree sz rows))))
 have iU:∀ i,os2[i]?=if i=id then some (.arr Gu (R.set r0 (cells.set c (.tree sz rows)))) else if i=a then some .gone else σ.aa[i]?:=by
  intro i;show((σ.aa.set a .gone).set id _)[i]?=_;rw[bY,bY];by_cases h1:i=id
  ·subst h1;simp[zC]
  ·by_cases h2:i=a
   ·subst h2;simp[Ne.symm h1,h1,kM]
   ·simp[Ne.symm h1,Ne.symm h2,h1,h2]
 have hR:∀ v cv,aw σ.aa γ.w γ.Z γ.blk v cv->aw os2 az.w az.Z az.blk v cv:=λv cv hv =>
  hv.mono (λb hb=>⟨.inl hb,rfl⟩) (λi o hi=>by
   rw[iU];by_cases h1:i=id
   ·subst h1;rw[ho]at hi;simp only[cm.injEq]at hi;subst hi;right;exact⟨rfl,_,by rw[if_pos rfl],by simp[Ob.dT]⟩
   ·rw[if_neg h1];by_cases h2:i=a
    ·left;rw[if_pos h2]
    ·rw[if_neg h2];by_cases hg:o=.gone
     ·subst hg;exact .inl hi
     ·exact .inr ⟨rfl,o,hi,Ob.jg hg⟩)
 have bL:∀ i,Live os2 i->Live σ.aa i/\i≠a:=by
  rintro i⟨o,hi,hg⟩;rw[iU]at hi;split at hi
  ·rename_i h1;subst h1;exact⟨⟨_,ho,Iy⟩,Ne.symm zB⟩
  ·split at hi
   ·simp at hi;exact absurd hi.symm hg
   ·rename_i h2;exact⟨⟨o,hi,hg⟩,h2⟩
 have oz:Live σ.aa a:=⟨_,ha,Iy⟩;refine⟨az,rfl,rfl,⟨λk=>hR _ _ (hs.an k),?_,λi j b o c o' c' hi hj=>hs.inj i j b o c o' c' (bL i hi).1 (bL j hj).1,?_,?_,λg=>xV (hs.gl g) λb hb=>⟨.inl hb,rfl⟩⟩,?_⟩
 ·intro i o hi;have aq:os2[i]?=some o:=hi;rw[iU]at aq;split at aq
  ·rename_i h1;subst h1;simp only[cm.injEq]at aq;subst aq;obtain⟨h0,hr,bI⟩:=hs.dF _ _ ho;have wV:r0<R.length:=(aR.1 bN).1;refine⟨h0,λrow Bu=>?_,?_⟩
   ·rcases List.mem_or_eq_of_mem_set Bu with h|h
    ·exact hr row h
    ·subst h;rw[bK];exact hr cells (List.mem_of_getElem? bN)
   ·rcases bI with⟨h1,h2⟩|⟨b,o,cap,cur,t,h1,h2,h3,h4,h5,h6⟩
    ·exact absurd (show r0<0 by rw[h2]at wV;exact wV) (Nat.not_lt_zero _)
    ·refine .inr ⟨b,o,cap,cur,t,h1,h2,h3,by rw[bK];exact h4,h5,λr k v hv=>?_⟩;unfold cellAt at hv;rw[bY]at hv;by_cases e:r0=r
     ·subst e;rw[if_pos rfl,if_pos wV,Option.bind_some,bY]at hv;split at hv
      ·rename_i e;subst e;split at hv
       ·simp only[cm.injEq]at hv;subst hv;have ee:cL σ (λx=>x≠a) (.tree sz rows) (.ref a sz 0 rows.length):=cL.flat ha hw rfl Iy u9;exact .cG _ _ (ee.ze hs (γc:=az) (λb hb=>.inl hb) rfl (λx b o cap bO _ hb=>.inr ⟨o,cap,by rw[show a=x by simpa using(Decidable.not_not.1 bO).symm];exact hb⟩) _ (h6 r0 c _ (by unfold cellAt;rw[bN];exact hc)))
       ·simp at hv
      ·exact hR _ _ (h6 r0 k v (by unfold cellAt;rw[bN];exact hv))
     ·rw[if_neg e]at hv;exact hR _ _ (h6 r k v hv)
  ·split at aq
   ·simp only[cm.injEq]at aq;subst aq;trivial
   ·by_cases hg:o=.gone
    ·subst hg;trivial
    ·exact(hs.dF i o aq).mono hR rfl (λ_ _ _ _=>rfl)
 ·rintro b ⟨i,o,c',hi,hb⟩ (hz|⟨o',cap,aV⟩)
  ·exact hs.nz b ⟨i,o,c',(bL i hi).1,hb⟩ hz
  ·exact(bL i hi).2 (hs.inj i a b o c' o' cap (bL i hi).1 oz hb aV)
 ·rintro b (hz|⟨o,cap,hb⟩)
  ·exact hs.fZ b hz
  ·exact hs.blt oz hb
 ·refine⟨hf.kJ,hf.tape,hf.output,hf.size,hf.dV,λb hb=>.inl (hf.z0 b hb),?_,?_,by show os.length<=os2.length;simp[os2];exact hf.len,?_,hf.drawn⟩
  ·rintro b (hz|⟨o,cap,hb⟩)
   ·exact hf.z1 b hz
   ·exact .inr (hf.own b ⟨a,o,cap,oz,hb⟩)
  ·rintro b ⟨i,o,c',hi,hb⟩;exact hf.own b ⟨i,o,c',(bL i hi).1,hb⟩
  ·intro i hi hl;obtain⟨h1,x,x',hx,bS,hk⟩:=hf.dY i hi (bL i hl).1;have CR:=(bL i hl).2;have jJ:Live os2 i:=hl;obtain⟨o,c9,mM⟩:=jJ;refine⟨h1,x,o,hx,c9,?_⟩;rw[iU]at c9;split at c9
   ·rename_i e;subst e;rw[ho]at bS;simp only[cm.injEq]at bS c9;subst bS;subst c9;refine Ob.FV hk (by simp[Ob.dT])
   ·rw[bS]at c9;simp only[cm.injEq]at c9;subst c9;exact hk
end Go.Am
namespace Go.Am
end Go.Am

