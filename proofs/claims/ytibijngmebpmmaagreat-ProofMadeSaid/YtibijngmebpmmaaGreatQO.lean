import Derived.Test.YtibijngmebpmmaaGreatPB
import Derived.Test.YtibijngmebpmmaaGreatQP
set_option linter.unusedVariables false
set_option linter.unusedSimpArgs false
set_option linter.unnecessarySimpa false
open Go Go.Am
namespace T
theorem NB1.start0 (x:Ob):NB1 [(1,.arr 1 []),(0,x)] [] [] [x,.arr 1 []]:=⟨by simp,rfl,by simp,(show ([1,0]:List Nat).Nodup by decide)⟩
theorem NB1.ret0 {D:List (Nat × Nat)} {S:List (List Bool)} {os:List Ob} {oi:Nat} (h:NB1 [(oi,.arr 1 (rowsOf eRb D))] D S os) (e:Nat→AV) :
    RetOK 0 ⟨e,os⟩ (.ref oi 1 0 S.length) (.ref 0 1 0 S.length) (.arr 1 (refsB 1 S)::ownB S):=by
  have hd:=h.len
  have h1:=h.base (oi,.arr 1 (rowsOf eRb D)) (by simp)
  dsimp only at h1
  have hl:∀ i∈oi::D.map (·.1),i<os.length:=fun i hi=>by
    rcases List.mem_cons.1 hi with rfl | hi
    · exact (List.getElem?_eq_some_iff.1 h1).1
    obtain ⟨q,hq,rfl⟩:=List.mem_map.1 hi
    obtain ⟨k,hk,rfl⟩:=List.mem_iff_getElem.1 hq
    have h3:=(h.row k hk).1
    have a1:D.getD k default=D[k]:=by simp[hk]
    rw[a1] at h3
    exact (List.getElem?_eq_some_iff.1 h3).1
  have hrho:∀ j,j<S.length→rho os.length (oi::D.map (·.1)) (1+j)=(D.getD j default).1:=fun j hj=>by
    unfold rho
    rw[if_pos (by simp;omega),show 1+j=j+1 by omega,List.getD_cons_succ,List.getD_eq_getElem?_getD,List.getElem?_map,List.getD_eq_getElem?_getD,List.getElem?_eq_getElem (by omega)];rfl
  refine⟨oi::D.map (·.1),false,by simpa using h.nd,by simp[ownB_len,hd],fun j o hj=>.inr ?_,hl,by simp,fun i hi=>?_,.eq ?_⟩
  · match j with
    | 0 =>
      simp only[List.getElem?_cons_zero,Option.some.injEq] at hj
      subst hj
      refine h1.trans (congrArg some ?_)
      rw[renO]
      refine congrArg _ (List.ext_getElem? fun i=>?_)
      rw[List.getElem?_map]
      by_cases hi:i<S.length
      · rw[eRb_D h hi,refsB_get 1 S i hi,Option.map_some,List.map_cons,List.map_nil,ren,hrho i hi]
      · rw[List.getElem?_eq_none (by simp[rowsOf];omega),List.getElem?_eq_none (by rw[refsB_len];omega)];rfl
    | j+1 =>
      simp only[List.getElem?_cons_succ] at hj
      have hjl:j<S.length:=by have:=(List.getElem?_eq_some_iff.1 hj).1;rwa [ownB_len] at this
      have h3:=(h.row j (by omega)).1
      unfold ownB at hj
      rw[List.getElem?_map,List.getElem?_eq_getElem hjl] at hj
      simp only[Option.map_some,Option.some.injEq] at hj
      subst hj
      rw[bools_ren]
      have e1:(oi::D.map (·.1)).getD (j+1) 0=(D.getD j default).1:=by
        rw[List.getD_cons_succ,List.getD_eq_getElem?_getD,List.getElem?_map,List.getD_eq_getElem?_getD,List.getElem?_eq_getElem (by omega)];rfl
      have e2:S.getD j default=S[j]:=by rw[List.getD_eq_getElem?_getD,List.getElem?_eq_getElem hjl];rfl
      rw[e1,← e2]
      exact h3
  · omega
  · rw[ren]
    have:rho os.length (oi::D.map (·.1)) 0=oi:=by unfold rho;rw[if_pos (by simp)];rfl
    rw[this]
end T
open Go Go.Am
namespace T
def nP (x y:Ob) (A:List (List AV)) (Y:List (List Bool)):List Ob:=x::y::.arr 1 A::ownB Y
theorem nP0 (x y:Ob) (A:List (List AV)) (Y:List (List Bool)):(nP x y A Y)[0]?=some x:=rfl
theorem nP1 (x y:Ob) (A:List (List AV)) (Y:List (List Bool)):(nP x y A Y)[1]?=some y:=rfl
theorem nP2 (x y:Ob) (A:List (List AV)) (Y:List (List Bool)):(nP x y A Y)[2]?=some (.arr 1 A):=rfl
theorem nPk (x y:Ob) (A:List (List AV)) {Y:List (List Bool)} {i:Nat} (h:i<Y.length):(nP x y A Y)[3+i]?=some (.arr 1 (bools (Y.getD i default))):=by
  have:=nOk y A h
  have e:3+i=(2+i)+1:=by omega
  rw[e];exact this
theorem nPs (x y:Ob) (A:List (List AV)) (Y:List (List Bool)) (i:Nat) (r:List Bool):(nP x y A Y).set (3+i) (.arr 1 (bools r))=nP x y A (Y.set i r):=by
  have:=nOs y A Y i r
  have e:3+i=(2+i)+1:=by omega
  rw[e]
  show x::(nO y A Y).set (2+i) _=_
  rw[this];rfl
theorem len_setB {x:List (List Bool)} {i:Nat} {r:List Bool} (hr:r.length=(x.getD i default).length):(x.set i r).map List.length=x.map List.length:=by
  apply List.ext_getElem?
  intro j
  rw[List.getElem?_map,List.getElem?_map,List.getElem?_set]
  split
  · rename_i e;subst e
    split
    · rename_i h2;rw[List.getElem?_eq_getElem h2] ;rw[List.getD_eq_getElem?_getD,List.getElem?_eq_getElem h2] at hr;simpa using hr
    · rename_i h2;rw[List.getElem?_eq_none (by omega)]
  · rfl
theorem onlyR_step {w o k:Nat} {r:List Bool} (hw:r.length=w) (h:∀ b,b<k→r.getD b false=(b == o)) (hk:k<w):∀ b,b<k+1→(r.set k (k == o)).getD b false=(b == o):=by
  intro b hb
  rw[List.getD_eq_getElem?_getD,List.getElem?_set]
  by_cases e:k=b
  · subst e;rw[if_pos rfl,if_pos (by omega)];rfl
  · rw[if_neg e,← List.getD_eq_getElem?_getD];exact h b (by omega)
theorem onlyR_end {w o:Nat} {r:List Bool} (hw:r.length=w) (h:∀ b,b<w→r.getD b false=(b == o)):r=onlyR w o:=by
  apply List.ext_getElem?
  intro b
  unfold onlyR
  rw[List.getElem?_set,List.length_replicate]
  by_cases hb:b<w
  · have:=h b hb
    rw[List.getD_eq_getElem?_getD,List.getElem?_eq_getElem (by omega),Option.getD_some] at this
    rw[List.getElem?_eq_getElem (by omega),this]
    by_cases e:o=b
    · subst e;rw[if_pos rfl,if_pos hb];simp
    · rw[if_neg e,List.getElem?_replicate_of_lt hb]
      congr 1
      exact beq_false_of_ne (Ne.symm e)
  · rw[List.getElem?_eq_none (by omega)]
    by_cases e:o=b
    · subst e;rw[if_pos rfl,if_neg hb]
    · rw[if_neg e,List.getElem?_eq_none (by simp;omega)]
end T
open Go Go.Am
namespace T
theorem NB1.setRow {B:List (Nat × Ob)} {D:List (Nat × Nat)} {S:List (List Bool)} {os:List Ob} (h:NB1 B D S os) {j:Nat} (hj:j<S.length) {r:List Bool} (hr:r.length=(S.getD j default).length) :
    NB1 B D (S.set j r) (os.set (D.getD j default).1 (.arr 1 (bools r))):=by
  have hjD:j<D.length:=by rw[h.len];exact hj
  have hnd:=List.nodup_append.1 h.nd
  have hDj:D.getD j default=D[j]:=by simp[hjD]
  have hmem:(D.getD j default).1∈D.map (·.1):=by rw[hDj];exact List.mem_map.2 ⟨_,List.getElem_mem hjD,rfl⟩
  refine⟨fun b hb=>?_,by rw[List.length_set];exact h.len,fun k hk=>?_,h.nd⟩
  · rw[List.getElem?_set_ne ?_]
    · exact h.base b hb
    · intro e
      exact hnd.2.2 _ (List.mem_map.2 ⟨b,hb,rfl⟩) _ hmem e.symm
  · obtain ⟨h1,h2⟩:=h.row k hk
    by_cases e:k=j
    · subst e
      have hlt:=(List.getElem?_eq_some_iff.1 h1).1
      have hg:(S.set k r).getD k default=r:=by rw[List.getD_eq_getElem?_getD,List.getElem?_set,if_pos rfl,if_pos hj];rfl
      rw[List.getElem?_set,if_pos rfl,if_pos hlt,hg]
      exact⟨rfl,hr.trans h2⟩
    · have hg:(S.set j r).getD k default=S.getD k default:=by rw[List.getD_eq_getElem?_getD,List.getElem?_set_ne (Ne.symm e),← List.getD_eq_getElem?_getD]
      rw[hg,List.getElem?_set_ne ?_]
      · exact⟨h1,h2⟩
      · intro e2
        have hDk:D.getD k default=D[k]:=by simp[hk]
        rw[hDj,hDk] at e2
        have hp:=List.pairwise_iff_getElem.1 hnd.2.1
        rcases Nat.lt_or_gt_of_ne e with hl | hl
        · exact hp k j (by simpa using hk) (by simpa using hjD) hl (by simpa using e2.symm)
        · exact hp j k (by simpa using hjD) (by simpa using hk) hl (by simpa using e2)
end T
open Go Go.Am
namespace T
def inV (m:Mdl) (g:List Int):List Bool:=(List.range m.cls.length).map fun (c:Nat)=>g.contains (c:Int)
theorem inV_len (m:Mdl) (g:List Int):(inV m g).length=m.cls.length:=by simp[inV]
theorem inV_get {m:Mdl} (g:List Int) {c:Nat} (h:c<m.cls.length):(inV m g).getD c false=g.contains (c:Int):=by
  unfold inV
  rw[List.getD_eq_getElem?_getD,List.getElem?_map,List.getElem?_range h];rfl
theorem inV_nil (m:Mdl):inV m []=List.replicate m.cls.length false:=by
  apply List.ext_getElem?
  intro j
  unfold inV
  rw[List.getElem?_map]
  by_cases h:j<m.cls.length
  · rw[List.getElem?_range h,List.getElem?_replicate_of_lt h];rfl
  · rw[List.getElem?_eq_none (by simp;omega),List.getElem?_eq_none (by simp;omega)];rfl
theorem inV_snoc {m:Mdl} (g:List Int) {c:Nat} (h:c<m.cls.length):inV m (g++[(c:Int)])=(inV m g).set c true:=by
  apply List.ext_getElem?
  intro j
  rw[List.getElem?_set,inV_len]
  unfold inV
  rw[List.getElem?_map,List.getElem?_map]
  by_cases hj:j<m.cls.length
  · rw[List.getElem?_range hj,Option.map_some,Option.map_some]
    by_cases e:c=j
    · subst e;rw[if_pos rfl,if_pos h];simp
    · rw[if_neg e]
      congr 1
      rw[Bool.eq_iff_iff,List.contains_iff_mem,List.contains_iff_mem,List.mem_append,List.mem_singleton]
      constructor
      · rintro (h1 | h1)
        · exact h1
        · omega
      · exact .inl
  · rw[List.getElem?_eq_none (by simp;omega)]
    by_cases e:c=j
    · subst e;omega
    · rw[if_neg e];rfl
def covR (m:Mdl) (L:List (Int × Int)):List (List Bool):=(List.range m.cls.length).map fun (c:Nat)=>(List.range (m.cls.getD c default).length).map fun (o:Nat)=>L.any (isC (c:Int) (o:Int))
theorem covR_len (m:Mdl) (L:List (Int × Int)):(covR m L).length=m.cls.length:=by simp[covR]
theorem covR_row {m:Mdl} (L:List (Int × Int)) {c:Nat} (h:c<m.cls.length):(covR m L).getD c default=(List.range (m.cls.getD c default).length).map fun (o:Nat)=>L.any (isC (c:Int) (o:Int)):=by
  unfold covR
  rw[List.getD_eq_getElem?_getD,List.getElem?_map,List.getElem?_range h];rfl
theorem covR_get {m:Mdl} (L:List (Int × Int)) {c o:Nat} (h:c<m.cls.length) (ho:o<(m.cls.getD c default).length):((covR m L).getD c default).getD o false=L.any (isC (c:Int) (o:Int)):=by
  rw[covR_row L h,List.getD_eq_getElem?_getD,List.getElem?_map,List.getElem?_range ho];rfl
theorem covR_nil (m:Mdl):covR m []=m.cls.map fun l=>List.replicate l.length false:=by
  apply List.ext_getElem?
  intro j
  unfold covR
  rw[List.getElem?_map,List.getElem?_map]
  by_cases h:j<m.cls.length
  · rw[List.getElem?_range h,List.getElem?_eq_getElem h,Option.map_some,Option.map_some]
    congr 1
    rw[List.getD_eq_getElem?_getD,List.getElem?_eq_getElem h,Option.getD_some]
    apply List.ext_getElem?
    intro o
    rw[List.getElem?_map]
    by_cases ho:o<m.cls[j].length
    · rw[List.getElem?_range ho,List.getElem?_replicate_of_lt ho];rfl
    · rw[List.getElem?_eq_none (by simp;omega),List.getElem?_eq_none (by simp;omega)];rfl
  · rw[List.getElem?_eq_none (by simp;omega),List.getElem?_eq_none (by omega)];rfl
theorem covR_snoc {m:Mdl} (L:List (Int × Int)) {c o:Nat} (h:c<m.cls.length) (ho:o<(m.cls.getD c default).length) :
    covR m (L++[((c:Int),(o:Int))])=(covR m L).set c (((covR m L).getD c default).set o true):=by
  apply List.ext_getElem?
  intro j
  rw[List.getElem?_set,covR_len,covR_row L h]
  by_cases hj:j<m.cls.length
  · have hg:∀ K,(covR m K)[j]?=some ((List.range (m.cls.getD j default).length).map fun (o:Nat)=>K.any (isC (j:Int) (o:Int))):=fun K=>by
      unfold covR;rw[List.getElem?_map,List.getElem?_range hj];rfl
    rw[hg,hg]
    by_cases e:c=j
    · subst e
      rw[if_pos rfl,if_pos h]
      congr 1
      apply List.ext_getElem?
      intro q
      rw[List.getElem?_set,List.length_map,List.length_range,List.getElem?_map,List.getElem?_map]
      by_cases hq:q<(m.cls.getD c default).length
      · rw[List.getElem?_range hq,Option.map_some,Option.map_some,List.any_append]
        by_cases e2:o=q
        · subst e2;rw[if_pos rfl,if_pos ho];simp[isC]
        · rw[if_neg e2]
          congr 1
          have:isC (c:Int) (q:Int) ((c:Int),(o:Int))=false:=by
            unfold isC;rw[decide_eq_false_iff_not,Prod.mk.injEq];omega
          simp[this]
      · rw[List.getElem?_eq_none (by rw[List.length_range];omega)]
        by_cases e2:o=q
        · subst e2;omega
        · rw[if_neg e2];rfl
    · rw[if_neg e]
      congr 2
      funext q
      rw[List.any_append]
      have:isC (j:Int) (q:Int) ((c:Int),(o:Int))=false:=by
        unfold isC;rw[decide_eq_false_iff_not,Prod.mk.injEq];omega
      simp[this]
  · rw[List.getElem?_eq_none (by rw[covR_len];omega)]
    by_cases e:c=j
    · subst e;omega
    · rw[if_neg e,List.getElem?_eq_none (by rw[covR_len];omega)]
end T

