import Derived.Test.YtafhoboejkcmiaaGreatX08
set_option linter.unusedVariables false
set_option linter.unusedSimpArgs false
set_option linter.unnecessarySimpa false
set_option linter.unusedSectionVars false
set_option maxHeartbeats 64000000
set_option maxRecDepth 20000
namespace Go.Am
theorem litOf_int_e (k:IntKind) (n:Int):litOf (.int k n)=.lit (.int k n):=by first|rfl|(cases b<;>rfl)|(simp only[litOf];done)|(unfold pickV;split<;>simp_all)
theorem litOf_bool_e (b:Bool):litOf (.bool b)=.lit (.bool b):=by first|rfl|(cases b<;>rfl)|(simp only[litOf];done)|(unfold pickV;split<;>simp_all)
theorem litOf_slice_e (a:Option Addr) (n c:Nat):litOf (.slice a n c)=.lit (.slice a n c):=by first|rfl|(cases b<;>rfl)|(simp only[litOf];done)|(unfold pickV;split<;>simp_all)
theorem litOf_str_e (s:ByteArray):litOf (.string s)=.lit (.string s):=by first|rfl|(cases b<;>rfl)|(simp only[litOf];done)|(unfold pickV;split<;>simp_all)
theorem litOf_tup_e (s:Array Value):litOf (.tuple s)=.lit (.tuple s):=by first|rfl|(cases b<;>rfl)|(simp only[litOf];done)|(unfold pickV;split<;>simp_all)
theorem ren_lit_e (ρ:Nat→Nat) (v:Value):ren ρ (.lit v)=.lit v:=by first|rfl|(cases b<;>rfl)|(simp only[litOf];done)|(unfold pickV;split<;>simp_all)
theorem ren_tree_e (ρ:Nat→Nat) (s:Nat) (r:List (List AV)):ren ρ (.tree s r)=.tree s r:=by first|rfl|(cases b<;>rfl)|(simp only[litOf];done)|(unfold pickV;split<;>simp_all)
theorem ren_taddr_e (ρ:Nat→Nat) (r:List AV):ren ρ (.taddr r)=.taddr r:=by first|rfl|(cases b<;>rfl)|(simp only[litOf];done)|(unfold pickV;split<;>simp_all)
theorem ren_undef_e (ρ:Nat→Nat):ren ρ .undef=.undef:=by first|rfl|(cases b<;>rfl)|(simp only[litOf];done)|(unfold pickV;split<;>simp_all)
theorem cells_lit_e (v:Value):cellsOf (.lit v)=[.lit v]:=by first|rfl|(cases b<;>rfl)|(simp only[litOf];done)|(unfold pickV;split<;>simp_all)
theorem cells_tree_e (s:Nat) (r:List (List AV)):cellsOf (.tree s r)=[.tree s r]:=by first|rfl|(cases b<;>rfl)|(simp only[litOf];done)|(unfold pickV;split<;>simp_all)
theorem cells_taddr_e (r:List AV):cellsOf (.taddr r)=[.taddr r]:=by first|rfl|(cases b<;>rfl)|(simp only[litOf];done)|(unfold pickV;split<;>simp_all)
theorem cells_ref_e (a b c d:Nat):cellsOf (.ref a b c d)=[.ref a b c d]:=by first|rfl|(cases b<;>rfl)|(simp only[litOf];done)|(unfold pickV;split<;>simp_all)
theorem cells_ptr_e (a b c:Nat):cellsOf (.ptr a b c)=[.ptr a b c]:=by first|rfl|(cases b<;>rfl)|(simp only[litOf];done)|(unfold pickV;split<;>simp_all)
theorem cells_mref_e (id:Nat):cellsOf (.mref id)=[.mref id]:=rfl
theorem cells_ifc_e (t:TypeId) (v:AV):cellsOf (.ifc t v)=[.ifc t v]:=rfl
theorem cells_fn_e (f:FuncId) (l:List AV):cellsOf (.fn f l)=[.fn f l]:=by first|rfl|(cases b<;>rfl)|(simp only[litOf];done)|(unfold pickV;split<;>simp_all)
theorem pick_tt_e (t:Bool) (s:Array Value) (b:AV):pickV t (.lit (.tuple s)) b=if t=true then .lit (.tuple s) else b:=by first|rfl|(cases b<;>rfl)|(simp only[litOf];done)|(unfold pickV;split<;>simp_all)
theorem pick_t2_e (t:Bool) (s:Array Value) (b:AV):pickV t b (.lit (.tuple s))=if t=true then b else .lit (.tuple s):=by first|rfl|(cases b<;>rfl)|(simp only[litOf];done)|(unfold pickV;split<;>simp_all)
theorem pick_ag_e (t:Bool) (s u:List AV):pickV t (.agg s) (.agg u)=if t=true then .agg s else .agg u:=by first|rfl|(cases b<;>rfl)|(simp only[litOf];done)|(unfold pickV;split<;>simp_all)
theorem scal_agg_e (l:List AV):scal (.agg l)=false:=by first|rfl|(cases b<;>rfl)|(simp only[litOf];done)|(unfold pickV;split<;>simp_all)
theorem scal_tup_e (l:List AV):scal (.tup l)=false:=by first|rfl|(cases b<;>rfl)|(simp only[litOf];done)|(unfold pickV;split<;>simp_all)
theorem scal_undef_e  : scal .undef=false:=by first|rfl|(cases b<;>rfl)|(simp only[litOf];done)|(unfold pickV;split<;>simp_all)
theorem one_int_e (k:IntKind) (n:Int):Value.oneCell' (.int k n)=true:=by first|rfl|(cases b<;>rfl)|(simp only[litOf];done)|(unfold pickV;split<;>simp_all)
theorem one_bool_e (b:Bool):Value.oneCell' (.bool b)=true:=by first|rfl|(cases b<;>rfl)|(simp only[litOf];done)|(unfold pickV;split<;>simp_all)
theorem one_slice_e (a:Option Addr) (n c:Nat):Value.oneCell' (.slice a n c)=true:=by first|rfl|(cases b<;>rfl)|(simp only[litOf];done)|(unfold pickV;split<;>simp_all)
theorem one_str_e (s:ByteArray):Value.oneCell' (.string s)=true:=by first|rfl|(cases b<;>rfl)|(simp only[litOf];done)|(unfold pickV;split<;>simp_all)
theorem one_ptr_e (a:Option Addr):Value.oneCell' (.pointer a)=true:=by first|rfl|(cases b<;>rfl)|(simp only[litOf];done)|(unfold pickV;split<;>simp_all)
theorem one_map_e (a:Option Nat):Value.oneCell' (.map a)=true:=by first|rfl|(cases b<;>rfl)|(simp only[litOf];done)|(unfold pickV;split<;>simp_all)
theorem Pc:type_of% @nilK.eq_1∧type_of% @nilK.eq_2∧type_of% @faT.eq_1∧type_of% @faT.eq_2∧type_of% @faK.eq_1∧type_of% @faK.eq_2∧type_of% @iaA.eq_1∧type_of% @iaA.eq_2∧type_of% @iaA.eq_3∧type_of% @callV.eq_1∧type_of% @callVQ.eq_1∧type_of% @intW.eq_1∧type_of% @intW.eq_2∧type_of% @intW.eq_3∧type_of% @intW.eq_4∧type_of% @intW.eq_5∧type_of% @intW.eq_6∧type_of% @intW.eq_7∧type_of% @intW.eq_8∧type_of% @intW.eq_9∧type_of% @intW.eq_10∧type_of% @intW.eq_11∧type_of% @intW.eq_12∧type_of% @intW.eq_13∧type_of% @loadA.eq_1∧type_of% @stepD.eq_1 :=
  ⟨@nilK.eq_1,@nilK.eq_2,@faT.eq_1,@faT.eq_2,@faK.eq_1,@faK.eq_2,@iaA.eq_1,@iaA.eq_2,@iaA.eq_3,@callV.eq_1,@callVQ.eq_1,@intW.eq_1,@intW.eq_2,@intW.eq_3,@intW.eq_4,@intW.eq_5,@intW.eq_6,@intW.eq_7,@intW.eq_8,@intW.eq_9,@intW.eq_10,@intW.eq_11,@intW.eq_12,@intW.eq_13,@loadA.eq_1,@stepD.eq_1⟩
theorem Sc:type_of% @ev.eq_1∧type_of% @ev.eq_2∧type_of% @ev.eq_3∧type_of% @ev.eq_4∧type_of% @litOf.eq_1∧type_of% @St.put.eq_1∧type_of% @St.put.eq_2∧type_of% @evP.eq_1∧type_of% @evP.eq_2∧type_of% @scalP.eq_1∧type_of% @scalP.eq_2∧type_of% @pickV.eq_1∧type_of% @seqP.eq_1∧type_of% @seqP.eq_2∧type_of% @mergeO.eq_1∧type_of% @mergeO.eq_2∧type_of% @ren.eq_1∧type_of% @ren.eq_2∧type_of% @ren.eq_3∧type_of% @ren.eq_4∧type_of% @ren.eq_5∧type_of% @ren.eq_6∧type_of% @renL.eq_1∧type_of% @renL.eq_2∧type_of% @rho.eq_1∧type_of% @rowOf.eq_1∧type_of% @setRowOf.eq_1∧type_of% @srcRows.eq_1∧type_of% @srcRows.eq_2∧type_of% @dstRows.eq_1∧type_of% @dstRows.eq_2∧type_of% @cellsOf.eq_1∧type_of% @setCells.eq_1∧type_of% @setCells.eq_2∧type_of% @fillA.eq_1∧type_of% @fillA.eq_2∧type_of% @toRows.eq_1∧type_of% @toRows.eq_2∧type_of% @scal.eq_1∧type_of% @scal.eq_2∧type_of% @scal.eq_3∧type_of% @scal.eq_4∧type_of% @scal.eq_5∧type_of% @scal.eq_6∧type_of% @Ty.isAgg.eq_1∧type_of% @Value.oneCell'.eq_1∧type_of% @Value.oneCell'.eq_2∧type_of% @isCallO.eq_1∧type_of% @laterCall.eq_1∧type_of% @laterCall.eq_2∧type_of% @eMdl.eq_1∧type_of% @eOpt.eq_1∧type_of% @eCls.eq_1∧type_of% @ePr.eq_1∧type_of% @eLd.eq_1∧type_of% @eCt.eq_1∧type_of% @eCh.eq_1∧type_of% @intsOf.eq_1∧type_of% @intsOf.eq_2∧type_of% @opsLQ_cons∧type_of% @opsLQ_nil∧type_of% @opsLA_cons∧type_of% @opsLA_nil∧type_of% @opsLB_cons∧type_of% @opsLB_nil∧type_of% @Bool.true_and∧type_of% @Bool.false_and∧type_of% @litOf_int_e∧type_of% @litOf_bool_e∧type_of% @litOf_slice_e∧type_of% @litOf_str_e∧type_of% @litOf_tup_e∧type_of% @ren_lit_e∧type_of% @ren_tree_e∧type_of% @ren_taddr_e∧type_of% @ren_undef_e∧type_of% @cells_lit_e∧type_of% @cells_tree_e∧type_of% @cells_taddr_e∧type_of% @cells_ref_e∧type_of% @cells_ptr_e∧type_of% @cells_fn_e∧type_of% @pick_tt_e∧type_of% @pick_t2_e∧type_of% @pick_ag_e∧type_of% @scal_agg_e∧type_of% @scal_tup_e∧type_of% @scal_undef_e∧type_of% @one_int_e∧type_of% @one_bool_e∧type_of% @one_slice_e∧type_of% @one_str_e∧type_of% @one_ptr_e∧type_of% @one_map_e∧type_of% @scal.eq_7∧type_of% @cells_ifc_e∧type_of% @opG_invoke∧type_of% @opG_makeInterface∧type_of% @opG_typeAssert∧type_of% @invV.eq_1∧type_of% @recvK.eq_1∧type_of% @recvK.eq_2∧type_of% @ren.eq_7∧type_of% @scal.eq_8∧type_of% @cells_mref_e∧type_of% @opG_makeMap∧type_of% @opG_lookup∧type_of% @opG_mapUpdate∧type_of% @opG_mapEntry∧type_of% @opG_entryStore∧type_of% @liveO_mp∧type_of% @mpOf.eq_1∧type_of% @keyOf.eq_1∧type_of% @keyOf.eq_2∧type_of% @kLen.eq_1 :=
  ⟨@ev.eq_1,@ev.eq_2,@ev.eq_3,@ev.eq_4,@litOf.eq_1,@St.put.eq_1,@St.put.eq_2,@evP.eq_1,@evP.eq_2,@scalP.eq_1,@scalP.eq_2,@pickV.eq_1,@seqP.eq_1,@seqP.eq_2,@mergeO.eq_1,@mergeO.eq_2,@ren.eq_1,@ren.eq_2,@ren.eq_3,@ren.eq_4,@ren.eq_5,@ren.eq_6,@renL.eq_1,@renL.eq_2,@rho.eq_1,@rowOf.eq_1,@setRowOf.eq_1,@srcRows.eq_1,@srcRows.eq_2,@dstRows.eq_1,@dstRows.eq_2,@cellsOf.eq_1,@setCells.eq_1,@setCells.eq_2,@fillA.eq_1,@fillA.eq_2,@toRows.eq_1,@toRows.eq_2,@scal.eq_1,@scal.eq_2,@scal.eq_3,@scal.eq_4,@scal.eq_5,@scal.eq_6,@Ty.isAgg.eq_1,@Value.oneCell'.eq_1,@Value.oneCell'.eq_2,@isCallO.eq_1,@laterCall.eq_1,@laterCall.eq_2,@eMdl.eq_1,@eOpt.eq_1,@eCls.eq_1,@ePr.eq_1,@eLd.eq_1,@eCt.eq_1,@eCh.eq_1,@intsOf.eq_1,@intsOf.eq_2,@opsLQ_cons,@opsLQ_nil,@opsLA_cons,@opsLA_nil,@opsLB_cons,@opsLB_nil,@Bool.true_and,@Bool.false_and,@litOf_int_e,@litOf_bool_e,@litOf_slice_e,@litOf_str_e,@litOf_tup_e,@ren_lit_e,@ren_tree_e,@ren_taddr_e,@ren_undef_e,@cells_lit_e,@cells_tree_e,@cells_taddr_e,@cells_ref_e,@cells_ptr_e,@cells_fn_e,@pick_tt_e,@pick_t2_e,@pick_ag_e,@scal_agg_e,@scal_tup_e,@scal_undef_e,@one_int_e,@one_bool_e,@one_slice_e,@one_str_e,@one_ptr_e,@one_map_e,@scal.eq_7,@cells_ifc_e,@opG_invoke,@opG_makeInterface,@opG_typeAssert,@invV.eq_1,@recvK.eq_1,@recvK.eq_2,@ren.eq_7,@scal.eq_8,@cells_mref_e,@opG_makeMap,@opG_lookup,@opG_mapUpdate,@opG_mapEntry,@opG_entryStore,@liveO_mp,@mpOf.eq_1,@keyOf.eq_1,@keyOf.eq_2,@kLen.eq_1⟩
theorem Lc:type_of% @ev.eq_1∧type_of% @ev.eq_2∧type_of% @ev.eq_3∧type_of% @ev.eq_4∧type_of% @litOf.eq_1∧type_of% @St.put.eq_1∧type_of% @St.put.eq_2∧type_of% @litOf_int_e∧type_of% @litOf_bool_e∧type_of% @litOf_slice_e∧type_of% @litOf_str_e∧type_of% @litOf_tup_e :=
  ⟨@ev.eq_1,@ev.eq_2,@ev.eq_3,@ev.eq_4,@litOf.eq_1,@St.put.eq_1,@St.put.eq_2,@litOf_int_e,@litOf_bool_e,@litOf_slice_e,@litOf_str_e,@litOf_tup_e⟩
theorem W_at {P:Program} {N n0:Nat} (id:Nat) {ops:Array Oper} {d:Bool} {y:Code} {Q:Exit→St→Prop} {σ:St} (h:W P N n0 (.seq (.region id ops d) y) Q σ):W P N n0 (.seq (.region id ops d) y) Q σ:=h
theorem W_atE {P:Program} {N n0:Nat} (id:Nat) {ops:Array Oper} {d:Bool} {Q:Exit→St→Prop} {σ:St} (h:W P N n0 (.region id ops d) Q σ):W P N n0 (.region id ops d) Q σ:=h
end Go.Am
namespace T
section
variable {α:Type} [Inhabited α] (lt:α→α→Bool)
def swapL (l:List α) (i j:Nat):List α:=(l.set i (l.getD j default)).set j (l.getD i default)
def kidL (l:List α) (i n:Nat):Nat:=if 2 * i+2<n∧lt (l.getD (2 * i+2) default) (l.getD (2 * i+1) default)=true then 2 * i+2 else 2 * i+1
def downL:Nat→List α→Nat→Nat→List α
  | 0,l,_,_=>l
  | f+1,l,i,n=>if n≤2 * i+1 then l else if lt (l.getD (kidL lt l i n) default) (l.getD i default)=true then downL f (swapL l i (kidL lt l i n)) (kidL lt l i n) n else l
def initL:Nat→List α→Nat→List α
  | 0,l,_=>l
  | k+1,l,n=>initL k (downL lt n l k n) n
def popL (l:List α):α × List α :=
  let r:=downL lt l.length (swapL l 0 (l.length - 1)) 0 (l.length - 1)
  (r.getD (l.length - 1) default,r.take (l.length - 1))
end
section
variable {α:Type} {lt:α→α→Bool}
structure Ord (lt:α→α→Bool):Prop where
  asym:∀ a b,lt a b=true→lt b a=false
  trans:∀ a b c,lt b a=false→lt c b=false→lt c a=false
theorem Ord.irr (h:Ord lt) (a:α):lt a a=false:=by
  cases hh:lt a a
  · rfl
  · exact absurd ((h.asym a a hh).symm.trans hh) (by decide)
end
section
variable {α:Type} [Inhabited α] {lt:α→α→Bool}
theorem swapL_len (l:List α) (i j:Nat):(swapL l i j).length=l.length:=by unfold swapL;simp
theorem swapL_get (l:List α) {i j:Nat} (hi:i<l.length) (hj:j<l.length) (k:Nat):(swapL l i j).getD k default=if k=j then l.getD i default else if k=i then l.getD j default else l.getD k default:=by
  unfold swapL
  simp only[List.getD_eq_getElem?_getD,List.getElem?_set,List.length_set]
  by_cases h1:j=k
  · subst h1;simp[hj]
  · by_cases h2:i=k
    · subst h2;simp[h1,Ne.symm h1,hi]
    · simp[h1,h2,Ne.symm h1,Ne.symm h2]
theorem swapL_perm (l:List α) {i j:Nat} (hi:i<l.length) (hj:j<l.length):(swapL l i j).Perm l:=by
  by_cases hij:i=j
  · subst hij
    have:swapL l i i=l:=by
      apply List.ext_getElem?
      intro k
      unfold swapL
      simp only[List.getElem?_set,List.length_set,List.getD_eq_getElem?_getD]
      by_cases h:i=k
      · subst h;simp[hi]
      · simp[h]
    rw[this]
  · unfold swapL
    rw[List.getD_eq_getElem?_getD,List.getD_eq_getElem?_getD,List.getElem?_eq_getElem hi,List.getElem?_eq_getElem hj,Option.getD_some,Option.getD_some]
    exact List.set_set_perm hi hj
theorem kidL_lt {l:List α} {i n:Nat} (h:¬ n≤2 * i+1):kidL lt l i n<n:=by unfold kidL;split<;>omega
theorem kidL_gt {l:List α} {i n:Nat}:i<kidL lt l i n:=by unfold kidL;split<;>omega
theorem downL_perm:∀ (f:Nat) (l:List α) (i n:Nat),n≤l.length→(downL lt f l i n).Perm l
  | 0,l,i,n,_=>.refl _
  | f+1,l,i,n,hn=>by
    unfold downL
    split
    · exact .refl _
    · rename_i h
      split
      · have hk:=kidL_lt (lt:=lt) (l:=l) h
        exact (downL_perm f _ _ _ (by rw[swapL_len];exact hn)).trans (swapL_perm l (by omega) (by omega))
      · exact .refl _
theorem downL_len (f:Nat) (l:List α) (i n:Nat) (hn:n≤l.length):(downL lt f l i n).length=l.length:=(downL_perm f l i n hn).length_eq
theorem downL_out:∀ (f:Nat) (l:List α) (i n:Nat),n≤l.length→∀ k,n≤k→(downL lt f l i n).getD k default=l.getD k default
  | 0,l,i,n,_,k,_=>rfl
  | f+1,l,i,n,hn,k,hk=>by
    unfold downL
    split
    · rfl
    · rename_i h
      split
      · have hk2:=kidL_lt (lt:=lt) (l:=l) h
        rw[downL_out f _ _ _ (by rw[swapL_len];exact hn) k hk,swapL_get l (by omega) (by omega),if_neg (by omega),if_neg (by omega)]
      · rfl
theorem initL_perm:∀ (k:Nat) (l:List α) (n:Nat),n≤l.length→(initL lt k l n).Perm l
  | 0,l,n,_=>.refl _
  | k+1,l,n,hn=>by
    unfold initL
    exact (initL_perm k _ n (by rw[downL_len _ _ _ _ hn];exact hn)).trans (downL_perm _ _ _ _ hn)
def HpX (lt:α→α→Bool) (l:List α) (s x n:Nat):Prop :=
  (∀ j,0<j→j<n→s≤(j - 1) / 2→(j - 1) / 2≠x→lt (l.getD j default) (l.getD ((j - 1) / 2) default)=false) ∧
  (∀ j,0<j→j<n→(j - 1) / 2=x→0<x→s≤(x - 1) / 2→lt (l.getD j default) (l.getD ((x - 1) / 2) default)=false)
def Hp (lt:α→α→Bool) (l:List α) (s n:Nat):Prop:=∀ j,0<j→j<n→s≤(j - 1) / 2→lt (l.getD j default) (l.getD ((j - 1) / 2) default)=false
theorem downL_heap (ho:Ord lt):∀ (f:Nat) (l:List α) (s x n:Nat),n≤l.length→n≤f+x→s≤x→HpX lt l s x n→Hp lt (downL lt f l x n) s n
  | 0,l,s,x,n,hn,hf,hs,hh=>by
    unfold downL
    intro j h0 hj hp
    exact hh.1 j h0 hj hp (by omega)
  | f+1,l,s,x,n,hn,hf,hs,hh=>by
    unfold downL
    split
    · rename_i h
      intro j h0 hj hp
      exact hh.1 j h0 hj hp (by omega)
    · rename_i h
      have hk:=kidL_lt (lt:=lt) (l:=l) h
      have hg:=kidL_gt (lt:=lt) (l:=l) (i:=x) (n:=n)
      have hmin:∀ j,0<j→j<n→(j - 1) / 2=x→lt (l.getD j default) (l.getD (kidL lt l x n) default)=false:=by
        intro j h0 hj hp
        have hj2:j=2 * x+1∨j=2 * x+2:=by omega
        unfold kidL
        split
        · rename_i hc
          rcases hj2 with rfl | rfl
          · exact ho.asym _ _ hc.2
          · exact ho.irr _
        · rename_i hc
          rcases hj2 with rfl | rfl
          · exact ho.irr _
          · cases hh:lt (l.getD (2 * x+2) default) (l.getD (2 * x+1) default)
            · rfl
            · exact absurd ⟨hj,hh⟩ hc
      have hkp:(kidL lt l x n - 1) / 2=x:=by unfold kidL;split<;>omega
      split
      · rename_i hlt
        refine downL_heap ho f _ s _ n (by rw[swapL_len];exact hn) (by omega) (by omega) ⟨fun j h0 hj hp hne=>?_,fun j h0 hj hpj _ hsp=>?_⟩
        · rw[swapL_get l (by omega) (by omega),swapL_get l (by omega) (by omega)]
          by_cases hpx:(j - 1) / 2=x
          ·
            rw[if_neg (show ¬ (j - 1) / 2=kidL lt l x n by omega),if_pos hpx]
            by_cases hjk:j=kidL lt l x n
            · rw[if_pos hjk];exact ho.asym _ _ hlt
            · rw[if_neg hjk,if_neg (by omega)];exact hmin j h0 hj hpx
          · rw[if_neg (show ¬ j=kidL lt l x n by omega),if_neg hne,if_neg hpx]
            by_cases hjx:j=x
            · rw[if_pos hjx]
              have:=hh.2 (kidL lt l x n) (by omega) hk hkp (by omega) (by omega)
              rw[hjx];exact this
            · rw[if_neg hjx];exact hh.1 j h0 hj hp hpx
        · rw[swapL_get l (by omega) (by omega),swapL_get l (by omega) (by omega),hkp,if_neg (show ¬ j=kidL lt l x n by omega),if_neg (show ¬ j=x by omega),if_neg (show ¬ x=kidL lt l x n by omega),if_pos rfl]
          have:=hh.1 j h0 hj (by omega) (by omega)
          rw[hpj] at this
          exact this
      · rename_i hlt
        have hlt':lt (l.getD (kidL lt l x n) default) (l.getD x default)=false:=by simpa using hlt
        intro j h0 hj hp
        by_cases hpx:(j - 1) / 2=x
        · rw[hpx];exact ho.trans _ _ _ hlt' (hmin j h0 hj hpx)
        · exact hh.1 j h0 hj hp hpx
theorem initL_heap (ho:Ord lt):∀ (k:Nat) (l:List α) (n:Nat),n≤l.length→Hp lt l k n→Hp lt (initL lt k l n) 0 n
  | 0,l,n,_,h=>h
  | k+1,l,n,hn,h=>by
    unfold initL
    refine initL_heap ho k _ n (by rw[downL_len _ _ _ _ hn];exact hn) (downL_heap ho n l k k n hn (by omega) (Nat.le_refl _) ⟨fun j h0 hj hp hne=>h j h0 hj (by omega),fun j h0 hj hp hx hs=>?_⟩)
    omega
theorem Hp.root (ho:Ord lt) {l:List α} {n:Nat} (h:Hp lt l 0 n):∀ j,j<n→lt (l.getD j default) (l.getD 0 default)=false:=by
  intro j
  induction j using Nat.strongRecOn with
  | ind j ih =>
    intro hj
    by_cases h0:j=0
    · subst h0;exact ho.irr _
    · exact ho.trans _ _ _ (ih ((j - 1) / 2) (by omega) (by omega)) (h j (by omega) hj (by omega))
theorem init_heap (ho:Ord lt) (l:List α):Hp lt (initL lt (l.length / 2) l l.length) 0 l.length :=
  initL_heap ho _ l _ (Nat.le_refl _) (fun j h0 hj hp=>by omega)
theorem pop_least (ho:Ord lt) {l:List α} (h0:0<l.length):(∀ y∈l,lt y (popL lt (initL lt (l.length / 2) l l.length)).1=false)∧((popL lt (initL lt (l.length / 2) l l.length)).1::(popL lt (initL lt (l.length / 2) l l.length)).2).Perm l:=by
  have hh:=init_heap ho l
  have hp:=initL_perm (lt:=lt) (l.length / 2) l l.length (Nat.le_refl _)
  generalize initL lt (l.length / 2) l l.length=r at *
  have hlen:=hp.length_eq
  rw[← hlen] at hh h0
  have hroot:=hh.root ho
  have hsl:=swapL_len r 0 (r.length - 1)
  have hdp:=downL_perm (lt:=lt) r.length (swapL r 0 (r.length - 1)) 0 (r.length - 1) (by omega)
  have hout:=downL_out (lt:=lt) r.length (swapL r 0 (r.length - 1)) 0 (r.length - 1) (by omega) (r.length - 1) (Nat.le_refl _)
  rw[swapL_get r (by omega) (by omega),if_pos rfl] at hout
  have hdl:=hdp.length_eq
  have hsp:=swapL_perm r (i:=0) (j:=r.length - 1) (by omega) (by omega)
  constructor
  · intro y hy
    show lt y ((downL lt r.length (swapL r 0 (r.length - 1)) 0 (r.length - 1)).getD (r.length - 1) default)=false
    rw[hout]
    obtain ⟨j,hj,rfl⟩:=List.getElem_of_mem (hp.mem_iff.2 hy)
    have:=hroot j hj
    rwa [List.getD_eq_getElem?_getD,List.getElem?_eq_getElem hj,Option.getD_some] at this
  · show ((downL lt r.length (swapL r 0 (r.length - 1)) 0 (r.length - 1)).getD (r.length - 1) default::(downL lt r.length (swapL r 0 (r.length - 1)) 0 (r.length - 1)).take (r.length - 1)).Perm l
    generalize downL lt r.length (swapL r 0 (r.length - 1)) 0 (r.length - 1)=d at *
    have hd:d=d.take (r.length - 1)++[d.getD (r.length - 1) default]:=by
      have h1:d.drop (r.length - 1)=[d.getD (r.length - 1) default]:=by
        rw[List.drop_eq_getElem_cons (by omega),List.drop_eq_nil_of_le (by omega),List.getD_eq_getElem?_getD,List.getElem?_eq_getElem (by omega),Option.getD_some]
      rw[← h1,List.take_append_drop]
    exact ((List.perm_append_comm (l₁:=[d.getD (r.length - 1) default]) (l₂:=d.take (r.length - 1))).trans (by rw[← hd])).trans (hdp.trans (hsp.trans hp))
end
end T

