import Derived.Test.YtfoopmojjjpapaaGreatX27
import Derived.Test.YtfoopmojjjpapaaGreatX26
set_option linter.all false
set_option maxHeartbeats 0
set_option maxRecDepth 20000
open Bool renaming and_eq_true→bc
open Option renaming isNone_none→QX
open Nat renaming reduceBEq→s6
open Go Go.Am Go.Proofs
namespace T
def ab7(xs:List Int)(h:0<xs.length)(hl:xs.length<549755813888):Holds Tryz.prog 69 [.tree 1 (ints xs)] [] (.ref 0 1 0 xs.length) [.arr 1 (ints xs)]:=by
 refine Holds.aM 8 0 [.tmp 2] Tryz.func69 ?_;((repeat'(first|refine Vb @Hw ?_|(refine Xi ?_ ?_<;>try intro ht)|exact Xx|fail)))
 exact Xw false [1] X0
def Gi(eA:List Bool)(r:Int):Bool:=eA.getD r.toNat false
def Cut(eA:List Bool)(a b:List Int):Prop:=b.length=a.length/\∀ i:Nat,b.getD i 0=if Gi eA i=true then a.getD i 0 else 0
def Cut.add{eA:List Bool}{a b:List Int}(h:Cut eA a b){r c:Int}(hr:0<=r):Cut eA (ja a r c) (if Gi eA r=true then ja b r c else b):=by
 have eV:((r.toNat:Nat):Int)=r:=Int.toNat_of_nonneg hr;refine⟨by split<;>simp only[ja,List.length_set]<;>exact h.1,λi=>?_⟩;have hi:=h.2 i;have xf:=h.2 r.toNat;rw[eV]at xf;by_cases hk:Gi eA r=true
 ·rw[if_pos hk];rw[if_pos hk]at xf;rw[ja,ja,Af,Af,xf,h.1];by_cases qR:r.toNat=i/\i<a.length
  ·rw[if_pos qR,if_pos qR,if_pos];rw[<- qR.1,eV];exact hk
  ·rw[if_neg qR,if_neg qR];exact hi
 ·rw[if_neg hk,ja,Af];by_cases qR:r.toNat=i/\i<a.length
  ·rw[if_pos qR];rw[<- qR.1,eV,if_neg hk]at hi;rw[<- qR.1,eV,if_neg hk];exact hi
  ·rw[if_neg qR];exact hi
def akN{a b c:Pr}(h:oE a b<0)(k:oE b c<0):oE a c<0:=by
 rw[M6]at *;omega
def akO{m:ah}{q q':Option Pr}(h:∀ y,q'=some y->∃ x,q=some x/\(∀ c,oE x c<0->oE y c<0)):∀ {l:List Pr},gd m q l=true->gd m q' l=true
 |[],_=>by cases q'<;>rfl
 |c::r,hl=>by
  rw[gd.eq_def]at hl ⊢;simp only[bc]at hl ⊢;refine⟨⟨hl.1.1,?_⟩,hl.2⟩;cases q' with
  |none=>rfl
  |some y =>
   obtain⟨x,rfl,hx⟩:=h y rfl;have:=hl.1.2;simp only[decide_eq_true_eq]at this ⊢;exact hx c this
def MS{m:ah}(p:Pr->Bool):∀ {l:List Pr} {q:Option Pr},gd m q l=true->gd m q (l.filter p)=true
 |[],q,h=>h
 |c::r,q,h=>by
  rw[gd.eq_def]at h;simp only[bc]at h;rw[List.filter_cons];split
  ·rw[gd.eq_def];simp only[bc];exact⟨h.1,MS p h.2⟩
  ·refine akO (q:=some c) (λy hy=>⟨c,rfl,λd hd=>?_⟩) (MS p h.2);subst hy;have:=h.1.2;simp only[decide_eq_true_eq]at this;exact akN this hd
def akP(xs:List Int)(hl:xs.length<549755813888):Holds Tryz.prog 69 [.tree 1 (ints xs)] [] (.tree 1 (ints xs)) []:=by
 rcases Nat.eq_zero_or_pos xs.length with h|h
 ·obtain rfl:=List.eq_nil_of_length_eq_zero h;refine Holds.empty (pre:=[]) (post:=[]) (λa cap=>?_);rw[List.nil_append];cases a with
  |none =>
   refine Holds.aM 8 0 [.tmp 2] Tryz.func69 ?_;((repeat'(first|refine Vb @QX.{0} ?_|(refine Xi ?_ ?_<;>try intro ht)|exact Xx|fail)))
   all_goals first|(refine iJ [] true Hg trivial Hg Hg ?_;exact a7.nil)|(exfalso;simp at *;done)
  |some ad =>
   refine Holds.aM 8 0 [.tmp 2] Tryz.func69 ?_;refine LV Hg ?_;intro K hK;simp(disch:=omega)only[Ac,↓Pc,simprocAttr];refine hK _ ?_;clear hK K;refine Wk ?_;intro Q hn he;((refine LV Hg ?_);intro K hK;simp(disch:=omega)only[Ac,↓Pc,simprocAttr,Option.isNone_some];skip);(refine hK _ ?_;clear hK K)
   refine S6 (t:=false) (by simp only[ui,Lc,↓reduceIte,Nat.reduceEqDiff,s6]) (λht=>by simp at ht) (λht=>?_);refine S5 ?_;refine hn _ ?_;(try clear hn;try clear he;try clear Q;clear ht)
   refine bP (aD.TF 0 1 (by(simp only[ui,wu,Rc,↓reduceIte,Nat.reduceEqDiff,s6,ev,eS,St.put];exact rfl))) ?_;refine Vb (X3 @List.length_nil.{0} @List.append_nil.{0} @List.all_nil.{0}) ?_;refine iJ [] true Hg trivial Hg Hg ?_;exact a7.cN (rows:=[]) rfl G9 rfl (j7 Hg) G9
 ·refine Holds.aM 8 0 [.tmp 2] Tryz.func69 ?_;((repeat'(first|refine Vb @Hw ?_|(refine Xi ?_ ?_<;>try intro ht)|exact Xx|fail)))
  exact Xw true [] X0
def akQ(xs:List (List Bool))(h:0<xs.length)(hl:xs.length<549755813888):Holds Tryz.prog 130 [.tree 1 (rowsOf aA xs)] [] (.ref 0 1 0 xs.length) [.arr 1 (rowsOf aA xs)]:=by
 refine Holds.aM 8 0 [.tmp 2] Tryz.func130 ?_;((repeat'(first|refine Vb X0 ?_|(refine Xi ?_ ?_<;>try intro ht)|exact Xx|fail)))
 exact Xw false [1] X0
def akR:Holds Tryz.prog 69 [.lit (.slice none 0 0)] [] (.lit (.slice none 0 0)) []:=by
 refine Holds.aM 8 0 [.tmp 2] Tryz.func69 ?_;((repeat'(first|refine Vb @QX.{0} ?_|(refine Xi ?_ ?_<;>try intro ht)|exact Xx|fail)))
 all_goals first|exact aN rfl rfl|(exfalso;simp at *;done)
def akS(left:List (List Bool))(c o:Nat)(hc:c<left.length)(ho:o<(left.getD c default).length)(hl:left.length<549755813888)(hw:(left.getD c default).length<549755813888):
  Holds Tryz.prog 97 [.tree 1 (rowsOf aA left),QM c,QM o] [] (.tree 1 (rowsOf aA (cM left c o))) []:=by
 unfold cM;have iP:∀ r:List AV,((rowsOf aA left).set c r)[c]?=some r:=λr=>by rw[List.getElem?_set,if_pos rfl,if_pos (by simpa [rowsOf] using hc)]
 have jE:∀ r:List AV,((rowsOf aA left).set c r).length=left.length:=λr=>by simp[rowsOf]
 generalize eV:left.getD c default=row at *;have F1:(List.replicate row.length false).length=row.length:=List.length_replicate;refine Holds.aM 26 0 [.tmp 6] Tryz.func97 ?_;((refine Vb X0 ?_)<;>try with_reducible intro K hK)
 (refine Xn [] (akQ left Ey hl) ?_;simp(disch:=omega)only[Ac,↓Pc,simprocAttr,Nat.sub_self,Nat.sub_zero])
 ((try revert hK K);(refine Vb (X5 @eV @aA.eq_1 @CZ @iP (X3 @jE @F1 @uj)) ?_))
 refine iJ [] true Hg trivial Hg Hg (.snap _ _ rfl ?_);have cV:(re row.length o).length=row.length:=OI _ _;exact akT (k:=1) (r:=re row.length o) hc (by rw[cV];rfl) (j7 Hg) rfl (j7 Hg)
end T

