import Derived.Test.YtdipcmigdbnheaaGreatX16
import Derived.Test.YtdipcmigdbnheaaGreatX11
import Derived.Test.YtdipcmigdbnheaaGreatX06
set_option linter.unusedVariables false
set_option linter.unusedSimpArgs false
set_option linter.unnecessarySimpa false
set_option linter.unusedSectionVars false
set_option maxHeartbeats 64000000
set_option maxRecDepth 20000
open List renaming getD_eq_getElem?_getD→ay,getElem?_set→bO,length_set→bF,getElem?_eq_getElem→bm
open Option renaming getD_some→gw
open Nat renaming le_refl→aV
namespace T
section
variable {α:Type} [Inhabited α] (lt:α→α→Bool)
def gf (l:List α) (i j:Nat):List α:=(l.set i (l.getD j default)).set j (l.getD i default)
def gv (l:List α) (i n:Nat):Nat:=if 2 * i+2<n∧lt (l.getD (2 * i+2) default) (l.getD (2 * i+1) default)=true then 2 * i+2 else 2 * i+1
def gR:Nat→List α→Nat→Nat→List α
  | 0,l,_,_=>l
  | f+1,l,i,n=>if n≤2 * i+1 then l else if lt (l.getD (gv lt l i n) default) (l.getD i default)=true then gR f (gf l i (gv lt l i n)) (gv lt l i n) n else l
def kM:Nat→List α→Nat→List α
  | 0,l,_=>l
  | k+1,l,n=>kM k (gR lt n l k n) n
def A3 (l:List α):α × List α :=
  let r:=gR lt l.length (gf l 0 (l.length - 1)) 0 (l.length - 1)
  (r.getD (l.length - 1) default,r.take (l.length - 1))
end
section
variable {α:Type} {lt:α→α→Bool}
structure Ord (lt:α→α→Bool):Prop where
  JK:∀ a b,lt a b=true→lt b a=false
  trans:∀ a b c,lt b a=false→lt c b=false→lt c a=false
theorem Ord.JL (h:Ord lt) (a:α):lt a a=false:=by
  cases hh:lt a a
  · rfl
  · exact absurd ((h.JK a a hh).symm.trans hh) (by decide)
end
section
variable {α:Type} [Inhabited α] {lt:α→α→Bool}
theorem rG (l:List α) (i j:Nat):(gf l i j).length=l.length:=by unfold gf;simp
theorem A4 (l:List α) {i j:Nat} (hi:i<l.length) (hj:j<l.length) (k:Nat):(gf l i j).getD k default=if k=j then l.getD i default else if k=i then l.getD j default else l.getD k default:=by
  unfold gf
  simp only[ay,bO,bF]
  by_cases h1:j=k
  · subst h1;simp[hj]
  · by_cases h2:i=k
    · subst h2;simp[h1,Ne.symm h1,hi]
    · simp[h1,h2,Ne.symm h1,Ne.symm h2]
theorem SQ (l:List α) {i j:Nat} (hi:i<l.length) (hj:j<l.length):(gf l i j).Perm l:=by
  by_cases wS:i=j
  · subst wS
    have:gf l i i=l:=by
      apply List.ext_getElem?
      intro k
      unfold gf
      simp only[bO,bF,ay]
      by_cases h:i=k
      · subst h;simp[hi]
      · simp[h]
    rw[this]
  · unfold gf
    rw[ay,ay,bm hi,bm hj,gw,gw]
    exact List.set_set_perm hi hj
theorem C1 {l:List α} {i n:Nat} (h:¬ n≤2 * i+1):gv lt l i n<n:=by unfold gv;split<;>omega
theorem SS {l:List α} {i n:Nat}:i<gv lt l i n:=by unfold gv;split<;>omega
theorem FR:∀ (f:Nat) (l:List α) (i n:Nat),n≤l.length→(gR lt f l i n).Perm l
  | 0,l,i,n,_=>.refl _
  | f+1,l,i,n,hn=>by
    unfold gR
    split
    · exact .refl _
    · rename_i h
      split
      · have hk:=C1 (lt:=lt) (l:=l) h
        exact (FR f _ _ _ (by rw[rG];exact hn)).trans (SQ l (by omega) (by omega))
      · exact .refl _
theorem A5 (f:Nat) (l:List α) (i n:Nat) (hn:n≤l.length):(gR lt f l i n).length=l.length:=(FR f l i n hn).length_eq
theorem SU:∀ (f:Nat) (l:List α) (i n:Nat),n≤l.length→∀ k,n≤k→(gR lt f l i n).getD k default=l.getD k default
  | 0,l,i,n,_,k,_=>rfl
  | f+1,l,i,n,hn,k,hk=>by
    unfold gR
    split
    · rfl
    · rename_i h
      split
      · have bG:=C1 (lt:=lt) (l:=l) h
        rw[SU f _ _ _ (by rw[rG];exact hn) k hk,A4 l (by omega) (by omega),if_neg (by omega),if_neg (by omega)]
      · rfl
theorem JM:∀ (k:Nat) (l:List α) (n:Nat),n≤l.length→(kM lt k l n).Perm l
  | 0,l,n,_=>.refl _
  | k+1,l,n,hn=>by
    unfold kM
    exact (JM k _ n (by rw[A5 _ _ _ _ hn];exact hn)).trans (FR _ _ _ _ hn)
def HpX (lt:α→α→Bool) (l:List α) (s x n:Nat):Prop :=
  (∀ j,0<j→j<n→s≤(j - 1) / 2→(j - 1) / 2≠x→lt (l.getD j default) (l.getD ((j - 1) / 2) default)=false) ∧
  (∀ j,0<j→j<n→(j - 1) / 2=x→0<x→s≤(x - 1) / 2→lt (l.getD j default) (l.getD ((x - 1) / 2) default)=false)
def Hp (lt:α→α→Bool) (l:List α) (s n:Nat):Prop:=∀ j,0<j→j<n→s≤(j - 1) / 2→lt (l.getD j default) (l.getD ((j - 1) / 2) default)=false
theorem SV (ho:Ord lt):∀ (f:Nat) (l:List α) (s x n:Nat),n≤l.length→n≤f+x→s≤x→HpX lt l s x n→Hp lt (gR lt f l x n) s n
  | 0,l,s,x,n,hn,hf,hs,hh=>by
    unfold gR
    intro j h0 hj hp
    exact hh.1 j h0 hj hp (by omega)
  | f+1,l,s,x,n,hn,hf,hs,hh=>by
    unfold gR
    split
    · rename_i h
      intro j h0 hj hp
      exact hh.1 j h0 hj hp (by omega)
    · rename_i h
      have hk:=C1 (lt:=lt) (l:=l) h
      have hg:=SS (lt:=lt) (l:=l) (i:=x) (n:=n)
      have xh:∀ j,0<j→j<n→(j - 1) / 2=x→lt (l.getD j default) (l.getD (gv lt l x n) default)=false:=by
        intro j h0 hj hp
        have tJ:j=2 * x+1∨j=2 * x+2:=by omega
        unfold gv
        split
        · rename_i hc
          rcases tJ with rfl | rfl
          · exact ho.JK _ _ hc.2
          · exact ho.JL _
        · rename_i hc
          rcases tJ with rfl | rfl
          · exact ho.JL _
          · cases hh:lt (l.getD (2 * x+2) default) (l.getD (2 * x+1) default)
            · rfl
            · exact absurd ⟨hj,hh⟩ hc
      have bT:(gv lt l x n - 1) / 2=x:=by unfold gv;split<;>omega
      split
      · rename_i aT
        refine SV ho f _ s _ n (by rw[rG];exact hn) (by omega) (by omega) ⟨fun j h0 hj hp b8=>?_,fun j h0 hj JN _ ot=>?_⟩
        · rw[A4 l (by omega) (by omega),A4 l (by omega) (by omega)]
          by_cases n8:(j - 1) / 2=x
          ·
            rw[if_neg (show ¬ (j - 1) / 2=gv lt l x n by omega),if_pos n8]
            by_cases wo:j=gv lt l x n
            · rw[if_pos wo];exact ho.JK _ _ aT
            · rw[if_neg wo,if_neg (by omega)];exact xh j h0 hj n8
          · rw[if_neg (show ¬ j=gv lt l x n by omega),if_neg b8,if_neg n8]
            by_cases JO:j=x
            · rw[if_pos JO]
              have:=hh.2 (gv lt l x n) (by omega) hk bT (by omega) (by omega)
              rw[JO];exact this
            · rw[if_neg JO];exact hh.1 j h0 hj hp n8
        · rw[A4 l (by omega) (by omega),A4 l (by omega) (by omega),bT,if_neg (show ¬ j=gv lt l x n by omega),if_neg (show ¬ j=x by omega),if_neg (show ¬ x=gv lt l x n by omega),if_pos rfl]
          have:=hh.1 j h0 hj (by omega) (by omega)
          rw[JN] at this
          exact this
      · rename_i aT
        have adD:lt (l.getD (gv lt l x n) default) (l.getD x default)=false:=by simpa using aT
        intro j h0 hj hp
        by_cases n8:(j - 1) / 2=x
        · rw[n8];exact ho.trans _ _ _ adD (xh j h0 hj n8)
        · exact hh.1 j h0 hj hp n8
theorem SW (ho:Ord lt):∀ (k:Nat) (l:List α) (n:Nat),n≤l.length→Hp lt l k n→Hp lt (kM lt k l n) 0 n
  | 0,l,n,_,h=>h
  | k+1,l,n,hn,h=>by
    unfold kM
    refine SW ho k _ n (by rw[A5 _ _ _ _ hn];exact hn) (SV ho n l k k n hn (by omega) (aV _) ⟨fun j h0 hj hp b8=>h j h0 hj (by omega),fun j h0 hj hp hx hs=>?_⟩)
    omega
theorem Hp.root (ho:Ord lt) {l:List α} {n:Nat} (h:Hp lt l 0 n):∀ j,j<n→lt (l.getD j default) (l.getD 0 default)=false:=by
  intro j
  induction j using Nat.strongRecOn with
  | ind j ih =>
    intro hj
    by_cases h0:j=0
    · subst h0;exact ho.JL _
    · exact ho.trans _ _ _ (ih ((j - 1) / 2) (by omega) (by omega)) (h j (by omega) hj (by omega))
theorem adE (ho:Ord lt) (l:List α):Hp lt (kM lt (l.length / 2) l l.length) 0 l.length :=
  SW ho _ l _ (aV _) (fun j h0 hj hp=>by omega)
theorem adF (ho:Ord lt) {l:List α} (h0:0<l.length):(∀ y∈l,lt y (A3 lt (kM lt (l.length / 2) l l.length)).1=false)∧((A3 lt (kM lt (l.length / 2) l l.length)).1::(A3 lt (kM lt (l.length / 2) l l.length)).2).Perm l:=by
  have hh:=adE ho l
  have hp:=JM (lt:=lt) (l.length / 2) l l.length (aV _)
  generalize kM lt (l.length / 2) l l.length=r at *
  have hlen:=hp.length_eq
  rw[← hlen] at hh h0
  have adG:=hh.root ho
  have l8:=rG r 0 (r.length - 1)
  have SX:=FR (lt:=lt) r.length (gf r 0 (r.length - 1)) 0 (r.length - 1) (by omega)
  have sE:=SU (lt:=lt) r.length (gf r 0 (r.length - 1)) 0 (r.length - 1) (by omega) (r.length - 1) (aV _)
  rw[A4 r (by omega) (by omega),if_pos rfl] at sE
  have vg:=SX.length_eq
  have ot:=SQ r (i:=0) (j:=r.length - 1) (by omega) (by omega)
  constructor
  · intro y hy
    show lt y ((gR lt r.length (gf r 0 (r.length - 1)) 0 (r.length - 1)).getD (r.length - 1) default)=false
    rw[sE]
    obtain ⟨j,hj,rfl⟩:=List.getElem_of_mem (hp.mem_iff.2 hy)
    have:=adG j hj
    rwa [ay,bm hj,gw] at this
  · show ((gR lt r.length (gf r 0 (r.length - 1)) 0 (r.length - 1)).getD (r.length - 1) default::(gR lt r.length (gf r 0 (r.length - 1)) 0 (r.length - 1)).take (r.length - 1)).Perm l
    generalize gR lt r.length (gf r 0 (r.length - 1)) 0 (r.length - 1)=d at *
    have hd:d=d.take (r.length - 1)++[d.getD (r.length - 1) default]:=by
      have h1:d.drop (r.length - 1)=[d.getD (r.length - 1) default]:=by
        rw[List.drop_eq_getElem_cons (by omega),List.drop_eq_nil_of_le (by omega),ay,bm (by omega),gw]
      rw[← h1,List.take_append_drop]
    exact ((List.perm_append_comm (l₁:=[d.getD (r.length - 1) default]) (l₂:=d.take (r.length - 1))).trans (by rw[← hd])).trans (SX.trans (ot.trans hp))
end
end T
namespace Go.Am
variable {P:Program} {N n0:Nat} {σ:St}
theorem il.mono {P:Program} {f:FuncId} {args:List AV} {aa:List Ob} {iC SY:AV→List Ob→Prop} (h:il P f args aa iC) (hp:∀ r os,iC r os→SY r os):il P f args aa SY:=by
  refine⟨h.1,fun γ l0 m0=>Calls.mono (h.2 γ l0 m0) ?_⟩
  rintro e w' ⟨res,bh,cv,aI,h0,h1⟩
  exact⟨res,bh,cv,aI,hp _ _ h0,h1⟩
end Go.Am

