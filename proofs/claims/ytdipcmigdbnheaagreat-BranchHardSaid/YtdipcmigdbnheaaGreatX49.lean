import Derived.Test.YtdipcmigdbnheaaGreatX25
import Derived.Test.YtdipcmigdbnheaaGreatX39
set_option linter.unusedVariables false
set_option linter.unusedSimpArgs false
set_option linter.unnecessarySimpa false
set_option linter.unusedSectionVars false
set_option maxHeartbeats 64000000
set_option maxRecDepth 20000
open List renaming map_append→fB,map_set→p6,mem_map→b7,getElem?_eq_some_iff→aS,getElem?_set_ne→bu,map_cons→cR,perm_middle→AD,append_assoc→cI,Perm→qa,getD_eq_getElem?_getD→ay,length_set→bm,mem_append_left→Gr,mem_cons→bZ,not_mem_nil→kC,getElem?_eq_getElem→bI
open Nat renaming le_refl→aH
open Int renaming le_refl→eo,le_trans→wH
open Go Go.Am
namespace T
structure QS where
  n:Nat
  p:Nat
  R:List Rw
  s:DS
def Bz (r:Rw):Nd:=⟨r.c,(r.zA.map (·.2)).getD [],(r.mv.map (·.2)).getD [],[],[]⟩
def jF (f:List (List Bool)→QS→QS) (left:List (List Bool)) (c:Nat):Nat→Nat→QS→Nat→List Int→QS × Nat × List Int
  | 0,_,g,q,ks=>(g,q,ks)
  | w+1,o,g,q,ks =>
    jF f left c w (o+1) ⟨(f (bF left c o) ⟨g.n+1,g.p,g.R,g.s⟩).n+2,(f (bF left c o) ⟨g.n+1,g.p,g.R,g.s⟩).p,(f (bF left c o) ⟨g.n+1,g.p,g.R,g.s⟩).R,(f (bF left c o) ⟨g.n+1,g.p,g.R,g.s⟩).s⟩ ((f (bF left c o) ⟨g.n+1,g.p,g.R,g.s⟩).n+1) (ks++[(g.R.length:Int)])
def Ia (c j:Nat) (r:QS × Nat × List Int):QS:=⟨r.1.n,r.1.p,r.1.R.set j ⟨(c:Int),some (r.2.1,r.2.2),none⟩,sX c j (r.1.s,r.2.2)⟩
def kj (m:ah):Nat→Nat→List (List Bool)→QS→QS
  | 0,_,_,g=>g
  | f+1,c,left,g =>
    if g.s.bO≤eO m left then ⟨g.n+2,g.n+1,g.R++[cD],{ g.s with nodes:=g.s.nodes++[ld []],cu:=min g.s.cu (eO m left) }⟩
    else if cE left c=left.length then ⟨g.n+3,g.n+1,g.R++[cD],{ g.s with nodes:=g.s.nodes++[ld []],plan:=jl left,bO:=eO m left,cu:=min g.s.cu (eO m left) }⟩
    else if g.s.cw=0∨g.s.room<(left.getD (cE left c) default).length then ⟨g.n+2,g.n+1,g.R++[cD],{ g.s with nodes:=g.s.nodes++[ld []],whole:=false,cu:=min g.s.cu (eO m left) }⟩
    else Ia (cE left c) g.R.length (jF (kj m f (cE left c+1)) left (cE left c) (left.getD (cE left c) default).length 0 ⟨g.n+4,g.n+1,g.R++[cD],kk left (cE left c) (eO m left) g.s⟩ (g.n+3) [])
def qH (g:QS):Prop:=g.s.nodes=g.R.map Bz
theorem qH.len {g:QS} (h:qH g):g.s.nodes.length=g.R.length:=by rw[h,List.length_map]
theorem qH.lf {g:QS} (h:qH g):g.s.nodes++[ld []]=(g.R++[cD]).map Bz:=by rw[h,fB];rfl
theorem Oi {f:List (List Bool)→QS→QS} {f':List (List Bool)→DS→DS} (hf:∀ left g,qH g→qH (f left g)∧(f left g).s=f' left g.s) (left:List (List Bool)) (c:Nat):∀ (w o:Nat) (g:QS) (q:Nat) (ks:List Int),qH g →
    qH (jF f left c w o g q ks).1∧((jF f left c w o g q ks).1.s,(jF f left c w o g q ks).2.2)=ga f' left c w o g.s ks
  | 0,o,g,q,ks,h=>⟨h,rfl⟩
  | w+1,o,g,q,ks,h=>by
    obtain ⟨a,b⟩:=hf (bF left c o) ⟨g.n+1,g.p,g.R,g.s⟩ h
    rw[jF,ga]
    have:=Oi hf left c w (o+1) ⟨(f (bF left c o) ⟨g.n+1,g.p,g.R,g.s⟩).n+2,(f (bF left c o) ⟨g.n+1,g.p,g.R,g.s⟩).p,(f (bF left c o) ⟨g.n+1,g.p,g.R,g.s⟩).R,(f (bF left c o) ⟨g.n+1,g.p,g.R,g.s⟩).s⟩ ((f (bF left c o) ⟨g.n+1,g.p,g.R,g.s⟩).n+1) (ks++[(g.R.length:Int)]) a
    refine⟨this.1,this.2.trans ?_⟩
    dsimp only
    rw[b,h.len]
theorem Oh (m:ah):∀ (f c:Nat) (left:List (List Bool)) (g:QS),qH g→qH (kj m f c left g)∧(kj m f c left g).s=ns m f c left g.s
  | 0,c,left,g,h=>⟨h,rfl⟩
  | f+1,c,left,g,h=>by
    rw[kj,ns]
    split
    · exact⟨h.lf,rfl⟩
    split
    · exact⟨h.lf,rfl⟩
    split
    · exact⟨h.lf,rfl⟩
    obtain ⟨a,b⟩:=Oi (fun aaG g2 h2=>Oh m f (cE left c+1) aaG g2 h2) left (cE left c) (left.getD (cE left c) default).length 0 ⟨g.n+4,g.n+1,g.R++[cD],kk left (cE left c) (eO m left) g.s⟩ (g.n+3) [] h.lf
    dsimp only at b
    rw[← b,← h.len]
    refine⟨?_,rfl⟩
    unfold qH Ia sX at *
    dsimp only at *
    rw[a,p6];rfl
end T
namespace T
theorem Fc.iG {F F':List (Nat × Ob)} {os:List Ob} (h:Fc F os) {i:Nat} {y:Ob} (hk:F'.map (·.1)=F.map (·.1)) (hy:(i,y)∈F') (hF:∀ b∈F',b.1≠i→b∈F):Fc F' (os.set i y):=by
  have bR:(F'.map (·.1)).Nodup:=by rw[hk];exact h.nd
  refine⟨fun b hb=>?_,bR⟩
  by_cases e:b.1=i
  · have h1:=Et bR b hb
    have h2:=Et bR _ hy
    rw[e] at h1
    have:b=(i,y):=by dsimp only at h2;rw[h1] at h2;exact Option.some.inj h2
    subst this
    have hi:i∈F.map (·.1):=by rw[← hk];exact b7.2 ⟨_,hy,rfl⟩
    obtain ⟨c,hc,e2⟩:=b7.1 hi
    have bj:=(aS.1 (h.at_ c hc)).1
    rw[List.getElem?_set,if_pos rfl,if_pos (by rw[← e2];exact bj)]
  · rw[bu (Ne.symm e)]
    exact h.at_ b (hF b hb e)
def xu:List AV:=[.ptr 8 0 0,.ptr 5 0 0,.ptr 0 0 0,.ptr 1 0 0,.ptr 2 0 0,.ptr 7 0 0,.ptr 6 0 0,.ptr 9 0 0]
def df (pv:AV) (t0:Int) (s:DS):AV:=if s.bO<t0 then .tree 1 (ints s.plan) else pv
section
variable (dn:FuncId) (m:ah) (left:List (List Bool)) (pv:AV) (t0:Int)
def rR (s:DS):Ob:=.var [df pv t0 s,.lit (.int .i64 s.bO),.lit (.int .i64 s.cu),.lit (.slice none 0 0)]
def bB (g:QS):List (Nat × Ob):=[(0,.var (ar m)),(1,rR pv t0 g.s),(2,.var [.lit (.int .i64 g.s.cw)]),(4,.arr 1 (rowsOf aE left)),(5,.var [.ref 4 1 0 left.length]),(6,.var [.lit (.bool g.s.whole)]),(7,.var [.lit (.int .i64 g.s.room)]),(9,.var [.fn dn xu]),(8,.var [.ref g.p 5 0 g.R.length])]
def qB (g:QS) (C:List (Nat × Ob)):List (Nat × Ob):=bB dn m left pv t0 g++(g.p,.arr 5 (rowsOf b6 g.R))::(eY g.R++C)
end
variable {dn:FuncId} {m:ah} {left left':List (List Bool)} {pv:AV} {t0:Int}
theorem vP (g:QS):(bB dn m left pv t0 g).map (·.1)=[0,1,2,4,5,6,7,9,8]:=rfl
theorem Oj {g g':QS} {C C':List (Nat × Ob)} (hp:g'.p=g.p) (hR:(eY g'.R++C').map (·.1)=(eY g.R++C).map (·.1)):(qB dn m left' pv t0 g' C').map (·.1)=(qB dn m left pv t0 g C).map (·.1):=by
  unfold qB
  rw[fB,fB,vP,vP,cR,cR,hR]
  dsimp only
  rw[hp]
theorem pN {g:QS} {b:Nat × Ob} {C:List (Nat × Ob)}:(b::qB dn m left pv t0 g C).Perm (qB dn m left pv t0 g (b::C)):=by
  unfold qB
  have h:∀ (A D:List (Nat × Ob)) (x:Nat × Ob),(b::(A++x::(D++C))).Perm (A++x::(D++b::C)):=fun A D x=>by
    have:=(AD (a:=b) (l₁:=A++x::D) (l₂:=C)).symm
    simpa [cI] using this
  exact h _ _ _
theorem Ok {g:QS} {C:List (Nat × Ob)} {p' k n:Nat} {s':DS} (h:FK (qB dn m left pv t0 g C) n) (h1:n≤p') (h2:p'<k):FK (qB dn m left' pv t0 ⟨k,p',g.R++[cD],s'⟩ C) k:=by
  have h3:=((h.perm AD).drop.add (i:=p') (x:=.arr 5 (rowsOf b6 (g.R++[cD]))) h1 h2).perm (AD (l₁:=bB dn m left pv t0 g)).symm
  refine h3.keys ?_
  unfold qB
  rw[fB,fB,vP,vP,cR,cR]
  dsimp only
  rw[show eY (g.R++[cD])=eY g.R by rw[BC,Eu];unfold lJ cD kO mO;simp]
theorem aaH {g:QS} {C:List (Nat × Ob)} {j n:Nat} {s':DS} {k:Nat} (hj:j<g.R.length) (hl:g.R.getD j default=cD) (r:Rw) (h:FK (lJ r++qB dn m left pv t0 g C) n):FK (qB dn m left' pv t0 ⟨k,g.p,g.R.set j r,s'⟩ C) n:=by
  have hp:=Ol hj r
  rw[hl] at hp
  have e:lJ cD++eY (g.R.set j r)=eY (g.R.set j r):=rfl
  rw[e] at hp
  have h1:(lJ r++(bB dn m left pv t0 g++(g.p,.arr 5 (rowsOf b6 g.R))::(eY g.R++C))).Perm (bB dn m left pv t0 g++(g.p,.arr 5 (rowsOf b6 g.R))::(eY (g.R.set j r)++C)):=by
    have a1:=Ev (lJ r) (bB dn m left pv t0 g++[(g.p,.arr 5 (rowsOf b6 g.R))]) (eY g.R++C)
    simp only[cI,List.cons_append,List.nil_append] at a1
    refine a1.trans (qa.append_left _ (qa.cons _ ?_))
    rw[← cI]
    exact qa.append_right C hp.symm
  refine (h.perm h1).keys ?_
  unfold qB
  rw[fB,fB,vP,vP,cR,cR]
structure DO (dn:FuncId) (m:ah) (left left':List (List Bool)) (pv:AV) (t0:Int) (C:List (Nat × Ob)) (g r:QS):Prop where
  lt:g.R.length<r.R.length
  pre:∀ i,i<g.R.length→r.R.getD i default=g.R.getD i default
  ol:g.n≤r.n
  fk:FK (qB dn m left' pv t0 r C) r.n
theorem FK.lf {g:QS} {C:List (Nat × Ob)} {n:Nat} {s':DS} {k:Nat} (h:FK (qB dn m left pv t0 g C) n):FK (qB dn m left' pv t0 ⟨k,g.p,g.R,s'⟩ C) n:=h.keys (Oj rfl rfl)
theorem Om {R Z:List Rw} {i:Nat} (h:i<R.length):(R++Z).getD i default=R.getD i default:=by
  rw[ay,List.getElem?_append_left h,ay]
theorem NW (R:List Rw):(R++[cD]).getD R.length default=cD:=by rw[ay,List.getElem?_append_right (aH _),Nat.sub_self];rfl
theorem aaI {R:List Rw} {i j:Nat} (h:i≠j) (r:Rw):(R.set j r).getD i default=R.getD i default:=by
  rw[ay,bu (Ne.symm h),ay]
theorem On {f:List (List Bool)→QS→QS} {left0:List (List Bool)} {c:Nat} {C:List (Nat × Ob)} (x:Ob) (hf:∀ (o:Nat) (g:QS) (C':List (Nat × Ob)),FK (qB dn m left pv t0 g C') g.n→DO dn m left left pv t0 C' g (f (bF left0 c o) g)) :
    ∀ (w o:Nat) (g:QS) (q:Nat) (ks:List Int),FK (qB dn m left pv t0 g ((q,x)::C)) g.n →
    g.R.length≤(jF f left0 c w o g q ks).1.R.length∧(∀ i,i<g.R.length→(jF f left0 c w o g q ks).1.R.getD i default=g.R.getD i default)∧g.n≤(jF f left0 c w o g q ks).1.n∧FK (qB dn m left pv t0 (jF f left0 c w o g q ks).1 (((jF f left0 c w o g q ks).2.1,x)::C)) (jF f left0 c w o g q ks).1.n
  | 0,o,g,q,ks,h=>⟨aH _,fun _ _=>rfl,aH _,h⟩
  | w+1,o,g,q,ks,h=>by
    have h1:=hf o ⟨g.n+1,g.p,g.R,g.s⟩ ((q,x)::C) (h.lf.mono (Nat.le_add_right _ _))
    rw[jF]
    generalize f (bF left0 c o) ⟨g.n+1,g.p,g.R,g.s⟩=r at *
    obtain ⟨b1,b2,b3,b4⟩:=h1
    dsimp only at b1 b2 b3
    have h2:FK (qB dn m left pv t0 ⟨r.n+2,r.p,r.R,r.s⟩ ((r.n+1,x)::C)) (r.n+2) :=
      (((b4.perm pN.symm).drop.add (i:=r.n+1) (x:=x) (by omega) (k:=r.n+2) (by omega)).perm pN).lf
    obtain ⟨i1,i2,i3,i4⟩:=On x hf w (o+1) ⟨r.n+2,r.p,r.R,r.s⟩ (r.n+1) (ks++[(g.R.length:Int)]) h2
    dsimp only at i1 i2 i3
    exact⟨by omega,fun i hi=>(i2 i (by omega)).trans (b2 i hi),by omega,i4⟩
theorem Ej {N:Nat}:∀ (f c:Nat) (left0:List (List Bool)) (g:QS) (C:List (Nat × Ob)),left0.length=N→N+1≤f+c→c≤N→FK (qB dn m left pv t0 g C) g.n→DO dn m left left pv t0 C g (kj m f c left0 g)
  | 0,c,left0,g,C,hl,BD,ca,h=>by omega
  | f+1,c,left0,g,C,hl,BD,ca,h=>by
    have base:∀ (k:Nat) (s':DS),g.n+2≤k→DO dn m left left pv t0 C g ⟨k,g.n+1,g.R++[cD],s'⟩:=fun k s' hk=>⟨by simp,fun i hi=>Om hi,by show g.n≤k;omega,Ok h (by omega) (by omega)⟩
    rw[kj]
    split
    · exact base _ _ (aH _)
    split
    · exact base _ _ (by omega)
    split
    · exact base _ _ (aH _)
    rename_i he _
    obtain ⟨g1,g2,g3,g4⟩:=zw (left:=left0) _ c rfl
    have hsk:cE left0 c<N:=by have:=g2 (by omega);omega
    have hq:FK (qB dn m left pv t0 ⟨g.n+4,g.n+1,g.R++[cD],kk left0 (cE left0 c) (eO m left0) g.s⟩ ((g.n+3,.gone)::C)) (g.n+4):=by
      have:=Ok (left':=left) (s':=kk left0 (cE left0 c) (eO m left0) g.s) (p':=g.n+1) (k:=g.n+3) h (by omega) (by omega)
      exact ((this.add (i:=g.n+3) (x:=.gone) (aH _) (k:=g.n+4) (by omega)).perm pN).lf
    obtain ⟨i1,i2,i3,i4⟩:=On (dn:=dn) (m:=m) (left:=left) (pv:=pv) (t0:=t0) (left0:=left0) (c:=cE left0 c) (C:=C) (f:=kj m f (cE left0 c+1)) .gone (fun o g' C' hh=>Ej f (cE left0 c+1) (bF left0 (cE left0 c) o) g' C' (by unfold bF;simpa using hl) (by omega) (by omega) hh) (left0.getD (cE left0 c) default).length 0 _ (g.n+3) [] hq
    generalize jF (kj m f (cE left0 c+1)) left0 (cE left0 c) (left0.getD (cE left0 c) default).length 0 ⟨g.n+4,g.n+1,g.R++[cD],kk left0 (cE left0 c) (eO m left0) g.s⟩ (g.n+3) []=r at *
    dsimp only at i1 i2 i3
    have gI:(g.R++[cD]).length=g.R.length+1:=by simp
    unfold Ia
    refine⟨by dsimp only;rw[bm];omega,fun i hi=>?_,by dsimp only;omega,?_⟩
    · dsimp only
      rw[aaI (by omega),i2 i (by omega)];exact Om hi
    · have xC:r.1.R.getD g.R.length default=cD:=by rw[i2 _ (by omega)];exact NW _
      refine aaH (left:=left) (g:=r.1) (C:=C) (by omega) xC _ ?_
      exact (i4.perm pN.symm).keys rfl
end T
namespace T
variable {dn:FuncId} {m:ah} {left left':List (List Bool)} {pv:AV} {t0:Int} {os:List Ob} {g g':QS} {C:List (Nat × Ob)}
theorem vO (h:Fc (qB dn m left pv t0 g C) os) {i:Nat} {y:Ob} (hp:g'.p=g.p:=by rfl) (hR:g'.R=g.R:=by rfl) (hy:(i,y)∈bB dn m left' pv t0 g':=by simp[bB,rR,df]) (hb:∀ b∈bB dn m left' pv t0 g',b.1≠i→b∈bB dn m left pv t0 g:=by (intro b hb dL;simp only[bB,List.mem_cons,List.not_mem_nil,or_false] at hb ⊢;rcases hb with rfl|rfl|rfl|rfl|rfl|rfl|rfl|rfl|rfl<;>first|exact absurd rfl dL|simp[rR,df])):Fc (qB dn m left' pv t0 g' C) (os.set i y):=by
  refine h.iG (Oj hp (by rw[hR])) (List.mem_append_left _ hy) fun b qI dL=>?_
  unfold qB at qI ⊢
  rcases List.mem_append.1 qI with h1 | h1
  · exact List.mem_append_left _ (hb b h1 dL)
  · rw[hp,hR] at h1
    exact List.mem_append_right _ h1
theorem k9 (h:Fc (qB dn m left pv t0 g C) os) {b:Nat × Ob} (hb:b∈bB dn m left pv t0 g):os[b.1]?=some b.2:=h.at_ b (Gr _ hb)
theorem HV (h:Fc (qB dn m left pv t0 g C) os):os[g.p]?=some (.arr 5 (rowsOf b6 g.R)):=h.at_ (g.p,_) (by unfold qB;simp)
theorem Bt (h:Fc (qB dn m left pv t0 g C) os) {b:Nat × Ob} (hb:b∈C):os[b.1]?=some b.2:=h.at_ b (by unfold qB;simp[hb])
theorem NV (h:Fc (qB dn m left pv t0 g C) os) {b:Nat × Ob} (hb:b∈bB dn m left pv t0 g):g.p≠b.1:=fun e=>by
  have h1:=HV h
  rw[e,k9 h hb] at h1
  simp only[bB,bZ,kC,or_false] at hb
  rcases hb with rfl | rfl | rfl | rfl | rfl | rfl | rfl | rfl | rfl<;>simp[rR] at h1
theorem aaj (h:Fc (qB dn m left pv t0 g C) os) (k:Nat) (X:List Nd):Fc (qB dn m left pv t0 ⟨k,os.length+1,g.R++[cD],{ g.s with nodes:=X }⟩ C) ((os.set g.p .gone).set 8 (.var [.ref (os.length+1) 5 0 (g.R.length+1)])++[.arr 5 [b6 cD],.arr 5 (rowsOf b6 (g.R++[cD]))]):=by
  have h1:=(h.front (bB dn m left pv t0 g)).kill .gone
  have hl:(os.set g.p Ob.gone).length=os.length:=bm
  have h8:8<(os.set g.p Ob.gone).length:=by
    rw[hl];exact (aS.1 (k9 h (b:=(8,.var [.ref g.p 5 0 g.R.length])) (by simp[bB]))).1
  have e:(os.set g.p .gone).set 8 (.var [.ref (os.length+1) 5 0 (g.R.length+1)])++[.arr 5 [b6 cD],.arr 5 (rowsOf b6 (g.R++[cD]))]=(os.set g.p .gone++[Ob.arr 5 [b6 cD],Ob.arr 5 (rowsOf b6 (g.R++[cD]))]).set 8 (.var [.ref (os.length+1) 5 0 (g.R.length+1)]):=by
    rw[List.set_append_left _ _ h8]
  rw[e]
  have h3:=(h1.app [.arr 5 [b6 cD],.arr 5 (rowsOf b6 (g.R++[cD]))]).add (k:=os.length+1) (x:=.arr 5 (rowsOf b6 (g.R++[cD]))) (by rw[← hl,me];rfl) (h1.fresh (by rw[hl];omega))
  have h4:=h3.perm (AD (l₁:=bB dn m left pv t0 g)).symm
  refine h4.iG ?_ ?_ fun b hb dL=>?_
  · unfold qB
    rw[fB,fB,vP,vP,cR,cR]
    dsimp only
    rw[show eY (g.R++[cD])=eY g.R by rw[BC,Eu];unfold lJ cD kO mO;simp]
  · unfold qB bB
    simp
  · unfold qB at hb
    rw[show eY (g.R++[cD])=eY g.R by rw[BC,Eu];unfold lJ cD kO mO;simp] at hb
    rcases List.mem_append.1 hb with h5 | h5
    · refine Gr _ ?_
      simp only[bB,bZ,kC,or_false] at h5 ⊢
      rcases h5 with rfl|rfl|rfl|rfl|rfl|rfl|rfl|rfl|rfl<;>first|exact absurd rfl dL|simp[rR,df]
    · exact List.mem_append_right _ h5
theorem aaw {c:Int} {q j:Nat} {ks:List Int} (hj:j<g.R.length) (hl:g.R.getD j default=cD) (h:Fc (qB dn m left pv t0 g ((q,.arr 1 (ints ks))::C)) os) (k:Nat) (X:List Nd) :
    Fc (qB dn m left pv t0 ⟨k,g.p,g.R.set j ⟨c,some (q,ks),none⟩,{ g.s with nodes:=X }⟩ C) (os.set g.p (.arr 5 (rowsOf b6 (g.R.set j ⟨c,some (q,ks),none⟩)))):=by
  have hp:=Ol hj (⟨c,some (q,ks),none⟩:Rw)
  rw[hl] at hp
  have e:lJ cD++eY (g.R.set j ⟨c,some (q,ks),none⟩)=eY (g.R.set j ⟨c,some (q,ks),none⟩):=rfl
  rw[e] at hp
  have e2:lJ (⟨c,some (q,ks),none⟩:Rw)=[(q,.arr 1 (ints ks))]:=rfl
  rw[e2] at hp
  have h1:=((h.front (bB dn m left pv t0 g)).put (.arr 5 (rowsOf b6 (g.R.set j ⟨c,some (q,ks),none⟩)))).perm (AD (l₁:=bB dn m left pv t0 g)).symm
  refine h1.perm ?_
  unfold qB
  have h2:bB dn m left pv t0 ⟨k,g.p,g.R.set j ⟨c,some (q,ks),none⟩,{ g.s with nodes:=X }⟩=bB dn m left pv t0 g:=by
    unfold bB rR df
    dsimp only
    rw[bm]
  rw[h2]
  refine qa.append_left _ (qa.cons _ ?_)
  have h3:(eY g.R++(q,Ob.arr 1 (ints ks))::C).Perm ([(q,Ob.arr 1 (ints ks))]++(eY g.R++C)):=AD
  refine h3.trans ?_
  rw[← cI]
  exact qa.append_right C hp.symm
structure Cn (s r:DS):Prop where
  a:0≤s.cw→0≤r.cw
  b:r.cw≤s.cw
  c:0≤s.room→0≤r.room
  d:r.room≤s.room
  e:r.bO≤s.bO
theorem Cn.refl (s:DS):Cn s s:=⟨fun h=>h,eo _,fun h=>h,eo _,eo _⟩
theorem Cn.trans {s r t:DS} (h:Cn s r) (k:Cn r t):Cn s t:=⟨fun x=>k.a (h.a x),wH k.b h.b,fun x=>k.c (h.c x),wH k.d h.d,wH k.e h.e⟩
theorem Oo {f:List (List Bool)→QS→QS} {left0:List (List Bool)} {c:Nat} (hf:∀ (o:Nat) (g:QS),((f (bF left0 c o) g).R.length:Int)+(f (bF left0 c o) g).s.room=g.R.length+g.s.room+1) :
    ∀ (w o:Nat) (g:QS) (q:Nat) (ks:List Int),((jF f left0 c w o g q ks).1.R.length:Int)+(jF f left0 c w o g q ks).1.s.room=g.R.length+g.s.room+w
  | 0,o,g,q,ks=>by show (g.R.length:Int)+g.s.room=_;simp
  | w+1,o,g,q,ks=>by
    have h1:=hf o ⟨g.n+1,g.p,g.R,g.s⟩
    rw[jF]
    generalize f (bF left0 c o) ⟨g.n+1,g.p,g.R,g.s⟩=r at *
    have:=Oo hf w (o+1) ⟨r.n+2,r.p,r.R,r.s⟩ (r.n+1) (ks++[(g.R.length:Int)])
    dsimp only at h1 this ⊢
    rw[this];omega
theorem N9 (m:ah) {N:Nat}:∀ (f c:Nat) (left0:List (List Bool)) (g:QS),left0.length=N→N+1≤f+c→c≤N→((kj m f c left0 g).R.length:Int)+(kj m f c left0 g).s.room=g.R.length+g.s.room+1
  | 0,c,left0,g,hl,BD,ca=>by omega
  | f+1,c,left0,g,hl,BD,ca=>by
    have gI:(g.R++[cD]).length=g.R.length+1:=by simp
    rw[kj]
    split
    · show ((g.R++[cD]).length:Int)+g.s.room=_;omega
    split
    · show ((g.R++[cD]).length:Int)+g.s.room=_;omega
    split
    · show ((g.R++[cD]).length:Int)+g.s.room=_;omega
    rename_i he _
    obtain ⟨g1,g2,g3,g4⟩:=zw (left:=left0) _ c rfl
    have hsk:cE left0 c<N:=by have:=g2 (by omega);omega
    have hK:=Oo (left0:=left0) (c:=cE left0 c) (f:=kj m f (cE left0 c+1)) (fun o g'=>N9 m f (cE left0 c+1) (bF left0 (cE left0 c) o) g' (by unfold bF;simpa using hl) (by omega) (by omega)) (left0.getD (cE left0 c) default).length 0 ⟨g.n+4,g.n+1,g.R++[cD],kk left0 (cE left0 c) (eO m left0) g.s⟩ (g.n+3) []
    generalize jF (kj m f (cE left0 c+1)) left0 (cE left0 c) (left0.getD (cE left0 c) default).length 0 ⟨g.n+4,g.n+1,g.R++[cD],kk left0 (cE left0 c) (eO m left0) g.s⟩ (g.n+3) []=r at *
    unfold kk at hK
    dsimp only at hK
    show ((r.1.R.set g.R.length _).length:Int)+r.1.s.room=_
    rw[bm];omega
theorem Oq {f:List (List Bool)→QS→QS} (hf:∀ l g,Cn g.s (f l g).s) (left:List (List Bool)) (c:Nat):∀ (w o:Nat) (g:QS) (q:Nat) (ks:List Int),Cn g.s (jF f left c w o g q ks).1.s
  | 0,o,g,q,ks=>Cn.refl g.s
  | w+1,o,g,q,ks=>by
    have h1:=hf (bF left c o) ⟨g.n+1,g.p,g.R,g.s⟩
    rw[jF]
    generalize f (bF left c o) ⟨g.n+1,g.p,g.R,g.s⟩=r at *
    exact h1.trans (Oq hf left c w (o+1) ⟨r.n+2,r.p,r.R,r.s⟩ (r.n+1) _)
theorem N' (m:ah):∀ (f c:Nat) (left:List (List Bool)) (g:QS),Cn g.s (kj m f c left g).s
  | 0,c,left,g=>Cn.refl g.s
  | f+1,c,left,g=>by
    rw[kj]
    split
    · exact⟨fun h=>h,eo _,fun h=>h,eo _,eo _⟩
    split
    · exact⟨fun h=>h,eo _,fun h=>h,eo _,by dsimp only;omega⟩
    split
    · exact⟨fun h=>h,eo _,fun h=>h,eo _,eo _⟩
    rename_i hb
    rw[not_or] at hb
    refine Cn.trans (r:=kk left (cE left c) (eO m left) g.s) ?_ ?_
    · unfold kk
      exact⟨fun h=>by dsimp only;omega,by dsimp only;omega,fun h=>by dsimp only;omega,by dsimp only;omega,eo _⟩
    · have:=Oq (fun l g=>N' m f (cE left c+1) l g) left (cE left c) (left.getD (cE left c) default).length 0 ⟨g.n+4,g.n+1,g.R++[cD],kk left (cE left c) (eO m left) g.s⟩ (g.n+3) []
      exact⟨this.a,this.b,this.c,this.d,this.e⟩
end T
namespace T
variable {dn:FuncId} {m:ah} {left left':List (List Bool)} {pv:AV} {t0:Int} {os:List Ob} {g g':QS} {C:List (Nat × Ob)}
theorem Ot {b:Nat × Ob}:(qB dn m left pv t0 g (b::C)).Perm (b::qB dn m left pv t0 g C):=pN.symm
theorem aas {q nv:Nat} {x y X':Ob} (a:Ob) (h:Fc (qB dn m left pv t0 g ((q,x)::(nv,y)::C)) os) (k:Nat) (b:Ob):Fc (qB dn m left pv t0 ⟨k,g.p,g.R,g.s⟩ ((os.length+1,b)::(nv,X')::C)) ((os.set q .gone).set nv X'++[a,b]):=by
  have h1:=((h.perm Ot).kill .gone).perm Ot
  have h2:=((h1.put X').app [a,b]).add (k:=os.length+1) (x:=b) (by
    have:((os.set q Ob.gone).set nv X').length=os.length:=by simp
    rw[← this,me];rfl) ((h1.put X').fresh (by simp))
  have h3:((os.length+1,b)::(nv,X')::qB dn m left pv t0 g C).Perm (qB dn m left pv t0 ⟨k,g.p,g.R,g.s⟩ ((os.length+1,b)::(nv,X')::C)):=(qa.cons _ pN).trans pN
  exact h2.perm h3
theorem N6 {c:Nat} (x y:List Bool):(rowsOf aE (left.set c x)).set c [.tree 1 (bg y)]=rowsOf aE (left.set c y):=by
  unfold rowsOf
  rw[p6,p6,List.set_set];rfl
theorem setRow_self {c:Nat} (hc:c<left.length):left.set c (left.getD c default)=left:=by
  rw[ay,bI hc]
  exact List.set_getElem_self hc
theorem aax {R:List Rw} {j:Nat} {r:Rw} (hj:j<R.length) (h:R.getD j default=r):(rowsOf b6 R)[j]?=some (b6 r):=by
  unfold rowsOf
  rw[List.getElem?_map,bI hj,Option.map_some]
  rw[ay,bI hj,Option.getD_some] at h
  rw[h]
theorem aay (R:List Rw) (j:Nat) (r:Rw):(rowsOf b6 R).set j (b6 r)=rowsOf b6 (R.set j r):=by unfold rowsOf;rw[p6]
end T

