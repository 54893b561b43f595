import Derived.Test.YtdipcmigdbnheaaGreatX29
import Derived.Test.YtdipcmigdbnheaaGreatX34
set_option linter.unusedVariables false
set_option linter.unusedSimpArgs false
set_option linter.unnecessarySimpa false
set_option linter.unusedSectionVars false
set_option maxHeartbeats 64000000
set_option maxRecDepth 20000
open List renaming map_append→eT,map_set→qD,mem_map→bV,getElem?_eq_some_iff→aY,getElem?_set_ne→cz,map_cons→du,perm_middle→BF,append_assoc→dj,Perm→qK,getD_eq_getElem?_getD→ay,length_set→bF,mem_append_left→Hd,mem_cons→bW,not_mem_nil→lX,getElem?_eq_getElem→bm
open Nat renaming le_refl→aV
open Int renaming le_refl→c9,le_trans→vZ
open Go Go.Am
namespace T
structure QS where
  n:Nat
  p:Nat
  R:List Rw
  s:DS
def DM (r:Rw):Nd:=⟨r.c,(r.Bf.map (·.2)).getD [],(r.mv.map (·.2)).getD [],[],[]⟩
def jR (f:List (List Bool)→QS→QS) (left:List (List Bool)) (c:Nat):Nat→Nat→QS→Nat→List Int→QS × Nat × List Int
  | 0,_,g,q,ks=>(g,q,ks)
  | w+1,o,g,q,ks =>
    jR f left c w (o+1) ⟨(f (bq left c o) ⟨g.n+1,g.p,g.R,g.s⟩).n+2,(f (bq left c o) ⟨g.n+1,g.p,g.R,g.s⟩).p,(f (bq left c o) ⟨g.n+1,g.p,g.R,g.s⟩).R,(f (bq left c o) ⟨g.n+1,g.p,g.R,g.s⟩).s⟩ ((f (bq left c o) ⟨g.n+1,g.p,g.R,g.s⟩).n+1) (ks++[(g.R.length:Int)])
def Ls (c j:Nat) (r:QS × Nat × List Int):QS:=⟨r.1.n,r.1.p,r.1.R.set j ⟨(c:Int),some (r.2.1,r.2.2),none⟩,tW c j (r.1.s,r.2.2)⟩
def kU (m:ae):Nat→Nat→List (List Bool)→QS→QS
  | 0,_,_,g=>g
  | f+1,c,left,g =>
    if g.s.aU≤ey m left then ⟨g.n+2,g.n+1,g.R++[cE],{ g.s with nodes:=g.s.nodes++[lH []],bH:=min g.s.bH (ey m left) }⟩
    else if cC left c=left.length then ⟨g.n+3,g.n+1,g.R++[cE],{ g.s with nodes:=g.s.nodes++[lH []],plan:=iO left,aU:=ey m left,bH:=min g.s.bH (ey m left) }⟩
    else if g.s.bk=0∨g.s.room<(left.getD (cC left c) default).length then ⟨g.n+2,g.n+1,g.R++[cE],{ g.s with nodes:=g.s.nodes++[lH []],whole:=false,bH:=min g.s.bH (ey m left) }⟩
    else Ls (cC left c) g.R.length (jR (kU m f (cC left c+1)) left (cC left c) (left.getD (cC left c) default).length 0 ⟨g.n+4,g.n+1,g.R++[cE],j5 left (cC left c) (ey m left) g.s⟩ (g.n+3) [])
def rP (g:QS):Prop:=g.s.nodes=g.R.map DM
theorem rP.len {g:QS} (h:rP g):g.s.nodes.length=g.R.length:=by rw[h,List.length_map]
theorem rP.lf {g:QS} (h:rP g):g.s.nodes++[lH []]=(g.R++[cE]).map DM:=by rw[h,eT];rfl
theorem YL {f:List (List Bool)→QS→QS} {f':List (List Bool)→DS→DS} (hf:∀ left g,rP g→rP (f left g)∧(f left g).s=f' left g.s) (left:List (List Bool)) (c:Nat):∀ (w o:Nat) (g:QS) (q:Nat) (ks:List Int),rP g →
    rP (jR f left c w o g q ks).1∧((jR f left c w o g q ks).1.s,(jR f left c w o g q ks).2.2)=fI f' left c w o g.s ks
  | 0,o,g,q,ks,h=>⟨h,rfl⟩
  | w+1,o,g,q,ks,h=>by
    obtain ⟨a,b⟩:=hf (bq left c o) ⟨g.n+1,g.p,g.R,g.s⟩ h
    rw[jR,fI]
    have:=YL hf left c w (o+1) ⟨(f (bq left c o) ⟨g.n+1,g.p,g.R,g.s⟩).n+2,(f (bq left c o) ⟨g.n+1,g.p,g.R,g.s⟩).p,(f (bq left c o) ⟨g.n+1,g.p,g.R,g.s⟩).R,(f (bq left c o) ⟨g.n+1,g.p,g.R,g.s⟩).s⟩ ((f (bq left c o) ⟨g.n+1,g.p,g.R,g.s⟩).n+1) (ks++[(g.R.length:Int)]) a
    refine⟨this.1,this.2.trans ?_⟩
    dsimp only
    rw[b,h.len]
theorem YK (m:ae):∀ (f c:Nat) (left:List (List Bool)) (g:QS),rP g→rP (kU m f c left g)∧(kU m f c left g).s=j4 m f c left g.s
  | 0,c,left,g,h=>⟨h,rfl⟩
  | f+1,c,left,g,h=>by
    rw[kU,j4]
    split
    · exact⟨h.lf,rfl⟩
    split
    · exact⟨h.lf,rfl⟩
    split
    · exact⟨h.lf,rfl⟩
    obtain ⟨a,b⟩:=YL (fun ahh g2 h2=>YK m f (cC left c+1) ahh g2 h2) left (cC left c) (left.getD (cC left c) default).length 0 ⟨g.n+4,g.n+1,g.R++[cE],j5 left (cC left c) (ey m left) g.s⟩ (g.n+3) [] h.lf
    dsimp only at b
    rw[← b,← h.len]
    refine⟨?_,rfl⟩
    unfold rP Ls tW at *
    dsimp only at *
    rw[a,qD];rfl
end T
namespace T
theorem Fc.jG {F F':List (Nat × Ob)} {os:List Ob} (h:Fc F os) {i:Nat} {y:Ob} (hk:F'.map (·.1)=F.map (·.1)) (hy:(i,y)∈F') (hF:∀ b∈F',b.1≠i→b∈F):Fc F' (os.set i y):=by
  have bC:(F'.map (·.1)).Nodup:=by rw[hk];exact h.nd
  refine⟨fun b hb=>?_,bC⟩
  by_cases e:b.1=i
  · have h1:=Gg bC b hb
    have h2:=Gg bC _ hy
    rw[e] at h1
    have:b=(i,y):=by dsimp only at h2;rw[h1] at h2;exact Option.some.inj h2
    subst this
    have hi:i∈F.map (·.1):=by rw[← hk];exact bV.2 ⟨_,hy,rfl⟩
    obtain ⟨c,hc,e2⟩:=bV.1 hi
    have aT:=(aY.1 (h.at_ c hc)).1
    rw[List.getElem?_set,if_pos rfl,if_pos (by rw[← e2];exact aT)]
  · rw[cz (Ne.symm e)]
    exact h.at_ b (hF b hb e)
def zu:List AV:=[.ptr 8 0 0,.ptr 5 0 0,.ptr 0 0 0,.ptr 1 0 0,.ptr 2 0 0,.ptr 7 0 0,.ptr 6 0 0,.ptr 9 0 0]
def ek (pv:AV) (t0:Int) (s:DS):AV:=if s.aU<t0 then .tree 1 (ints s.plan) else pv
section
variable (dn:FuncId) (m:ae) (left:List (List Bool)) (pv:AV) (t0:Int)
def s9 (s:DS):Ob:=.var [ek pv t0 s,.lit (.int .i64 s.aU),.lit (.int .i64 s.bH),.lit (.slice none 0 0)]
def bB (g:QS):List (Nat × Ob):=[(0,.var (au m)),(1,s9 pv t0 g.s),(2,.var [.lit (.int .i64 g.s.bk)]),(4,.arr 1 (rowsOf aK left)),(5,.var [.ref 4 1 0 left.length]),(6,.var [.lit (.bool g.s.whole)]),(7,.var [.lit (.int .i64 g.s.room)]),(9,.var [.fn dn zu]),(8,.var [.ref g.p 5 0 g.R.length])]
def qB (g:QS) (C:List (Nat × Ob)):List (Nat × Ob):=bB dn m left pv t0 g++(g.p,.arr 5 (rowsOf cf g.R))::(fy g.R++C)
end
variable {dn:FuncId} {m:ae} {left left':List (List Bool)} {pv:AV} {t0:Int}
theorem xB (g:QS):(bB dn m left pv t0 g).map (·.1)=[0,1,2,4,5,6,7,9,8]:=rfl
theorem YM {g g':QS} {C C':List (Nat × Ob)} (hp:g'.p=g.p) (hR:(fy g'.R++C').map (·.1)=(fy g.R++C).map (·.1)):(qB dn m left' pv t0 g' C').map (·.1)=(qB dn m left pv t0 g C).map (·.1):=by
  unfold qB
  rw[eT,eT,xB,xB,du,du,hR]
  dsimp only
  rw[hp]
theorem qA {g:QS} {b:Nat × Ob} {C:List (Nat × Ob)}:(b::qB dn m left pv t0 g C).Perm (qB dn m left pv t0 g (b::C)):=by
  unfold qB
  have h:∀ (A D:List (Nat × Ob)) (x:Nat × Ob),(b::(A++x::(D++C))).Perm (A++x::(D++b::C)):=fun A D x=>by
    have:=(BF (a:=b) (l₁:=A++x::D) (l₂:=C)).symm
    simpa [dj] using this
  exact h _ _ _
theorem YN {g:QS} {C:List (Nat × Ob)} {p' k n:Nat} {s':DS} (h:FK (qB dn m left pv t0 g C) n) (h1:n≤p') (h2:p'<k):FK (qB dn m left' pv t0 ⟨k,p',g.R++[cE],s'⟩ C) k:=by
  have h3:=((h.perm BF).drop.add (i:=p') (x:=.arr 5 (rowsOf cf (g.R++[cE]))) h1 h2).perm (BF (l₁:=bB dn m left pv t0 g)).symm
  refine h3.keys ?_
  unfold qB
  rw[eT,eT,xB,xB,du,du]
  dsimp only
  rw[show fy (g.R++[cE])=fy g.R by rw[Du,Ge];unfold mi cE kO mO;simp]
theorem ahi {g:QS} {C:List (Nat × Ob)} {j n:Nat} {s':DS} {k:Nat} (hj:j<g.R.length) (hl:g.R.getD j default=cE) (r:Rw) (h:FK (mi r++qB dn m left pv t0 g C) n):FK (qB dn m left' pv t0 ⟨k,g.p,g.R.set j r,s'⟩ C) n:=by
  have hp:=Wv hj r
  rw[hl] at hp
  have e:mi cE++fy (g.R.set j r)=fy (g.R.set j r):=rfl
  rw[e] at hp
  have h1:(mi r++(bB dn m left pv t0 g++(g.p,.arr 5 (rowsOf cf g.R))::(fy g.R++C))).Perm (bB dn m left pv t0 g++(g.p,.arr 5 (rowsOf cf g.R))::(fy (g.R.set j r)++C)):=by
    have a1:=Gf (mi r) (bB dn m left pv t0 g++[(g.p,.arr 5 (rowsOf cf g.R))]) (fy g.R++C)
    simp only[dj,List.cons_append,List.nil_append] at a1
    refine a1.trans (qK.append_left _ (qK.cons _ ?_))
    rw[← dj]
    exact qK.append_right C hp.symm
  refine (h.perm h1).keys ?_
  unfold qB
  rw[eT,eT,xB,xB,du,du]
structure DO (dn:FuncId) (m:ae) (left left':List (List Bool)) (pv:AV) (t0:Int) (C:List (Nat × Ob)) (g r:QS):Prop where
  lt:g.R.length<r.R.length
  pre:∀ i,i<g.R.length→r.R.getD i default=g.R.getD i default
  ol:g.n≤r.n
  fk:FK (qB dn m left' pv t0 r C) r.n
theorem FK.lf {g:QS} {C:List (Nat × Ob)} {n:Nat} {s':DS} {k:Nat} (h:FK (qB dn m left pv t0 g C) n):FK (qB dn m left' pv t0 ⟨k,g.p,g.R,s'⟩ C) n:=h.keys (YM rfl rfl)
theorem YO {R Z:List Rw} {i:Nat} (h:i<R.length):(R++Z).getD i default=R.getD i default:=by
  rw[ay,List.getElem?_append_left h,ay]
theorem Yu (R:List Rw):(R++[cE]).getD R.length default=cE:=by rw[ay,List.getElem?_append_right (aV _),Nat.sub_self];rfl
theorem ahj {R:List Rw} {i j:Nat} (h:i≠j) (r:Rw):(R.set j r).getD i default=R.getD i default:=by
  rw[ay,cz (Ne.symm h),ay]
theorem YP {f:List (List Bool)→QS→QS} {left0:List (List Bool)} {c:Nat} {C:List (Nat × Ob)} (x:Ob) (hf:∀ (o:Nat) (g:QS) (C':List (Nat × Ob)),FK (qB dn m left pv t0 g C') g.n→DO dn m left left pv t0 C' g (f (bq left0 c o) g)) :
    ∀ (w o:Nat) (g:QS) (q:Nat) (ks:List Int),FK (qB dn m left pv t0 g ((q,x)::C)) g.n →
    g.R.length≤(jR f left0 c w o g q ks).1.R.length∧(∀ i,i<g.R.length→(jR f left0 c w o g q ks).1.R.getD i default=g.R.getD i default)∧g.n≤(jR f left0 c w o g q ks).1.n∧FK (qB dn m left pv t0 (jR f left0 c w o g q ks).1 (((jR f left0 c w o g q ks).2.1,x)::C)) (jR f left0 c w o g q ks).1.n
  | 0,o,g,q,ks,h=>⟨aV _,fun _ _=>rfl,aV _,h⟩
  | w+1,o,g,q,ks,h=>by
    have h1:=hf o ⟨g.n+1,g.p,g.R,g.s⟩ ((q,x)::C) (h.lf.mono (Nat.le_add_right _ _))
    rw[jR]
    generalize f (bq left0 c o) ⟨g.n+1,g.p,g.R,g.s⟩=r at *
    obtain ⟨b1,b2,b3,b4⟩:=h1
    dsimp only at b1 b2 b3
    have h2:FK (qB dn m left pv t0 ⟨r.n+2,r.p,r.R,r.s⟩ ((r.n+1,x)::C)) (r.n+2) :=
      (((b4.perm qA.symm).drop.add (i:=r.n+1) (x:=x) (by omega) (k:=r.n+2) (by omega)).perm qA).lf
    obtain ⟨i1,i2,i3,i4⟩:=YP x hf w (o+1) ⟨r.n+2,r.p,r.R,r.s⟩ (r.n+1) (ks++[(g.R.length:Int)]) h2
    dsimp only at i1 i2 i3
    exact⟨by omega,fun i hi=>(i2 i (by omega)).trans (b2 i hi),by omega,i4⟩
theorem GA {N:Nat}:∀ (f c:Nat) (left0:List (List Bool)) (g:QS) (C:List (Nat × Ob)),left0.length=N→N+1≤f+c→c≤N→FK (qB dn m left pv t0 g C) g.n→DO dn m left left pv t0 C g (kU m f c left0 g)
  | 0,c,left0,g,C,hl,DN,bL,h=>by omega
  | f+1,c,left0,g,C,hl,DN,bL,h=>by
    have base:∀ (k:Nat) (s':DS),g.n+2≤k→DO dn m left left pv t0 C g ⟨k,g.n+1,g.R++[cE],s'⟩:=fun k s' hk=>⟨by simp,fun i hi=>YO hi,by show g.n≤k;omega,YN h (by omega) (by omega)⟩
    rw[kU]
    split
    · exact base _ _ (aV _)
    split
    · exact base _ _ (by omega)
    split
    · exact base _ _ (aV _)
    rename_i he _
    obtain ⟨g1,g2,g3,g4⟩:=yE (left:=left0) _ c rfl
    have Qh:cC left0 c<N:=by have:=g2 (by omega);omega
    have hq:FK (qB dn m left pv t0 ⟨g.n+4,g.n+1,g.R++[cE],j5 left0 (cC left0 c) (ey m left0) g.s⟩ ((g.n+3,.gone)::C)) (g.n+4):=by
      have:=YN (left':=left) (s':=j5 left0 (cC left0 c) (ey m left0) g.s) (p':=g.n+1) (k:=g.n+3) h (by omega) (by omega)
      exact ((this.add (i:=g.n+3) (x:=.gone) (aV _) (k:=g.n+4) (by omega)).perm qA).lf
    obtain ⟨i1,i2,i3,i4⟩:=YP (dn:=dn) (m:=m) (left:=left) (pv:=pv) (t0:=t0) (left0:=left0) (c:=cC left0 c) (C:=C) (f:=kU m f (cC left0 c+1)) .gone (fun o g' C' hh=>GA f (cC left0 c+1) (bq left0 (cC left0 c) o) g' C' (by unfold bq;simpa using hl) (by omega) (by omega) hh) (left0.getD (cC left0 c) default).length 0 _ (g.n+3) [] hq
    generalize jR (kU m f (cC left0 c+1)) left0 (cC left0 c) (left0.getD (cC left0 c) default).length 0 ⟨g.n+4,g.n+1,g.R++[cE],j5 left0 (cC left0 c) (ey m left0) g.s⟩ (g.n+3) []=r at *
    dsimp only at i1 i2 i3
    have Fl:(g.R++[cE]).length=g.R.length+1:=by simp
    unfold Ls
    refine⟨by dsimp only;rw[bF];omega,fun i hi=>?_,by dsimp only;omega,?_⟩
    · dsimp only
      rw[ahj (by omega),i2 i (by omega)];exact YO hi
    · have ze:r.1.R.getD g.R.length default=cE:=by rw[i2 _ (by omega)];exact Yu _
      refine ahi (left:=left) (g:=r.1) (C:=C) (by omega) ze _ ?_
      exact (i4.perm qA.symm).keys rfl
end T
namespace T
variable {dn:FuncId} {m:ae} {left left':List (List Bool)} {pv:AV} {t0:Int} {os:List Ob} {g g':QS} {C:List (Nat × Ob)}
theorem xA (h:Fc (qB dn m left pv t0 g C) os) {i:Nat} {y:Ob} (hp:g'.p=g.p:=by rfl) (hR:g'.R=g.R:=by rfl) (hy:(i,y)∈bB dn m left' pv t0 g':=by simp[bB,s9,ek]) (hb:∀ b∈bB dn m left' pv t0 g',b.1≠i→b∈bB dn m left pv t0 g:=by (intro b hb b8;simp only[bB,List.mem_cons,List.not_mem_nil,or_false] at hb ⊢;rcases hb with rfl|rfl|rfl|rfl|rfl|rfl|rfl|rfl|rfl<;>first|exact absurd rfl b8|simp[s9,ek])):Fc (qB dn m left' pv t0 g' C) (os.set i y):=by
  refine h.jG (YM hp (by rw[hR])) (List.mem_append_left _ hy) fun b xl b8=>?_
  unfold qB at xl ⊢
  rcases List.mem_append.1 xl with h1 | h1
  · exact List.mem_append_left _ (hb b h1 b8)
  · rw[hp,hR] at h1
    exact List.mem_append_right _ h1
theorem lT (h:Fc (qB dn m left pv t0 g C) os) {b:Nat × Ob} (hb:b∈bB dn m left pv t0 g):os[b.1]?=some b.2:=h.at_ b (Hd _ hb)
theorem Lj (h:Fc (qB dn m left pv t0 g C) os):os[g.p]?=some (.arr 5 (rowsOf cf g.R)):=h.at_ (g.p,_) (by unfold qB;simp)
theorem DI (h:Fc (qB dn m left pv t0 g C) os) {b:Nat × Ob} (hb:b∈C):os[b.1]?=some b.2:=h.at_ b (by unfold qB;simp[hb])
theorem Yt (h:Fc (qB dn m left pv t0 g C) os) {b:Nat × Ob} (hb:b∈bB dn m left pv t0 g):g.p≠b.1:=fun e=>by
  have h1:=Lj h
  rw[e,lT h hb] at h1
  simp only[bB,bW,lX,or_false] at hb
  rcases hb with rfl | rfl | rfl | rfl | rfl | rfl | rfl | rfl | rfl<;>simp[s9] at h1
theorem agV (h:Fc (qB dn m left pv t0 g C) os) (k:Nat) (X:List Nd):Fc (qB dn m left pv t0 ⟨k,os.length+1,g.R++[cE],{ g.s with nodes:=X }⟩ C) ((os.set g.p .gone).set 8 (.var [.ref (os.length+1) 5 0 (g.R.length+1)])++[.arr 5 [cf cE],.arr 5 (rowsOf cf (g.R++[cE]))]):=by
  have h1:=(h.front (bB dn m left pv t0 g)).kill .gone
  have hl:(os.set g.p Ob.gone).length=os.length:=bF
  have h8:8<(os.set g.p Ob.gone).length:=by
    rw[hl];exact (aY.1 (lT h (b:=(8,.var [.ref g.p 5 0 g.R.length])) (by simp[bB]))).1
  have e:(os.set g.p .gone).set 8 (.var [.ref (os.length+1) 5 0 (g.R.length+1)])++[.arr 5 [cf cE],.arr 5 (rowsOf cf (g.R++[cE]))]=(os.set g.p .gone++[Ob.arr 5 [cf cE],Ob.arr 5 (rowsOf cf (g.R++[cE]))]).set 8 (.var [.ref (os.length+1) 5 0 (g.R.length+1)]):=by
    rw[List.set_append_left _ _ h8]
  rw[e]
  have h3:=(h1.app [.arr 5 [cf cE],.arr 5 (rowsOf cf (g.R++[cE]))]).add (k:=os.length+1) (x:=.arr 5 (rowsOf cf (g.R++[cE]))) (by rw[← hl,n6];rfl) (h1.fresh (by rw[hl];omega))
  have h4:=h3.perm (BF (l₁:=bB dn m left pv t0 g)).symm
  refine h4.jG ?_ ?_ fun b hb b8=>?_
  · unfold qB
    rw[eT,eT,xB,xB,du,du]
    dsimp only
    rw[show fy (g.R++[cE])=fy g.R by rw[Du,Ge];unfold mi cE kO mO;simp]
  · unfold qB bB
    simp
  · unfold qB at hb
    rw[show fy (g.R++[cE])=fy g.R by rw[Du,Ge];unfold mi cE kO mO;simp] at hb
    rcases List.mem_append.1 hb with h5 | h5
    · refine Hd _ ?_
      simp only[bB,bW,lX,or_false] at h5 ⊢
      rcases h5 with rfl|rfl|rfl|rfl|rfl|rfl|rfl|rfl|rfl<;>first|exact absurd rfl b8|simp[s9,ek]
    · exact List.mem_append_right _ h5
theorem ag7 {c:Int} {q j:Nat} {ks:List Int} (hj:j<g.R.length) (hl:g.R.getD j default=cE) (h:Fc (qB dn m left pv t0 g ((q,.arr 1 (ints ks))::C)) os) (k:Nat) (X:List Nd) :
    Fc (qB dn m left pv t0 ⟨k,g.p,g.R.set j ⟨c,some (q,ks),none⟩,{ g.s with nodes:=X }⟩ C) (os.set g.p (.arr 5 (rowsOf cf (g.R.set j ⟨c,some (q,ks),none⟩)))):=by
  have hp:=Wv hj (⟨c,some (q,ks),none⟩:Rw)
  rw[hl] at hp
  have e:mi cE++fy (g.R.set j ⟨c,some (q,ks),none⟩)=fy (g.R.set j ⟨c,some (q,ks),none⟩):=rfl
  rw[e] at hp
  have e2:mi (⟨c,some (q,ks),none⟩:Rw)=[(q,.arr 1 (ints ks))]:=rfl
  rw[e2] at hp
  have h1:=((h.front (bB dn m left pv t0 g)).put (.arr 5 (rowsOf cf (g.R.set j ⟨c,some (q,ks),none⟩)))).perm (BF (l₁:=bB dn m left pv t0 g)).symm
  refine h1.perm ?_
  unfold qB
  have h2:bB dn m left pv t0 ⟨k,g.p,g.R.set j ⟨c,some (q,ks),none⟩,{ g.s with nodes:=X }⟩=bB dn m left pv t0 g:=by
    unfold bB s9 ek
    dsimp only
    rw[bF]
  rw[h2]
  refine qK.append_left _ (qK.cons _ ?_)
  have h3:(fy g.R++(q,Ob.arr 1 (ints ks))::C).Perm ([(q,Ob.arr 1 (ints ks))]++(fy g.R++C)):=BF
  refine h3.trans ?_
  rw[← dj]
  exact qK.append_right C hp.symm
structure Cn (s r:DS):Prop where
  a:0≤s.bk→0≤r.bk
  b:r.bk≤s.bk
  c:0≤s.room→0≤r.room
  d:r.room≤s.room
  e:r.aU≤s.aU
theorem Cn.refl (s:DS):Cn s s:=⟨fun h=>h,c9 _,fun h=>h,c9 _,c9 _⟩
theorem Cn.trans {s r t:DS} (h:Cn s r) (k:Cn r t):Cn s t:=⟨fun x=>k.a (h.a x),vZ k.b h.b,fun x=>k.c (h.c x),vZ k.d h.d,vZ k.e h.e⟩
theorem YQ {f:List (List Bool)→QS→QS} {left0:List (List Bool)} {c:Nat} (hf:∀ (o:Nat) (g:QS),((f (bq left0 c o) g).R.length:Int)+(f (bq left0 c o) g).s.room=g.R.length+g.s.room+1) :
    ∀ (w o:Nat) (g:QS) (q:Nat) (ks:List Int),((jR f left0 c w o g q ks).1.R.length:Int)+(jR f left0 c w o g q ks).1.s.room=g.R.length+g.s.room+w
  | 0,o,g,q,ks=>by show (g.R.length:Int)+g.s.room=_;simp
  | w+1,o,g,q,ks=>by
    have h1:=hf o ⟨g.n+1,g.p,g.R,g.s⟩
    rw[jR]
    generalize f (bq left0 c o) ⟨g.n+1,g.p,g.R,g.s⟩=r at *
    have:=YQ hf w (o+1) ⟨r.n+2,r.p,r.R,r.s⟩ (r.n+1) (ks++[(g.R.length:Int)])
    dsimp only at h1 this ⊢
    rw[this];omega
theorem YH (m:ae) {N:Nat}:∀ (f c:Nat) (left0:List (List Bool)) (g:QS),left0.length=N→N+1≤f+c→c≤N→((kU m f c left0 g).R.length:Int)+(kU m f c left0 g).s.room=g.R.length+g.s.room+1
  | 0,c,left0,g,hl,DN,bL=>by omega
  | f+1,c,left0,g,hl,DN,bL=>by
    have Fl:(g.R++[cE]).length=g.R.length+1:=by simp
    rw[kU]
    split
    · show ((g.R++[cE]).length:Int)+g.s.room=_;omega
    split
    · show ((g.R++[cE]).length:Int)+g.s.room=_;omega
    split
    · show ((g.R++[cE]).length:Int)+g.s.room=_;omega
    rename_i he _
    obtain ⟨g1,g2,g3,g4⟩:=yE (left:=left0) _ c rfl
    have Qh:cC left0 c<N:=by have:=g2 (by omega);omega
    have hK:=YQ (left0:=left0) (c:=cC left0 c) (f:=kU m f (cC left0 c+1)) (fun o g'=>YH m f (cC left0 c+1) (bq left0 (cC left0 c) o) g' (by unfold bq;simpa using hl) (by omega) (by omega)) (left0.getD (cC left0 c) default).length 0 ⟨g.n+4,g.n+1,g.R++[cE],j5 left0 (cC left0 c) (ey m left0) g.s⟩ (g.n+3) []
    generalize jR (kU m f (cC left0 c+1)) left0 (cC left0 c) (left0.getD (cC left0 c) default).length 0 ⟨g.n+4,g.n+1,g.R++[cE],j5 left0 (cC left0 c) (ey m left0) g.s⟩ (g.n+3) []=r at *
    unfold j5 at hK
    dsimp only at hK
    show ((r.1.R.set g.R.length _).length:Int)+r.1.s.room=_
    rw[bF];omega
theorem YR {f:List (List Bool)→QS→QS} (hf:∀ l g,Cn g.s (f l g).s) (left:List (List Bool)) (c:Nat):∀ (w o:Nat) (g:QS) (q:Nat) (ks:List Int),Cn g.s (jR f left c w o g q ks).1.s
  | 0,o,g,q,ks=>Cn.refl g.s
  | w+1,o,g,q,ks=>by
    have h1:=hf (bq left c o) ⟨g.n+1,g.p,g.R,g.s⟩
    rw[jR]
    generalize f (bq left c o) ⟨g.n+1,g.p,g.R,g.s⟩=r at *
    exact h1.trans (YR hf left c w (o+1) ⟨r.n+2,r.p,r.R,r.s⟩ (r.n+1) _)
theorem YI (m:ae):∀ (f c:Nat) (left:List (List Bool)) (g:QS),Cn g.s (kU m f c left g).s
  | 0,c,left,g=>Cn.refl g.s
  | f+1,c,left,g=>by
    rw[kU]
    split
    · exact⟨fun h=>h,c9 _,fun h=>h,c9 _,c9 _⟩
    split
    · exact⟨fun h=>h,c9 _,fun h=>h,c9 _,by dsimp only;omega⟩
    split
    · exact⟨fun h=>h,c9 _,fun h=>h,c9 _,c9 _⟩
    rename_i hb
    rw[not_or] at hb
    refine Cn.trans (r:=j5 left (cC left c) (ey m left) g.s) ?_ ?_
    · unfold j5
      exact⟨fun h=>by dsimp only;omega,by dsimp only;omega,fun h=>by dsimp only;omega,by dsimp only;omega,c9 _⟩
    · have:=YR (fun l g=>YI m f (cC left c+1) l g) left (cC left c) (left.getD (cC left c) default).length 0 ⟨g.n+4,g.n+1,g.R++[cE],j5 left (cC left c) (ey m left) g.s⟩ (g.n+3) []
      exact⟨this.a,this.b,this.c,this.d,this.e⟩
end T
namespace T
variable {dn:FuncId} {m:ae} {left left':List (List Bool)} {pv:AV} {t0:Int} {os:List Ob} {g g':QS} {C:List (Nat × Ob)}
theorem YS {b:Nat × Ob}:(qB dn m left pv t0 g (b::C)).Perm (b::qB dn m left pv t0 g C):=qA.symm
theorem ag2 {q nv:Nat} {x y X':Ob} (a:Ob) (h:Fc (qB dn m left pv t0 g ((q,x)::(nv,y)::C)) os) (k:Nat) (b:Ob):Fc (qB dn m left pv t0 ⟨k,g.p,g.R,g.s⟩ ((os.length+1,b)::(nv,X')::C)) ((os.set q .gone).set nv X'++[a,b]):=by
  have h1:=((h.perm YS).kill .gone).perm YS
  have h2:=((h1.put X').app [a,b]).add (k:=os.length+1) (x:=b) (by
    have:((os.set q Ob.gone).set nv X').length=os.length:=by simp
    rw[← this,n6];rfl) ((h1.put X').fresh (by simp))
  have h3:((os.length+1,b)::(nv,X')::qB dn m left pv t0 g C).Perm (qB dn m left pv t0 ⟨k,g.p,g.R,g.s⟩ ((os.length+1,b)::(nv,X')::C)):=(qK.cons _ qA).trans qA
  exact h2.perm h3
theorem YF {c:Nat} (x y:List Bool):(rowsOf aK (left.set c x)).set c [.tree 1 (bf y)]=rowsOf aK (left.set c y):=by
  unfold rowsOf
  rw[qD,qD,List.set_set];rfl
theorem setRow_self {c:Nat} (hc:c<left.length):left.set c (left.getD c default)=left:=by
  rw[ay,bm hc]
  exact List.set_getElem_self hc
theorem ag8 {R:List Rw} {j:Nat} {r:Rw} (hj:j<R.length) (h:R.getD j default=r):(rowsOf cf R)[j]?=some (cf r):=by
  unfold rowsOf
  rw[List.getElem?_map,bm hj,Option.map_some]
  rw[ay,bm hj,Option.getD_some] at h
  rw[h]
theorem ag9 (R:List Rw) (j:Nat) (r:Rw):(rowsOf cf R).set j (cf r)=rowsOf cf (R.set j r):=by unfold rowsOf;rw[qD]
end T

