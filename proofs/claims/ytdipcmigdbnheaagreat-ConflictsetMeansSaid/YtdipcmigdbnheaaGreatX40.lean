import Derived.Test.YtdipcmigdbnheaaGreatX31
import Derived.Test.YtdipcmigdbnheaaGreatX13
import Derived.Test.YtdipcmigdbnheaaGreatX20
import Derived.Test.YtdipcmigdbnheaaGreatX32
set_option linter.unusedVariables false
set_option linter.unusedSimpArgs false
set_option linter.unnecessarySimpa false
set_option linter.unusedSectionVars false
set_option maxHeartbeats 64000000
set_option maxRecDepth 20000
open List renaming map_append→gW,map_set→tC,mem_map→ca,getElem?_eq_some_iff→aQ,getElem?_set_ne→bm,map_cons→dO,perm_middle→zH,append_assoc→dI,Perm→p7,getD_eq_getElem?_getD→aA,length_set→bI,mem_append_left→Fp,mem_cons→cu,not_mem_nil→ly,mem_append→cr,getElem?_eq_getElem→bX,mem_of_getElem?→gB
open Nat renaming le_refl→aG
open Int renaming le_refl→dE,le_trans→pk
open Go Go.Am
namespace T
end T
namespace T
end T
namespace T
end T
namespace T
end T
namespace T
end T
namespace T
structure QS where
  n:Nat
  p:Nat
  R:List Rw
  s:DS
def BH (r:Rw):Nd:=⟨r.c,(r.yP.map (·.2)).getD [],(r.mv.map (·.2)).getD [],[],[]⟩
def jQ (f:List (List Bool)→QS→QS) (left:List (List Bool)) (c:Nat):Nat→Nat→QS→Nat→List Int→QS × Nat × List Int
  | 0,_,g,q,ks=>(g,q,ks)
  | w+1,o,g,q,ks =>
    jQ f left c w (o+1) ⟨(f (bT left c o) ⟨g.n+1,g.p,g.R,g.s⟩).n+2,(f (bT left c o) ⟨g.n+1,g.p,g.R,g.s⟩).p,(f (bT left c o) ⟨g.n+1,g.p,g.R,g.s⟩).R,(f (bT left c o) ⟨g.n+1,g.p,g.R,g.s⟩).s⟩ ((f (bT left c o) ⟨g.n+1,g.p,g.R,g.s⟩).n+1) (ks++[(g.R.length:Int)])
def IZ (c j:Nat) (r:QS × Nat × List Int):QS:=⟨r.1.n,r.1.p,r.1.R.set j ⟨(c:Int),some (r.2.1,r.2.2),none⟩,tu c j (r.1.s,r.2.2)⟩
def kq (m:aj):Nat→Nat→List (List Bool)→QS→QS
  | 0,_,_,g=>g
  | f+1,c,left,g =>
    if g.s.aX≤dN m left then ⟨g.n+2,g.n+1,g.R++[cK],{ g.s with nodes:=g.s.nodes++[lp []],b9:=min g.s.b9 (dN m left) }⟩
    else if cJ left c=left.length then ⟨g.n+3,g.n+1,g.R++[cK],{ g.s with nodes:=g.s.nodes++[lp []],plan:=iQ left,aX:=dN m left,b9:=min g.s.b9 (dN m left) }⟩
    else if g.s.spl=0∨g.s.room<(left.getD (cJ left c) default).length then ⟨g.n+2,g.n+1,g.R++[cK],{ g.s with nodes:=g.s.nodes++[lp []],whole:=false,b9:=min g.s.b9 (dN m left) }⟩
    else IZ (cJ left c) g.R.length (jQ (kq m f (cJ left c+1)) left (cJ left c) (left.getD (cJ left c) default).length 0 ⟨g.n+4,g.n+1,g.R++[cK],j3 left (cJ left c) (dN m left) g.s⟩ (g.n+3) [])
def qR (g:QS):Prop:=g.s.nodes=g.R.map BH
theorem qR.len {g:QS} (h:qR g):g.s.nodes.length=g.R.length:=by rw[h,List.length_map]
theorem qR.lf {g:QS} (h:qR g):g.s.nodes++[lp []]=(g.R++[cK]).map BH:=by rw[h,gW];rfl
theorem UW {f:List (List Bool)→QS→QS} {f':List (List Bool)→DS→DS} (hf:∀ left g,qR g→qR (f left g)∧(f left g).s=f' left g.s) (left:List (List Bool)) (c:Nat):∀ (w o:Nat) (g:QS) (q:Nat) (ks:List Int),qR g →
    qR (jQ f left c w o g q ks).1∧((jQ f left c w o g q ks).1.s,(jQ f left c w o g q ks).2.2)=fA f' left c w o g.s ks
  | 0,o,g,q,ks,h=>⟨h,rfl⟩
  | w+1,o,g,q,ks,h=>by
    obtain ⟨a,b⟩:=hf (bT left c o) ⟨g.n+1,g.p,g.R,g.s⟩ h
    rw[jQ,fA]
    have:=UW hf left c w (o+1) ⟨(f (bT left c o) ⟨g.n+1,g.p,g.R,g.s⟩).n+2,(f (bT left c o) ⟨g.n+1,g.p,g.R,g.s⟩).p,(f (bT left c o) ⟨g.n+1,g.p,g.R,g.s⟩).R,(f (bT left c o) ⟨g.n+1,g.p,g.R,g.s⟩).s⟩ ((f (bT left c o) ⟨g.n+1,g.p,g.R,g.s⟩).n+1) (ks++[(g.R.length:Int)]) a
    refine⟨this.1,this.2.trans ?_⟩
    dsimp only
    rw[b,h.len]
theorem UX (m:aj):∀ (f c:Nat) (left:List (List Bool)) (g:QS),qR g→qR (kq m f c left g)∧(kq m f c left g).s=j4 m f c left g.s
  | 0,c,left,g,h=>⟨h,rfl⟩
  | f+1,c,left,g,h=>by
    rw[kq,j4]
    split
    · exact⟨h.lf,rfl⟩
    split
    · exact⟨h.lf,rfl⟩
    split
    · exact⟨h.lf,rfl⟩
    obtain ⟨a,b⟩:=UW (fun adD g2 h2=>UX m f (cJ left c+1) adD g2 h2) left (cJ left c) (left.getD (cJ left c) default).length 0 ⟨g.n+4,g.n+1,g.R++[cK],j3 left (cJ left c) (dN m left) g.s⟩ (g.n+3) [] h.lf
    dsimp only at b
    rw[← b,← h.len]
    refine⟨?_,rfl⟩
    unfold qR IZ tu at *
    dsimp only at *
    rw[a,tC];rfl
end T
namespace T
theorem Fc.iM {F F':List (Nat × Ob)} {os:List Ob} (h:Fc F os) {i:Nat} {y:Ob} (hk:F'.map (·.1)=F.map (·.1)) (hy:(i,y)∈F') (hF:∀ b∈F',b.1≠i→b∈F):Fc F' (os.set i y):=by
  have cC:(F'.map (·.1)).Nodup:=by rw[hk];exact h.nd
  refine⟨fun b hb=>?_,cC⟩
  by_cases e:b.1=i
  · have h1:=DP cC b hb
    have h2:=DP cC _ hy
    rw[e] at h1
    have:b=(i,y):=by dsimp only at h2;rw[h1] at h2;exact Option.some.inj h2
    subst this
    have hi:i∈F.map (·.1):=by rw[← hk];exact ca.2 ⟨_,hy,rfl⟩
    obtain ⟨c,hc,e2⟩:=ca.1 hi
    have bw:=(aQ.1 (h.at_ c hc)).1
    rw[List.getElem?_set,if_pos rfl,if_pos (by rw[← e2];exact bw)]
  · rw[bm (Ne.symm e)]
    exact h.at_ b (hF b hb e)
def xy:List AV:=[.ptr 8 0 0,.ptr 5 0 0,.ptr 0 0 0,.ptr 1 0 0,.ptr 2 0 0,.ptr 7 0 0,.ptr 6 0 0,.ptr 9 0 0]
def dF (pv:AV) (t0:Int) (s:DS):AV:=if s.aX<t0 then .tree 1 (ints s.plan) else pv
section
variable (dn:FuncId) (m:aj) (left:List (List Bool)) (pv:AV) (t0:Int)
def rZ (s:DS):Ob:=.var [dF pv t0 s,.lit (.int .i64 s.aX),.lit (.int .i64 s.b9),.lit (.slice none 0 0)]
def bB (g:QS):List (Nat × Ob):=[(0,.var (ar m)),(1,rZ pv t0 g.s),(2,.var [.lit (.int .i64 g.s.spl)]),(4,.arr 1 (rowsOf bg left)),(5,.var [.ref 4 1 0 left.length]),(6,.var [.lit (.bool g.s.whole)]),(7,.var [.lit (.int .i64 g.s.room)]),(9,.var [.fn dn xy]),(8,.var [.ref g.p 5 0 g.R.length])]
def qB (g:QS) (C:List (Nat × Ob)):List (Nat × Ob):=bB dn m left pv t0 g++(g.p,.arr 5 (rowsOf cj g.R))::(fe g.R++C)
end
variable {dn:FuncId} {m:aj} {left left':List (List Bool)} {pv:AV} {t0:Int}
theorem vS (g:QS):(bB dn m left pv t0 g).map (·.1)=[0,1,2,4,5,6,7,9,8]:=rfl
theorem UY {g g':QS} {C C':List (Nat × Ob)} (hp:g'.p=g.p) (hR:(fe g'.R++C').map (·.1)=(fe g.R++C).map (·.1)):(qB dn m left' pv t0 g' C').map (·.1)=(qB dn m left pv t0 g C).map (·.1):=by
  unfold qB
  rw[gW,gW,vS,vS,dO,dO,hR]
  dsimp only
  rw[hp]
theorem pU {g:QS} {b:Nat × Ob} {C:List (Nat × Ob)}:(b::qB dn m left pv t0 g C).Perm (qB dn m left pv t0 g (b::C)):=by
  unfold qB
  have h:∀ (A D:List (Nat × Ob)) (x:Nat × Ob),(b::(A++x::(D++C))).Perm (A++x::(D++b::C)):=fun A D x=>by
    have:=(zH (a:=b) (l₁:=A++x::D) (l₂:=C)).symm
    simpa [dI] using this
  exact h _ _ _
theorem UZ {g:QS} {C:List (Nat × Ob)} {p' k n:Nat} {s':DS} (h:FK (qB dn m left pv t0 g C) n) (h1:n≤p') (h2:p'<k):FK (qB dn m left' pv t0 ⟨k,p',g.R++[cK],s'⟩ C) k:=by
  have h3:=((h.perm zH).drop.add (i:=p') (x:=.arr 5 (rowsOf cj (g.R++[cK]))) h1 h2).perm (zH (l₁:=bB dn m left pv t0 g)).symm
  refine h3.keys ?_
  unfold qB
  rw[gW,gW,vS,vS,dO,dO]
  dsimp only
  rw[show fe (g.R++[cK])=fe g.R by rw[AX,DM];unfold lK cK kO mO;simp]
theorem adE {g:QS} {C:List (Nat × Ob)} {j n:Nat} {s':DS} {k:Nat} (hj:j<g.R.length) (hl:g.R.getD j default=cK) (r:Rw) (h:FK (lK r++qB dn m left pv t0 g C) n):FK (qB dn m left' pv t0 ⟨k,g.p,g.R.set j r,s'⟩ C) n:=by
  have hp:=OF hj r
  rw[hl] at hp
  have e:lK cK++fe (g.R.set j r)=fe (g.R.set j r):=rfl
  rw[e] at hp
  have h1:(lK r++(bB dn m left pv t0 g++(g.p,.arr 5 (rowsOf cj g.R))::(fe g.R++C))).Perm (bB dn m left pv t0 g++(g.p,.arr 5 (rowsOf cj g.R))::(fe (g.R.set j r)++C)):=by
    have a1:=DN (lK r) (bB dn m left pv t0 g++[(g.p,.arr 5 (rowsOf cj g.R))]) (fe g.R++C)
    simp only[dI,List.cons_append,List.nil_append] at a1
    refine a1.trans (p7.append_left _ (p7.cons _ ?_))
    rw[← dI]
    exact p7.append_right C hp.symm
  refine (h.perm h1).keys ?_
  unfold qB
  rw[gW,gW,vS,vS,dO,dO]
structure DO (dn:FuncId) (m:aj) (left left':List (List Bool)) (pv:AV) (t0:Int) (C:List (Nat × Ob)) (g r:QS):Prop where
  lt:g.R.length<r.R.length
  pre:∀ i,i<g.R.length→r.R.getD i default=g.R.getD i default
  ol:g.n≤r.n
  fk:FK (qB dn m left' pv t0 r C) r.n
theorem FK.lf {g:QS} {C:List (Nat × Ob)} {n:Nat} {s':DS} {k:Nat} (h:FK (qB dn m left pv t0 g C) n):FK (qB dn m left' pv t0 ⟨k,g.p,g.R,s'⟩ C) n:=h.keys (UY rfl rfl)
theorem U0 {R Z:List Rw} {i:Nat} (h:i<R.length):(R++Z).getD i default=R.getD i default:=by
  rw[aA,List.getElem?_append_left h,aA]
theorem U1 (R:List Rw):(R++[cK]).getD R.length default=cK:=by rw[aA,List.getElem?_append_right (aG _),Nat.sub_self];rfl
theorem adF {R:List Rw} {i j:Nat} (h:i≠j) (r:Rw):(R.set j r).getD i default=R.getD i default:=by
  rw[aA,bm (Ne.symm h),aA]
theorem U2 {f:List (List Bool)→QS→QS} {left0:List (List Bool)} {c:Nat} {C:List (Nat × Ob)} (x:Ob) (hf:∀ (o:Nat) (g:QS) (C':List (Nat × Ob)),FK (qB dn m left pv t0 g C') g.n→DO dn m left left pv t0 C' g (f (bT left0 c o) g)) :
    ∀ (w o:Nat) (g:QS) (q:Nat) (ks:List Int),FK (qB dn m left pv t0 g ((q,x)::C)) g.n →
    g.R.length≤(jQ f left0 c w o g q ks).1.R.length∧(∀ i,i<g.R.length→(jQ f left0 c w o g q ks).1.R.getD i default=g.R.getD i default)∧g.n≤(jQ f left0 c w o g q ks).1.n∧FK (qB dn m left pv t0 (jQ f left0 c w o g q ks).1 (((jQ f left0 c w o g q ks).2.1,x)::C)) (jQ f left0 c w o g q ks).1.n
  | 0,o,g,q,ks,h=>⟨aG _,fun _ _=>rfl,aG _,h⟩
  | w+1,o,g,q,ks,h=>by
    have h1:=hf o ⟨g.n+1,g.p,g.R,g.s⟩ ((q,x)::C) (h.lf.mono (Nat.le_add_right _ _))
    rw[jQ]
    generalize f (bT left0 c o) ⟨g.n+1,g.p,g.R,g.s⟩=r at *
    obtain ⟨b1,b2,b3,b4⟩:=h1
    dsimp only at b1 b2 b3
    have h2:FK (qB dn m left pv t0 ⟨r.n+2,r.p,r.R,r.s⟩ ((r.n+1,x)::C)) (r.n+2) :=
      (((b4.perm pU.symm).drop.add (i:=r.n+1) (x:=x) (by omega) (k:=r.n+2) (by omega)).perm pU).lf
    obtain ⟨i1,i2,i3,i4⟩:=U2 x hf w (o+1) ⟨r.n+2,r.p,r.R,r.s⟩ (r.n+1) (ks++[(g.R.length:Int)]) h2
    dsimp only at i1 i2 i3
    exact⟨by omega,fun i hi=>(i2 i (by omega)).trans (b2 i hi),by omega,i4⟩
theorem EM {N:Nat}:∀ (f c:Nat) (left0:List (List Bool)) (g:QS) (C:List (Nat × Ob)),left0.length=N→N+1≤f+c→c≤N→FK (qB dn m left pv t0 g C) g.n→DO dn m left left pv t0 C g (kq m f c left0 g)
  | 0,c,left0,g,C,hl,I0,cE,h=>by omega
  | f+1,c,left0,g,C,hl,I0,cE,h=>by
    have base:∀ (k:Nat) (s':DS),g.n+2≤k→DO dn m left left pv t0 C g ⟨k,g.n+1,g.R++[cK],s'⟩:=fun k s' hk=>⟨by simp,fun i hi=>U0 hi,by show g.n≤k;omega,UZ h (by omega) (by omega)⟩
    rw[kq]
    split
    · exact base _ _ (aG _)
    split
    · exact base _ _ (by omega)
    split
    · exact base _ _ (aG _)
    rename_i he _
    obtain ⟨g1,g2,g3,g4⟩:=xo (left:=left0) _ c rfl
    have U3:cJ left0 c<N:=by have:=g2 (by omega);omega
    have hq:FK (qB dn m left pv t0 ⟨g.n+4,g.n+1,g.R++[cK],j3 left0 (cJ left0 c) (dN m left0) g.s⟩ ((g.n+3,.gone)::C)) (g.n+4):=by
      have:=UZ (left':=left) (s':=j3 left0 (cJ left0 c) (dN m left0) g.s) (p':=g.n+1) (k:=g.n+3) h (by omega) (by omega)
      exact ((this.add (i:=g.n+3) (x:=.gone) (aG _) (k:=g.n+4) (by omega)).perm pU).lf
    obtain ⟨i1,i2,i3,i4⟩:=U2 (dn:=dn) (m:=m) (left:=left) (pv:=pv) (t0:=t0) (left0:=left0) (c:=cJ left0 c) (C:=C) (f:=kq m f (cJ left0 c+1)) .gone (fun o g' C' hh=>EM f (cJ left0 c+1) (bT left0 (cJ left0 c) o) g' C' (by unfold bT;simpa using hl) (by omega) (by omega) hh) (left0.getD (cJ left0 c) default).length 0 _ (g.n+3) [] hq
    generalize jQ (kq m f (cJ left0 c+1)) left0 (cJ left0 c) (left0.getD (cJ left0 c) default).length 0 ⟨g.n+4,g.n+1,g.R++[cK],j3 left0 (cJ left0 c) (dN m left0) g.s⟩ (g.n+3) []=r at *
    dsimp only at i1 i2 i3
    have fh:(g.R++[cK]).length=g.R.length+1:=by simp
    unfold IZ
    refine⟨by dsimp only;rw[bI];omega,fun i hi=>?_,by dsimp only;omega,?_⟩
    · dsimp only
      rw[adF (by omega),i2 i (by omega)];exact U0 hi
    · have yM:r.1.R.getD g.R.length default=cK:=by rw[i2 _ (by omega)];exact U1 _
      refine adE (left:=left) (g:=r.1) (C:=C) (by omega) yM _ ?_
      exact (i4.perm pU.symm).keys rfl
end T
namespace T
variable {dn:FuncId} {m:aj} {left left':List (List Bool)} {pv:AV} {t0:Int} {os:List Ob} {g g':QS} {C:List (Nat × Ob)}
theorem vT (h:Fc (qB dn m left pv t0 g C) os) {i:Nat} {y:Ob} (hp:g'.p=g.p:=by rfl) (hR:g'.R=g.R:=by rfl) (hy:(i,y)∈bB dn m left' pv t0 g':=by simp[bB,rZ,dF]) (hb:∀ b∈bB dn m left' pv t0 g',b.1≠i→b∈bB dn m left pv t0 g:=by (intro b hb dm;simp only[bB,List.mem_cons,List.not_mem_nil,or_false] at hb ⊢;rcases hb with rfl|rfl|rfl|rfl|rfl|rfl|rfl|rfl|rfl<;>first|exact absurd rfl dm|simp[rZ,dF])):Fc (qB dn m left' pv t0 g' C) (os.set i y):=by
  refine h.iM (UY hp (by rw[hR])) (List.mem_append_left _ hy) fun b vK dm=>?_
  unfold qB at vK ⊢
  rcases List.mem_append.1 vK with h1 | h1
  · exact List.mem_append_left _ (hb b h1 dm)
  · rw[hp,hR] at h1
    exact List.mem_append_right _ h1
theorem lv (h:Fc (qB dn m left pv t0 g C) os) {b:Nat × Ob} (hb:b∈bB dn m left pv t0 g):os[b.1]?=some b.2:=h.at_ b (Fp _ hb)
theorem I1 (h:Fc (qB dn m left pv t0 g C) os):os[g.p]?=some (.arr 5 (rowsOf cj g.R)):=h.at_ (g.p,_) (by unfold qB;simp)
theorem BI (h:Fc (qB dn m left pv t0 g C) os) {b:Nat × Ob} (hb:b∈C):os[b.1]?=some b.2:=h.at_ b (by unfold qB;simp[hb])
theorem U4 (h:Fc (qB dn m left pv t0 g C) os) {b:Nat × Ob} (hb:b∈bB dn m left pv t0 g):g.p≠b.1:=fun e=>by
  have h1:=I1 h
  rw[e,lv h hb] at h1
  simp only[bB,cu,ly,or_false] at hb
  rcases hb with rfl | rfl | rfl | rfl | rfl | rfl | rfl | rfl | rfl<;>simp[rZ] at h1
theorem adG (h:Fc (qB dn m left pv t0 g C) os) (k:Nat) (X:List Nd):Fc (qB dn m left pv t0 ⟨k,os.length+1,g.R++[cK],{ g.s with nodes:=X }⟩ C) ((os.set g.p .gone).set 8 (.var [.ref (os.length+1) 5 0 (g.R.length+1)])++[.arr 5 [cj cK],.arr 5 (rowsOf cj (g.R++[cK]))]):=by
  have h1:=(h.front (bB dn m left pv t0 g)).kill .gone
  have hl:(os.set g.p Ob.gone).length=os.length:=bI
  have h8:8<(os.set g.p Ob.gone).length:=by
    rw[hl];exact (aQ.1 (lv h (b:=(8,.var [.ref g.p 5 0 g.R.length])) (by simp[bB]))).1
  have e:(os.set g.p .gone).set 8 (.var [.ref (os.length+1) 5 0 (g.R.length+1)])++[.arr 5 [cj cK],.arr 5 (rowsOf cj (g.R++[cK]))]=(os.set g.p .gone++[Ob.arr 5 [cj cK],Ob.arr 5 (rowsOf cj (g.R++[cK]))]).set 8 (.var [.ref (os.length+1) 5 0 (g.R.length+1)]):=by
    rw[List.set_append_left _ _ h8]
  rw[e]
  have h3:=(h1.app [.arr 5 [cj cK],.arr 5 (rowsOf cj (g.R++[cK]))]).add (k:=os.length+1) (x:=.arr 5 (rowsOf cj (g.R++[cK]))) (by rw[← hl,nj];rfl) (h1.fresh (by rw[hl];omega))
  have h4:=h3.perm (zH (l₁:=bB dn m left pv t0 g)).symm
  refine h4.iM ?_ ?_ fun b hb dm=>?_
  · unfold qB
    rw[gW,gW,vS,vS,dO,dO]
    dsimp only
    rw[show fe (g.R++[cK])=fe g.R by rw[AX,DM];unfold lK cK kO mO;simp]
  · unfold qB bB
    simp
  · unfold qB at hb
    rw[show fe (g.R++[cK])=fe g.R by rw[AX,DM];unfold lK cK kO mO;simp] at hb
    rcases cr.1 hb with h5 | h5
    · refine Fp _ ?_
      simp only[bB,cu,ly,or_false] at h5 ⊢
      rcases h5 with rfl|rfl|rfl|rfl|rfl|rfl|rfl|rfl|rfl<;>first|exact absurd rfl dm|simp[rZ,dF]
    · exact List.mem_append_right _ h5
theorem adH {c:Int} {q j:Nat} {ks:List Int} (hj:j<g.R.length) (hl:g.R.getD j default=cK) (h:Fc (qB dn m left pv t0 g ((q,.arr 1 (ints ks))::C)) os) (k:Nat) (X:List Nd) :
    Fc (qB dn m left pv t0 ⟨k,g.p,g.R.set j ⟨c,some (q,ks),none⟩,{ g.s with nodes:=X }⟩ C) (os.set g.p (.arr 5 (rowsOf cj (g.R.set j ⟨c,some (q,ks),none⟩)))):=by
  have hp:=OF hj (⟨c,some (q,ks),none⟩:Rw)
  rw[hl] at hp
  have e:lK cK++fe (g.R.set j ⟨c,some (q,ks),none⟩)=fe (g.R.set j ⟨c,some (q,ks),none⟩):=rfl
  rw[e] at hp
  have e2:lK (⟨c,some (q,ks),none⟩:Rw)=[(q,.arr 1 (ints ks))]:=rfl
  rw[e2] at hp
  have h1:=((h.front (bB dn m left pv t0 g)).put (.arr 5 (rowsOf cj (g.R.set j ⟨c,some (q,ks),none⟩)))).perm (zH (l₁:=bB dn m left pv t0 g)).symm
  refine h1.perm ?_
  unfold qB
  have h2:bB dn m left pv t0 ⟨k,g.p,g.R.set j ⟨c,some (q,ks),none⟩,{ g.s with nodes:=X }⟩=bB dn m left pv t0 g:=by
    unfold bB rZ dF
    dsimp only
    rw[bI]
  rw[h2]
  refine p7.append_left _ (p7.cons _ ?_)
  have h3:(fe g.R++(q,Ob.arr 1 (ints ks))::C).Perm ([(q,Ob.arr 1 (ints ks))]++(fe g.R++C)):=zH
  refine h3.trans ?_
  rw[← dI]
  exact p7.append_right C hp.symm
structure Cn (s r:DS):Prop where
  a:0≤s.spl→0≤r.spl
  b:r.spl≤s.spl
  c:0≤s.room→0≤r.room
  d:r.room≤s.room
  e:r.aX≤s.aX
theorem Cn.refl (s:DS):Cn s s:=⟨fun h=>h,dE _,fun h=>h,dE _,dE _⟩
theorem Cn.trans {s r t:DS} (h:Cn s r) (k:Cn r t):Cn s t:=⟨fun x=>k.a (h.a x),pk k.b h.b,fun x=>k.c (h.c x),pk k.d h.d,pk k.e h.e⟩
theorem U5 {f:List (List Bool)→QS→QS} {left0:List (List Bool)} {c:Nat} (hf:∀ (o:Nat) (g:QS),((f (bT left0 c o) g).R.length:Int)+(f (bT left0 c o) g).s.room=g.R.length+g.s.room+1) :
    ∀ (w o:Nat) (g:QS) (q:Nat) (ks:List Int),((jQ f left0 c w o g q ks).1.R.length:Int)+(jQ f left0 c w o g q ks).1.s.room=g.R.length+g.s.room+w
  | 0,o,g,q,ks=>by show (g.R.length:Int)+g.s.room=_;simp
  | w+1,o,g,q,ks=>by
    have h1:=hf o ⟨g.n+1,g.p,g.R,g.s⟩
    rw[jQ]
    generalize f (bT left0 c o) ⟨g.n+1,g.p,g.R,g.s⟩=r at *
    have:=U5 hf w (o+1) ⟨r.n+2,r.p,r.R,r.s⟩ (r.n+1) (ks++[(g.R.length:Int)])
    dsimp only at h1 this ⊢
    rw[this];omega
theorem U6 (m:aj) {N:Nat}:∀ (f c:Nat) (left0:List (List Bool)) (g:QS),left0.length=N→N+1≤f+c→c≤N→((kq m f c left0 g).R.length:Int)+(kq m f c left0 g).s.room=g.R.length+g.s.room+1
  | 0,c,left0,g,hl,I0,cE=>by omega
  | f+1,c,left0,g,hl,I0,cE=>by
    have fh:(g.R++[cK]).length=g.R.length+1:=by simp
    rw[kq]
    split
    · show ((g.R++[cK]).length:Int)+g.s.room=_;omega
    split
    · show ((g.R++[cK]).length:Int)+g.s.room=_;omega
    split
    · show ((g.R++[cK]).length:Int)+g.s.room=_;omega
    rename_i he _
    obtain ⟨g1,g2,g3,g4⟩:=xo (left:=left0) _ c rfl
    have U3:cJ left0 c<N:=by have:=g2 (by omega);omega
    have hK:=U5 (left0:=left0) (c:=cJ left0 c) (f:=kq m f (cJ left0 c+1)) (fun o g'=>U6 m f (cJ left0 c+1) (bT left0 (cJ left0 c) o) g' (by unfold bT;simpa using hl) (by omega) (by omega)) (left0.getD (cJ left0 c) default).length 0 ⟨g.n+4,g.n+1,g.R++[cK],j3 left0 (cJ left0 c) (dN m left0) g.s⟩ (g.n+3) []
    generalize jQ (kq m f (cJ left0 c+1)) left0 (cJ left0 c) (left0.getD (cJ left0 c) default).length 0 ⟨g.n+4,g.n+1,g.R++[cK],j3 left0 (cJ left0 c) (dN m left0) g.s⟩ (g.n+3) []=r at *
    unfold j3 at hK
    dsimp only at hK
    show ((r.1.R.set g.R.length _).length:Int)+r.1.s.room=_
    rw[bI];omega
theorem U7 {f:List (List Bool)→QS→QS} (hf:∀ l g,Cn g.s (f l g).s) (left:List (List Bool)) (c:Nat):∀ (w o:Nat) (g:QS) (q:Nat) (ks:List Int),Cn g.s (jQ f left c w o g q ks).1.s
  | 0,o,g,q,ks=>Cn.refl g.s
  | w+1,o,g,q,ks=>by
    have h1:=hf (bT left c o) ⟨g.n+1,g.p,g.R,g.s⟩
    rw[jQ]
    generalize f (bT left c o) ⟨g.n+1,g.p,g.R,g.s⟩=r at *
    exact h1.trans (U7 hf left c w (o+1) ⟨r.n+2,r.p,r.R,r.s⟩ (r.n+1) _)
theorem U8 (m:aj):∀ (f c:Nat) (left:List (List Bool)) (g:QS),Cn g.s (kq m f c left g).s
  | 0,c,left,g=>Cn.refl g.s
  | f+1,c,left,g=>by
    rw[kq]
    split
    · exact⟨fun h=>h,dE _,fun h=>h,dE _,dE _⟩
    split
    · exact⟨fun h=>h,dE _,fun h=>h,dE _,by dsimp only;omega⟩
    split
    · exact⟨fun h=>h,dE _,fun h=>h,dE _,dE _⟩
    rename_i hb
    rw[not_or] at hb
    refine Cn.trans (r:=j3 left (cJ left c) (dN m left) g.s) ?_ ?_
    · unfold j3
      exact⟨fun h=>by dsimp only;omega,by dsimp only;omega,fun h=>by dsimp only;omega,by dsimp only;omega,dE _⟩
    · have:=U7 (fun l g=>U8 m f (cJ left c+1) l g) left (cJ left c) (left.getD (cJ left c) default).length 0 ⟨g.n+4,g.n+1,g.R++[cK],j3 left (cJ left c) (dN m left) g.s⟩ (g.n+3) []
      exact⟨this.a,this.b,this.c,this.d,this.e⟩
end T
namespace T
variable {dn:FuncId} {m:aj} {left left':List (List Bool)} {pv:AV} {t0:Int} {os:List Ob} {g g':QS} {C:List (Nat × Ob)}
theorem U9 {b:Nat × Ob}:(qB dn m left pv t0 g (b::C)).Perm (b::qB dn m left pv t0 g C):=pU.symm
theorem adI {q nv:Nat} {x y X':Ob} (a:Ob) (h:Fc (qB dn m left pv t0 g ((q,x)::(nv,y)::C)) os) (k:Nat) (b:Ob):Fc (qB dn m left pv t0 ⟨k,g.p,g.R,g.s⟩ ((os.length+1,b)::(nv,X')::C)) ((os.set q .gone).set nv X'++[a,b]):=by
  have h1:=((h.perm U9).kill .gone).perm U9
  have h2:=((h1.put X').app [a,b]).add (k:=os.length+1) (x:=b) (by
    have:((os.set q Ob.gone).set nv X').length=os.length:=by simp
    rw[← this,nj];rfl) ((h1.put X').fresh (by simp))
  have h3:((os.length+1,b)::(nv,X')::qB dn m left pv t0 g C).Perm (qB dn m left pv t0 ⟨k,g.p,g.R,g.s⟩ ((os.length+1,b)::(nv,X')::C)):=(p7.cons _ pU).trans pU
  exact h2.perm h3
theorem U' {c:Nat} (x y:List Bool):(rowsOf bg (left.set c x)).set c [.tree 1 (aY y)]=rowsOf bg (left.set c y):=by
  unfold rowsOf
  rw[tC,tC,List.set_set];rfl
theorem setRow_self {c:Nat} (hc:c<left.length):left.set c (left.getD c default)=left:=by
  rw[aA,bX hc]
  exact List.set_getElem_self hc
theorem adJ {R:List Rw} {j:Nat} {r:Rw} (hj:j<R.length) (h:R.getD j default=r):(rowsOf cj R)[j]?=some (cj r):=by
  unfold rowsOf
  rw[List.getElem?_map,bX hj,Option.map_some]
  rw[aA,bX hj,Option.getD_some] at h
  rw[h]
theorem adK (R:List Rw) (j:Nat) (r:Rw):(rowsOf cj R).set j (cj r)=rowsOf cj (R.set j r):=by unfold rowsOf;rw[tC]
end T
namespace T
variable {σ:St} {kp:Nat→Prop}
theorem adL {id n:Nat} {xs:List Int} (ho:σ.aa[id]?=some (.arr 1 (ints xs))) (hn:n=xs.length) (hk:¬ kp id):cg σ kp (.tree 1 (ints xs)) (.ref id 1 0 n) :=
  cg.mk ho (by rw[hn];simp[ints]) hk (oE _) (jI.yO (f:=fun _=>[]) (g:=fun _=>[]) rfl fun j c d hc hd=>by rw[hc] at hd;cases hd;exact DG (fun v hv=>pw _ _ (gB hc) v hv) rfl)
theorem adM {α:Type} {enc:α→List AV} {w:Nat} [Row enc w] {id n:Nat} {xs:List α} (ho:σ.aa[id]?=some (.arr w (rowsOf enc xs))) (hn:n=xs.length) (hk:¬ kp id):cg σ kp (.tree w (rowsOf enc xs)) (.ref id w 0 n) :=
  cg.mk ho (by rw[hn,b8]) hk (eT _) (jI.yO (f:=fun _=>[]) (g:=fun _=>[]) rfl fun j c d hc hd=>by rw[hc] at hd;cases hd;exact DG (fun v hv=>jy _ _ (gB hc) v hv) rfl)
theorem adN (x:Option (Nat × List Int)) (h:∀ b∈kO x,σ.aa[b.1]?=some b.2) (hk:∀ i,¬ kp i):cg σ kp (.tree 1 (ints ((x.map (·.2)).getD []))) (kE x):=by
  cases x with
  | none=>exact .nil 1
  | some y=>exact adL (h (y.1,.arr 1 (ints y.2)) (by simp[kO])) rfl (hk _)
theorem adO (x:Option (Nat × List Mv)) (h:∀ b∈mO x,σ.aa[b.1]?=some b.2) (hk:∀ i,¬ kp i):cg σ kp (.tree 4 (rowsOf vC ((x.map (·.2)).getD []))) (mE x):=by
  cases x with
  | none=>exact .nil 4
  | some y=>exact adM (h (y.1,.arr 4 (rowsOf vC y.2)) (by simp[mO])) rfl (hk _)
theorem adP (r:Rw) (h:∀ b∈lK r,σ.aa[b.1]?=some b.2) (hk:∀ i,¬ kp i):dY (cg σ kp) (cL (BH r)) (cj r) :=
  ⟨.lit _,adN r.yP (fun b hb=>h b (by unfold lK;simp[hb])) hk,adO r.mv (fun b hb=>h b (by unfold lK;simp[hb])) hk,.nil 1,.nil 1,trivial⟩
theorem Ve (hk:∀ i,¬ kp i):∀ (R:List Rw),(∀ b∈fe R,σ.aa[b.1]?=some b.2)→jI (cg σ kp) (rowsOf cL (R.map BH)) (rowsOf cj R)
  | [],_=>trivial
  | r::R,h=>⟨adP r (fun b hb=>h b (by unfold fe;simp[hb])) hk,Ve hk R (fun b hb=>h b (by unfold fe at hb ⊢;rw[List.flatMap_cons,cr];exact .inr hb))⟩
theorem l6 {p:Nat} {R:List Rw} (hp:σ.aa[p]?=some (.arr 5 (rowsOf cj R))) (h:∀ b∈fe R,σ.aa[b.1]?=some b.2) (hk:∀ i,¬ kp i):cg σ kp (.tree 5 (rowsOf cL (R.map BH))) (.ref p 5 0 R.length) :=
  cg.mk hp (by rw[OE]) (hk _) (eT _) (Ve hk R h)
end T

