import Derived.Test.YtdipcmigdbnheaaGreatX29
set_option linter.all false
set_option maxHeartbeats 0
set_option maxRecDepth 20000
open List renaming length_map→ed,map_append→gQ,map_set→sW,mem_map→bZ,getElem?_eq_some_iff→aM,getElem?_set_ne→bj,map_cons→dJ,perm_middle→zg,append_assoc→dC,Perm→pD,getD_eq_getElem?_getD→aA,length_set→bE,mem_append_left→EO,mem_cons→b8,not_mem_nil→k8,mem_append→cj,getElem?_eq_getElem→bT,mem_of_getElem?→gf,take→mA,drop→kH,length_append→bR,length_take→iL,take_of_length_le→fP
open Nat renaming le_refl→aG,zero_le→aQ,not_lt_zero→vK,min_eq_left→vG
open Int renaming le_refl→dy,le_trans→oP
open Bool renaming not_false→m4,not_true→lA
open Go Go.Am Go.Proofs
namespace T
structure QS where
 n:Nat
 p:Nat
 R:List Rw
 s:DS
def A9(r:Rw):Nd:=⟨r.c,(r.yp.map (·.2)).getD [],(r.mv.map (·.2)).getD [],[],[]⟩
def jJ(f:List (List Bool)->QS->QS)(left:List (List Bool))(c:Nat):Nat->Nat->QS->Nat->List Int->QS×Nat×List Int
 |0,_,g,q,ks=>(g,q,ks)
 |w+1,o,g,q,ks =>
  jJ f left c w (o+1) ⟨(f (bN left c o) ⟨g.n+1,g.p,g.R,g.s⟩).n+2,(f (bN left c o) ⟨g.n+1,g.p,g.R,g.s⟩).p,(f (bN left c o) ⟨g.n+1,g.p,g.R,g.s⟩).R,(f (bN left c o) ⟨g.n+1,g.p,g.R,g.s⟩).s⟩ ((f (bN left c o) ⟨g.n+1,g.p,g.R,g.s⟩).n+1) (ks++[(g.R.length:Int)])
def Ik(c j:Nat)(r:QS×Nat×List Int):QS:=⟨r.1.n,r.1.p,r.1.R.set j ⟨(c:Int),some (r.2.1,r.2.2),none⟩,sP c j (r.1.s,r.2.2)⟩
def ka(m:aj):Nat->Nat->List (List Bool)->QS->QS
 |0,_,_,g=>g
 |f+1,c,left,g =>
  if g.s.aU<=dI m left then⟨g.n+2,g.n+1,g.R++[cF],{ g.s with nodes:=g.s.nodes++[kU []],bY:=min g.s.bY (dI m left) }⟩
  else if cC left c=left.length then⟨g.n+3,g.n+1,g.R++[cF],{ g.s with nodes:=g.s.nodes++[kU []],plan:=iD left,aU:=dI m left,bY:=min g.s.bY (dI m left) }⟩
  else if g.s.spl=0\/g.s.room<(left.getD (cC left c) default).length then⟨g.n+2,g.n+1,g.R++[cF],{ g.s with nodes:=g.s.nodes++[kU []],whole:=false,bY:=min g.s.bY (dI m left) }⟩
  else Ik (cC left c) g.R.length (jJ (ka m f (cC left c+1)) left (cC left c) (left.getD (cC left c) default).length 0 ⟨g.n+4,g.n+1,g.R++[cF],jR left (cC left c) (dI m left) g.s⟩ (g.n+3) [])
def qq(g:QS):Prop:=g.s.nodes=g.R.map A9
def qq.len{g:QS}(h:qq g):g.s.nodes.length=g.R.length:=by rw[h,ed]
def qq.lf{g:QS}(h:qq g):g.s.nodes++[kU []]=(g.R++[cF]).map A9:=by rw[h,gQ];rfl
def Ug{f:List (List Bool)->QS->QS}{f':List (List Bool)->DS->DS}(hf:∀ left g,qq g->qq (f left g)/\(f left g).s=f' left g.s)(left:List (List Bool))(c:Nat):∀ (w o:Nat) (g:QS) (q:Nat) (ks:List Int),qq g ->
  qq (jJ f left c w o g q ks).1/\((jJ f left c w o g q ks).1.s,(jJ f left c w o g q ks).2.2)=fi f' left c w o g.s ks
 |0,o,g,q,ks,h=>⟨h,rfl⟩
 |w+1,o,g,q,ks,h=>by
  obtain⟨a,b⟩:=hf (bN left c o) ⟨g.n+1,g.p,g.R,g.s⟩ h;rw[jJ,fi];have:=Ug hf left c w (o+1) ⟨(f (bN left c o) ⟨g.n+1,g.p,g.R,g.s⟩).n+2,(f (bN left c o) ⟨g.n+1,g.p,g.R,g.s⟩).p,(f (bN left c o) ⟨g.n+1,g.p,g.R,g.s⟩).R,(f (bN left c o) ⟨g.n+1,g.p,g.R,g.s⟩).s⟩ ((f (bN left c o) ⟨g.n+1,g.p,g.R,g.s⟩).n+1) (ks++[(g.R.length:Int)]) a;refine⟨this.1,this.2.trans ?_⟩;dsimp only;rw[b,h.len]
def Uh(m:aj):∀ (f c:Nat) (left:List (List Bool)) (g:QS),qq g->qq (ka m f c left g)/\(ka m f c left g).s=jS m f c left g.s
 |0,c,left,g,h=>⟨h,rfl⟩
 |f+1,c,left,g,h=>by
  rw[ka,jS];split
  ·exact⟨h.lf,rfl⟩
  split
  ·exact⟨h.lf,rfl⟩
  split
  ·exact⟨h.lf,rfl⟩
  obtain⟨a,b⟩:=Ug (λacP g2 h2=>Uh m f (cC left c+1) acP g2 h2) left (cC left c) (left.getD (cC left c) default).length 0 ⟨g.n+4,g.n+1,g.R++[cF],jR left (cC left c) (dI m left) g.s⟩ (g.n+3) [] h.lf;dsimp only at b;rw[<- b,<- h.len];refine⟨?_,rfl⟩;unfold qq Ik sP at *;dsimp only at *;rw[a,sW];rfl
def Fc.iv{F F':List (Nat×Ob)}{os:List Ob}(h:Fc F os){i:Nat}{y:Ob}(hk:F'.map (·.1)=F.map (·.1))(hy:(i,y)∈F')(hF:∀ b∈F',b.1≠i->b∈F):Fc F' (os.set i y):=by
 have cu:(F'.map (·.1)).Nodup:=by rw[hk];exact h.nd
 refine⟨λb hb=>?_,cu⟩;by_cases e:b.1=i
 ·have h1:=Dg cu b hb;have h2:=Dg cu _ hy;rw[e]at h1;have:b=(i,y):=by dsimp only at h2;rw[h1]at h2;exact Option.some.inj h2
  subst this;have hi:i∈F.map (·.1):=by rw[<- hk];exact bZ.2 ⟨_,hy,rfl⟩
  obtain⟨c,hc,e2⟩:=bZ.1 hi;have bq:=(aM.1 (h.at_ c hc)).1;rw[List.getElem?_set,if_pos rfl,if_pos (by rw[<- e2];exact bq)]
 ·rw[bj (Ne.symm e)];exact h.at_ b (hF b hb e)
def w8:List AV:=[.ptr 8 0 0,.ptr 5 0 0,.ptr 0 0 0,.ptr 1 0 0,.ptr 2 0 0,.ptr 7 0 0,.ptr 6 0 0,.ptr 9 0 0]
def dw(pv:AV)(t0:Int)(s:DS):AV:=if s.aU<t0 then .tree 1 (ints s.plan) else pv
section
variable (dn:FuncId) (m:aj) (left:List (List Bool)) (pv:AV) (t0:Int)
def rB(s:DS):Ob:=.var [dw pv t0 s,aa3 s.aU,aa3 s.bY,.lit (.slice none 0 0)]
def bB(g:QS):List (Nat×Ob):=[(0,.var (av m)),(1,rB pv t0 g.s),(2,.var [aa3 g.s.spl]),(4,.arr 1 (rowsOf bd left)),(5,.var [.ref 4 1 0 left.length]),(6,.var [.lit (.bool g.s.whole)]),(7,.var [aa3 g.s.room]),(9,.var [.fn dn w8]),(8,.var [.ref g.p 5 0 g.R.length])]
def qB(g:QS)(C:List (Nat×Ob)):List (Nat×Ob):=bB dn m left pv t0 g++(g.p,.arr 5 (rowsOf ca g.R))::(eT g.R++C)
end
variable {dn:FuncId} {m:aj} {left left':List (List Bool)} {pv:AV} {t0:Int}
def vv(g:QS):(bB dn m left pv t0 g).map (·.1)=[0,1,2,4,5,6,7,9,8]:=rfl
def Ui{g g':QS}{C C':List (Nat×Ob)}(hp:g'.p=g.p)(hR:(eT g'.R++C').map (·.1)=(eT g.R++C).map (·.1)):(qB dn m left' pv t0 g' C').map (·.1)=(qB dn m left pv t0 g C).map (·.1):=by
 unfold qB;rw[gQ,gQ,vv,vv,dJ,dJ,hR];dsimp only;rw[hp]
def pt{g:QS}{b:Nat×Ob}{C:List (Nat×Ob)}:(b::qB dn m left pv t0 g C).Perm (qB dn m left pv t0 g (b::C)):=by
 unfold qB;have h:∀ (A D:List (Nat×Ob)) (x:Nat×Ob),(b::(A++x::(D++C))).Perm (A++x::(D++b::C)):=λA D x=>by
  have:=(zg (a:=b) (l₁:=A++x::D) (l₂:=C)).symm;simpa [dC] using this
 exact h _ _ _
def Uj{g:QS}{C:List (Nat×Ob)}{p' k n:Nat}{s':DS}(h:FK (qB dn m left pv t0 g C) n)(h1:n<=p')(h2:p'<k):FK (qB dn m left' pv t0 ⟨k,p',g.R++[cF],s'⟩ C) k:=by
 have h3:=((h.perm zg).drop.add (i:=p') (x:=.arr 5 (rowsOf ca (g.R++[cF]))) h1 h2).perm (zg (l₁:=bB dn m left pv t0 g)).symm;refine h3.keys ?_;unfold qB;rw[gQ,gQ,vv,vv,dJ,dJ];dsimp only;rw[show eT (g.R++[cF])=eT g.R by rw[As,De];unfold lu cF kO mO;simp]
def acQ{g:QS}{C:List (Nat×Ob)}{j n:Nat}{s':DS}{k:Nat}(hj:j<g.R.length)(hl:g.R.getD j default=cF)(r:Rw)(h:FK (lu r++qB dn m left pv t0 g C) n):FK (qB dn m left' pv t0 ⟨k,g.p,g.R.set j r,s'⟩ C) n:=by
 have hp:=NU hj r;rw[hl]at hp;have e:lu cF++eT (g.R.set j r)=eT (g.R.set j r):=rfl;rw[e]at hp;have h1:(lu r++(bB dn m left pv t0 g++(g.p,.arr 5 (rowsOf ca g.R))::(eT g.R++C))).Perm (bB dn m left pv t0 g++(g.p,.arr 5 (rowsOf ca g.R))::(eT (g.R.set j r)++C)):=by
  have a1:=Df (lu r) (bB dn m left pv t0 g++[(g.p,.arr 5 (rowsOf ca g.R))]) (eT g.R++C);simp only[dC,List.cons_append,List.nil_append]at a1;refine a1.trans (pD.append_left _ (pD.cons _ ?_));rw[<- dC];exact pD.append_right C hp.symm
 refine(h.perm h1).keys ?_;unfold qB;rw[gQ,gQ,vv,vv,dJ,dJ]
structure DO(dn:FuncId)(m:aj)(left left':List (List Bool))(pv:AV)(t0:Int)(C:List (Nat×Ob))(g r:QS):Prop where
 lt:g.R.length<r.R.length
 pre:∀ i,i<g.R.length->r.R.getD i default=g.R.getD i default
 ol:g.n<=r.n
 fk:FK (qB dn m left' pv t0 r C) r.n
def FK.lf{g:QS}{C:List (Nat×Ob)}{n:Nat}{s':DS}{k:Nat}(h:FK (qB dn m left pv t0 g C) n):FK (qB dn m left' pv t0 ⟨k,g.p,g.R,s'⟩ C) n:=h.keys (Ui rfl rfl)
def Uk{R Z:List Rw}{i:Nat}(h:i<R.length):(R++Z).getD i default=R.getD i default:=by
 rw[aA,List.getElem?_append_left h,aA]
def Ul(R:List Rw):(R++[cF]).getD R.length default=cF:=by rw[aA,List.getElem?_append_right (aG _),Nat.sub_self];rfl
def acR{R:List Rw}{i j:Nat}(h:i≠j)(r:Rw):(R.set j r).getD i default=R.getD i default:=by
 rw[aA,bj (Ne.symm h),aA]
def Um{f:List (List Bool)->QS->QS}{left0:List (List Bool)}{c:Nat}{C:List (Nat×Ob)}(x:Ob)(hf:∀ (o:Nat) (g:QS) (C':List (Nat×Ob)),FK (qB dn m left pv t0 g C') g.n->DO dn m left left pv t0 C' g (f (bN left0 c o) g)):
  ∀ (w o:Nat) (g:QS) (q:Nat) (ks:List Int),FK (qB dn m left pv t0 g ((q,x)::C)) g.n ->
  g.R.length<=(jJ f left0 c w o g q ks).1.R.length/\(∀ i,i<g.R.length->(jJ f left0 c w o g q ks).1.R.getD i default=g.R.getD i default)/\g.n<=(jJ f left0 c w o g q ks).1.n/\FK (qB dn m left pv t0 (jJ f left0 c w o g q ks).1 (((jJ f left0 c w o g q ks).2.1,x)::C)) (jJ f left0 c w o g q ks).1.n
 |0,o,g,q,ks,h=>⟨aG _,λ_ _=>rfl,aG _,h⟩
 |w+1,o,g,q,ks,h=>by
  have h1:=hf o ⟨g.n+1,g.p,g.R,g.s⟩ ((q,x)::C) (h.lf.mono (Nat.le_add_right _ _));rw[jJ];generalize f (bN left0 c o) ⟨g.n+1,g.p,g.R,g.s⟩=r at *;obtain⟨b1,b2,b3,b4⟩:=h1;dsimp only at b1 b2 b3;have h2:FK (qB dn m left pv t0 ⟨r.n+2,r.p,r.R,r.s⟩ ((r.n+1,x)::C)) (r.n+2) :=
   (((b4.perm pt.symm).drop.add (i:=r.n+1) (x:=x) I6 (k:=r.n+2) I6).perm pt).lf
  obtain⟨i1,i2,i3,i4⟩:=Um x hf w (o+1) ⟨r.n+2,r.p,r.R,r.s⟩ (r.n+1) (ks++[(g.R.length:Int)]) h2;dsimp only at i1 i2 i3;exact⟨I6,λi hi=>(i2 i I6).trans (b2 i hi),I6,i4⟩
def Ee{N:Nat}:∀ (f c:Nat) (left0:List (List Bool)) (g:QS) (C:List (Nat×Ob)),left0.length=N->N+1<=f+c->c<=N->FK (qB dn m left pv t0 g C) g.n->DO dn m left left pv t0 C g (ka m f c left0 g)
 |0,c,left0,g,C,hl,Il,cy,h=>I6
 |f+1,c,left0,g,C,hl,Il,cy,h=>by
  have base:∀ (k:Nat) (s':DS),g.n+2<=k->DO dn m left left pv t0 C g ⟨k,g.n+1,g.R++[cF],s'⟩:=λk s' hk=>⟨Jd,λi hi=>Uk hi,by show g.n<=k;omega,Uj h I6 I6⟩;rw[ka];split
  ·exact base _ _ (aG _)
  split
  ·exact base _ _ I6
  split
  ·exact base _ _ (aG _)
  rename_i he _;obtain⟨g1,g2,g3,g4⟩:=wY (left:=left0) _ c rfl;have Un:cC left0 c<N:=by have:=g2 I6;omega
  have hq:FK (qB dn m left pv t0 ⟨g.n+4,g.n+1,g.R++[cF],jR left0 (cC left0 c) (dI m left0) g.s⟩ ((g.n+3,.gone)::C)) (g.n+4):=by
   have:=Uj (left':=left) (s':=jR left0 (cC left0 c) (dI m left0) g.s) (p':=g.n+1) (k:=g.n+3) h I6 I6;exact((this.add (i:=g.n+3) (x:=.gone) (aG _) (k:=g.n+4) I6).perm pt).lf
  obtain⟨i1,i2,i3,i4⟩:=Um (dn:=dn) (m:=m) (left:=left) (pv:=pv) (t0:=t0) (left0:=left0) (c:=cC left0 c) (C:=C) (f:=ka m f (cC left0 c+1)) .gone (λo g' C' hh=>Ee f (cC left0 c+1) (bN left0 (cC left0 c) o) g' C' (by unfold bN;simpa using hl) I6 I6 hh) (left0.getD (cC left0 c) default).length 0 _ (g.n+3) [] hq;generalize jJ (ka m f (cC left0 c+1)) left0 (cC left0 c) (left0.getD (cC left0 c) default).length 0 ⟨g.n+4,g.n+1,g.R++[cF],jR left0 (cC left0 c) (dI m left0) g.s⟩ (g.n+3) []=r at *;dsimp only at i1 i2 i3;have eV:(g.R++[cF]).length=g.R.length+1:=Jd;unfold Ik;refine⟨by dsimp only;rw[bE];omega,λi hi=>?_,aaK,?_⟩
  ·dsimp only;rw[acR I6,i2 i I6];exact Uk hi
  ·have yl:r.1.R.getD g.R.length default=cF:=by rw[i2 _ I6];exact Ul _
   refine acQ (left:=left) (g:=r.1) (C:=C) I6 yl _ ?_;exact(i4.perm pt.symm).keys rfl
variable {dn:FuncId} {m:aj} {left left':List (List Bool)} {pv:AV} {t0:Int} {os:List Ob} {g g':QS} {C:List (Nat×Ob)}
theorem vw(h:Fc (qB dn m left pv t0 g C) os){i:Nat}{y:Ob}(hp:g'.p=g.p:=by rfl)(hR:g'.R=g.R:=by rfl)(hy:(i,y)∈bB dn m left' pv t0 g':=by simp[bB,rB,dw])(hb:∀ b∈bB dn m left' pv t0 g',b.1≠i->b∈bB dn m left pv t0 g:=by(intro b hb df;simp only[bB,List.mem_cons,List.not_mem_nil,or_false]at hb ⊢;rcases hb with rfl|rfl|rfl|rfl|rfl|rfl|rfl|rfl|rfl<;>first|exact absurd rfl df|simp[rB,dw])):Fc (qB dn m left' pv t0 g' C) (os.set i y):=by
 refine h.iv (Ui hp (by rw[hR])) (List.mem_append_left _ hy) fun b vj df=>?_;unfold qB at vj ⊢;rcases List.mem_append.1 vj with h1|h1
 ·exact List.mem_append_left _ (hb b h1 df)
 ·rw[hp,hR]at h1;exact List.mem_append_right _ h1
def kZ(h:Fc (qB dn m left pv t0 g C) os){b:Nat×Ob}(hb:b∈bB dn m left pv t0 g):os[b.1]?=some b.2:=h.at_ b (EO _ hb)
def Im(h:Fc (qB dn m left pv t0 g C) os):os[g.p]?=some (.arr 5 (rowsOf ca g.R)):=h.at_ (g.p,_) (by unfold qB;simp)
def Ba(h:Fc (qB dn m left pv t0 g C) os){b:Nat×Ob}(hb:b∈C):os[b.1]?=some b.2:=h.at_ b (by unfold qB;simp[hb])
def Uo(h:Fc (qB dn m left pv t0 g C) os){b:Nat×Ob}(hb:b∈bB dn m left pv t0 g):g.p≠b.1:=λe=>by
 have h1:=Im h;rw[e,kZ h hb]at h1;simp only[bB,b8,k8,or_false]at hb;rcases hb with rfl|rfl|rfl|rfl|rfl|rfl|rfl|rfl|rfl<;>simp[rB]at h1
def acS(h:Fc (qB dn m left pv t0 g C) os)(k:Nat)(X:List Nd):Fc (qB dn m left pv t0 ⟨k,os.length+1,g.R++[cF],{ g.s with nodes:=X }⟩ C) ((os.set g.p .gone).set 8 (.var [.ref (os.length+1) 5 0 (g.R.length+1)])++[.arr 5 [ca cF],.arr 5 (rowsOf ca (g.R++[cF]))]):=by
 have h1:=(h.front (bB dn m left pv t0 g)).kill .gone;have hl:(os.set g.p Ob.gone).length=os.length:=bE;have h8:8<(os.set g.p Ob.gone).length:=by
  rw[hl];exact(aM.1 (kZ h (b:=(8,.var [.ref g.p 5 0 g.R.length])) (by simp[bB]))).1
 have e:(os.set g.p .gone).set 8 (.var [.ref (os.length+1) 5 0 (g.R.length+1)])++[.arr 5 [ca cF],.arr 5 (rowsOf ca (g.R++[cF]))]=(os.set g.p .gone++[Ob.arr 5 [ca cF],Ob.arr 5 (rowsOf ca (g.R++[cF]))]).set 8 (.var [.ref (os.length+1) 5 0 (g.R.length+1)]):=by
  rw[List.set_append_left _ _ h8]
 rw[e];have h3:=(h1.app [.arr 5 [ca cF],.arr 5 (rowsOf ca (g.R++[cF]))]).add (k:=os.length+1) (x:=.arr 5 (rowsOf ca (g.R++[cF]))) (by rw[<- hl,mU];rfl) (h1.fresh (by rw[hl];omega));have h4:=h3.perm (zg (l₁:=bB dn m left pv t0 g)).symm;refine h4.iv ?_ ?_ λb hb df=>?_
 ·unfold qB;rw[gQ,gQ,vv,vv,dJ,dJ];dsimp only;rw[show eT (g.R++[cF])=eT g.R by rw[As,De];unfold lu cF kO mO;simp]
 ·unfold qB bB;simp
 ·unfold qB at hb;rw[show eT (g.R++[cF])=eT g.R by rw[As,De];unfold lu cF kO mO;simp]at hb;rcases cj.1 hb with h5|h5
  ·refine EO _ ?_;simp only[bB,b8,k8,or_false]at h5 ⊢;rcases h5 with rfl|rfl|rfl|rfl|rfl|rfl|rfl|rfl|rfl<;>first|exact absurd rfl df|simp[rB,dw]
  ·exact List.mem_append_right _ h5
def acT{c:Int}{q j:Nat}{ks:List Int}(hj:j<g.R.length)(hl:g.R.getD j default=cF)(h:Fc (qB dn m left pv t0 g ((q,.arr 1 (ints ks))::C)) os)(k:Nat)(X:List Nd):
  Fc (qB dn m left pv t0 ⟨k,g.p,g.R.set j ⟨c,some (q,ks),none⟩,{ g.s with nodes:=X }⟩ C) (os.set g.p (.arr 5 (rowsOf ca (g.R.set j ⟨c,some (q,ks),none⟩)))):=by
 have hp:=NU hj (⟨c,some (q,ks),none⟩:Rw);rw[hl]at hp;have e:lu cF++eT (g.R.set j ⟨c,some (q,ks),none⟩)=eT (g.R.set j ⟨c,some (q,ks),none⟩):=rfl;rw[e]at hp;have e2:lu (⟨c,some (q,ks),none⟩:Rw)=[(q,.arr 1 (ints ks))]:=rfl;rw[e2]at hp;have h1:=((h.front (bB dn m left pv t0 g)).put (.arr 5 (rowsOf ca (g.R.set j ⟨c,some (q,ks),none⟩)))).perm (zg (l₁:=bB dn m left pv t0 g)).symm;refine h1.perm ?_;unfold qB;have h2:bB dn m left pv t0 ⟨k,g.p,g.R.set j ⟨c,some (q,ks),none⟩,{ g.s with nodes:=X }⟩=bB dn m left pv t0 g:=by
  unfold bB rB dw;dsimp only;rw[bE]
 rw[h2];refine pD.append_left _ (pD.cons _ ?_);have h3:(eT g.R++(q,Ob.arr 1 (ints ks))::C).Perm ([(q,Ob.arr 1 (ints ks))]++(eT g.R++C)):=zg;refine h3.trans ?_;rw[<- dC];exact pD.append_right C hp.symm
structure Cn(s r:DS):Prop where
 a:0<=s.spl->0<=r.spl
 b:r.spl<=s.spl
 c:0<=s.room->0<=r.room
 d:r.room<=s.room
 e:r.aU<=s.aU
def Cn.refl(s:DS):Cn s s:=⟨λh=>h,dy _,λh=>h,dy _,dy _⟩
def Cn.trans{s r t:DS}(h:Cn s r)(k:Cn r t):Cn s t:=⟨λx=>k.a (h.a x),oP k.b h.b,λx=>k.c (h.c x),oP k.d h.d,oP k.e h.e⟩
def Uq{f:List (List Bool)->QS->QS}{left0:List (List Bool)}{c:Nat}(hf:∀ (o:Nat) (g:QS),((f (bN left0 c o) g).R.length:Int)+(f (bN left0 c o) g).s.room=g.R.length+g.s.room+1):
  ∀ (w o:Nat) (g:QS) (q:Nat) (ks:List Int),((jJ f left0 c w o g q ks).1.R.length:Int)+(jJ f left0 c w o g q ks).1.s.room=g.R.length+g.s.room+w
 |0,o,g,q,ks=>by show(g.R.length:Int)+g.s.room=_;simp
 |w+1,o,g,q,ks=>by
  have h1:=hf o ⟨g.n+1,g.p,g.R,g.s⟩;rw[jJ];generalize f (bN left0 c o) ⟨g.n+1,g.p,g.R,g.s⟩=r at *;have:=Uq hf w (o+1) ⟨r.n+2,r.p,r.R,r.s⟩ (r.n+1) (ks++[(g.R.length:Int)]);dsimp only at h1 this ⊢;rw[this];omega
def Ur(m:aj){N:Nat}:∀ (f c:Nat) (left0:List (List Bool)) (g:QS),left0.length=N->N+1<=f+c->c<=N->((ka m f c left0 g).R.length:Int)+(ka m f c left0 g).s.room=g.R.length+g.s.room+1
 |0,c,left0,g,hl,Il,cy=>I6
 |f+1,c,left0,g,hl,Il,cy=>by
  have eV:(g.R++[cF]).length=g.R.length+1:=Jd;rw[ka];split
  ·show((g.R++[cF]).length:Int)+g.s.room=_;omega
  split
  ·show((g.R++[cF]).length:Int)+g.s.room=_;omega
  split
  ·show((g.R++[cF]).length:Int)+g.s.room=_;omega
  rename_i he _;obtain⟨g1,g2,g3,g4⟩:=wY (left:=left0) _ c rfl;have Un:cC left0 c<N:=by have:=g2 I6;omega
  have hK:=Uq (left0:=left0) (c:=cC left0 c) (f:=ka m f (cC left0 c+1)) (λo g'=>Ur m f (cC left0 c+1) (bN left0 (cC left0 c) o) g' (by unfold bN;simpa using hl) I6 I6) (left0.getD (cC left0 c) default).length 0 ⟨g.n+4,g.n+1,g.R++[cF],jR left0 (cC left0 c) (dI m left0) g.s⟩ (g.n+3) [];generalize jJ (ka m f (cC left0 c+1)) left0 (cC left0 c) (left0.getD (cC left0 c) default).length 0 ⟨g.n+4,g.n+1,g.R++[cF],jR left0 (cC left0 c) (dI m left0) g.s⟩ (g.n+3) []=r at *;unfold jR at hK;dsimp only at hK;show((r.1.R.set g.R.length _).length:Int)+r.1.s.room=_;rw[bE];omega
def Us{f:List (List Bool)->QS->QS}(hf:∀ l g,Cn g.s (f l g).s)(left:List (List Bool))(c:Nat):∀ (w o:Nat) (g:QS) (q:Nat) (ks:List Int),Cn g.s (jJ f left c w o g q ks).1.s
 |0,o,g,q,ks=>Cn.refl g.s
 |w+1,o,g,q,ks=>by
  have h1:=hf (bN left c o) ⟨g.n+1,g.p,g.R,g.s⟩;rw[jJ];generalize f (bN left c o) ⟨g.n+1,g.p,g.R,g.s⟩=r at *;exact h1.trans (Us hf left c w (o+1) ⟨r.n+2,r.p,r.R,r.s⟩ (r.n+1) _)
def Ut(m:aj):∀ (f c:Nat) (left:List (List Bool)) (g:QS),Cn g.s (ka m f c left g).s
 |0,c,left,g=>Cn.refl g.s
 |f+1,c,left,g=>by
  rw[ka];split
  ·exact⟨λh=>h,dy _,λh=>h,dy _,dy _⟩
  split
  ·exact⟨λh=>h,dy _,λh=>h,dy _,aaK⟩
  split
  ·exact⟨λh=>h,dy _,λh=>h,dy _,dy _⟩
  rename_i hb;rw[not_or]at hb;refine Cn.trans (r:=jR left (cC left c) (dI m left) g.s) ?_ ?_
  ·unfold jR;exact⟨λh=>aaK,aaK,λh=>aaK,aaK,dy _⟩
  ·have:=Us (λl g=>Ut m f (cC left c+1) l g) left (cC left c) (left.getD (cC left c) default).length 0 ⟨g.n+4,g.n+1,g.R++[cF],jR left (cC left c) (dI m left) g.s⟩ (g.n+3) [];exact⟨this.a,this.b,this.c,this.d,this.e⟩
variable {dn:FuncId} {m:aj} {left left':List (List Bool)} {pv:AV} {t0:Int} {os:List Ob} {g g':QS} {C:List (Nat×Ob)}
def Uu{b:Nat×Ob}:(qB dn m left pv t0 g (b::C)).Perm (b::qB dn m left pv t0 g C):=pt.symm
def acU{q nv:Nat}{x y X':Ob}(a:Ob)(h:Fc (qB dn m left pv t0 g ((q,x)::(nv,y)::C)) os)(k:Nat)(b:Ob):Fc (qB dn m left pv t0 ⟨k,g.p,g.R,g.s⟩ ((os.length+1,b)::(nv,X')::C)) ((os.set q .gone).set nv X'++[a,b]):=by
 have h1:=((h.perm Uu).kill .gone).perm Uu;have h2:=((h1.put X').app [a,b]).add (k:=os.length+1) (x:=b) (by
  have:((os.set q Ob.gone).set nv X').length=os.length:=Jd;rw[<- this,mU];rfl) ((h1.put X').fresh Jd)
 have h3:((os.length+1,b)::(nv,X')::qB dn m left pv t0 g C).Perm (qB dn m left pv t0 ⟨k,g.p,g.R,g.s⟩ ((os.length+1,b)::(nv,X')::C)):=(pD.cons _ pt).trans pt;exact h2.perm h3
def Uv{c:Nat}(x y:List Bool):(rowsOf bd (left.set c x)).set c [.tree 1 (aY y)]=rowsOf bd (left.set c y):=by
 unfold rowsOf;rw[sW,sW,List.set_set];rfl
def setRow_self{c:Nat}(hc:c<left.length):left.set c (left.getD c default)=left:=by
 rw[aA,bT hc];exact List.set_getElem_self hc
def acV{R:List Rw}{j:Nat}{r:Rw}(hj:j<R.length)(h:R.getD j default=r):(rowsOf ca R)[j]?=some (ca r):=by
 unfold rowsOf;rw[List.getElem?_map,bT hj,Option.map_some];rw[aA,bT hj,Option.getD_some]at h;rw[h]
def acW(R:List Rw)(j:Nat)(r:Rw):(rowsOf ca R).set j (ca r)=rowsOf ca (R.set j r):=by unfold rowsOf;rw[sW]
variable {σ:St} {kp:Nat->Prop}
def acX{id n:Nat}{xs:List Int}(ho:σ.aa[id]?=some (.arr 1 (ints xs)))(hn:n=xs.length)(hk:¬ kp id):b9 σ kp (.tree 1 (ints xs)) (.ref id 1 0 n) :=
 b9.mk ho (by rw[hn];simp[ints]) hk (pO _) (jB.yn (f:=λ_=>[]) (g:=λ_=>[]) rfl λj c d hc hd=>by rw[hc]at hd;cases hd;exact C8 (λv hv=>qD _ _ (gf hc) v hv) rfl)
def acY{α:Type}{enc:α->List AV}{w:Nat}[Row enc w]{id n:Nat}{xs:List α}(ho:σ.aa[id]?=some (.arr w (rowsOf enc xs)))(hn:n=xs.length)(hk:¬ kp id):b9 σ kp (.tree w (rowsOf enc xs)) (.ref id w 0 n) :=
 b9.mk ho (by rw[hn,bW]) hk (eF _) (jB.yn (f:=λ_=>[]) (g:=λ_=>[]) rfl λj c d hc hd=>by rw[hc]at hd;cases hd;exact C8 (λv hv=>jh _ _ (gf hc) v hv) rfl)
def acZ(x:Option (Nat×List Int))(h:∀ b∈kO x,σ.aa[b.1]?=some b.2)(hk:∀ i,¬ kp i):b9 σ kp (.tree 1 (ints ((x.map (·.2)).getD []))) (kE x):=by
 cases x with
 |none=>exact .nil 1
 |some y=>exact acX (h (y.1,.arr 1 (ints y.2)) (by simp[kO])) rfl (hk _)
def ac0(x:Option (Nat×List Mv))(h:∀ b∈mO x,σ.aa[b.1]?=some b.2)(hk:∀ i,¬ kp i):b9 σ kp (.tree 4 (rowsOf u6 ((x.map (·.2)).getD []))) (mE x):=by
 cases x with
 |none=>exact .nil 4
 |some y=>exact acY (h (y.1,.arr 4 (rowsOf u6 y.2)) (by simp[mO])) rfl (hk _)
def ac1(r:Rw)(h:∀ b∈lu r,σ.aa[b.1]?=some b.2)(hk:∀ i,¬ kp i):dS (b9 σ kp) (cN (A9 r)) (ca r) :=
 ⟨.lit _,acZ r.yp (λb hb=>h b (by unfold lu;simp[hb])) hk,ac0 r.mv (λb hb=>h b (by unfold lu;simp[hb])) hk,.nil 1,.nil 1,trivial⟩
def Uw(hk:∀ i,¬ kp i):∀ (R:List Rw),(∀ b∈eT R,σ.aa[b.1]?=some b.2)->jB (b9 σ kp) (rowsOf cN (R.map A9)) (rowsOf ca R)
 |[],_=>trivial
 |r::R,h=>⟨ac1 r (λb hb=>h b (by unfold eT;simp[hb])) hk,Uw hk R (λb hb=>h b (by unfold eT at hb ⊢;rw[List.flatMap_cons,cj];exact .inr hb))⟩
def oo{p:Nat}{R:List Rw}(hp:σ.aa[p]?=some (.arr 5 (rowsOf ca R)))(h:∀ b∈eT R,σ.aa[b.1]?=some b.2)(hk:∀ i,¬ kp i):b9 σ kp (.tree 5 (rowsOf cN (R.map A9))) (.ref p 5 0 R.length) :=
 b9.mk hp (by rw[NT]) (hk _) (eF _) (Uw hk R h)
def Ux(xs:List Nm)(q:Nm):rowsOf bx xs++[[AV.lit (.int .i64 q.1),.lit (.bool q.2)]]=rowsOf bx (xs++[q]):=by simp[rowsOf,bx]
def ac2{m:aj}(hm:VM m)(pd:m.ar=[]){gi ai bi:Nat}{D E:List (Nat×Nat)}{S T:List (List Nm)}{os:List Ob}(h:LO bx (GB m gi ai bi D E) D E S T os)(hg:LG m vp (S,T)){left:List (List Bool)}(hf:ej m left):
  ez Tryz.prog 135 [.ptr gi 0 0,.tree 1 (rowsOf bd left)] os λr ob=>r=aa3 (mS m left (S,T))/\os.length<=ob.length:=by
 obtain⟨fg,fa,fb⟩:=Hw h;have eg:=bC fg;have ea:=bC fa;have eb:=bC fb;have hD:=h.rD.len;have hE:=h.rE.len;have kf:S.length=m.cls.length:=hg.s;have HT:T.length=m.ae.length:=hg.t;have HH:=hm.cls;have ym:=hm.ae;have w9:=hm.ar;have eA:=hf.1;rw[aaH];refine ez.aF 80 os.length [.tmp 4] Tryz.func135 ?_;((try revert hK K);(repeat'(first|refine Vb (X3 @fg @fa @gC.eq_1) ?_|(refine V2 (X3 @fg @fa @gC.eq_1) ?_ ?_<;>try with_reducible intro hb)|(refine Xi ?_ ?_<;>try intro ht)|refine VD ?_ ?_|exact Xx|fail))<;>try with_reducible intro K hK)
 all_goals try(exfalso;omega)
 have hDl:D.length=m.cls.length:=I6;refine aW (λz:Nat×List Ob×Nat×List Nm=>(⟨ax [(0,.ptr gi 0 0),(1,.tree 1 (rowsOf bd left)),(5,.ref z.2.2.1 2 0 z.2.2.2.length),(17,aa3 m.cls.length),(18,aa3 z.1)],z.2.1⟩:St))
  (λz=>z.1<=m.cls.length/\fO os z.2.1/\z.2.1[z.2.2.1]?=some (.arr 2 (rowsOf bx z.2.2.2))/\os.length<=z.2.2.1/\z.2.2.2=(PC left S z.1).map vh)
  (λz=>m.cls.length-z.1) (0,os++[.arr 2 []],os.length,[]) ⟨aQ _,(fO.refl _).app _,lR _ _ _,aG _,rfl⟩ ?_ ?_
 ·refine aB.trans (aB.nil 5 2 (by simp only[Kc,simprocAttr]) aab) ?_;exact Xv @hDl
 rintro⟨i,ob,ti,ps⟩⟨hi,bI,fh,kT,fy⟩Ql aq au;dsimp only at hi bI fh kT fy ⊢;have cE:ps.length=i:=by rw[fy,ed,DF]
 by_cases hi':i<m.cls.length
 ·have ve:=ab1 hm (h.aw bI) hg hf i hi';have fW:(PC left S (i+1)).map vh=ps++[qf (iW (S.getD i default) (left.getD i default))]:=by
   rw[show PC left S (i+1)=PC left S i++[fe (S.getD i default) (left.getD i default) (0,false)] from Dz _ i,gQ,<- fy,Rm];rfl
  have Io:=SQ (iW (S.getD i default) (left.getD i default)) (by have:=G7 (S.getD i default) (left.getD i default);have:=hg.sl i hi';have:=hm.opt _ (aC (d:=default) hi');dsimp only at *;omega);generalize iW (S.getD i default) (left.getD i default)=Ip at *;generalize qf Ip=q at *;repeat'(first|((fail_if_success (first|refine eG 5 ?_|refine eH 5 ?_));refine Xr X0 ?_;intro K hK)|refine Xo X0 ?_|(refine hK _ ?_;clear hK K)|(refine Xg X0 ?_ ?_<;>try intro hb)|(refine Xi ?_ ?_<;>try intro ht)|refine Xy ?_|refine Xd ?_ ?_|exact Xx|fail)
  refine qW 4 aab _ rfl ?_;intro K hK;simp(disch:=omega)only[Ac,↓Pc,simprocAttr,mA,kH];refine⟨rfl,(show ma Tryz.prog 178 [.ptr gi 0 0,aa3 i,.tree 1 (rowsOf bd left)] (some 25) _ _ from ?_)⟩;refine uS ve ?_;rintro r Bb⟨bK,id,rfl,cP⟩;refine⟨bK.len,?_⟩;have xb:=bK _ _ fh;have Iq:=bC xb;have Ir:=gP xb;have cr:=(bI.trans bK).len;simp(disch:=omega)only[Ac,↓Pc,simprocAttr,kH];refine n6 [] Io Jd trivial ⟨aE.fz cP (by rw[bW]) Jd,trivial⟩ rfl Jd ?_;simp(disch:=omega)only[Ac,↓Pc,simprocAttr,xb,Iq,Ir,bx,Ux,dr,dC,bR,bE];repeat'(first|with_reducible refine And.intro ?_ ?_|omega|with_reducible rfl)
  refine hK _ ?_;clear hK K;repeat(first|refine Xu ?_)
  ((try revert hK K);(repeat'(first|refine Va X0 ?_|(refine V2 X0 ?_ ?_<;>try with_reducible intro hb)|(refine Xi ?_ ?_<;>try intro ht)|refine VD ?_ ?_|exact Xx|fail))<;>try with_reducible intro K hK)
  refine aq _ (i+1,Bb.set ti .gone++[.arr 2 [bx q],.arr 2 (rowsOf bx (ps++[q]))],Bb.length+1,ps++[q]) ⟨aaK,((bI.trans bK).set kT).app _,yJ _ _ _ _ _,aaK,fW.symm⟩ aaK ?_;exact Xv @bx.eq_1
 have Uy:i=m.cls.length:=I6;rw[Uy]at fy;have kg:=bI _ _ fg;have kb:=bI _ _ fb;have ac4:E.length=m.ae.length:=I6;((try revert hK K);(repeat'(first|refine Va X0 ?_|(refine V2 X0 ?_ ?_<;>try with_reducible intro hb)|(refine Xi ?_ ?_<;>try intro ht)|refine VD ?_ ?_|exact Xx|fail))<;>try with_reducible intro K hK)
 refine au _ _ rfl ?_;clear aq au Ql;repeat(first|refine Xu ?_)
 ((try revert hK K);(repeat'(first|refine Va (X3 @kg @kb @gC.eq_1) ?_|(refine V2 (X3 @kg @kb @gC.eq_1) ?_ ?_<;>try with_reducible intro hb)|(refine Xi ?_ ?_<;>try intro ht)|refine VD ?_ ?_|exact Xx|fail))<;>try with_reducible intro K hK)
 refine aW (λz:Nat×List Ob×Nat×List Nm=>(⟨ax [(0,.ptr gi 0 0),(1,.tree 1 (rowsOf bd left)),(5,.ref z.2.2.1 2 0 z.2.2.2.length),(34,aa3 m.ae.length),(35,aa3 z.1)],z.2.1⟩:St))
  (λz=>z.1<=m.ae.length/\fO os z.2.1/\z.2.1[z.2.2.1]?=some (.arr 2 (rowsOf bx z.2.2.2))/\os.length<=z.2.2.1/\z.2.2.2=(PC left S m.cls.length++PP m left T z.1).map vh)
  (λz=>m.ae.length-z.1) (0,ob,ti,ps) ⟨aQ _,bI,fh,kT,by rw[fy];simp[PP]⟩ (Xv @ac4) ?_
 clear bI fh kT fy cE Uy kg kb hi hi' ti ps;rintro⟨i,ob,ti,ps⟩⟨hi,bI,fh,kT,fy⟩Ql aq au;dsimp only at hi bI fh kT fy ⊢;have cE:ps.length=m.cls.length+i:=by rw[fy,ed,bR,DF,Ho]
 by_cases hi':i<m.ae.length
 ·have ve:=ab3 hm (h.aw bI) hg hf i hi';have fW:(PC left S m.cls.length++PP m left T (i+1)).map vh=ps++[qf (iW (T.getD i default) (kA m left i))]:=by
   rw[show PP m left T (i+1)=PP m left T i++[fe (T.getD i default) (kA m left i) (0,false)] from Dz _ i,<- dC,gQ,<- fy,Rm];rfl
  have Io:=SQ (iW (T.getD i default) (kA m left i)) (by have:=G7 (T.getD i default) (kA m left i);have:=hg.tl i hi';have:=HQ (jo hm.pr _ (aC (d:=default) hi')) hm;dsimp only at *;omega);generalize iW (T.getD i default) (kA m left i)=Ip at *;generalize qf Ip=q at *;repeat'(first|((fail_if_success (first|refine eG 10 ?_|refine eH 10 ?_));refine Xr X0 ?_;intro K hK)|refine Xo X0 ?_|(refine hK _ ?_;clear hK K)|(refine Xg X0 ?_ ?_<;>try intro hb)|(refine Xi ?_ ?_<;>try intro ht)|refine Xy ?_|refine Xd ?_ ?_|exact Xx|fail)
  refine qW 4 aab _ rfl ?_;intro K hK;simp(disch:=omega)only[Ac,↓Pc,simprocAttr,mA,kH];refine⟨rfl,(show ma Tryz.prog 179 [.ptr gi 0 0,aa3 i,.tree 1 (rowsOf bd left)] (some 42) _ _ from ?_)⟩;refine uS ve ?_;rintro r Bb⟨bK,id,rfl,cP⟩;refine⟨bK.len,?_⟩;have xb:=bK _ _ fh;have Iq:=bC xb;have Ir:=gP xb;have cr:=(bI.trans bK).len;simp(disch:=omega)only[Ac,↓Pc,simprocAttr,kH];refine n6 [] Io Jd trivial ⟨aE.fz cP (by rw[bW]) Jd,trivial⟩ rfl Jd ?_;simp(disch:=omega)only[Ac,↓Pc,simprocAttr,xb,Iq,Ir,bx,Ux,dr,dC,bR,bE];repeat'(first|with_reducible refine And.intro ?_ ?_|omega|with_reducible rfl)
  refine hK _ ?_;clear hK K;repeat(first|refine Xu ?_)
  ((try revert hK K);(repeat'(first|refine Va X0 ?_|(refine V2 X0 ?_ ?_<;>try with_reducible intro hb)|(refine Xi ?_ ?_<;>try intro ht)|refine VD ?_ ?_|exact Xx|fail))<;>try with_reducible intro K hK)
  refine aq _ (i+1,Bb.set ti .gone++[.arr 2 [bx q],.arr 2 (rowsOf bx (ps++[q]))],Bb.length+1,ps++[q]) ⟨aaK,((bI.trans bK).set kT).app _,yJ _ _ _ _ _,aaK,fW.symm⟩ aaK ?_;exact Xv @bx.eq_1
 have Uz:i=m.ae.length:=I6;rw[Uz]at fy;have kg:=bI _ _ fg;((try revert hK K);(repeat'(first|refine Va X0 ?_|(refine V2 X0 ?_ ?_<;>try with_reducible intro hb)|(refine Xi ?_ ?_<;>try intro ht)|refine VD ?_ ?_|exact Xx|fail))<;>try with_reducible intro K hK)
 refine au _ _ rfl ?_;clear aq au Ql;repeat(first|refine Xu ?_)
 ((try revert hK K);(repeat'(first|refine Va (X2 @kg @gC.eq_1) ?_|(refine V2 (X2 @kg @gC.eq_1) ?_ ?_<;>try with_reducible intro hb)|(refine Xi ?_ ?_<;>try intro ht)|refine VD ?_ ?_|exact Xx|fail))<;>try with_reducible intro K hK)
 refine aW (λz:Nat×List Ob×Nat×List Nm=>(⟨ax [(1,.tree 1 (rowsOf bd left)),(5,.ref z.2.2.1 2 0 z.2.2.2.length),(51,.tree 4 (rowsOf aK m.ar)),(52,aa3 m.ar.length),(53,aa3 z.1)],z.2.1⟩:St))
  (λz=>z.1<=m.ar.length/\fO os z.2.1/\z.2.1[z.2.2.1]?=some (.arr 2 (rowsOf bx z.2.2.2))/\os.length<=z.2.2.1/\z.2.2.2=(PC left S m.cls.length++PP m left T m.ae.length++PK m left z.1).map vh)
  (λz=>m.ar.length-z.1) (0,ob,ti,ps) ⟨aQ _,bI,fh,kT,by rw[fy];simp[PK]⟩ (Xv X0) ?_
 clear bI fh kT fy cE Uz kg hi hi' ti ps;rintro⟨i,ob,ti,ps⟩⟨hi,bI,fh,kT,fy⟩Ql aq au;dsimp only at hi bI fh kT fy ⊢;have cE:ps.length=m.cls.length+m.ae.length+i:=by rw[fy,ed,bR,bR,DF,Ho,Se]
 by_cases hi':i<m.ar.length
 ·exact absurd hi' (by rw[pd];exact vK _)
 have hiK:i=m.ar.length:=I6;rw[hiK]at fy cE;rw[show PC left S m.cls.length++PP m left T m.ae.length++PK m left m.ar.length=tO m left (S,T) from rfl]at fy;have Tk:(tO m left (S,T)).length=m.cls.length+m.ae.length+m.ar.length:=by unfold tO;rw[bR,bR,DF,Ho,Se]
 have UA:∀ p∈tO m left (S,T),-vp<=p.1/\p.1<=vp:=λp hp=>by
  unfold tO at hp;rw[cj,cj]at hp;rcases hp with(hp|hp)|hp
  ·exact aa5 (by unfold vp;decide) hg.sb _ p hp
  ·exact aa6 (by unfold vp;decide) hg.tb _ p hp
  ·have:=aa9 hm _ p hp;unfold vp;omega
 generalize tO m left (S,T)=P at *;((try revert hK K);(repeat'(first|refine Va X0 ?_|(refine V2 X0 ?_ ?_<;>try with_reducible intro hb)|(refine Xi ?_ ?_<;>try intro ht)|refine VD ?_ ?_|exact Xx|fail))<;>try with_reducible intro K hK)
 refine au _ _ rfl ?_;clear aq au Ql;repeat(first|refine Xu ?_)
 ((try revert hK K);(repeat'(first|refine Va @fh ?_|(refine V2 @fh ?_ ?_<;>try with_reducible intro hb)|(refine Xi ?_ ?_<;>try intro ht)|refine VD ?_ ?_|exact Xx|fail))<;>try with_reducible intro K hK)
 all_goals try(exfalso;omega)
 refine aW (λz:Nat×List Ob=>(⟨ax [(10,aa3 (cI (P.take z.1) (0,false)).1),(65,.ref ti 2 0 ps.length),(66,aa3 ps.length),(67,aa3 z.1)],z.2⟩:St))
  (λz=>z.1<=P.length/\fO os z.2/\z.2[ti]?=some (.arr 2 (rowsOf bx ps))/\(cI (P.take z.1) (0,false)).2=false)
  (λz=>P.length-z.1) (0,ob) ⟨aQ _,bI,fh,rfl⟩ (Xv (X3 @List.take_zero.{0} @cI.eq_1 @List.foldl_nil.{0,0})) ?_
 clear bI fh;rintro⟨j,ob⟩⟨hj,bI,fh,Ef⟩Ql aq au;dsimp only at hj bI fh Ef ⊢;have cr:=bI.len;have aff:ps.length=P.length:=by rw[fy,ed]
 by_cases dG:j<P.length
 ·have ua:=iB dG;have n8:=Hd (P.take j) (P.getD j default) (0,false);rw[<- ua,Ef,Bool.false_or]at n8;have wz:ps.getD j default=vh (P.getD j default):=by rw[fy,ik _ _ _ dG]
  have q7:=Sd (P.take j) (0,false) (λp hp=>UA p (List.mem_of_mem_take hp));rw[iL,vG hj]at q7;have UB:=UA _ (aC (d:=default) dG);have ac6:=aC (l:=P) (d:=default) dG;unfold vp at q7 UB;dsimp only at q7;generalize (cI (P.take j) (0,false)).1=s at *;generalize P.getD j default=q at *;obtain⟨v,b⟩:=q;unfold vh at wz;dsimp only at wz n8 UB;have ry:=bC fh;cases b
  ·have tL:(cI P (0,false)).2=true:=(Ro P 0).2 ⟨_,ac6,rfl⟩;((try revert hK K);(repeat'(first|refine Va (X5 @fh @ry @wz @bx.eq_1 (X2 @dr @m4)) ?_|(refine V2 (X5 @fh @ry @wz @bx.eq_1 (X2 @dr @m4)) ?_ ?_<;>try with_reducible intro hb)|(refine Xi ?_ ?_<;>try intro ht)|refine VD ?_ ?_|exact Xx|fail))<;>try with_reducible intro K hK)
   all_goals try(exfalso;omega)
   repeat(first|refine Xu ?_|(refine bQ _ _ rfl ?_;clear bX bQ;try clear eR)|(refine eK _ _ rfl ?_;clear gw eK;try clear lM)|(refine kP _ _ rfl ?_;clear uU kP;try clear wG))
   ((try revert hK K);(repeat'(first|refine Vb X0 ?_|(refine V2 X0 ?_ ?_<;>try with_reducible intro hb)|(refine Xi ?_ ?_<;>try intro ht)|refine VD ?_ ?_|exact Xx|fail))<;>try with_reducible intro K hK)
   unfold fJ;simp only[dQ,dK];simp(disch:=omega)only[Ac,↓Pc,simprocAttr];rw[if_pos tL];exact⟨_,_,⟨rfl,by rw[bR];omega⟩,fB rfl (by rw[bR];omega) rfl⟩
  ·((try revert hK K);(repeat'(first|refine Va (X5 @fh @ry @wz @bx.eq_1 (X2 @dr @lA)) ?_|(refine V2 (X5 @fh @ry @wz @bx.eq_1 (X2 @dr @lA)) ?_ ?_<;>try with_reducible intro hb)|(refine Xi ?_ ?_<;>try intro ht)|refine VD ?_ ?_|exact Xx|fail))<;>try with_reducible intro K hK)
   all_goals try(exfalso;omega)
   refine aq _ (j+1,_) ⟨aaK,bI.app [.var (bx (v,false))],ry _,by rw[n8];rfl⟩ aaK ?_;simp only[n8];exact Xv @bx.eq_1
 ·rw[fP I6]at Ef;have ac7:¬ (cI P (0,false)).2=true:=by rw[Ef];simp
  ((try revert hK K);(repeat'(first|refine Va (fP (show P.length<=j by omega)) ?_|(refine V2 (fP (show P.length<=j by omega)) ?_ ?_<;>try with_reducible intro hb)|(refine Xi ?_ ?_<;>try intro ht)|refine VD ?_ ?_|exact Xx|fail))<;>try with_reducible intro K hK)
  refine au _ _ rfl ?_;clear aq au Ql;repeat(first|refine Xu ?_)
  ((try revert hK K);(repeat'(first|refine Vb X0 ?_|(refine V2 X0 ?_ ?_<;>try with_reducible intro hb)|(refine Xi ?_ ?_<;>try intro ht)|refine VD ?_ ?_|exact Xx|fail))<;>try with_reducible intro K hK)
  unfold fJ;simp only[dQ,dK];simp(disch:=omega)only[Ac,↓Pc,simprocAttr];rw[if_neg ac7];exact⟨_,ob,⟨rfl,cr⟩,fB rfl cr rfl⟩
def LG.ac8{m:aj}{B C:Int}{g:Lg}(h:LG m B g)(hc:B<=C):LG m C g:=⟨h.s,h.t,h.sl,h.tl,λr hr=>(h.sb r hr).mono hc,λr hr=>(h.tb r hr).mono hc⟩
def ac9(m:aj)(left:List (List Bool))(l:List Mv)(hl0:l=[])(pd:m.ar=[])(hm:VM m)(hf:ej m left)(hl:l.length<9223372036854775808):an Tryz.prog 77 [.agg (av m),.tree 1 (rowsOf bd left),.tree 4 (rowsOf u6 l)] [] (.bO [aa3 (kB m left l).1,aa3 (kB m left l).2]) []:=by
 generalize ao:kB m left l=res;unfold kB at ao;refine an.aF 33 0 [.tmp 6,.tmp 7] Tryz.func77 ?_;have hlen:¬ 2000<l.length:=by rw[hl0];decide
 rw[if_neg hlen]at ao;repeat'(first|((fail_if_success (first|refine eG 3 ?_|refine eH 3 ?_));refine Xr X0 ?_;intro K hK)|refine Xo X0 ?_|(refine hK _ ?_;clear hK K)|(refine Xg X0 ?_ ?_<;>try intro hb)|(refine Xi ?_ ?_<;>try intro ht)|refine XY ?_|refine Xd ?_ ?_|exact Xx|fail)
 all_goals try(exfalso;omega)
 refine qW 1 aab _ rfl ?_;intro K hK;simp(disch:=omega)only[Ac,↓Pc,simprocAttr,mA,kH];refine⟨rfl,(show ma Tryz.prog 132 [.agg (av m)] (some 15) _ _ from ?_)⟩;refine uS (abS hm [.var (av m)]) ?_;rintro r os⟨gi,ai,bi,D,E,rfl,xc,bI⟩;refine⟨bI.len,?_⟩;have f0:=bI 0 _ rfl;simp(disch:=omega)only[Ac,↓Pc,simprocAttr,kH];refine hK _ ?_;clear hK K;repeat(first|refine Xu ?_)
 ((try revert hK K);(repeat'(first|refine Va X0 ?_|(refine V2 X0 ?_ ?_<;>try with_reducible intro hb)|(refine Xi ?_ ?_<;>try intro ht)|refine VD ?_ ?_|exact Xx|fail))<;>try with_reducible intro K hK)
 refine aW (λz:Nat×List Ob=>(⟨ax [(1,.tree 1 (rowsOf bd left)),(8,.ptr gi 0 0),(16,.tree 4 (rowsOf u6 l)),(17,aa3 l.length),(18,aa3 z.1)],z.2⟩:St))
  (λz=>z.1<=l.length/\LO bx (GB m gi ai bi D E) D E (mi m (l.take z.1) (S0 m,T0 m)).1 (mi m (l.take z.1) (S0 m,T0 m)).2 z.2/\∀ x∈l.take z.1,oG m x=true)
  (λz=>l.length-z.1) (0,os) ⟨aQ _,xc,Jd⟩ (Xv X0) ?_
 clear xc bI f0;rintro⟨i,ob⟩⟨hi,xc,jQ⟩Ql aq au;dsimp only at hi xc jQ ⊢;have uY:=(RO hm (l.take i) jQ);rw[iL,vG hi]at uY;by_cases hi':i<l.length
 ·exact absurd hi' (by rw[hl0];exact vK _)
 ·rw[fP I6]at xc uY jQ;rw[if_neg (by rw[Bool.not_eq_false];exact List.all_eq_true.2 jQ)]at ao;generalize mi m l (S0 m,T0 m)=g at *;obtain⟨g1,g2⟩:=g;dsimp only at xc;have hval:=ac2 hm pd xc (uY.ac8 (by unfold vp;omega)) hf;((try revert hK K);(repeat'(first|refine Va X0 ?_|(refine V2 X0 ?_ ?_<;>try with_reducible intro hb)|(refine Xi ?_ ?_<;>try intro ht)|refine VD ?_ ?_|exact Xx|fail))<;>try with_reducible intro K hK)
  refine au _ _ rfl ?_;clear aq au Ql;repeat(first|refine Xu ?_)
  repeat'(first|((fail_if_success (first|refine eG 11 ?_|refine eH 11 ?_));refine Xr X0 ?_;intro K hK)|refine Xo X0 ?_|(refine hK _ ?_;clear hK K)|(refine Xg X0 ?_ ?_<;>try intro hb)|(refine Xi ?_ ?_<;>try intro ht)|refine Xy ?_|refine Xd ?_ ?_|exact Xx|fail)
  refine qW 2 aab _ rfl ?_;intro K hK;simp(disch:=omega)only[Ac,↓Pc,simprocAttr,mA,kH];refine⟨rfl,(show ma Tryz.prog 135 [.ptr gi 0 0,.tree 1 (rowsOf bd left)] (some 32) _ _ from ?_)⟩;refine uS hval ?_;rintro r ob3⟨rfl,si⟩;refine⟨si,?_⟩;simp(disch:=omega)only[Ac,↓Pc,simprocAttr,kH];refine hK _ ?_;clear hK K;repeat(first|refine Xu ?_)
  subst ao;((try revert hK K);(repeat'(first|refine Vb X0 ?_|(refine V2 X0 ?_ ?_<;>try with_reducible intro hb)|(refine Xi ?_ ?_<;>try intro ht)|refine VD ?_ ?_|exact Xx|fail))<;>try with_reducible intro K hK)
  exact aO rfl rfl
def ac'(m:aj)(P:List Nd)(h0:∀ x∈P,x.eI=[]/\x.dh=[])(pd:m.ar=[])(hP:PB P)(hm:VM m)(b:Int)(s:dX)(hs:tY m P s):
  an Tryz.prog 75 [.agg [aa3 s.1,.tree 1 (rowsOf bd s.2.1)],.ptr 1 0 0,.ptr 0 0 0,.ptr 2 0 0] [.var (av m),.var (cA P),.var [aa3 b]] (.lit (.bool (jI m P b s).2)) [.var (av m),.var (cA P),.var [aa3 (jI m P b s).1]]:=by
 obtain⟨i,left,ab⟩:=s;have hi:i<P.length:=hs.1;have hf:ej m left:=hs.2.1;have C4:=hP.wF;have cu:P.getD i default=nd P i:=rfl;have cR:=aC (l:=P) (i:=i) (d:=default) hi;have b2:=hP.eI _ cR;generalize ao:jI m P b (i,left,ab)=res;unfold jI at ao;rw[cu]at b2;dsimp only at ao;obtain⟨tZ,oa⟩:=h0 _ cR;rw[cu]at tZ oa;have hlf:=ac9 m left (nd P i).eI tZ pd hm hf b2;generalize kB m left (nd P i).eI=lt at *;generalize bG:nd P i=x at *;obtain⟨c,kids,eI,dh,cells⟩:=x;obtain⟨v,e⟩:=lt;dsimp only at *;refine an.aF 41 3 [.tmp 5] Tryz.func75 ?_;by_cases hc:c = -1;rotate_left
 ·rw[if_pos hc]at ao;((try revert hK K);(repeat'(first|refine Vb (X3 @cA.eq_1 @cu @cN.eq_1) ?_|(refine V2 (X3 @cA.eq_1 @cu @cN.eq_1) ?_ ?_<;>try with_reducible intro hb)|(refine Xi ?_ ?_<;>try intro ht)|refine VD ?_ ?_|exact Xx|fail))<;>try with_reducible intro K hK)
  all_goals try(exfalso;omega)
  subst ao;exact Xw false [0,1,2] @cA.eq_1
 rw[if_neg I6]at ao;have hg:¬ 0<dh.length:=by rw[oa];decide
 rw[if_neg hg]at ao;((try revert hK K);(repeat'(first|refine Vd (X3 @cA.eq_1 @cu @cN.eq_1) hlf ?_|(refine V2 (X3 @cA.eq_1 @cu @cN.eq_1) ?_ ?_<;>try with_reducible intro hb)|(refine Xi ?_ ?_<;>try intro ht)|refine VD ?_ ?_|exact Xx|fail))<;>try with_reducible intro K hK)
 all_goals try(exfalso;omega)
 subst ao;exact Xw false [0,1,2] @cA.eq_1
def Nv(m:aj)(P:List Nd)(h0:∀ x∈P,x.eI=[]/\x.dh=[])(pd:m.ar=[])(hm:MB m)(hP:PB P):an Tryz.prog 40 [.agg (av m),.agg (cA P)] [] (.bO [aa3 (lL m P).1,.lit (.bool (lL m P).2)]) []:=by
 have hw:=acF m P hm hP (λ_=>.var (av m)) (λ_=>.var (cA P)) (λb:Int=>.var [aa3 b]) [.ptr 1 0 0,.ptr 0 0 0,.ptr 2 0 0] 75 (jI m P) (Inv:=λ_ _=>True)
  ⟨λρ h0 h1 h2 a=>⟨rfl,rfl,rfl⟩,λρ h0 h1 h2 v hv=>by
   simp only[b8,k8,or_false]at hv;rcases hv with rfl|rfl|rfl<;>simp only[aX,h0,h1,h2],λ_ _ _ _ _=>trivial,λdH a s _ hs _=>ac' m P h0 pd hP dH a s hs⟩ 1099511627776 (λ_ _=>trivial)
 generalize ao:lL m P=res;unfold lL at ao;generalize rp m P (jI m P) 1099511627776=r at *;obtain⟨b,ok⟩:=r;dsimp only at hw ao;refine an.aF 15 0 [.tmp 4,.tmp 5] Tryz.func40 ?_;((try revert hK K);(repeat'(first|refine Vb @cA.eq_1 ?_|(refine V2 @cA.eq_1 ?_ ?_<;>try with_reducible intro hb)|(refine Xi ?_ ?_<;>try intro ht)|refine VD ?_ ?_|exact Xx|fail))<;>try with_reducible intro K hK)
 refine lh hw Jd ?_;cases ok
 ·rw[if_neg Jd]at ao;((try revert hK K);(repeat'(first|refine Vb @m4 ?_|(refine V2 @m4 ?_ ?_<;>try with_reducible intro hb)|(refine Xi ?_ ?_<;>try intro ht)|refine VD ?_ ?_|exact Xx|fail))<;>try with_reducible intro K hK)
  subst ao;exact aO rfl rfl
 ·rw[if_pos rfl]at ao;((try revert hK K);(repeat'(first|refine Vb @lA ?_|(refine V2 @lA ?_ ?_<;>try with_reducible intro hb)|(refine Xi ?_ ?_<;>try intro ht)|refine VD ?_ ?_|exact Xx|fail))<;>try with_reducible intro K hK)
  subst ao;exact aO rfl rfl
end T

