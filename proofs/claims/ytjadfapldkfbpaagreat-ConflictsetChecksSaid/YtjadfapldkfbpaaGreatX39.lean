import Derived.Test.YtjadfapldkfbpaaGreatX32
set_option linter.all false
set_option maxHeartbeats 0
set_option maxRecDepth 20000
open List renaming map_append→gG,map_set→pC,mem_map→cC,getElem?_eq_some_iff→aY,getElem?_set_ne→bM,map_cons→dK,perm_middle→DW,append_assoc→cY,Perm→tw,getD_eq_getElem?_getD→aG,length_set→bw,mem_append_left→Kz,mem_cons→cu,not_mem_nil→jQ,mem_append→cz,getElem?_eq_getElem→bT,mem_of_getElem?→gY
open Nat renaming le_refl→aR
open Int renaming le_refl→iO,le_trans→z'
open Go Go.Am
namespace T
structure QS where
 n:Nat
 p:Nat
 R:List Rw
 s:DS
def GR(r:Rw):Nd:=⟨r.c,(r.Dl.map (·.2)).getD [],(r.mv.map (·.2)).getD [],[],[]⟩
def lD(f:List (List Bool)->QS->QS)(left:List (List Bool))(c:Nat):Nat->Nat->QS->Nat->List Int->QS×Nat×List Int
 |0,_,g,q,ks=>(g,q,ks)
 |w+1,o,g,q,ks =>
  lD f left c w (o+1) ⟨(f (cf left c o) ⟨g.n+1,g.p,g.R,g.s⟩).n+2,(f (cf left c o) ⟨g.n+1,g.p,g.R,g.s⟩).p,(f (cf left c o) ⟨g.n+1,g.p,g.R,g.s⟩).R,(f (cf left c o) ⟨g.n+1,g.p,g.R,g.s⟩).s⟩ ((f (cf left c o) ⟨g.n+1,g.p,g.R,g.s⟩).n+1) (ks++[(g.R.length:Int)])
def Pg(c j:Nat)(r:QS×Nat×List Int):QS:=⟨r.1.n,r.1.p,r.1.R.set j ⟨(c:Int),some (r.2.1,r.2.2),none⟩,FM c j (r.1.s,r.2.2)⟩
def me(m:ah):Nat->Nat->List (List Bool)->QS->QS
 |0,_,_,g=>g
 |f+1,c,left,g =>
  if g.s.cO<=iA m left then⟨g.n+2,g.n+1,g.R++[dC],{ g.s with nodes:=g.s.nodes++[eW []],fe:=min g.s.fe (iA m left) }⟩
  else if cH left c=left.length then⟨g.n+3,g.n+1,g.R++[dC],{ g.s with nodes:=g.s.nodes++[eW []],plan:=kr left,cO:=iA m left,fe:=min g.s.fe (iA m left) }⟩
  else if g.s.eN=0\/g.s.room<(left.getD (cH left c) default).length then⟨g.n+2,g.n+1,g.R++[dC],{ g.s with nodes:=g.s.nodes++[eW []],whole:=false,fe:=min g.s.fe (iA m left) }⟩
  else Pg (cH left c) g.R.length (lD (me m f (cH left c+1)) left (cH left c) (left.getD (cH left c) default).length 0 ⟨g.n+4,g.n+1,g.R++[dC],po left (cH left c) (iA m left) g.s⟩ (g.n+3) [])
def uD(g:QS):Prop:=g.s.nodes=g.R.map GR
def uD.len{g:QS}(h:uD g):g.s.nodes.length=g.R.length:=by rw[h,List.length_map]
def uD.lf{g:QS}(h:uD g):g.s.nodes++[eW []]=(g.R++[dC]).map GR:=by rw[h,gG];rfl
def acM{f:List (List Bool)->QS->QS}{f':List (List Bool)->DS->DS}(hf:∀ left g,uD g->uD (f left g)/\(f left g).s=f' left g.s)(left:List (List Bool))(c:Nat):∀ (w o:Nat) (g:QS) (q:Nat) (ks:List Int),uD g ->
  uD (lD f left c w o g q ks).1/\((lD f left c w o g q ks).1.s,(lD f left c w o g q ks).2.2)=um f' left c w o g.s ks
 |0,o,g,q,ks,h=>⟨h,rfl⟩
 |w+1,o,g,q,ks,h=>by
  obtain⟨a,b⟩:=hf (cf left c o) ⟨g.n+1,g.p,g.R,g.s⟩ h;rw[lD,um];have:=acM hf left c w (o+1) ⟨(f (cf left c o) ⟨g.n+1,g.p,g.R,g.s⟩).n+2,(f (cf left c o) ⟨g.n+1,g.p,g.R,g.s⟩).p,(f (cf left c o) ⟨g.n+1,g.p,g.R,g.s⟩).R,(f (cf left c o) ⟨g.n+1,g.p,g.R,g.s⟩).s⟩ ((f (cf left c o) ⟨g.n+1,g.p,g.R,g.s⟩).n+1) (ks++[(g.R.length:Int)]) a;refine⟨this.1,this.2.trans ?_⟩;dsimp only;rw[b,h.len]
def acL(m:ah):∀ (f c:Nat) (left:List (List Bool)) (g:QS),uD g->uD (me m f c left g)/\(me m f c left g).s=si m f c left g.s
 |0,c,left,g,h=>⟨h,rfl⟩
 |f+1,c,left,g,h=>by
  rw[me,si];split
  ·exact⟨h.lf,rfl⟩
  split
  ·exact⟨h.lf,rfl⟩
  split
  ·exact⟨h.lf,rfl⟩
  obtain⟨a,b⟩:=acM (λal' g2 h2=>acL m f (cH left c+1) al' g2 h2) left (cH left c) (left.getD (cH left c) default).length 0 ⟨g.n+4,g.n+1,g.R++[dC],po left (cH left c) (iA m left) g.s⟩ (g.n+3) [] h.lf;dsimp only at b;rw[<- b,<- h.len];refine⟨?_,rfl⟩;unfold uD Pg FM at *;dsimp only at *;rw[a,pC];rfl
def Fc.jT{F F':List (Nat×Ob)}{os:List Ob}(h:Fc F os){i:Nat}{y:Ob}(hk:F'.map (·.1)=F.map (·.1))(hy:(i,y)∈F')(hF:∀ b∈F',b.1≠i->b∈F):Fc F' (os.set i y):=by
 have b7:(F'.map (·.1)).Nodup:=by rw[hk];exact h.nd
 refine⟨λb hb=>?_,b7⟩;by_cases e:b.1=i
 ·have h1:=JJ b7 b hb;have h2:=JJ b7 _ hy;rw[e]at h1;have:b=(i,y):=by dsimp only at h2;rw[h1]at h2;exact Option.some.inj h2
  subst this;have hi:i∈F.map (·.1):=by rw[<- hk];exact cC.2 ⟨_,hy,rfl⟩
  obtain⟨c,hc,e2⟩:=cC.1 hi;have bx:=(aY.1 (h.at_ c hc)).1;rw[List.getElem?_set,if_pos rfl,if_pos (by rw[<- e2];exact bx)]
 ·rw[bM (Ne.symm e)];exact h.at_ b (hF b hb e)
def BJ:List AV:=[.ptr 8 0 0,.ptr 5 0 0,.ptr 0 0 0,.ptr 1 0 0,.ptr 2 0 0,.ptr 7 0 0,.ptr 6 0 0,.ptr 9 0 0]
def eS(pv:AV)(t0:Int)(s:DS):AV:=if s.cO<t0 then .tree 1 (ints s.plan) else pv
section
variable (dn:FuncId) (m:ah) (left:List (List Bool)) (pv:AV) (t0:Int)
def vJ(s:DS):Ob:=.var [eS pv t0 s,aaa s.cO,aaa s.fe,.lit (.slice none 0 0)]
def bB(g:QS):List (Nat×Ob):=[(0,.var (ao m)),(1,vJ pv t0 g.s),(2,.var [aaa g.s.eN]),(4,.arr 1 (rowsOf aT left)),(5,.var [.ref 4 1 0 left.length]),(6,.var [.lit (.bool g.s.whole)]),(7,.var [aaa g.s.room]),(9,.var [.fn dn BJ]),(8,.var [.ref g.p 5 0 g.R.length])]
def qB(g:QS)(C:List (Nat×Ob)):List (Nat×Ob):=bB dn m left pv t0 g++(g.p,.arr 5 (rowsOf cP g.R))::(gU g.R++C)
end
variable {dn:FuncId} {m:ah} {left left':List (List Bool)} {pv:AV} {t0:Int}
def zX(g:QS):(bB dn m left pv t0 g).map (·.1)=[0,1,2,4,5,6,7,9,8]:=rfl
def acN{g g':QS}{C C':List (Nat×Ob)}(hp:g'.p=g.p)(hR:(gU g'.R++C').map (·.1)=(gU g.R++C).map (·.1)):(qB dn m left' pv t0 g' C').map (·.1)=(qB dn m left pv t0 g C).map (·.1):=by
 unfold qB;rw[gG,gG,zX,zX,dK,dK,hR];dsimp only;rw[hp]
def tp{g:QS}{b:Nat×Ob}{C:List (Nat×Ob)}:(b::qB dn m left pv t0 g C).Perm (qB dn m left pv t0 g (b::C)):=by
 unfold qB;have h:∀ (A D:List (Nat×Ob)) (x:Nat×Ob),(b::(A++x::(D++C))).Perm (A++x::(D++b::C)):=λA D x=>by
  have:=(DW (a:=b) (l₁:=A++x::D) (l₂:=C)).symm;simpa [cY] using this
 exact h _ _ _
def acO{g:QS}{C:List (Nat×Ob)}{p' k n:Nat}{s':DS}(h:FK (qB dn m left pv t0 g C) n)(h1:n<=p')(h2:p'<k):FK (qB dn m left' pv t0 ⟨k,p',g.R++[dC],s'⟩ C) k:=by
 have h3:=((h.perm DW).drop.add (i:=p') (x:=.arr 5 (rowsOf cP (g.R++[dC]))) h1 h2).perm (DW (l₁:=bB dn m left pv t0 g)).symm;refine h3.keys ?_;unfold qB;rw[gG,gG,zX,zX,dK,dK];dsimp only;rw[show gU (g.R++[dC])=gU g.R by rw[Gm,JH];unfold nV dC kO mO;simp]
def ama{g:QS}{C:List (Nat×Ob)}{j n:Nat}{s':DS}{k:Nat}(hj:j<g.R.length)(hl:g.R.getD j default=dC)(r:Rw)(h:FK (nV r++qB dn m left pv t0 g C) n):FK (qB dn m left' pv t0 ⟨k,g.p,g.R.set j r,s'⟩ C) n:=by
 have hp:=aaR hj r;rw[hl]at hp;have e:nV dC++gU (g.R.set j r)=gU (g.R.set j r):=rfl;rw[e]at hp;have h1:(nV r++(bB dn m left pv t0 g++(g.p,.arr 5 (rowsOf cP g.R))::(gU g.R++C))).Perm (bB dn m left pv t0 g++(g.p,.arr 5 (rowsOf cP g.R))::(gU (g.R.set j r)++C)):=by
  have a1:=JI (nV r) (bB dn m left pv t0 g++[(g.p,.arr 5 (rowsOf cP g.R))]) (gU g.R++C);simp only[cY,List.cons_append,List.nil_append]at a1;refine a1.trans (tw.append_left _ (tw.cons _ ?_));rw[<- cY];exact tw.append_right C hp.symm
 refine(h.perm h1).keys ?_;unfold qB;rw[gG,gG,zX,zX,dK,dK]
structure DO(dn:FuncId)(m:ah)(left left':List (List Bool))(pv:AV)(t0:Int)(C:List (Nat×Ob))(g r:QS):Prop where
 lt:g.R.length<r.R.length
 pre:∀ i,i<g.R.length->r.R.getD i default=g.R.getD i default
 ol:g.n<=r.n
 fk:FK (qB dn m left' pv t0 r C) r.n
def FK.lf{g:QS}{C:List (Nat×Ob)}{n:Nat}{s':DS}{k:Nat}(h:FK (qB dn m left pv t0 g C) n):FK (qB dn m left' pv t0 ⟨k,g.p,g.R,s'⟩ C) n:=h.keys (acN rfl rfl)
def acP{R Z:List Rw}{i:Nat}(h:i<R.length):(R++Z).getD i default=R.getD i default:=by
 rw[aG,List.getElem?_append_left h,aG]
def acx(R:List Rw):(R++[dC]).getD R.length default=dC:=by rw[aG,List.getElem?_append_right (aR _),Nat.sub_self];rfl
def amb{R:List Rw}{i j:Nat}(h:i≠j)(r:Rw):(R.set j r).getD i default=R.getD i default:=by
 rw[aG,bM (Ne.symm h),aG]
def acQ{f:List (List Bool)->QS->QS}{left0:List (List Bool)}{c:Nat}{C:List (Nat×Ob)}(x:Ob)(hf:∀ (o:Nat) (g:QS) (C':List (Nat×Ob)),FK (qB dn m left pv t0 g C') g.n->DO dn m left left pv t0 C' g (f (cf left0 c o) g)):
  ∀ (w o:Nat) (g:QS) (q:Nat) (ks:List Int),FK (qB dn m left pv t0 g ((q,x)::C)) g.n ->
  g.R.length<=(lD f left0 c w o g q ks).1.R.length/\(∀ i,i<g.R.length->(lD f left0 c w o g q ks).1.R.getD i default=g.R.getD i default)/\g.n<=(lD f left0 c w o g q ks).1.n/\FK (qB dn m left pv t0 (lD f left0 c w o g q ks).1 (((lD f left0 c w o g q ks).2.1,x)::C)) (lD f left0 c w o g q ks).1.n
 |0,o,g,q,ks,h=>⟨aR _,λ_ _=>rfl,aR _,h⟩
 |w+1,o,g,q,ks,h=>by
  have h1:=hf o ⟨g.n+1,g.p,g.R,g.s⟩ ((q,x)::C) (h.lf.mono (Nat.le_add_right _ _));rw[lD];generalize f (cf left0 c o) ⟨g.n+1,g.p,g.R,g.s⟩=r at *;obtain⟨b1,b2,b3,b4⟩:=h1;dsimp only at b1 b2 b3;have h2:FK (qB dn m left pv t0 ⟨r.n+2,r.p,r.R,r.s⟩ ((r.n+1,x)::C)) (r.n+2) :=
   (((b4.perm tp.symm).drop.add (i:=r.n+1) (x:=x) G3 (k:=r.n+2) G3).perm tp).lf
  obtain⟨i1,i2,i3,i4⟩:=acQ x hf w (o+1) ⟨r.n+2,r.p,r.R,r.s⟩ (r.n+1) (ks++[(g.R.length:Int)]) h2;dsimp only at i1 i2 i3;exact⟨G3,λi hi=>(i2 i G3).trans (b2 i hi),G3,i4⟩
def J1{N:Nat}:∀ (f c:Nat) (left0:List (List Bool)) (g:QS) (C:List (Nat×Ob)),left0.length=N->N+1<=f+c->c<=N->FK (qB dn m left pv t0 g C) g.n->DO dn m left left pv t0 C g (me m f c left0 g)
 |0,c,left0,g,C,hl,GU,bY,h=>G3
 |f+1,c,left0,g,C,hl,GU,bY,h=>by
  have base:∀ (k:Nat) (s':DS),g.n+2<=k->DO dn m left left pv t0 C g ⟨k,g.n+1,g.R++[dC],s'⟩:=λk s' hk=>⟨G9,λi hi=>acP hi,by show g.n<=k;omega,acO h G3 G3⟩;rw[me];split
  ·exact base _ _ (aR _)
  split
  ·exact base _ _ G3
  split
  ·exact base _ _ (aR _)
  rename_i he _;obtain⟨g1,g2,g3,g4⟩:=FH (left:=left0) _ c rfl;have hsk:cH left0 c<N:=by have:=g2 G3;omega
  have hq:FK (qB dn m left pv t0 ⟨g.n+4,g.n+1,g.R++[dC],po left0 (cH left0 c) (iA m left0) g.s⟩ ((g.n+3,.gone)::C)) (g.n+4):=by
   have:=acO (left':=left) (s':=po left0 (cH left0 c) (iA m left0) g.s) (p':=g.n+1) (k:=g.n+3) h G3 G3;exact((this.add (i:=g.n+3) (x:=.gone) (aR _) (k:=g.n+4) G3).perm tp).lf
  obtain⟨i1,i2,i3,i4⟩:=acQ (dn:=dn) (m:=m) (left:=left) (pv:=pv) (t0:=t0) (left0:=left0) (c:=cH left0 c) (C:=C) (f:=me m f (cH left0 c+1)) .gone (λo g' C' hh=>J1 f (cH left0 c+1) (cf left0 (cH left0 c) o) g' C' (by unfold cf;simpa using hl) G3 G3 hh) (left0.getD (cH left0 c) default).length 0 _ (g.n+3) [] hq;generalize lD (me m f (cH left0 c+1)) left0 (cH left0 c) (left0.getD (cH left0 c) default).length 0 ⟨g.n+4,g.n+1,g.R++[dC],po left0 (cH left0 c) (iA m left0) g.s⟩ (g.n+3) []=r at *;dsimp only at i1 i2 i3;have gD:(g.R++[dC]).length=g.R.length+1:=G9;unfold Pg;refine⟨by dsimp only;rw[bw];omega,λi hi=>?_,Kw,?_⟩
  ·dsimp only;rw[amb G3,i2 i G3];exact acP hi
  ·have vC:r.1.R.getD g.R.length default=dC:=by rw[i2 _ G3];exact acx _
   refine ama (left:=left) (g:=r.1) (C:=C) G3 vC _ ?_;exact(i4.perm tp.symm).keys rfl
variable {dn:FuncId} {m:ah} {left left':List (List Bool)} {pv:AV} {t0:Int} {os:List Ob} {g g':QS} {C:List (Nat×Ob)}
theorem zV(h:Fc (qB dn m left pv t0 g C) os){i:Nat}{y:Ob}(hp:g'.p=g.p:=by rfl)(hR:g'.R=g.R:=by rfl)(hy:(i,y)∈bB dn m left' pv t0 g':=by simp[bB,vJ,eS])(hb:∀ b∈bB dn m left' pv t0 g',b.1≠i->b∈bB dn m left pv t0 g:=by(intro b hb ew;simp only[bB,List.mem_cons,List.not_mem_nil,or_false]at hb ⊢;rcases hb with rfl|rfl|rfl|rfl|rfl|rfl|rfl|rfl|rfl<;>first|exact absurd rfl ew|simp[vJ,eS])):Fc (qB dn m left' pv t0 g' C) (os.set i y):=by
 refine h.jT (acN hp (by rw[hR])) (List.mem_append_left _ hy) fun b rV ew=>?_;unfold qB at rV ⊢;rcases List.mem_append.1 rV with h1|h1
 ·exact List.mem_append_left _ (hb b h1 ew)
 ·rw[hp,hR]at h1;exact List.mem_append_right _ h1
def nk(h:Fc (qB dn m left pv t0 g C) os){b:Nat×Ob}(hb:b∈bB dn m left pv t0 g):os[b.1]?=some b.2:=h.at_ b (Kz _ hb)
def O7(h:Fc (qB dn m left pv t0 g C) os):os[g.p]?=some (.arr 5 (rowsOf cP g.R)):=h.at_ (g.p,_) (by unfold qB;simp)
def GO(h:Fc (qB dn m left pv t0 g C) os){b:Nat×Ob}(hb:b∈C):os[b.1]?=some b.2:=h.at_ b (by unfold qB;simp[hb])
def acw(h:Fc (qB dn m left pv t0 g C) os){b:Nat×Ob}(hb:b∈bB dn m left pv t0 g):g.p≠b.1:=λe=>by
 have h1:=O7 h;rw[e,nk h hb]at h1;simp only[bB,cu,jQ,or_false]at hb;rcases hb with rfl|rfl|rfl|rfl|rfl|rfl|rfl|rfl|rfl<;>simp[vJ]at h1
def alT(h:Fc (qB dn m left pv t0 g C) os)(k:Nat)(X:List Nd):Fc (qB dn m left pv t0 ⟨k,os.length+1,g.R++[dC],{ g.s with nodes:=X }⟩ C) ((os.set g.p .gone).set 8 (.var [.ref (os.length+1) 5 0 (g.R.length+1)])++[.arr 5 [cP dC],.arr 5 (rowsOf cP (g.R++[dC]))]):=by
 have h1:=(h.front (bB dn m left pv t0 g)).kill .gone;have hl:(os.set g.p Ob.gone).length=os.length:=bw;have h8:8<(os.set g.p Ob.gone).length:=by
  rw[hl];exact(aY.1 (nk h (b:=(8,.var [.ref g.p 5 0 g.R.length])) (by simp[bB]))).1
 have e:(os.set g.p .gone).set 8 (.var [.ref (os.length+1) 5 0 (g.R.length+1)])++[.arr 5 [cP dC],.arr 5 (rowsOf cP (g.R++[dC]))]=(os.set g.p .gone++[Ob.arr 5 [cP dC],Ob.arr 5 (rowsOf cP (g.R++[dC]))]).set 8 (.var [.ref (os.length+1) 5 0 (g.R.length+1)]):=by
  rw[List.set_append_left _ _ h8]
 rw[e];have h3:=(h1.app [.arr 5 [cP dC],.arr 5 (rowsOf cP (g.R++[dC]))]).add (k:=os.length+1) (x:=.arr 5 (rowsOf cP (g.R++[dC]))) (by rw[<- hl,nN];rfl) (h1.fresh (by rw[hl];omega));have h4:=h3.perm (DW (l₁:=bB dn m left pv t0 g)).symm;refine h4.jT ?_ ?_ λb hb ew=>?_
 ·unfold qB;rw[gG,gG,zX,zX,dK,dK];dsimp only;rw[show gU (g.R++[dC])=gU g.R by rw[Gm,JH];unfold nV dC kO mO;simp]
 ·unfold qB bB;simp
 ·unfold qB at hb;rw[show gU (g.R++[dC])=gU g.R by rw[Gm,JH];unfold nV dC kO mO;simp]at hb;rcases cz.1 hb with h5|h5
  ·refine Kz _ ?_;simp only[bB,cu,jQ,or_false]at h5 ⊢;rcases h5 with rfl|rfl|rfl|rfl|rfl|rfl|rfl|rfl|rfl<;>first|exact absurd rfl ew|simp[vJ,eS]
  ·exact List.mem_append_right _ h5
def al5{c:Int}{q j:Nat}{ks:List Int}(hj:j<g.R.length)(hl:g.R.getD j default=dC)(h:Fc (qB dn m left pv t0 g ((q,.arr 1 (ints ks))::C)) os)(k:Nat)(X:List Nd):
  Fc (qB dn m left pv t0 ⟨k,g.p,g.R.set j ⟨c,some (q,ks),none⟩,{ g.s with nodes:=X }⟩ C) (os.set g.p (.arr 5 (rowsOf cP (g.R.set j ⟨c,some (q,ks),none⟩)))):=by
 have hp:=aaR hj (⟨c,some (q,ks),none⟩:Rw);rw[hl]at hp;have e:nV dC++gU (g.R.set j ⟨c,some (q,ks),none⟩)=gU (g.R.set j ⟨c,some (q,ks),none⟩):=rfl;rw[e]at hp;have e2:nV (⟨c,some (q,ks),none⟩:Rw)=[(q,.arr 1 (ints ks))]:=rfl;rw[e2]at hp;have h1:=((h.front (bB dn m left pv t0 g)).put (.arr 5 (rowsOf cP (g.R.set j ⟨c,some (q,ks),none⟩)))).perm (DW (l₁:=bB dn m left pv t0 g)).symm;refine h1.perm ?_;unfold qB;have h2:bB dn m left pv t0 ⟨k,g.p,g.R.set j ⟨c,some (q,ks),none⟩,{ g.s with nodes:=X }⟩=bB dn m left pv t0 g:=by
  unfold bB vJ eS;dsimp only;rw[bw]
 rw[h2];refine tw.append_left _ (tw.cons _ ?_);have h3:(gU g.R++(q,Ob.arr 1 (ints ks))::C).Perm ([(q,Ob.arr 1 (ints ks))]++(gU g.R++C)):=DW;refine h3.trans ?_;rw[<- cY];exact tw.append_right C hp.symm
structure Cn(s r:DS):Prop where
 a:0<=s.eN->0<=r.eN
 b:r.eN<=s.eN
 c:0<=s.room->0<=r.room
 d:r.room<=s.room
 e:r.cO<=s.cO
def Cn.refl(s:DS):Cn s s:=⟨λh=>h,iO _,λh=>h,iO _,iO _⟩
def Cn.trans{s r t:DS}(h:Cn s r)(k:Cn r t):Cn s t:=⟨λx=>k.a (h.a x),z' k.b h.b,λx=>k.c (h.c x),z' k.d h.d,z' k.e h.e⟩
def acR{f:List (List Bool)->QS->QS}{left0:List (List Bool)}{c:Nat}(hf:∀ (o:Nat) (g:QS),((f (cf left0 c o) g).R.length:Int)+(f (cf left0 c o) g).s.room=g.R.length+g.s.room+1):
  ∀ (w o:Nat) (g:QS) (q:Nat) (ks:List Int),((lD f left0 c w o g q ks).1.R.length:Int)+(lD f left0 c w o g q ks).1.s.room=g.R.length+g.s.room+w
 |0,o,g,q,ks=>by show(g.R.length:Int)+g.s.room=_;simp
 |w+1,o,g,q,ks=>by
  have h1:=hf o ⟨g.n+1,g.p,g.R,g.s⟩;rw[lD];generalize f (cf left0 c o) ⟨g.n+1,g.p,g.R,g.s⟩=r at *;have:=acR hf w (o+1) ⟨r.n+2,r.p,r.R,r.s⟩ (r.n+1) (ks++[(g.R.length:Int)]);dsimp only at h1 this ⊢;rw[this];omega
def acI(m:ah){N:Nat}:∀ (f c:Nat) (left0:List (List Bool)) (g:QS),left0.length=N->N+1<=f+c->c<=N->((me m f c left0 g).R.length:Int)+(me m f c left0 g).s.room=g.R.length+g.s.room+1
 |0,c,left0,g,hl,GU,bY=>G3
 |f+1,c,left0,g,hl,GU,bY=>by
  have gD:(g.R++[dC]).length=g.R.length+1:=G9;rw[me];split
  ·show((g.R++[dC]).length:Int)+g.s.room=_;omega
  split
  ·show((g.R++[dC]).length:Int)+g.s.room=_;omega
  split
  ·show((g.R++[dC]).length:Int)+g.s.room=_;omega
  rename_i he _;obtain⟨g1,g2,g3,g4⟩:=FH (left:=left0) _ c rfl;have hsk:cH left0 c<N:=by have:=g2 G3;omega
  have hK:=acR (left0:=left0) (c:=cH left0 c) (f:=me m f (cH left0 c+1)) (λo g'=>acI m f (cH left0 c+1) (cf left0 (cH left0 c) o) g' (by unfold cf;simpa using hl) G3 G3) (left0.getD (cH left0 c) default).length 0 ⟨g.n+4,g.n+1,g.R++[dC],po left0 (cH left0 c) (iA m left0) g.s⟩ (g.n+3) [];generalize lD (me m f (cH left0 c+1)) left0 (cH left0 c) (left0.getD (cH left0 c) default).length 0 ⟨g.n+4,g.n+1,g.R++[dC],po left0 (cH left0 c) (iA m left0) g.s⟩ (g.n+3) []=r at *;unfold po at hK;dsimp only at hK;show((r.1.R.set g.R.length _).length:Int)+r.1.s.room=_;rw[bw];omega
def acS{f:List (List Bool)->QS->QS}(hf:∀ l g,Cn g.s (f l g).s)(left:List (List Bool))(c:Nat):∀ (w o:Nat) (g:QS) (q:Nat) (ks:List Int),Cn g.s (lD f left c w o g q ks).1.s
 |0,o,g,q,ks=>Cn.refl g.s
 |w+1,o,g,q,ks=>by
  have h1:=hf (cf left c o) ⟨g.n+1,g.p,g.R,g.s⟩;rw[lD];generalize f (cf left c o) ⟨g.n+1,g.p,g.R,g.s⟩=r at *;exact h1.trans (acS hf left c w (o+1) ⟨r.n+2,r.p,r.R,r.s⟩ (r.n+1) _)
def acJ(m:ah):∀ (f c:Nat) (left:List (List Bool)) (g:QS),Cn g.s (me m f c left g).s
 |0,c,left,g=>Cn.refl g.s
 |f+1,c,left,g=>by
  rw[me];split
  ·exact⟨λh=>h,iO _,λh=>h,iO _,iO _⟩
  split
  ·exact⟨λh=>h,iO _,λh=>h,iO _,Kw⟩
  split
  ·exact⟨λh=>h,iO _,λh=>h,iO _,iO _⟩
  rename_i hb;rw[not_or]at hb;refine Cn.trans (r:=po left (cH left c) (iA m left) g.s) ?_ ?_
  ·unfold po;exact⟨λh=>Kw,Kw,λh=>Kw,Kw,iO _⟩
  ·have:=acS (λl g=>acJ m f (cH left c+1) l g) left (cH left c) (left.getD (cH left c) default).length 0 ⟨g.n+4,g.n+1,g.R++[dC],po left (cH left c) (iA m left) g.s⟩ (g.n+3) [];exact⟨this.a,this.b,this.c,this.d,this.e⟩
variable {dn:FuncId} {m:ah} {left left':List (List Bool)} {pv:AV} {t0:Int} {os:List Ob} {g g':QS} {C:List (Nat×Ob)}
def acT{b:Nat×Ob}:(qB dn m left pv t0 g (b::C)).Perm (b::qB dn m left pv t0 g C):=tp.symm
def al0{q nv:Nat}{x y X':Ob}(a:Ob)(h:Fc (qB dn m left pv t0 g ((q,x)::(nv,y)::C)) os)(k:Nat)(b:Ob):Fc (qB dn m left pv t0 ⟨k,g.p,g.R,g.s⟩ ((os.length+1,b)::(nv,X')::C)) ((os.set q .gone).set nv X'++[a,b]):=by
 have h1:=((h.perm acT).kill .gone).perm acT;have h2:=((h1.put X').app [a,b]).add (k:=os.length+1) (x:=b) (by
  have:((os.set q Ob.gone).set nv X').length=os.length:=G9;rw[<- this,nN];rfl) ((h1.put X').fresh G9)
 have h3:((os.length+1,b)::(nv,X')::qB dn m left pv t0 g C).Perm (qB dn m left pv t0 ⟨k,g.p,g.R,g.s⟩ ((os.length+1,b)::(nv,X')::C)):=(tw.cons _ tp).trans tp;exact h2.perm h3
def acG{c:Nat}(x y:List Bool):(rowsOf aT (left.set c x)).set c [.tree 1 (aX y)]=rowsOf aT (left.set c y):=by
 unfold rowsOf;rw[pC,pC,List.set_set];rfl
def setRow_self{c:Nat}(hc:c<left.length):left.set c (left.getD c default)=left:=by
 rw[aG,bT hc];exact List.set_getElem_self hc
def al6{R:List Rw}{j:Nat}{r:Rw}(hj:j<R.length)(h:R.getD j default=r):(rowsOf cP R)[j]?=some (cP r):=by
 unfold rowsOf;rw[List.getElem?_map,bT hj,Option.map_some];rw[aG,bT hj,Option.getD_some]at h;rw[h]
def al7(R:List Rw)(j:Nat)(r:Rw):(rowsOf cP R).set j (cP r)=rowsOf cP (R.set j r):=by unfold rowsOf;rw[pC]
variable {σ:St} {kp:Nat->Prop}
def amd{id n:Nat}{xs:List Int}(ho:σ.aa[id]?=some (.arr 1 (ints xs)))(hn:n=xs.length)(hk:¬ kp id):cG σ kp (.tree 1 (ints xs)) (.ref id 1 0 n) :=
 cG.mk ho (by rw[hn];simp[ints]) hk (ny _) (kG.AZ (f:=λ_=>[]) (g:=λ_=>[]) rfl λj c d hc hd=>by rw[hc]at hd;cases hd;exact JF (λv hv=>oa _ _ (gY hc) v hv) rfl)
def ame{α:Type}{enc:α->List AV}{w:Nat}[Row enc w]{id n:Nat}{xs:List α}(ho:σ.aa[id]?=some (.arr w (rowsOf enc xs)))(hn:n=xs.length)(hk:¬ kp id):cG σ kp (.tree w (rowsOf enc xs)) (.ref id w 0 n) :=
 cG.mk ho (by rw[hn,bX]) hk (fQ _) (kG.AZ (f:=λ_=>[]) (g:=λ_=>[]) rfl λj c d hc hd=>by rw[hc]at hd;cases hd;exact JF (λv hv=>jX _ _ (gY hc) v hv) rfl)
def amf(x:Option (Nat×List Int))(h:∀ b∈kO x,σ.aa[b.1]?=some b.2)(hk:∀ i,¬ kp i):cG σ kp (.tree 1 (ints ((x.map (·.2)).getD []))) (kE x):=by
 cases x with
 |none=>exact .nil 1
 |some y=>exact amd (h (y.1,.arr 1 (ints y.2)) (by simp[kO])) rfl (hk _)
def amg(x:Option (Nat×List Mv))(h:∀ b∈mO x,σ.aa[b.1]?=some b.2)(hk:∀ i,¬ kp i):cG σ kp (.tree 4 (rowsOf bN ((x.map (·.2)).getD []))) (mE x):=by
 cases x with
 |none=>exact .nil 4
 |some y=>exact ame (h (y.1,.arr 4 (rowsOf bN y.2)) (by simp[mO])) rfl (hk _)
def amh(r:Rw)(h:∀ b∈nV r,σ.aa[b.1]?=some b.2)(hk:∀ i,¬ kp i):eY (cG σ kp) (az (GR r)) (cP r) :=
 ⟨.lit _,amf r.Dl (λb hb=>h b (by unfold nV;simp[hb])) hk,amg r.mv (λb hb=>h b (by unfold nV;simp[hb])) hk,.nil 1,.nil 1,trivial⟩
def acU(hk:∀ i,¬ kp i):∀ (R:List Rw),(∀ b∈gU R,σ.aa[b.1]?=some b.2)->kG (cG σ kp) (rowsOf az (R.map GR)) (rowsOf cP R)
 |[],_=>trivial
 |r::R,h=>⟨amh r (λb hb=>h b (by unfold gU;simp[hb])) hk,acU hk R (λb hb=>h b (by unfold gU at hb ⊢;rw[List.flatMap_cons,cz];exact .inr hb))⟩
def jf{p:Nat}{R:List Rw}(hp:σ.aa[p]?=some (.arr 5 (rowsOf cP R)))(h:∀ b∈gU R,σ.aa[b.1]?=some b.2)(hk:∀ i,¬ kp i):cG σ kp (.tree 5 (rowsOf az (R.map GR))) (.ref p 5 0 R.length) :=
 cG.mk hp (by rw[aaQ]) (hk _) (fQ _) (acU hk R h)
end T

