import Derived.Test.YtdipcmigdbnheaaGreatX11
set_option linter.all false
set_option maxHeartbeats 0
set_option maxRecDepth 20000
open List renaming mem_iff_getElem→rJ,getD_eq_getElem?_getD→aA,getElem?_eq_getElem→bT,mem_cons→b8,not_mem_nil→k8,mem_map→bZ,map_append→gQ,foldl_append→BG,append_assoc→dC,foldl_nil→EM,getElem?_append_right→eu,getElem?_append_left→cd,getElem?_eq_some_iff→aM,getElem?_set_ne→bj,getElem?_set→bV,getElem?_eq_none→eE,length_set→bE,getElem_map→Ji,nodup_append→vM,map_cons→dJ,map_nil→lX,mem_singleton→ew,mem_append→cj,mem_of_getElem?→gf,range→aN,getElem?_map→cg,ext_getElem?→mZ,map_congr_left→kG,mem_range→lz,getElem?_cons_zero→rL,cons_append→cW,nodup_cons→sX,getElem?_cons_succ→vH,getD_cons_succ→ep
open Option renaming getD_some→mo,bind_some→rM,some→cT,map_some→fR
open Nat renaming le_refl→aG,le_trans→iM,zero_le→aQ,not_lt_zero→vK
open Go Go.Am Go.Proofs
namespace T
def ej(m:aj)(left:List (List Bool)):Prop:=left.length=m.cls.length/\∀ i,i<left.length->(left.getD i default).length=(m.cls.getD i default).length
instance (m:aj)(left:List (List Bool)):Decidable (ej m left):=by unfold ej;infer_instance
def ej.row{m:aj}{left:List (List Bool)}(hm:VM m)(h:ej m left):∀ r∈left,r.length<=24:=λr hr=>by
 obtain⟨i,hi,rfl⟩:=rJ.1 hr;have:=h.2 i hi;rw[aA,bT hi]at this;simp only[mo]at this;rw[this];exact hm.opt _ (aC (by have:=h.1;omega))
def iB{α:Type}[Inhabited α]{l:List α}{k:Nat}(h:k<l.length):l.take (k+1)=l.take k++[l.getD k default]:=by
 rw[List.take_succ_eq_append_getElem h,aA,bT h];rfl
abbrev Nm:=Int×Bool
def ga(x:Int):Nm:=(x,decide (1099511627776<=x))
def bx(p:Nm):List AV:=[aa3 p.1,.lit (.bool p.2)]
def SH(p:Nm):List AV:=[.lit (.bool p.2),aa3 p.1]
instance:Row bx 2:=⟨λ_=>rfl,λp v hv=>by
 simp only[bx,b8,k8,or_false]at hv;rcases hv with rfl|rfl<;>exact .inl ⟨_,rfl,rfl⟩⟩
instance:Row SH 2:=⟨λ_=>rfl,λp v hv=>by
 simp only[SH,b8,k8,or_false]at hv;rcases hv with rfl|rfl<;>exact .inl ⟨_,rfl,rfl⟩⟩
def iU(o:br):Int:=(o.ch.map (·.2)).foldl dx 0
def jE(l:List br):List Int:=l.map iU
def gN(l:List Int):List Nm:=l.map ga
def fe:List Nm->List Bool->Int×Bool->Int×Bool
 |p::r,is::s,b=>fe r s (if is=true/\p.2=false/\(b.2=false\/p.1<b.1) then(p.1,true) else b)
 |_,_,b=>b
def Gy{R:Int}{l:List (Int×Int)}(h:db R none l=true):∀ c∈l,bL c.2:=λc hc=>lN (u9 h c hc).2
def Db:∀ (l:List Int) (n:Int),(∀ x∈l,bL x)->bL n->bL (l.foldl dx n)
 |[],_,_,h=>h
 |x::r,n,hl,h=>Db r _ (λy hy=>hl y (by simp[hy])) (yu h (hl x Jd))
def Ao{R:Int}{o:br}(h:db R none o.ch=true):bL (iU o):=Db _ _ (λx hx=>by
 obtain⟨c,hc,rfl⟩:=bZ.1 hx;exact Gy h c hc) (by unfold bL;decide)
structure Mv where
 pair:Int
 side:Int
 opt:Int
 tQ:Int
 deriving Inhabited
def u6(x:Mv):List AV:=[aa3 x.pair,aa3 x.side,aa3 x.opt,aa3 x.tQ]
instance:Row u6 4:=⟨λ_=>rfl,λx v hv=>by
 simp only[u6,b8,k8,or_false]at hv;rcases hv with rfl|rfl|rfl|rfl<;>exact .inl ⟨_,rfl,rfl⟩⟩
def oF(m:aj)(x:Mv):Int:=if x.side=0 then(m.ae.getD x.pair.toNat default).fst else(m.ae.getD x.pair.toNat default).snd
def oG(m:aj)(x:Mv):Bool:=decide (0<=x.pair/\x.pair<m.ae.length/\0<=x.side/\x.side<=1/\-268435456<=x.tQ/\x.tQ<=268435456)&&gW m (oF m x) x.opt
def NQ(l:List (Int×Int))(k:Nat)(h:k<l.length):(((l.take (k+1)).map (·.2)).foldl dx 0)=dx (((l.take k).map (·.2)).foldl dx 0) (l.getD k default).2:=by
 rw[iB h,gQ,BG];rfl
def iW:List Nm->List Bool->List Nm
 |p::r,is::s=>(if is=true then [p] else [])++iW r s
 |_,_=>[]
def yH(b a:Nm):Nm:=if a.2=false/\(b.2=true\/a.1<b.1) then a else b
def qf(l:List Nm):Nm:=l.foldl yH (0,true)
def abj(l:List Nm)(a:Nm):qf (l++[a])=yH (qf l) a:=by unfold qf;rw[BG];rfl
def Hu(p:Nm)(is:Bool):∀ (l:List Nm) (s:List Bool),l.length=s.length->iW (l++[p]) (s++[is])=iW l s++(if is=true then [p] else [])
 |[],[],_=>by simp[iW]
 |x::r,y::s,h=>by
  show(if y=true then [x] else [])++iW (r++[p]) (s++[is])=_;rw[Hu p is r s (by simpa using h),iW,dC]
def Hv:∀ (l:List Nm) (s:List Bool) (b:Int×Bool),(iW l s).foldl yH (b.1,!b.2)=((fe l s b).1,!(fe l s b).2)
 |[],s,b=>by cases s<;>rfl
 |p::r,[],b=>rfl
 |p::r,is::s,b=>by
  rw[iW,fe,BG];cases is with
  |false=>simp only[Bool.false_eq_true,if_false,EM,false_and];exact Hv r s b
  |true =>
   simp only[if_true,List.foldl_cons,EM,eq_self,true_and];have:yH (b.1,!b.2) p=((if p.2=false/\(b.2=false\/p.1<b.1) then(p.1,true) else b).1,!(if p.2=false/\(b.2=false\/p.1<b.1) then(p.1,true) else b).2):=by
    unfold yH;obtain⟨b1,b2⟩:=b;obtain⟨p1,p2⟩:=p;dsimp only;cases b2<;>cases p2<;>simp;split<;>rfl
   rw[this];exact Hv r s _
def aaG(l:List Nm)(s:List Bool):qf (iW l s)=((fe l s (0,false)).1,!(fe l s (0,false)).2):=Hv l s (0,false)
def lR(os:List Ob)(x:Ob)(l:List Ob):(os++x::l)[os.length]?=some x:=Jd
def mU(os l:List Ob)(k:Nat):(os++l)[os.length+k]?=l[k]?:=by rw[eu I6,Nat.add_sub_cancel_left]
def yI(os:List Ob)(x y:Ob)(l:List Ob):(os++x::l).set os.length y=os++y::l:=by rw[List.set_append];simp
def DM(os l:List Ob)(k:Nat)(y:Ob):(os++l).set (os.length+k) y=os++l.set k y:=by rw[List.set_append_right _ _ I6];simp
def bC{os:List Ob}{i:Nat}{o:Ob}(h:os[i]?=some o)(l:List Ob):(os++l)[i]?=some o:=by
 rw[cd (aM.1 h).1];exact h
def gP{os:List Ob}{i:Nat}{o:Ob}(h:os[i]?=some o)(l:List Ob)(y:Ob):(os++l).set i y=os.set i y++l:=by
 rw[List.set_append,if_pos (aM.1 h).1]
def AN{os:List Ob}{i j:Nat}{o o' y:Ob}(h:os[i]?=some o)(h':os[j]?=some o')(df:o≠o'):(os.set j y)[i]?=some o:=by
 have:j≠i:=λe=>df (by rw[e,h]at h';simpa using h');rw[bj this];exact h
def iH{os:List Ob}{i:Nat}{o y:Ob}(h:os[i]?=some o):(os.set i y)[i]?=some y:=by
 rw[bV];simp[(aM.1 h).1]
def dr:=abl @lR @mU @yI @DM
def gy(q:Nat×Nat):List AV:=[.ref q.1 2 0 q.2]
structure RI{α:Type}(enc:α->List AV)(os:List Ob)(D:List (Nat×Nat))(S:List (List α)):Prop where
 len:D.length=S.length
 row:∀ j,j<D.length->os[(D.getD j default).1]?=some (.arr 2 (rowsOf enc (S.getD j default)))/\(S.getD j default).length=(D.getD j default).2
def RI.nil{α:Type}{enc:α->List AV}{os:List Ob}:RI enc os [] ([]:List (List α)):=⟨rfl,Jd⟩
def RI.app{α:Type}{enc:α->List AV}{os:List Ob}{D:List (Nat×Nat)}{S:List (List α)}(h:RI enc os D S)(l:List Ob):RI enc (os++l) D S :=
 ⟨h.len,λj hj=>⟨bC (h.row j hj).1 l,(h.row j hj).2⟩⟩
def RI.kill{α:Type}{enc:α->List AV}{os:List Ob}{D:List (Nat×Nat)}{S:List (List α)}(h:RI enc os D S){i:Nat}{o y:Ob}(ho:os[i]?=some o)(df:∀ l,o≠.arr 2 l):RI enc (os.set i y) D S :=
 ⟨h.len,λj hj=>⟨AN (h.row j hj).1 ho (λe=>df _ e.symm),(h.row j hj).2⟩⟩
def DN{α:Type}[Inhabited α](l:List α)(x:α)(j:Nat):(l++[x]).getD j default=if j<l.length then l.getD j default else if j=l.length then x else default:=by
 simp only[aA];split
 ·rename_i h;rw[cd h]
 ·rename_i h;rw[eu I6];split
  ·rename_i h2;subst h2;simp
  ·rw[eE aaZ];rfl
def RI.snoc{α:Type}{enc:α->List AV}{os:List Ob}{D:List (Nat×Nat)}{S:List (List α)}(h:RI enc os D S){p:Nat}{r:List α}(hp:os[p]?=some (.arr 2 (rowsOf enc r))):RI enc os (D++[(p,r.length)]) (S++[r]) :=
 ⟨by simp[h.len],λj hj=>by
  rw[DN,DN,<- h.len];by_cases h1:j<D.length
  ·rw[if_pos h1,if_pos h1];exact h.row j h1
  ·have:j=D.length:=by simp at hj;omega
   rw[if_neg h1,if_neg h1,if_pos this,if_pos this];exact⟨hp,rfl⟩⟩
def RI.set{α:Type}{enc:α->List AV}{os:List Ob}{D:List (Nat×Nat)}{S:List (List α)}(h:RI enc os D S)(hn:(D.map (·.1)).Nodup){j:Nat}(hj:j<D.length){r:List α}(hr:r.length=(S.getD j default).length):RI enc (os.set (D.getD j default).1 (.arr 2 (rowsOf enc r))) D (S.set j r) :=
 ⟨by rw[bE];exact h.len,λk hk=>by
  by_cases e:k=j
  ·subst e;have:(S.set k r).getD k default=r:=by rw[aA,bV];simp[<- h.len,hk]
   rw[this];exact⟨iH (h.row k hk).1,hr.trans (h.row k hk).2⟩
  ·have:(S.set j r).getD k default=S.getD k default:=by rw[aA,bj (λe'=>e e'.symm),aA]
   rw[this];have df:(D.getD j default).1≠(D.getD k default).1:=λhh=>e ((List.getElem_inj (h₀:=by simpa using hk) (h₁:=by simpa using hj) hn).1 (by
    rw[Ji,Ji];have a1:D[k]=D.getD k default:=by simp[hk]
    have a2:D[j]=D.getD j default:=by simp[hj]
    rw[a1,a2];exact hh.symm))
   rw[bj df];exact h.row k hk⟩
def RI.other{α:Type}{enc:α->List AV}{os:List Ob}{D:List (Nat×Nat)}{S:List (List α)}(h:RI enc os D S){i:Nat}(hi:i ∉ D.map (·.1)){y:Ob}:RI enc (os.set i y) D S :=
 ⟨h.len,λk hk=>⟨by
  rw[bj (λe=>hi (bZ.2 ⟨D.getD k default,aC hk,e.symm⟩))];exact(h.row k hk).1,(h.row k hk).2⟩⟩
def RI.fresh{α:Type}{enc:α->List AV}{os:List Ob}{D:List (Nat×Nat)}{S:List (List α)}(h:RI enc os D S){p:Nat}(hp:os.length<=p):p ∉ D.map (·.1):=λhh=>by
 obtain⟨q,hq,rfl⟩:=bZ.1 hh;obtain⟨k,hk,rfl⟩:=rJ.1 hq;have h1:=(h.row k hk).1;have a1:D.getD k default=D[k]:=by simp[hk]
 rw[a1]at h1;have:=(aM.1 h1).1;omega
def SI(D:List (Nat×Nat))(p n:Nat):rowsOf gy D++[[AV.ref p 2 0 n]]=rowsOf gy (D++[(p,n)]):=by simp[rowsOf,gy]
def RI.step{α:Type}{enc:α->List AV}{os:List Ob}{D:List (Nat×Nat)}{S:List (List α)}{ai:Nat}{x:Ob}(fa:os[ai]?=some x)(hx:∀ l,x≠.arr 2 l)(hR:RI enc os D S)(cu:(D.map (·.1)).Nodup)(r:List α)(t y:Ob):
  (os.set ai .gone++[.arr 2 (rowsOf enc r),t,y])[os.length+2]?=some y /\
  RI enc (os.set ai .gone++[.arr 2 (rowsOf enc r),t,y]) (D++[(os.length,r.length)]) (S++[r])/\((D++[(os.length,r.length)]).map (·.1)).Nodup /\
  ∀ k o,os[k]?=some o->k≠ai->(os.set ai .gone++[.arr 2 (rowsOf enc r),t,y])[k]?=some o:=by
 have hl:(os.set ai .gone).length=os.length:=bE ..;refine⟨?_,?_,?_,λk o hk df=>bC ?_ _⟩
 ·rw[<- hl,mU];rfl
 ·refine((hR.kill fa hx).app _).snoc ?_;rw[<- hl,lR]
 ·rw[gQ,vM];refine⟨cu,Jd,λa ha b hb=>?_⟩;simp only[dJ,lX,ew]at hb;subst hb;exact λe=>hR.fresh (aG _) (e▸ha)
 ·rw[bj (Ne.symm df)];exact hk
structure LO{α:Type}(enc:α->List AV)(B:List (Nat×Ob))(D E:List (Nat×Nat))(S T:List (List α))(os:List Ob):Prop where
 base:∀ b∈B,os[b.1]?=some b.2/\∀ l,b.2≠.arr 2 l
 rD:RI enc os D S
 rE:RI enc os E T
 nd:((D++E).map (·.1)).Nodup
section
variable {α:Type} {enc:α->List AV} {B:List (Nat×Ob)} {D E:List (Nat×Nat)} {S T:List (List α)} {os:List Ob}
def LO.app(h:LO enc B D E S T os)(l:List Ob):LO enc B D E S T (os++l):=⟨λb hb=>⟨bC (h.base b hb).1 l,(h.base b hb).2⟩,h.rD.app l,h.rE.app l,h.nd⟩
def LO.add(h:LO enc B D E S T os){k:Nat}{x:Ob}(hk:os[k]?=some x)(hx:∀ l,x≠.arr 2 l):LO enc ((k,x)::B) D E S T os :=
 ⟨λb hb=>by rcases b8.1 hb with rfl|hb;exact⟨hk,hx⟩;exact h.base b hb,h.rD,h.rE,h.nd⟩
def LO.sub(h:LO enc B D E S T os){C:List (Nat×Ob)}(hc:∀ b∈C,b∈B):LO enc C D E S T os:=⟨λb hb=>h.base b (hc b hb),h.rD,h.rE,h.nd⟩
end
def LO.vars{α:Type}{enc:α->List AV}{B:List (Nat×Ob)}{D E:List (Nat×Nat)}{S T:List (List α)}{os:List Ob}(h:LO enc B D E S T os){n:Nat}(hn:os.length=n)(x y:Ob)(hx:∀ l,x≠.arr 2 l)(hy:∀ l,y≠.arr 2 l):
  LO enc ((n,x)::(n+1,y)::B) D E S T (os++[x,y]):=by
 subst hn;exact((h.app [x,y]).add (by rw[mU];rfl) hy).add (by rw[lR]) hx
def SJ{α:Type}[Inhabited α](l:List α)(j:Nat)(x:α)(h:j<l.length):(l.set j x).getD j default=x:=by
 rw[aA,bV];simp[h]
def LO.kill{α:Type}{enc:α->List AV}{B:List (Nat×Ob)}{D E:List (Nat×Nat)}{S T:List (List α)}{os:List Ob}(h:LO enc B D E S T os){i:Nat}{x y:Ob}(hi:os[i]?=some x)(hx:∀ l,x≠.arr 2 l)(df:∀ b∈B,b.1≠i):LO enc B D E S T (os.set i y) :=
 ⟨λb hb=>⟨by rw[bj (df b hb).symm];exact(h.base b hb).1,(h.base b hb).2⟩,h.rD.kill hi hx,h.rE.kill hi hx,h.nd⟩
def yJ(os l:List Ob)(i k:Nat)(y:Ob):(os.set i y++l)[os.length+k]?=l[k]?:=by
 have:=mU (os.set i y) l k;rwa [bE]at this
def gC(m:aj)(ai bi:Nat)(D E:List (Nat×Nat)):List AV:=[.tree 1 (rowsOf bD m.cls),.tree 4 (rowsOf bu m.ae),.tree 4 (rowsOf aK m.ar),aa3 m.rules,.ref ai 1 0 D.length,.ref bi 1 0 E.length]
abbrev GB(m:aj)(gi ai bi:Nat)(D E:List (Nat×Nat)):List (Nat×Ob):=[(gi,.var (gC m ai bi D E)),(ai,.arr 1 (rowsOf gy D)),(bi,.arr 1 (rowsOf gy E))]
def Hw{m:aj}{gi ai bi:Nat}{D E:List (Nat×Nat)}{S T:List (List Nm)}{os:List Ob}(h:LO bx (GB m gi ai bi D E) D E S T os):
  os[gi]?=some (.var (gC m ai bi D E))/\os[ai]?=some (.arr 1 (rowsOf gy D))/\os[bi]?=some (.arr 1 (rowsOf gy E)) :=
 ⟨(h.base (gi,_) Jd).1,(h.base (ai,.arr 1 (rowsOf gy D)) Jd).1,(h.base (bi,.arr 1 (rowsOf gy E)) Jd).1⟩
def fO(os ob:List Ob):Prop:=∀ (k:Nat) (o:Ob),os[k]?=some o->ob[k]?=some o
def fO.refl(os:List Ob):fO os os:=λ_ _ h=>h
def fO.app{os ob:List Ob}(h:fO os ob)(l:List Ob):fO os (ob++l):=λk o hk=>bC (h k o hk) l
def fO.set{os ob:List Ob}(h:fO os ob){i:Nat}(hi:os.length<=i){y:Ob}:fO os (ob.set i y):=λk o hk=>by
 have:=(aM.1 hk).1;rw[bj I6];exact h k o hk
def fO.len{os ob:List Ob}(h:fO os ob):os.length<=ob.length:=by
 rcases Nat.eq_zero_or_pos os.length with h0|h0
 ·omega
 ·obtain⟨o,ho⟩ :∃o,os[os.length-1]?=some o:=⟨_,bT I6⟩;have:=(aM.1 (h _ _ ho)).1;omega
section
variable {α:Type} {enc:α->List AV} {B:List (Nat×Ob)} {D E:List (Nat×Nat)} {S T:List (List α)} {os:List Ob}
def LO.swap(h:LO enc B D E S T os):LO enc B E D T S os:=⟨h.base,h.rE,h.rD,by
 have:=h.nd;rw[gQ,vM]at this ⊢;exact⟨this.2.1,this.1,λa ha b hb e=>this.2.2 b hb a ha e.symm⟩⟩
def LO.DP(h:LO enc B D E S T os){i:Nat}{l:List (List AV)}(hi:i ∉ (D++E).map (·.1))(hr:os[i]?=some (.arr 2 l)){y:Ob}:LO enc B D E S T (os.set i y):=by
 rw[gQ,cj,not_or]at hi;exact⟨λb hb=>⟨AN (h.base b hb).1 hr ((h.base b hb).2 _),(h.base b hb).2⟩,h.rD.other hi.1,h.rE.other hi.2,h.nd⟩
def LO.fresh(h:LO enc B D E S T os){p:Nat}(hp:os.length<=p):p ∉ (D++E).map (·.1):=by
 rw[gQ,cj,not_or];exact⟨h.rD.fresh hp,h.rE.fresh hp⟩
def LO.step{gi ai:Nat}{gc:List AV}{A:List (List AV)}(h:LO enc ((gi,.var gc)::(ai,.arr 1 A)::B) D E S T os){r:List α}{oi:Nat}(hr:os[oi]?=some (.arr 2 (rowsOf enc r)))(dE:oi ∉ (D++E).map (·.1))(hB:∀ b∈B,b.1≠ai/\b.1≠gi)(yK:List AV)(A':List (List AV))(t:Ob):
  LO enc ((gi,.var yK)::(os.length+1,.arr 1 A')::B) (D++[(oi,r.length)]) E (S++[r]) T ((os.set ai .gone).set gi (.var yK)++[t,.arr 1 A']):=by
 have hg:=(h.base (gi,.var gc) Jd).1;have ha:=(h.base (ai,.arr 1 A) Jd).1;dsimp only at hg ha;have hga:gi≠ai:=λe=>by rw[e,ha]at hg;cases hg
 have pG:(os.set ai .gone)[gi]?=some (.var gc):=by rw[bj hga.symm];exact hg
 have hl:((os.set ai .gone).set gi (.var yK)).length=os.length:=by rw[bE,bE]
 have hD2:=((h.rD.kill (y:=.gone) ha Jd).kill (y:=.var yK) pG Jd).app [t,.arr 1 A'];have hE2:=((h.rE.kill (y:=.gone) ha Jd).kill (y:=.var yK) pG Jd).app [t,.arr 1 A'];have hJ:((os.set ai .gone).set gi (.var yK)++[t,.arr 1 A'])[oi]?=some (.arr 2 (rowsOf enc r)):=bC (AN (AN hr ha Jd) pG Jd) _;refine⟨λb hb=>?_,hD2.snoc hJ,hE2,?_⟩
 ·rcases b8.1 hb with rfl|hb
  ·exact⟨bC (iH pG) _,Jd⟩
  rcases b8.1 hb with rfl|hb
  ·refine⟨?_,Jd⟩;dsimp only;rw[<- hl,mU];rfl
  ·have h0:=h.base b (by simp[hb]);refine⟨bC ?_ _,h0.2⟩;rw[bj (hB b hb).2.symm,bj (hB b hb).1.symm];exact h0.1
 ·have cu:=h.nd;rw[gQ,vM]at cu ⊢;rw[gQ,cj,not_or]at dE;obtain⟨n1,n2,n3⟩:=cu;refine⟨?_,n2,λa rm b hb=>?_⟩
  ·rw[gQ,vM];refine⟨n1,Jd,λa rm b hb=>?_⟩;simp only[dJ,lX,ew]at hb;subst hb;exact λe=>dE.1 (e▸rm)
  ·rw[gQ,cj]at rm;rcases rm with rm|rm
   ·exact n3 a rm b hb
   ·simp only[dJ,lX,ew]at rm;subst rm;exact λe=>dE.2 (e▸hb)
end
def eD(lo hi:Nat)(os os':List Ob):Prop:=∀ i,lo<=i->i<hi->os'[i]?=os[i]?
section
variable {lo hi w:Nat} {os os':List Ob} {v:AV} {X:List (List AV)}
def eD.mono(h:eD lo hi os os'){a b:Nat}(ha:lo<=a)(hb:b<=hi):eD a b os os':=λi h1 h2=>h i I6 I6
def eD.app{os:List Ob}{hi:Nat}(h:hi<=os.length)(l:List Ob)(lo:Nat):eD lo hi os (os++l):=λi _ h2=>by rw[cd I6]
def eD.set{os:List Ob}{k:Nat}(h:k<lo\/hi<=k)(y:Ob):eD lo hi os (os.set k y):=λi h1 h2=>by rw[bj I6]
def eD.trans{a b c:List Ob}(h:eD lo hi a b)(k:eD lo hi b c):eD lo hi a c:=λi h1 h2=>(k i h1 h2).trans (h i h1 h2)
def fL(w:Nat)(os:List Ob)(lo hi:Nat)(v:AV)(X:List (List AV)):Prop :=
 (v=.tree w X/\X=[])\/∃ b rows,v=.ref b w 0 X.length/\lo<=b/\b<hi/\os[b]?=some (.arr w (X++rows))/\∀ row∈X++rows,row.length=w
def fL.same(h:fL w os lo hi v X)(k:eD lo hi os os'):fL w os' lo hi v X:=by
 rcases h with h|⟨b,rows,h1,h2,h3,h4,h5⟩
 ·exact .inl h
 ·exact .inr ⟨b,rows,h1,h2,h3,by rw[k b h2 h3];exact h4,h5⟩
def fL.mono(h:fL w os lo hi v X){a b:Nat}(ha:a<=lo)(hb:hi<=b):fL w os a b v X:=by
 rcases h with h|⟨b,rows,h1,h2,h3,h4,h5⟩
 ·exact .inl h
 ·exact .inr ⟨b,rows,h1,I6,I6,h4,h5⟩
def fL.b7(h:fL w os lo hi v X):b7 v=true:=by
 rcases h with⟨rfl,_⟩|⟨b,rows,rfl,_⟩<;>rfl
def fL.bS{os:List Ob}{e:Nat->AV}{kp:Nat->Prop}(h:fL w os lo hi v X)(hk:∀ i,lo<=i->i<hi->¬ kp i)(hf:∀ row∈X,∀ v∈row,(∃ x,v=AV.lit x)\/∃ s r,v=AV.tree s r):b9 ⟨e,os⟩ kp (.tree w X) v:=by
 rcases h with⟨rfl,rfl⟩|⟨b,rows,rfl,h2,h3,h4,h5⟩
 ·exact .tree _ _
 ·refine .ref b w 0 X.length (X++rows) X (λr c=>(cellAt X r c).getD .undef) h4 (hk b h2 h3) Jd (λrow hr=>h5 row (by simp[hr])) (λr c v hv=>?_) (λr c v hv=>?_)
  ·simp[hv]
  ·rw[hv,mo];simp only[cellAt,Option.bind_eq_some_iff]at hv;obtain⟨row,h6,h7⟩:=hv;rcases hf row (gf h6) v (gf h7) with⟨x,rfl⟩|⟨s,r,rfl⟩
   ·exact .lit x
   ·exact .tree s r
end
structure tT(Pd:List Ob->Nat->Nat->AV->Prop):Prop where
 same:∀ {os os' l r v},Pd os l r v->eD l r os os'->Pd os' l r v
 mono:∀ {os l r v l' r'},Pd os l r v->l'<=l->r<=r'->Pd os l' r' v
def fL.SK(w:Nat)(X:List (List AV)):tT (λos l r v=>fL w os l r v X):=⟨λh k=>h.same k,λh a b=>h.mono a b⟩
structure cn(w:Nat)(Pd:Nat->List Ob->Nat->Nat->AV->Prop)(os:List Ob)(a lo hi n:Nat)(A:Nat->List AV)(C:Nat->AV):Prop where
 arr:os[a]?=some (.arr w ((aN n).map λk=>A k++[C k]))
 at_:hi<=a
 wid:∀ k,k<n->(A k).length+1=w
 row :∃S:Nat->Nat,lo<=S 0/\S n<=hi/\(∀ k,k<n->S k<=S (k+1))/\∀ k,k<n->Pd k os (S k) (S (k+1)) (C k)
section
variable {lo hi w a n:Nat} {os os':List Ob} {A:Nat->List AV} {C:Nat->AV} {Pd:Nat->List Ob->Nat->Nat->AV->Prop}
def SL{S:Nat->Nat}{n:Nat}(h:∀ k,k<n->S k<=S (k+1)):∀ (d i:Nat),i+d<=n->S i<=S (i+d)
 |0,i,_=>aG _
 |d+1,i,hd=>iM (SL h d i I6) (h (i+d) I6)
def pf{S:Nat->Nat}{n:Nat}(h:∀ k,k<n->S k<=S (k+1)){i j:Nat}(pg:i<=j)(hj:j<=n):S i<=S j:=by
 have:=SL h (j-i) i I6;rwa [show i+(j-i)=j by omega]at this
def cn.same(hP:∀ k,tT (Pd k))(h:cn w Pd os a lo hi n A C)(k:eD lo hi os os')(ha:os'[a]?=os[a]?):cn w Pd os' a lo hi n A C:=by
 obtain⟨h1,h2,h3,S,s1,s2,s3,s4⟩:=h;refine⟨by rw[ha];exact h1,h2,h3,S,s1,s2,s3,λi hi'=>(hP i).same (s4 i hi') (k.mono ?_ ?_)⟩
 ·exact iM s1 (pf s3 (aQ _) I6)
 ·exact iM (pf s3 (show i+1<=n by omega) (aG _)) s2
def cn.qh(h:cn w Pd os a lo hi n A C):lo<=hi:=by
 obtain⟨h1,h2,h3,S,s1,s2,s3,s4⟩:=h;have:=pf s3 (aQ _) (aG n);omega
def cn.get(h:cn w Pd os a lo hi n A C){k:Nat}(hk:k<n):∃l r,lo<=l/\r<=hi/\Pd k os l r (C k):=by
 obtain⟨h1,h2,h3,S,s1,s2,s3,s4⟩:=h;exact⟨S k,S (k+1),iM s1 (pf s3 (aQ _) I6),iM (pf s3 (show k+1<=n by omega) (aG _)) s2,s4 k hk⟩
def cn.len(h:cn w Pd os a lo hi n A C):a<os.length:=(aM.1 h.arr).1
def o6{α:Type}(f:Nat->α){n k:Nat}(h:k<n):((aN n).map f)[k]?=some (f k):=by rw[cg,List.getElem?_range h];rfl
def abn{α:Type}(f:Nat->α){n k:Nat}(y:α):((aN n).map f).set k y=(aN n).map λi=>if i=k then y else f i:=by
 apply mZ;intro j;rw[bV];by_cases hj:j<n
 ·try simp only[]
  by_cases e:k=j
  ·subst e;rw[if_pos rfl,if_pos (by simpa using hj),o6 _ hj,if_pos rfl]
  ·rw[if_neg e,o6 _ hj,o6 (λi=>if i=k then y else f i) hj,if_neg (λh=>e h.symm)]
 ·rw[eE (l:=(aN n).map λi=>if i=k then y else f i) (by simpa using hj)];split
  ·rename_i e;subst e;rw[if_neg (by simpa using hj)]
  ·exact eE (by simpa using hj)
def cn.at(hP:∀ k,tT (Pd k))(h:cn w Pd os a lo hi n A C){k:Nat}(hk:k<n):∃l r,lo<=l/\r<=hi/\Pd k os l r (C k) /\
  ∀ (Pd':Nat->List Ob->Nat->Nat->AV->Prop) (v:AV) (os':List Ob),os'[a]?=some (.arr w ((aN n).map λi=>A i++[if i=k then v else C i]))->Pd' k os' l r v ->
   (∀ i,lo<=i->i<hi->(i<l\/r<=i)->os'[i]?=os[i]?)->(∀ i,i≠k->i<n->∀ os l r v,Pd i os l r v->Pd' i os l r v)->cn w Pd' os' a lo hi n A (λi=>if i=k then v else C i):=by
 obtain⟨h1,h2,h3,S,s1,s2,s3,s4⟩:=h;have b1:lo<=S k:=iM s1 (pf s3 (aQ _) I6);have b2:S (k+1)<=hi:=iM (pf s3 (show k+1<=n by omega) (aG _)) s2;refine⟨S k,S (k+1),b1,b2,s4 k hk,λPd' v os' ha c1 c2 fW=>⟨ha,h2,h3,S,s1,s2,s3,λi hi'=>?_⟩⟩;have e1:lo<=S i:=iM s1 (pf s3 (aQ _) I6);have e2:S (i+1)<=hi:=iM (pf s3 (show i+1<=n by omega) (aG _)) s2;by_cases e:i=k
 ·subst e;rw[if_pos rfl];exact c1
 ·rw[if_neg e];refine fW i e hi' _ _ _ _ ((hP i).same (s4 i hi') (λj j1 j2=>c2 j I6 I6 ?_));rcases Nat.lt_or_gt_of_ne e with e'|e'
  ·have:=pf s3 (show i+1<=k by omega) I6;omega
  ·have:=pf s3 (show k+1<=i by omega) I6;omega
def cn.push(hP:∀ k,tT (Pd k))(h:cn w Pd os a lo hi n A C){os':List Ob}{a' hi':Nat}{R:List AV}{v:AV}(hs:eD lo hi os os')(hh:hi<=hi')(rm:hi'<=a')(hv:Pd n os' hi hi' v)(hR:R.length+1=w)(j3:os'[a']?=some (.arr w ((aN n).map (λk=>A k++[C k])++[R++[v]]))):
  cn w Pd os' a' lo hi' (n+1) (λi=>if i=n then R else A i) (λi=>if i=n then v else C i):=by
 obtain⟨h1,h2,h3,S,s1,s2,s3,s4⟩:=h;refine⟨?_,rm,λk hk=>?_,λi=>if i=n+1 then hi' else S i,?_,?_,λk hk=>?_,λk hk=>?_⟩
 ·rw[j3,List.range_succ,gQ];congr 3
  ·refine kG λk hk=>?_;rw[if_neg (by have:=lz.1 hk;omega),if_neg (by have:=lz.1 hk;omega)]
  ·simp
 ·by_cases e:k=n
  ·rw[if_pos e];exact hR
  ·rw[if_neg e];exact h3 k I6
 ·dsimp only;rw[if_neg I6];exact s1
 ·dsimp only;rw[if_pos rfl];exact aG _
 ·dsimp only;rw[if_neg I6];by_cases e:k=n
  ·subst e;rw[if_pos rfl];omega
  ·rw[if_neg I6];exact s3 k I6
 ·dsimp only;rw[if_neg (show k≠n+1 by omega)];by_cases e:k=n
  ·subst e;rw[if_pos rfl,if_pos rfl];exact(hP k).mono hv s2 (aG _)
  ·rw[if_neg e,if_neg I6];exact(hP k).same (s4 k I6) (hs.mono (iM s1 (pf s3 (aQ _) I6)) (iM (pf s3 (show k+1<=n by omega) (aG _)) s2))
def cn.nil{os:List Ob}{a:Nat}(h:os[a]?=some (.arr w []))(lo:Nat)(hl:lo<=a)(A:Nat->List AV)(C:Nat->AV):cn w Pd os a lo lo 0 A C :=
 ⟨by rw[h];rfl,hl,λk hk=>absurd hk (vK _),λ_=>lo,aG _,aG _,λk hk=>absurd hk (vK _),λk hk=>absurd hk (vK _)⟩
def cn.yL{A':Nat->List AV}{C':Nat->AV}{Pd':Nat->List Ob->Nat->Nat->AV->Prop}(h:cn w Pd os a lo hi n A C)(hA:∀ k,k<n->A' k=A k)(hC:∀ k,k<n->C' k=C k)(hp:∀ k,k<n->∀ os l r v,Pd k os l r v->Pd' k os l r v):cn w Pd' os a lo hi n A' C':=by
 obtain⟨h1,h2,h3,S,s1,s2,s3,s4⟩:=h;refine⟨?_,h2,λk hk=>by rw[hA k hk];exact h3 k hk,S,s1,s2,s3,λk hk=>by rw[hC k hk];exact hp k hk _ _ _ _ (s4 k hk)⟩;rw[h1];congr 2;exact kG λk hk=>by rw[hA k (lz.1 hk),hC k (lz.1 hk)]
def cn.app(hP:∀ k,tT (Pd k))(h:cn w Pd os a lo hi n A C)(X:List Ob){v:AV}{l0:Nat}(ha:a<l0)(h0:l0<=os.length)(hR:(A n).length+1=w)(hv:∀ os',eD l0 (os.length+X.length) (os++X) os'->Pd n os' l0 (os.length+X.length) v):
  cn w Pd (os.set a .gone++(X++[.arr w ((aN n).map (λk=>A k++[C k])++[A n++[v]])])) (os.length+X.length) lo (os.length+X.length) (n+1) A (λi=>if i=n then v else C i):=by
 have hb:=h.len;have SM:=h.at_;refine(cn.push hP h (os':=os.set a .gone++(X++[.arr w ((aN n).map (λk=>A k++[C k])++[A n++[v]])])) (hi':=os.length+X.length) (R:=A n) (v:=v) (λi h1 h2=>?_) I6 (aG _) ((hP n).mono (hv _ (λi h1 h2=>?_)) I6 (aG _)) hR ?_).yL (λk hk=>?_) (λ_ _=>rfl) (λ_ _ _ _ _ _ h=>h)
 ·rw[cd (by rw[bE];omega),bj I6]
 ·by_cases e:i<os.length
  ·rw[cd (by rw[bE];omega),cd e,bj I6]
  ·rw[eu (by rw[bE];omega),eu (l₁:=os) I6,bE,cd I6]
 ·rw[eu (by rw[bE];omega),bE,Nat.add_sub_cancel_left,eu (aG _),Nat.sub_self];rfl
 ·by_cases e:k=n
  ·rw[if_pos e,e]
  ·rw[if_neg e]
def cn.AO(hP:∀ k,tT (Pd k))(h:cn w Pd os a lo hi n A C){q:Nat}(hq:q<lo)(y:Ob):cn w Pd (os.set q y) a lo hi n A C :=
 h.same hP (eD.set (.inl hq) y) (bj (by have:=h.at_;have:=h.qh;omega))
def eD.kill{m b:Nat}{ot:List Ob}(hb:m<=b)(hl:b<ot.length)(L:List Ob):eD 0 m ot (ot.set b .gone++L):=λi _ h2=>by
 rw[cd (by rw[bE];omega),bj I6]
def cn.bS{os:List Ob}{e:Nat->AV}{kp:Nat->Prop}{T:Nat->AV}(h:cn w Pd os a lo hi n A C)(hk:∀ i,lo<=i->i<=a->¬ kp i)(hA:∀ k,k<n->∀ v∈A k,∃ x,v=AV.lit x)(hT:∀ k,k<n->∀ l r v,lo<=l->r<=hi->Pd k os l r v->b9 ⟨e,os⟩ kp (T k) v):b9 ⟨e,os⟩ kp (.tree w ((aN n).map λk=>A k++[T k])) (.ref a w 0 n):=by
 have hlh:=h.qh;have hr:=λk hk=>h.get (k:=k) hk;obtain⟨h1,h2,h3,S,s1,s2,s3,s4⟩:=h;refine .ref a w 0 n _ _ (λr c=>(cellAt ((aN n).map λk=>A k++[C k]) r c).getD .undef) h1 (hk a I6 (aG _)) Jd (λrow hr=>?_) (λr c v hv=>?_) (λr c v hv=>?_)
 ·obtain⟨k,hk,rfl⟩:=bZ.1 hr;rw[List.length_append];exact h3 k (lz.1 hk)
 all_goals
  unfold cellAt at hv;by_cases nS:r<n;rotate_left
  ·rw[eE (by simpa using nS)]at hv;simp at hv
  rw[o6 _ nS,rM]at hv
 ·rw[List.drop_zero,List.take_of_length_le Jd];unfold cellAt;rw[o6 _ nS,rM];have cy:c<(A r++[C r]).length:=by
   have:=(aM.1 hv).1;simpa using this
  rw[bT cy];rfl
 ·unfold cellAt;rw[o6 _ nS,rM];by_cases hc:c<(A r).length
  ·rw[cd hc]at hv ⊢;rw[hv,mo];obtain⟨x,rfl⟩:=hA r nS v (gf hv);exact .lit x
  ·rw[eu I6]at hv ⊢;have nB:c-(A r).length=0:=by
    have:=(aM.1 hv).1;simp at this;omega
   rw[nB]at hv ⊢;simp only[rL,cT.injEq]at hv;subst hv;obtain⟨l,u,u1,u2,hO⟩:=hr r nS;exact hT r nS l u _ u1 u2 hO
end
def il(o:br):List AV:=[aa3 o.wk,aa3 o.day,aa3 o.st,aa3 o.len,aa3 o.room]
def iY(p:Pr):List AV:=[aa3 p.fst,aa3 p.snd,aa3 p.aV]
def tU(xs:List (Int×Int))(os:List Ob)(l r:Nat)(v:AV):Prop:=fL 2 os l r v (rowsOf bz xs)
def sL(xs:List Int)(os:List Ob)(l r:Nat)(v:AV):Prop:=fL 1 os l r v (ints xs)
def DQ(xs:List (Int×Int)):tT (tU xs):=fL.SK 2 _
def tV(xs:List Int):tT (sL xs):=fL.SK 1 _
def cn.low{Pd:Nat->List Ob->Nat->Nat->AV->Prop}{w a lo hi n:Nat}{os:List Ob}{A:Nat->List AV}{C:Nat->AV}(h:cn w Pd os a lo hi n A C){kl:Nat}(hl:kl<=lo):cn w Pd os a kl hi n A C:=by
 obtain⟨h1,h2,h3,S,s1,s2,s3,s4⟩:=h;exact⟨h1,h2,h3,S,I6,s2,s3,s4⟩
def tW(L:List br)(os:List Ob)(l r:Nat)(v:AV):Prop :=
 ∃ a hi C,v=.ref a 6 0 L.length/\a<r/\cn 6 (λk=>tU (L.getD k default).ch) os a l hi L.length (λk=>il (L.getD k default)) C
def sM(L:List br):tT (tW L):=by
 refine⟨?_,?_⟩
 ·rintro os os' l r v ⟨a,hi,C,h1,h2,h3⟩ hs;have:=h3.at_;have:=h3.qh;exact⟨a,hi,C,h1,h2,h3.same (λk=>DQ _) (hs.mono (aG _) I6) (hs a I6 h2)⟩
 ·rintro os l r v l' r' ⟨a,hi,C,h1,h2,h3⟩ hl hr;exact⟨a,hi,C,h1,I6,h3.low hl⟩
def yM(cls:List (List br))(os:List Ob)(a lo hi n:Nat)(C:Nat->AV):Prop:=cn 1 (λc=>tW (cls.getD c default)) os a lo hi n (λ_=>[]) C
def AP(ae:List Pr)(os:List Ob)(a lo hi n:Nat)(C:Nat->AV):Prop:=cn 4 (λi=>sL (ae.getD i default).ay) os a lo hi n (λi=>iY (ae.getD i default)) C
def Hx{α β:Type}[Inhabited α](xs:List α)(f:α->β):((aN xs.length).map λk=>f (xs.getD k default))=xs.map f:=by
 apply mZ;intro i;by_cases h:i<xs.length
 ·rw[o6 _ h,cg,aA,bT h];rfl
 ·rw[eE (by simpa using h),eE (by simpa using h)]
def abo{L:List br}{os:List Ob}{l r:Nat}{v:AV}{e:Nat->AV}{kp:Nat->Prop}(h:tW L os l r v)(hk:∀ i,l<=i->i<r->¬ kp i):b9 ⟨e,os⟩ kp (.tree 6 (rowsOf cw L)) v:=by
 obtain⟨a,hi,C,rfl,h2,h3⟩:=h;have h4:=h3.at_;have e1:rowsOf cw L=(aN L.length).map λk=>il (L.getD k default)++[.tree 2 (rowsOf bz (L.getD k default).ch)]:=by
  exact(Hx L λo=>il o++[AV.tree 2 (rowsOf bz o.ch)]).symm
 rw[e1];refine h3.bS (λi h5 h6=>hk i h5 I6) (λk hk v hv=>?_) (λk aJ l' r' v h5 h6 h7=>?_)
 ·unfold il at hv;simp only[b8,k8,or_false]at hv;rcases hv with rfl|rfl|rfl|rfl|rfl<;>exact⟨_,rfl⟩
 ·exact fL.bS h7 (λi h8 h9=>hk i I6 I6) (jh _)
def abp{cls:List (List br)}{os:List Ob}{a lo hi:Nat}{C:Nat->AV}{e:Nat->AV}{kp:Nat->Prop}(h:yM cls os a lo hi cls.length C)(hk:∀ i,lo<=i->i<=a->¬ kp i):b9 ⟨e,os⟩ kp (.tree 1 (rowsOf bD cls)) (.ref a 1 0 cls.length):=by
 have h4:=h.at_;have e1:rowsOf bD cls=(aN cls.length).map λk=>[]++[.tree 6 (rowsOf cw (cls.getD k default))]:=by
  exact(Hx cls λo=>([]:List AV)++[AV.tree 6 (rowsOf cw o)]).symm
 rw[e1];refine cn.bS h hk (λk hk v hv=>(by cases hv)) (λk aJ l' r' v h5 h6 h7=>?_);exact abo h7 λi h8 h9=>hk i I6 I6
def abq{ae:List Pr}{os:List Ob}{a lo hi:Nat}{C:Nat->AV}{e:Nat->AV}{kp:Nat->Prop}(h:AP ae os a lo hi ae.length C)(hk:∀ i,lo<=i->i<=a->¬ kp i):b9 ⟨e,os⟩ kp (.tree 4 (rowsOf bu ae)) (.ref a 4 0 ae.length):=by
 have h4:=h.at_;have e1:rowsOf bu ae=(aN ae.length).map λk=>iY (ae.getD k default)++[.tree 1 (ints (ae.getD k default).ay)]:=by
  exact(Hx ae λo=>iY o++[AV.tree 1 (ints o.ay)]).symm
 rw[e1];refine cn.bS h hk (λk hk v hv=>?_) (λk aJ l' r' v h5 h6 h7=>?_)
 ·unfold iY at hv;simp only[b8,k8,or_false]at hv;rcases hv with rfl|rfl|rfl<;>exact⟨_,rfl⟩
 ·exact fL.bS h7 (λi h8 h9=>hk i I6 I6) (qD _)
def bd(l:List Bool):List AV:=[.tree 1 (aY l)]
instance:Row bd 1:=⟨λ_=>rfl,λl v hv=>by
 simp only[bd,ew]at hv;subst hv;exact .inr ⟨_,_,rfl⟩⟩
def AQ(q:Nat×Nat):List AV:=[.ref q.1 1 0 q.2]
structure eo(B:List (Nat×Ob))(D:List (Nat×Nat))(S:List (List Bool))(os:List Ob):Prop where
 base:∀ b∈B,os[b.1]?=some b.2
 len:D.length=S.length
 row:∀ j,j<D.length->os[(D.getD j default).1]?=some (.arr 1 (aY (S.getD j default)))/\(S.getD j default).length=(D.getD j default).2
 nd:(B.map (·.1)++D.map (·.1)).Nodup
section
variable {B:List (Nat×Ob)} {D:List (Nat×Nat)} {S:List (List Bool)} {os:List Ob}
def eo.app(h:eo B D S os)(l:List Ob):eo B D S (os++l):=⟨λb hb=>bC (h.base b hb) l,h.len,λj hj=>⟨bC (h.row j hj).1 l,(h.row j hj).2⟩,h.nd⟩
def eo.fresh(h:eo B D S os){p:Nat}(hp:os.length<=p):p ∉ B.map (·.1)++D.map (·.1):=λhh=>by
 rw[cj]at hh;rcases hh with hh|hh
 ·obtain⟨q,hq,rfl⟩:=bZ.1 hh;have:=(aM.1 (h.base q hq)).1;omega
 ·obtain⟨q,hq,rfl⟩:=bZ.1 hh;obtain⟨k,hk,rfl⟩:=rJ.1 hq;have h1:=(h.row k hk).1;have a1:D.getD k default=D[k]:=by simp[hk]
  rw[a1]at h1;have:=(aM.1 h1).1;omega
def eo.other(h:eo B D S os){i:Nat}(hi:i ∉ B.map (·.1)++D.map (·.1))(y:Ob):eo B D S (os.set i y):=by
 rw[cj,not_or]at hi;refine⟨λb hb=>?_,h.len,λk hk=>⟨?_,(h.row k hk).2⟩,h.nd⟩
 ·rw[bj (λe=>hi.1 (bZ.2 ⟨b,hb,e.symm⟩))];exact h.base b hb
 ·rw[bj (λe=>hi.2 (bZ.2 ⟨D.getD k default,aC hk,e.symm⟩))];exact(h.row k hk).1
def eo.add(h:eo B D S os){k:Nat}{x:Ob}(hk:os[k]?=some x)(hf:k ∉ B.map (·.1)++D.map (·.1)):eo ((k,x)::B) D S os :=
 ⟨λb hb=>by rcases b8.1 hb with rfl|hb;exact hk;exact h.base b hb,h.len,h.row,by
  rw[dJ,cW,sX];exact⟨hf,h.nd⟩⟩
def eo.b0{a:Nat×Ob}(h:eo (a::B) D S os):os[a.1]?=some a.2:=h.base a Jd
def eo.b1{a b:Nat×Ob}(h:eo (a::b::B) D S os):os[b.1]?=some b.2:=h.base b Jd
def eo.b2{a b c:Nat×Ob}(h:eo (a::b::c::B) D S os):os[c.1]?=some c.2:=h.base c Jd
def eo.b3{a b c d:Nat×Ob}(h:eo (a::b::c::d::B) D S os):os[d.1]?=some d.2:=h.base d Jd
def eo.put{i:Nat}{x:Ob}(h:eo ((i,x)::B) D S os)(y:Ob):eo ((i,y)::B) D S (os.set i y):=by
 have hn:=h.nd;rw[dJ,cW,sX]at hn;have hx:=h.base (i,x) Jd;have h2:eo B D S os:=⟨λb hb=>h.base b (by simp[hb]),h.len,h.row,hn.2⟩;exact(h2.other hn.1 y).add (iH hx) hn.1
def eo.drop{i:Nat}{x:Ob}(h:eo ((i,x)::B) D S os):eo B D S os/\i ∉ B.map (·.1)++D.map (·.1):=by
 have hn:=h.nd;rw[dJ,cW,sX]at hn;exact⟨⟨λb hb=>h.base b (by simp[hb]),h.len,h.row,hn.2⟩,hn.1⟩
def eo.swap{a b:Nat×Ob}(h:eo (a::b::B) D S os):eo (b::a::B) D S os :=
 ⟨λc hc=>h.base c (by simp only[b8]at hc ⊢;rcases hc with hc|hc|hc<;>simp[hc]),h.len,h.row,by
  have:=h.nd;simp only[dJ,cW,sX,b8,not_or]at this ⊢;exact⟨⟨Ne.symm this.1.1,this.2.1⟩,this.1.2,this.2.2⟩⟩
def eo.snoc{p:Nat}{r:List Bool}(h:eo ((p,.arr 1 (aY r))::B) D S os):eo B (D++[(p,r.length)]) (S++[r]) os:=by
 obtain⟨h2,hf⟩:=h.drop;have hp:=h.base (p,.arr 1 (aY r)) Jd;refine⟨h2.base,by simp[h2.len],λj hj=>?_,?_⟩
 ·rw[DN,DN,<- h2.len];by_cases h1:j<D.length
  ·rw[if_pos h1,if_pos h1];exact h2.row j h1
  ·have:j=D.length:=by simp at hj;omega
   rw[if_neg h1,if_neg h1,if_pos this,if_pos this];exact⟨hp,rfl⟩
 ·rw[gQ,<- dC,vM];refine⟨h2.nd,Jd,λa ha b hb=>?_⟩;simp only[dJ,lX,ew]at hb;subst hb;exact λe=>hf (e▸ha)
end
def wT(p:Nat):List (List Bool)->List (List AV)
 |[]=>[]
 |r::t=>[.ref p 1 0 r.length]::wT (p+1) t
def AR(S:List (List Bool)):List Ob:=S.map λr=>.arr 1 (aY r)
def DR(S:List (List Bool)):(AR S).length=S.length:=List.length_map _
def Hy:∀ (p:Nat) (S:List (List Bool)),(wT p S).length=S.length
 |_,[]=>rfl
 |p,r::t=>by simp only[wT,List.length_cons,Hy (p+1) t]
def Hz:∀ (p:Nat) (S:List (List Bool)) (j:Nat),j<S.length->(wT p S)[j]?=some [.ref (p+j) 1 0 (S.getD j default).length]
 |_,[],j,h=>by simp at h
 |p,r::t,0,h=>rfl
 |p,r::t,j+1,h=>by
  rw[wT,vH,Hz (p+1) t j (by simpa using h)];rw[show p+1+j=p+(j+1) by omega,ep]
def SN{B:List (Nat×Ob)}{D:List (Nat×Nat)}{S:List (List Bool)}{os:List Ob}(h:eo B D S os){j:Nat}(hj:j<S.length):(rowsOf AQ D)[j]?=some [.ref (D.getD j default).1 1 0 (S.getD j default).length]:=by
 have hd:=h.len;have h2:=(h.row j I6).2;rw[h2];unfold rowsOf;rw[cg,aA,bT I6];rfl
def eo.ret{D:List (Nat×Nat)}{S:List (List Bool)}{os:List Ob}{x:Ob}{oi:Nat}(h:eo [(0,x),(oi,.arr 1 (rowsOf AQ D))] D S os)(hx:∀ ρ,bH ρ x=x)(hg:x≠.gone)(e:Nat->AV):
  mB 1 ⟨e,os⟩ (.ref oi 1 0 S.length) (.ref 1 1 0 S.length) (x::.arr 1 (wT 2 S)::AR S):=by
 have hd:=h.len;have h0:=h.base (0,x) Jd;have h1:=h.base (oi,.arr 1 (rowsOf AQ D)) Jd;dsimp only at h0 h1;have hl:∀ i∈0::oi::D.map (·.1),i<os.length:=λi hi=>by
  rcases b8.1 hi with rfl|hi
  ·exact(aM.1 h0).1
  rcases b8.1 hi with rfl|hi
  ·exact(aM.1 h1).1
  obtain⟨q,hq,rfl⟩:=bZ.1 hi;obtain⟨k,hk,rfl⟩:=rJ.1 hq;have h3:=(h.row k hk).1;have a1:D.getD k default=D[k]:=by simp[hk]
  rw[a1]at h3;exact(aM.1 h3).1
 have HA:∀ j,j<S.length->bm os.length (0::oi::D.map (·.1)) (2+j)=(D.getD j default).1:=λj hj=>by
  unfold bm;rw[if_pos aaZ,show 2+j=j+1+1 by omega,ep,ep,aA,cg,aA,bT I6];rfl
 refine⟨0::oi::D.map (·.1),false,by simpa using h.nd,by simp[DR,hd],λj o hj=>.inr ?_,hl,Jd,λi hi=>?_,.eq ?_⟩
 ·match j with
  |0 =>
   simp only[rL,cT.injEq]at hj;subst hj;rw[hx];exact h0
  |1 =>
   simp only[vH,rL,cT.injEq]at hj;subst hj;refine h1.trans (congrArg some ?_);rw[bH];refine congrArg _ (mZ λi=>?_);rw[cg];by_cases hi:i<S.length
   ·rw[SN h hi,Hz 2 S i hi,fR,dJ,lX,aX,HA i hi]
   ·rw[eE (by simp[rowsOf];omega),eE (by rw[Hy];omega)];rfl
  |j+2 =>
   simp only[vH]at hj;have kL:j<S.length:=by have:=(aM.1 hj).1;rwa [DR]at this
   have h3:=(h.row j I6).1;unfold AR at hj;rw[cg,bT kL]at hj;simp only[fR,cT.injEq]at hj;subst hj;rw[xD];have e1:(0::oi::D.map (·.1)).getD (j+2) 0=(D.getD j default).1:=by
    rw[ep,ep,aA,cg,aA,bT I6];rfl
   have e2:S.getD j default=S[j]:=by rw[aA,bT kL];rfl
   rw[e1,<- e2];exact h3
 ·have:i=0:=I6;subst this;rfl
 ·rw[aX];have:bm os.length (0::oi::D.map (·.1)) 1=oi:=by unfold bm;rw[if_pos Jd];rfl
  rw[this]
def jB.yn{R:AV->AV->Prop}{f:Nat->List AV}{g:Nat->List AV}:∀ {cs ds:List (List AV)},cs.length=ds.length->(∀ (j:Nat) c d,cs[j]?=some c->ds[j]?=some d->dS R c d)->jB R cs ds
 |[],[],_,_=>trivial
 |[],_::_,h,_=>by simp at h
 |_::_,[],h,_=>by simp at h
 |c::cs,d::ds,h,k=>⟨k 0 c d rfl rfl,jB.yn (f:=f) (g:=g) (by simpa using h) λj c d hc hd=>k (j+1) c d (by simpa using hc) (by simpa using hd)⟩
def ZK{σ:St}{kp:Nat->Prop}{id:Nat}{bs:List Bool}(ho:σ.aa[id]?=some (.arr 1 (aY bs)))(hk:¬ kp id):b9 σ kp (.tree 1 (aY bs)) (.ref id 1 0 bs.length) :=
 b9.mk ho (by simp[aY]) hk (zt _) (jB.yn (f:=λ_=>[]) (g:=λ_=>[]) rfl λj c d hc hd=>by
  rw[hc]at hd;cases hd;unfold aY at hc;rw[cg]at hc;cases hb:bs[j]? with
  |none=>rw[hb]at hc;cases hc
  |some b=>rw[hb]at hc;simp only[fR,cT.injEq]at hc;subst hc;exact⟨.lit _,trivial⟩)
def eo.AS{D:List (Nat×Nat)}{S:List (List Bool)}{os:List Ob}{oi:Nat}(h:eo [(oi,.arr 1 (rowsOf AQ D))] D S os)(e:Nat->AV):
  mB 0 ⟨e,os⟩ (.ref oi 1 0 S.length) (.ref 0 1 0 S.length) (.arr 1 (wT 1 S)::AR S):=by
 have hd:=h.len;have h1:=h.base (oi,.arr 1 (rowsOf AQ D)) Jd;dsimp only at h1;have hl:∀ i∈oi::D.map (·.1),i<os.length:=λi hi=>by
  rcases b8.1 hi with rfl|hi
  ·exact(aM.1 h1).1
  obtain⟨q,hq,rfl⟩:=bZ.1 hi;obtain⟨k,hk,rfl⟩:=rJ.1 hq;have h3:=(h.row k hk).1;have a1:D.getD k default=D[k]:=by simp[hk]
  rw[a1]at h3;exact(aM.1 h3).1
 have HA:∀ j,j<S.length->bm os.length (oi::D.map (·.1)) (1+j)=(D.getD j default).1:=λj hj=>by
  unfold bm;rw[if_pos aaZ,show 1+j=j+1 by omega,ep,aA,cg,aA,bT I6];rfl
 refine⟨oi::D.map (·.1),false,by simpa using h.nd,by simp[DR,hd],λj o hj=>.inr ?_,hl,Jd,λi hi=>?_,.eq ?_⟩
 ·match j with
  |0 =>
   simp only[rL,cT.injEq]at hj;subst hj;refine h1.trans (congrArg some ?_);rw[bH];refine congrArg _ (mZ λi=>?_);rw[cg];by_cases hi:i<S.length
   ·rw[SN h hi,Hz 1 S i hi,fR,dJ,lX,aX,HA i hi]
   ·rw[eE (by simp[rowsOf];omega),eE (by rw[Hy];omega)];rfl
  |j+1 =>
   simp only[vH]at hj;have kL:j<S.length:=by have:=(aM.1 hj).1;rwa [DR]at this
   have h3:=(h.row j I6).1;unfold AR at hj;rw[cg,bT kL]at hj;simp only[fR,cT.injEq]at hj;subst hj;rw[xD];have e1:(oi::D.map (·.1)).getD (j+1) 0=(D.getD j default).1:=by
    rw[ep,aA,cg,aA,bT I6];rfl
   have e2:S.getD j default=S[j]:=by rw[aA,bT kL];rfl
   rw[e1,<- e2];exact h3
 ·omega
 ·rw[aX];have:bm os.length (oi::D.map (·.1)) 0=oi:=by unfold bm;rw[if_pos Jd];rfl
  rw[this]
def eo.setRow{B:List (Nat×Ob)}{D:List (Nat×Nat)}{S:List (List Bool)}{os:List Ob}(h:eo B D S os){j:Nat}(hj:j<S.length){r:List Bool}(hr:r.length=(S.getD j default).length):
  eo B D (S.set j r) (os.set (D.getD j default).1 (.arr 1 (aY r))):=by
 have pL:j<D.length:=by rw[h.len];exact hj
 have cu:=vM.1 h.nd;have SO:D.getD j default=D[j]:=by simp[pL]
 have cR:(D.getD j default).1∈D.map (·.1):=by rw[SO];exact bZ.2 ⟨_,List.getElem_mem pL,rfl⟩
 refine⟨λb hb=>?_,by rw[bE];exact h.len,λk hk=>?_,h.nd⟩
 ·rw[bj ?_]
  ·exact h.base b hb
  ·intro e;exact cu.2.2 _ (bZ.2 ⟨b,hb,rfl⟩) _ cR e.symm
 ·obtain⟨h1,h2⟩:=h.row k hk;by_cases e:k=j
  ·subst e;have bq:=(aM.1 h1).1;have hg:(S.set k r).getD k default=r:=by rw[aA,bV,if_pos rfl,if_pos hj];rfl
   rw[bV,if_pos rfl,if_pos bq,hg];exact⟨rfl,hr.trans h2⟩
  ·have hg:(S.set j r).getD k default=S.getD k default:=by rw[aA,bj (Ne.symm e),<- aA]
   rw[hg,bj ?_]
   ·exact⟨h1,h2⟩
   ·intro e2;have hDk:D.getD k default=D[k]:=by simp[hk]
    rw[SO,hDk]at e2;have hp:=List.pairwise_iff_getElem.1 cu.2.1;rcases Nat.lt_or_gt_of_ne e with hl|hl
    ·exact hp k j (by simpa using hk) (by simpa using pL) hl (by simpa using e2.symm)
    ·exact hp j k (by simpa using pL) (by simpa using hk) hl (by simpa using e2)
end T

