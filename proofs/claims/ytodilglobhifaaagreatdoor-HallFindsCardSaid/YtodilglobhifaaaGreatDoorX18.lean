import Derived.Test.YtodilglobhifaaaGreatDoorX10
import Derived.Test.YtodilglobhifaaaGreatDoorX12
set_option linter.all false
set_option maxHeartbeats 0
set_option maxRecDepth 20000
open List renaming nil_append→dT,cons_append→fR,mem_append→bj,mem_singleton→bm,getD_eq_getElem?_getD→aw,getElem?_eq_none→iF,getD_nil→Au,length_cons→cK,mem_cons→cD,getD_cons_zero→jm,getD_cons_succ→jK,mem_map→cN,map_cons→qR,map_congr_left→oO,mem_iff_getElem→oS,length_set→bt
open Bool renaming and_eq_true→bd
open Option renaming some→dv
open Int renaming toNat_natCast→dz,toNat_of_nonneg→oR,le_refl→vU
open Nat renaming lt_or_ge→dD
open Go Go.Am
namespace T
def Pn{R:Int}{c:Int×Int}:∀ {l:List (Int×Int)} {q:Option (Int×Int)},dh R q l=true->gY R c.1=true->fw c.2=true->(∀ x∈l,x.1<c.1)->(∀ y,q=some y->y.1<c.1)->dh R q (l++[c])=true
 |[],q,_,h1,h2,_,h3=>by
  rw[dT,dh.eq_def];cases q with
  |none=>simp[h1,h2,dh]
  |some y=>simp[h1,h2,dh,h3 y rfl]
 |x::r,q,h,h1,h2,h3,h4=>by
  rw[dh.eq_def]at h;simp only[bd]at h;rw[fR,dh.eq_def];simp only[bd];exact⟨h.1,Pn h.2 h1 h2 (λy hy=>h3 y (by simp[hy])) (λy hy=>by simp only[dv.injEq]at hy;subst hy;exact h3 _ Dg)⟩
def Po{m:ah}{c:Pr}:∀ {l:List Pr} {q:Option Pr},gZ m q l=true->gm m c=true->(∀ x∈l,oB x c<0)->(∀ y,q=some y->oB y c<0)->gZ m q (l++[c])=true
 |[],q,_,h1,_,h3=>by
  rw[dT,gZ.eq_def];cases q with
  |none=>simp[h1,gZ]
  |some y=>simp[h1,gZ,h3 y rfl]
 |x::r,q,h,h1,h3,h4=>by
  rw[gZ.eq_def]at h;simp only[bd]at h;rw[fR,gZ.eq_def];simp only[bd];exact⟨h.1,Po h.2 h1 (λy hy=>h3 y (by simp[hy])) (λy hy=>by simp only[dv.injEq]at hy;subst hy;exact h3 _ Dg)⟩
def Pp{m:ah}{c:Ld}:∀ {l:List Ld} {q:Option Ld},gn m q l=true->iN m c.cls c.opt=true->(1<=c.wt/\c.wt<=1000)->(∀ x∈l,pz x c<0)->(∀ y,q=some y->pz y c<0)->gn m q (l++[c])=true
 |[],q,_,h1,h2,_,h3=>by
  rw[dT,gn.eq_def];cases q with
  |none=>simp[h1,h2,gn]
  |some y=>simp[h1,h2,gn,h3 y rfl]
 |x::r,q,h,h1,h2,h3,h4=>by
  rw[gn.eq_def]at h;simp only[bd]at h;rw[fR,gn.eq_def];simp only[bd];exact⟨h.1,Pp h.2 h1 h2 (λy hy=>h3 y (by simp[hy])) (λy hy=>by simp only[dv.injEq]at hy;subst hy;exact h3 _ Dg)⟩
def FB{cls:List (List bh)}{R:Int}{a b:List Pr}{c d:List Ct}:∀ (l:List Pr) (q:Option Pr),gZ ⟨cls,a,c,R⟩ q l=gZ ⟨cls,b,d,R⟩ q l
 |[],_=>rfl
 |x::r,q=>by
  have:=FB (cls:=cls) (R:=R) (a:=a) (b:=b) (c:=c) (d:=d) r (some x);cases q<;>simp only[gZ,this]<;>rfl
def Pq{cls:List (List bh)}{R:Int}{a b:List Pr}{c d:List Ct}:∀ (l:List Ld) (q:Option Ld),gn ⟨cls,a,c,R⟩ q l=gn ⟨cls,b,d,R⟩ q l
 |[],_=>rfl
 |x::r,q=>by
  have:=Pq (cls:=cls) (R:=R) (a:=a) (b:=b) (c:=c) (d:=d) r (some x);cases q<;>simp only[gn,this]<;>rfl
def Ps{cls:List (List bh)}{R:Int}{a b:List Pr}{c d:List Ct}(x:Ct):fE ⟨cls,a,c,R⟩ x=fE ⟨cls,b,d,R⟩ x:=by
 unfold fE;rw[Pq (a:=a) (b:=b) (c:=c) (d:=d)]
def FC(L:List Int)(k:Nat):0<=l5 L k/\l5 L k<=1099511627776/\(0<l5 L k->fw (l5 L k)=true):=by
 have h6:=iA (L:=L) (k:=k) (n:=6) Ay;have VP:=iA (L:=L) (k:=bH L k) (n:=20) Ay;unfold l5;split
 ·exact⟨Ay,Ay,Ay⟩
 ·split
  ·exact⟨Ay,Ay,λ_=>Ha⟩
  ·refine⟨Ay,Ay,λ_=>?_⟩;rw[fw,decide_eq_true_eq];omega
def FD{L:List Int}{k:Nat}(h:k<=L.length):qv L k<=L.length:=by
 unfold qv;split
 ·exact dg h
 ·exact dg (dg h)
structure MM(m:ah)(gI options:Nat):Prop where
 vm:VM m
 j5:m.cls.length<=gI
 some:∀ l∈m.cls,1<=l.length/\l.length<=options
 rJ:1<=m.rules/\m.rules<=4
 aL:m.aL.length<=2
 wk:∀ l∈m.cls,∀ o∈l,o.wk<=3
def VM.mb{m:ah}(h:VM m):MB m:=by
 refine⟨by have:=h.cls;omega,λl hl=>by have:=h.opt l hl;omega,λl hl o ho=>?_,by have:=h.ae;omega,λp hp=>?_,by have:=h.aL;omega,λc hc=>?_⟩
 ·have:=UN h.rJ.1 (h.u6 l hl o ho);have:=h.rJ;omega
 ·obtain⟨_,h1,h2,h3,h4⟩:=u7 (nr h.pr p hp);have a:=h.opt _ (aG (l:=m.cls) (i:=p.fst.toNat) (d:=default) Ay);have b:=h.opt _ (aG (l:=m.cls) (i:=p.snd.toNat) (d:=default) Ay);have:((m.cls.getD p.fst.toNat default).length:Int)*(m.cls.getD p.snd.toNat default).length<=24*24:=Int.mul_le_mul Ay Ay Ay Ay;omega
 ·have:=UO h (yW (h.ct c hc)).2.2.2;omega
def bT(L:List Int)(k:Nat)(cls:List (List bh))(ae:List Pr)(aL:List Ct)(R:Int):List Ob :=
 [.var [.tree 1 (ints L),aah k],.var [.lit (.slice none 0 0),.lit (.slice none 0 0),.lit (.slice none 0 0),aah 0],
  .var [.ref 3 1 0 cls.length,.ref 4 4 0 ae.length,.ref 5 4 0 aL.length,aah R],.arr 1 (rowsOf bk cls),.arr 4 (rowsOf bL ae),.arr 4 (rowsOf dE aL)]
def Pt(R:Int)(l:List bh):Prop:=∀ o∈l,dh R none o.ch=true/\o.wk<=3
def zu(p:Pr)(u i k:Nat):Prop:=p.cX<u\/(p.cX=u/\(p.fst<i\/(p.fst=i/\p.snd<k)))
structure pK(cls:List (List bh))(R:Int)(ae:List Pr)(u i k:Nat):Prop where
 ok:gZ ⟨cls,[],[],R⟩ none ae=true
 lt:∀ p∈ae,zu p u i k
 len:ae.length<=576*u+24*i+k
def pK.mono{cls:List (List bh)}{R:Int}{ae:List Pr}{u i k u' i' k':Nat}(h:pK cls R ae u i k)(hl:u<u'\/(u=u'/\(i<i'\/(i=i'/\k<=k'))))(hs:576*u+24*i+k<=576*u'+24*i'+k'):pK cls R ae u' i' k' :=
 ⟨h.ok,λp hp=>by have:=h.lt p hp;unfold zu at *;omega,by have:=h.len;omega⟩
def pK.app{cls:List (List bh)}{R:Int}{ae:List Pr}{u i k:Nat}(h:pK cls R ae u i k){bg:List Int}(hp:gm ⟨cls,[],[],R⟩ ⟨i,k,u,bg⟩=true):pK cls R (ae++[⟨i,k,u,bg⟩]) u i (k+1):=by
 refine⟨Po h.ok hp (λx hx=>?_) Dg,λp hp=>?_,by have:=h.len;simp;omega⟩
 ·have:=h.lt x hx;rw[N2];unfold zu at this;dsimp only;omega
 ·rcases bj.1 hp with hp|hp
  ·have:=h.lt p hp;unfold zu at *;omega
  ·simp only[bm]at hp;subst hp;unfold zu;dsimp only;omega
def Pu{cls:List (List bh)}{R:Int}{bg:List Int}{i k u:Nat}(hu:(u:Int)<R)(Pv:i<k)(hk:k<cls.length)(ht:bg.length=(cls.getD i default).length*(cls.getD k default).length)(hc:∀ x∈bg,0<=x/\(0<x->fw x=true)):
  gm ⟨cls,[],[],R⟩ ⟨i,k,u,bg⟩=true:=by
 unfold gm gY;simp only[bd,decide_eq_true_eq,Bool.not_eq_true',dz,List.any_eq_false];refine⟨⟨⟨Ay,hu⟩,Ay,Ay,Ay,?_⟩,λx hx=>?_⟩
 ·rw[ht];simp
 ·unfold l6;have:=hc x hx;by_cases h0:x=0
  ·subst h0;decide
  ·rw[this.2 Ay];simp
structure qI(cls:List (List bh))(R:Int)(l:List Ld)(i k:Nat):Prop where
 ok:gn ⟨cls,[],[],R⟩ none l=true
 lt:∀ x∈l,x.cls<i\/(x.cls=i/\x.opt<k)
 len:l.length<=24*i+k
def qI.mono{cls:List (List bh)}{R:Int}{l:List Ld}{i k i' k':Nat}(h:qI cls R l i k)(hl:i<i'\/(i=i'/\k<=k'))(hs:24*i+k<=24*i'+k'):qI cls R l i' k' :=
 ⟨h.ok,λp hp=>by have:=h.lt p hp;omega,by have:=h.len;omega⟩
def qI.app{cls:List (List bh)}{R:Int}{l:List Ld}{i k:Nat}(h:qI cls R l i k){w:Int}(hi:i<cls.length)(hk:k<(cls.getD i default).length)(hw:1<=w/\w<=1000):qI cls R (l++[⟨i,k,w⟩]) i (k+1):=by
 refine⟨Pp h.ok (qA.2 ⟨aaa,aaa,aaa,by simp;exact hk⟩) hw (λx hx=>?_) Dg,λp hp=>?_,by have:=h.len;simp;omega⟩
 ·have:=h.lt x hx;rw[EY];dsimp only;omega
 ·rcases bj.1 hp with hp|hp
  ·have:=h.lt p hp;omega
  ·simp only[bm]at hp;subst hp;dsimp only;omega
def Cf:(default:bh).ch=[]:=rfl
def Cg{m:ah}(hm:VM m):∀ (plan:List Int) (i:Nat) (out:List Int),gG m.rules out->gG m.rules (np m i plan out)
 |[],_,_,h=>h
 |o::r,i,out,h=>by
  rw[np];refine Cg hm r (i+1) _ ?_;split
  ·exact h
  ·refine N5 h λc hc=>?_;rcases dD i m.cls.length with hi|hi
   ·have hl:=aG (d:=(default:List bh)) hi;generalize m.cls.getD i default=l at *;rcases dD o.toNat l.length with ho|ho
    ·exact(yU (hm.u6 l hl _ (aG ho)) c hc).2
    ·rw[show l.getD o.toNat default=default by rw[aw,iF ho];rfl]at hc;exact absurd hc (by rw[Cf];simp)
   ·rw[show m.cls.getD i default=[] by rw[aw,iF hi];rfl]at hc;exact absurd hc (by rw[Au,Cf];simp)
def Px{m:ah}{plan:List Int}:∀ (l:List Pr) (out:List Int),(∀ p∈l,gm m p=true)->gG m.rules out->gG m.rules (qw m plan l out)
 |[],_,_,h=>h
 |p::r,out,hp,h=>by
  rw[qw];refine Px r _ (λq hq=>hp q (by simp[hq])) ?_;split
  ·exact h.add (BR (hp p Dg) _ _)
  ·exact h
def Py{m:ah}{plan:List Int}:∀ (l:List Ct) (out:List Int),(∀ c∈l,fE m c=true)->gG m.rules out->gG m.rules (qy plan l out)
 |[],_,_,h=>h
 |c::r,out,hp,h=>by
  rw[qy];exact Py r _ (λq hq=>hp q (by simp[hq])) (h.add (EZ (qz (yW (hp c Dg)).2.2.1)))
def Fu{m:ah}(hm:VM m)(plan:List Int):gG m.rules (rI m plan) :=
 Py _ _ hm.ct (Px _ _ (nr hm.pr) (Cg hm _ _ _ (gG.rep hm.rJ.1)))
def gw:List Int->Int
 |[]=>0
 |x::r=>x+gw r
def FE:∀ {l:List Int},(∀ x∈l,b9 x)->0<=gw l/\gw l<=1099511627776*l.length
 |[],_=>by simp[gw]
 |x::r,h=>by
  have:=FE λy hy=>h y (List.mem_cons_of_mem x hy);have:=h x Dg;unfold b9 at this;simp only[gw,cK];omega
def B':∀ {l:List Int} {n:Int},(∀ x∈l,b9 x)->b9 n->rH l n=min (n+gw l) 1099511627776
 |[],n,_,hn=>by unfold b9 at hn;simp only[rH,gw];omega
 |x::r,n,h,hn=>by
  have hx:=h x Dg;have hr:∀ y∈r,b9 y:=λy hy=>h y (by simp[hy]);rw[rH,B' hr (yS hn hx)];have:=FE hr;unfold b9 at hx hn;simp only[gX,gw];omega
def Ft:∀ {l:List Int},(∀ x∈l,b9 x)->∀ x∈l,x<=gw l
 |[],_,x,hx=>by simp at hx
 |y::r,h,x,hx=>by
  have hr:∀ z∈r,b9 z:=λz hz=>h z (by simp[hz]);have:=(FE hr).1;have hy:=h y Dg;unfold b9 at hy;rcases cD.1 hx with rfl|hx
  ·simp only[gw];omega
  ·have:=Ft hr x hx;simp only[gw];omega
def tF:List Ld->Int->Int->Int->Int
 |[],_,_,w=>w
 |x::r,c,o,w=>tF r c o (if x.cls=c/\x.opt=o then x.wt else w)
def zw(l:List Ld)(c:Int):Nat->List Bool->Int->Int
 |_,[],b=>b
 |o,is::r,b=>zw l c (o+1) r (if is=true/\(b<0\/tF l c o 0<b) then tF l c o 0 else b)
def wZ(l:List Ld)(c:Int)(row:List Bool):Int:=max (zw l c 0 row (-1)) 0
def zx(l:List Ld):Nat->List (List Bool)->Int->Int
 |_,[],n=>n
 |i,row::r,n=>zx l (i+1) r (n+wZ l i row)
def VQ(l:List Ld)(x:Ld)(c o:Int):∀ w,tF (l++[x]) c o w=if x.cls=c/\x.opt=o then x.wt else tF l c o w:=by
 induction l with
 |nil=>intro w;rfl
 |cons y r ih=>intro w;exact ih _
def FF:∀ {l:List Ld} {c:Int} (o w:Int),(∀ x∈l,x.cls≠c)->tF l c o w=w
 |[],_,_,_,_=>rfl
 |x::r,c,o,w,h=>by
  rw[tF,if_neg (λe=>h x Dg e.1)];exact FF o w λy hy=>h y (by simp[hy])
def Pz{l:List Ld}{c:Int}(h:∀ x∈l,x.cls≠c):∀ (row:List Bool) (o:Nat) (b:Int),-1<=b/\b<=0->-1<=zw l c o row b/\zw l c o row b<=0
 |[],_,b,hb=>hb
 |is::r,o,b,hb=>by
  rw[zw];refine Pz h r (o+1) _ ?_;rw[FF _ _ h];split<;>omega
def VR{l:List Ld}{c:Int}(h:∀ x∈l,x.cls≠c)(row:List Bool):wZ l c row=0:=by
 have:=Pz h row 0 (-1) Ay;unfold wZ;omega
def cM(f:Nat->Int):Nat->Int
 |0=>0
 |n+1=>cM f n+f n
def oL{f g:Nat->Int}:∀ (n:Nat),(∀ i<n,f i=g i)->cM f n=cM g n
 |0,_=>rfl
 |n+1,h=>by rw[cM,cM,oL n λi hi=>h i Ay,h n Ay]
def PA{f:Nat->Int}{B:Int}:∀ (n:Nat),(∀ i<n,0<=f i/\f i<=B)->0<=cM f n/\cM f n<=B*n
 |0,_=>by simp[cM]
 |n+1,h=>by
  have h1:=PA n λi hi=>h i Ay;have h2:=h n Ay;rw[cM,Int.natCast_add,Int.mul_add];simp only[Int.cast_ofNat_Int,Int.mul_one];omega
def Cd(f:Nat->Int)(k:Nat)(v:Int):∀ (n:Nat),cM (λi=>if i=k then f i+v else f i) n=cM f n+if k<n then v else 0
 |0=>by simp[cM]
 |n+1=>by
  rw[cM,cM,Cd f k v n];by_cases h:n=k
  ·subst h;rw[if_pos rfl,if_neg Ay,if_pos Ay];omega
  ·rw[if_neg h];by_cases h2:k<n
   ·rw[if_pos h2,if_pos Ay];omega
   ·rw[if_neg h2,if_neg Ay];omega
def zr(f:Nat->Int):∀ n,cM f (n+1)=f 0+cM (λi=>f (i+1)) n
 |0=>by simp[cM]
 |n+1=>by rw[cM,zr f n,cM];omega
def PC(l:List Ld):∀ (left:List (List Bool)) (i:Nat) (n:Int),zx l i left n=n+cM (λj=>wZ l (i+j:Nat) (left.getD j [])) left.length
 |[],i,n=>by simp[zx,cM]
 |row::r,i,n=>by
  rw[zx,PC l r (i+1),cK,zr];simp only[jm,jK,Nat.add_zero];rw[oL (g:=λj=>wZ l (i+(j+1):Nat) (r.getD j [])) r.length λj _=>by rw[show i+1+j=i+(j+1) by omega]];omega
abbrev mh:=Int×Nat×List (Int×Int)
def vE(es:List (Int×Int)):List (Int×Value):=es.map λp=>(p.1,.int .i64 p.2)
def gE(A:List mh):List (Int×Value):=A.map λe=>(e.1,.map (some e.2.1))
def vu(o w:Int):List (Int×Int)->List (Int×Int)
 |[]=>[(o,w)]
 |p::r=>if p.1=o then(o,w)::r else p::vu o w r
def tG(o:Int):List (Int×Int)->Int
 |[]=>0
 |p::r=>if p.1=o then p.2 else tG o r
def PD(o w:Int):∀ es,qu o (.int .i64 w) (vE es)=vE (vu o w es)
 |[]=>rfl
 |p::r=>by
  show qu o _ ((p.1,Value.int .i64 p.2)::vE r)=_;rw[qu,vu];by_cases h:p.1=o
  ·rw[if_pos h,if_pos h];rfl
  ·rw[if_neg h,if_neg h,PD o w r];rfl
def PE(o w x:Int):∀ es,tG x (vu o w es)=if o=x then w else tG x es
 |[]=>rfl
 |p::r=>by
  rw[vu];by_cases h:p.1=o
  ·rw[if_pos h,tG,tG];by_cases h2:o=x
   ·rw[if_pos h2,if_pos h2]
   ·rw[if_neg h2,if_neg h2,if_neg Ay]
  ·rw[if_neg h,tG,tG,PE o w x r];by_cases h2:p.1=x
   ·rw[if_pos h2,if_neg Ay,if_pos h2]
   ·rw[if_neg h2,if_neg h2]
def PG(c:Int)(b:Nat):∀ A:List mh,(∀ e∈A,e.1≠c)->qu c (.map (some b)) (gE A)=gE (A++[(c,b,[])])
 |[],_=>rfl
 |e::r,h=>by
  show qu c _ ((e.1,Value.map (some e.2.1))::gE r)=_;rw[qu,if_neg (h e Dg),PG c b r λx hx=>h x (by simp[hx])];rfl
structure GI(R:Nat)(dn:List Ld)(A:List mh)(b0:Nat)(μ:Mem):Prop where
 top:μ b0=some (.map (iE (gE A)))
 sub:∀ e∈A,μ e.2.1=some (.map (iE (vE e.2.2)))
 w0:∀ e∈A,e.2.1≠b0
 inj:∀ e∈A,∀ e'∈A,e.2.1=e'.2.1->e=e'
 keys:(A.map (·.1)).Nodup
 val:∀ e∈A,∀ o,tG o e.2.2=tF dn e.1 o 0
 has:∀ x∈dn,∃ e∈A,e.1=x.cls
 g6:∀ e∈A,0<=e.1/\e.1<R
def GI.nil{R b0:Nat}{μ:Mem}(h:μ b0=some (.map [])):GI R [] [] b0 μ:=⟨h,Dg,Dg,Dg,Dg,Dg,Dg,Dg⟩
def GI.new{R:Nat}{dn:List Ld}{A:List mh}{b0:Nat}{μ:Mem}(h:GI R dn A b0 μ){c:Int}(VS:0<=c/\c<R)(hc:∀ e∈A,e.1≠c){b:Nat}(hb:μ b=none):GI R dn (A++[(c,b,[])]) b0 (lZ (lZ μ b (.map [])) b0 (.map (iE (qu c (.map (some b)) (gE A))))):=by
 have Ch:b≠b0:=λe=>by rw[e,h.top]at hb;cases hb
 have ni:∀ e∈A,e.2.1≠b:=λe he e2=>by have:=h.sub e he;rw[e2,hb]at this;cases this
 refine⟨by rw[BJ,PG c b A hc],λe he=>?_,λe he=>?_,λe he e' mR hh=>?_,?_,λe he o=>?_,λx hx=>?_,λe he=>?_⟩
 ·rcases bj.1 he with he|he
  ·rw[s9 _ _ (h.w0 e he),s9 _ _ (ni e he)];exact h.sub e he
  ·simp only[bm]at he;subst he;rw[s9 _ _ Ch,BJ];rfl
 ·rcases bj.1 he with he|he
  ·exact h.w0 e he
  ·simp only[bm]at he;subst he;exact Ch
 ·rcases bj.1 he with he|he<;>rcases bj.1 mR with mR|mR
  ·exact h.inj e he e' mR hh
  ·simp only[bm]at mR;subst mR;exact absurd hh (ni e he)
  ·simp only[bm]at he;subst he;exact absurd hh.symm (ni e' mR)
  ·simp only[bm]at he mR;rw[he,mR]
 ·rw[List.map_append,List.nodup_append];refine⟨h.keys,Dg,λa ha b' bS=>?_⟩;obtain⟨e,he,rfl⟩:=cN.1 ha;simp only[qR,List.map_nil,bm]at bS;rw[bS];exact hc e he
 ·rcases bj.1 he with he|he
  ·exact h.val e he o
  ·simp only[bm]at he;subst he;rw[FF]
   ·rfl
   ·intro x hx oh;obtain⟨e,he,rX⟩:=h.has x hx;exact hc e he (rX.trans oh)
 ·obtain⟨e,he,rX⟩:=h.has x hx;exact⟨e,List.mem_append_left _ he,rX⟩
 ·rcases bj.1 he with he|he
  ·exact h.g6 e he
  ·simp only[bm]at he;subst he;exact VS
def cB(c o w:Int)(A:List mh):List mh:=A.map λe=>if e.1=c then(e.1,e.2.1,vu o w e.2.2) else e
def VT(c o w:Int)(A:List mh):gE (cB c o w A)=gE A:=by
 unfold gE cB;rw[List.map_map];refine oO λe _=>?_;simp only[Function.comp];split<;>rfl
def GI.put{R:Nat}{dn:List Ld}{A:List mh}{b0:Nat}{μ:Mem}(h:GI R dn A b0 μ){x:Ld}{e0:mh}(lW:e0∈A)(hc:e0.1=x.cls):GI R (dn++[x]) (cB x.cls x.opt x.wt A) b0 (lZ μ e0.2.1 (.map (iE (qu x.opt (.int .i64 x.wt) (vE e0.2.2))))):=by
 have uniq:∀ e∈A,e.1=x.cls->e=e0:=λe he hh=>by
  have hk:=h.keys;obtain⟨i,hi,rfl⟩:=oS.1 he;obtain⟨j,hj,rfl⟩:=oS.1 lW;have:i=j:=(List.getElem_inj (h₀:=by simpa using hi) (h₁:=by simpa using hj) hk).1 (by simp only[List.getElem_map];rw[hh,hc]);subst this;rfl
 have one:∀ e∈cB x.cls x.opt x.wt A,(e=(e0.1,e0.2.1,vu x.opt x.wt e0.2.2))\/(e∈A/\e.1≠x.cls):=λe he=>by
  obtain⟨e',mR,rfl⟩:=cN.1 he;by_cases hh:e'.1=x.cls
  ·left;rw[if_pos hh,uniq e' mR hh]
  ·right;rw[if_neg hh];exact⟨mR,hh⟩
 have ni:∀ e∈A,e.1≠x.cls->e.2.1≠e0.2.1:=λe he hh e2=>hh (by rw[h.inj e he e0 lW e2,hc]);refine⟨by rw[s9 _ _ (h.w0 e0 lW).symm,VT];exact h.top,λe he=>?_,λe he=>?_,λe he e' mR hh=>?_,?_,λe he o=>?_,λy hy=>?_,λe he=>?_⟩
 ·rcases one e he with rfl|⟨h1,h2⟩
  ·rw[BJ,PD]
  ·rw[s9 _ _ (ni e h1 h2)];exact h.sub e h1
 ·rcases one e he with rfl|⟨h1,h2⟩
  ·exact h.w0 e0 lW
  ·exact h.w0 e h1
 ·rcases one e he with rfl|⟨h1,h2⟩<;>rcases one e' mR with rfl|⟨h3,h4⟩
  ·rfl
  ·exact absurd hh.symm (ni e' h3 h4)
  ·exact absurd hh (ni e h1 h2)
  ·exact h.inj e h1 e' h3 hh
 ·have:(cB x.cls x.opt x.wt A).map (·.1)=A.map (·.1):=by
   unfold cB;rw[List.map_map];refine oO λe _=>?_;simp only[Function.comp];split<;>rfl
  rw[this];exact h.keys
 ·rw[VQ];rcases one e he with rfl|⟨h1,h2⟩
  ·dsimp only;rw[PE,h.val e0 lW o];by_cases ho:x.opt=o
   ·rw[if_pos ho,if_pos ⟨hc.symm,ho⟩]
   ·rw[if_neg ho,if_neg (λe=>ho e.2)]
  ·rw[if_neg (λe=>h2 e.1.symm)];exact h.val e h1 o
 ·have mem:∀ e∈A,∃ e'∈cB x.cls x.opt x.wt A,e'.1=e.1:=λe he=>⟨_,List.mem_map_of_mem he,by split<;>rfl⟩;rcases bj.1 hy with hy|hy
  ·obtain⟨e,he,rX⟩:=h.has y hy;obtain⟨e',k1,k2⟩:=mem e he;exact⟨e',k1,k2.trans rX⟩
  ·simp only[bm]at hy;subst hy;obtain⟨e',k1,k2⟩:=mem e0 lW;exact⟨e',k1,k2.trans hc⟩
 ·rcases one e he with rfl|⟨h1,h2⟩
  ·exact h.g6 e0 lW
  ·exact h.g6 e h1
def w5(f:Int->Int):List mh->Int
 |[]=>0
 |e::r=>f e.1+w5 f r
def FG(f:Int->Int)(n:Nat):∀ A:List mh,(A.map (·.1)).Nodup->(∀ e∈A,0<=e.1/\e.1<n)->w5 f A=cM (λi=>if∃e∈A,e.1=(i:Int) then f i else 0) n
 |[],_,_=>by
  rw[oL (g:=λ_=>0) n (λi _=>Dg)];have:∀ n,cM (λ_=>0) n=0:=λn=>by induction n with|zero=>rfl|succ n ih=>rw[cM,ih];rfl
  rw[this];rfl
 |e::r,hn,hr=>by
  rw[qR,List.nodup_cons]at hn;rw[w5,FG f n r hn.2 λx hx=>hr x (by simp[hx])];have h0:=hr e Dg;have VU:¬∃x∈r,x.1=((e.1.toNat:Nat):Int):=by
   rintro⟨x,hx,hh⟩;rw[oR h0.1]at hh;exact hn.1 (cN.2 ⟨x,hx,hh⟩)
  have:=Cd (λi=>if∃x∈r,x.1=(i:Int) then f i else 0) e.1.toNat (f e.1) n;rw[if_pos Ay]at this;rw[Int.add_comm,<- this];refine oL n λi hi=>?_;by_cases h:i=e.1.toNat
  ·subst h;rw[if_pos rfl,if_neg VU,if_pos ⟨e,Dg,Ay⟩,oR h0.1];omega
  ·rw[if_neg h];have:(∃ x∈e::r,x.1=(i:Int))↔∃ x∈r,x.1=(i:Int):=by
    constructor
    ·rintro⟨x,hx,hh⟩;rcases cD.1 hx with rfl|hx
     ·omega
     ·exact⟨x,hx,hh⟩
    ·rintro⟨x,hx,hh⟩;exact⟨x,by simp[hx],hh⟩
   simp only[this]
def PH:∀ A:List mh,w5 (λ_=>1) A=A.length
 |[]=>rfl
 |e::r=>by rw[w5,PH r,cK];omega
def GI.len{R:Nat}{dn:List Ld}{A:List mh}{b0:Nat}{μ:Mem}(h:GI R dn A b0 μ):A.length<=R:=by
 have h1:=FG (λ_=>1) R A h.keys h.g6;rw[PH]at h1;have h2:=PA (f:=λi=>if∃e∈A,e.1=(i:Int) then(1:Int) else 0) (B:=1) R λi _=>by split<;>omega
 omega
def GI.sum{dn:List Ld}{A:List mh}{b0:Nat}{μ:Mem}{left:List (List Bool)}(h:GI left.length dn A b0 μ):w5 (λc=>wZ dn c (left.getD c.toNat [])) A=zx dn 0 left 0:=by
 rw[FG _ left.length A h.keys h.g6,PC,Int.zero_add];refine oL _ λi _=>?_;simp only[Nat.zero_add,dz];by_cases hh :∃e∈A,e.1=(i:Int)
 ·rw[if_pos hh]
 ·rw[if_neg hh,VR];intro x hx oh;obtain⟨e,he,rX⟩:=h.has x hx;exact hh ⟨e,he,rX.trans oh⟩
def GI.other{R:Nat}{dn:List Ld}{A:List mh}{b0:Nat}{μ:Mem}(h:GI R dn A b0 μ){r:Nat}(g:Gh)(hr:∀ l,μ r≠some (.map l)):GI R dn A b0 (lZ μ r g) :=
 ⟨by rw[s9 _ _ (λe=>hr _ (e▸h.top))];exact h.top,λe he=>by rw[s9 _ _ (λe2=>hr _ (e2▸h.sub e he))];exact h.sub e he,h.w0,h.inj,h.keys,h.val,h.has,h.g6⟩
def LE(a b:List Int):Prop:=a.length=b.length/\∀ i,a.getD i 0<=b.getD i 0
def LE.refl(a:List Int):LE a a:=⟨rfl,λ_=>vU _⟩
def qJ(l:List Int)(n i:Nat)(x:Int):(l.set n x).getD i 0=if n=i/\i<l.length then x else l.getD i 0:=by
 rw[aw,List.getElem?_set,aw];by_cases h:n=i
 ·subst h;by_cases h2:n<l.length
  ·rw[if_pos rfl,if_pos h2,if_pos ⟨rfl,h2⟩];rfl
  ·rw[if_pos rfl,if_neg h2,if_neg (λh=>h2 h.2),iF Ay]
 ·rw[if_neg h,if_neg (λh'=>h h'.1)]
def LE.add{a b:List Int}(h:LE a b){r c d:Int}(hcd:c<=d):LE (fA a r c) (fA b r d):=by
 refine⟨by simp only[fA,bt];exact h.1,λi=>?_⟩;rw[fA,fA,qJ,qJ,h.1];have:=h.2 i;have:=h.2 r.toNat;split
 ·unfold gX;omega
 ·exact h.2 i
def LE.up{R:Int}{a b:List Int}(h:LE a b)(hb:gG R b){r c:Int}(hc:0<=c):LE a (fA b r c):=by
 refine⟨by simp only[fA,bt];exact h.1,λi=>?_⟩;rw[fA,qJ];have h1:=h.2 i;have h2:=hb.get i;unfold b9 at h2;split
 ·rename_i hh;rw[hh.1];unfold gX;omega
 ·exact h1
def PI:∀ (l:List (Int×Int)) {a b:List Int},LE a b->LE (rG l a) (rG l b)
 |[],_,_,h=>h
 |c::r,_,_,h=>PI r (h.add (vU _))
def PJ{R:Int}:∀ (l:List (Int×Int)) {a b:List Int},LE a b->gG R b->(∀ c∈l,fw c.2=true)->LE a (rG l b)
 |[],_,_,h,_,_=>h
 |c::r,_,_,h,hb,hp=>by
  have:=qz (hp c Dg);exact PJ r (h.up hb this.1) (hb.add this) λx hx=>hp x (by simp[hx])
def Up(p q:List Int):Prop:=p.length=q.length/\∀ j,p.getD j 0=q.getD j 0\/p.getD j 0<0
def VV{m:ah}(hm:VM m)(i:Nat)(o:Int):∀ c∈((m.cls.getD i default).getD o.toNat default).ch,fw c.2=true:=by
 intro c hc;rcases dD i m.cls.length with hi|hi
 ·have hl:=aG (d:=(default:List bh)) hi;generalize m.cls.getD i default=l at *;rcases dD o.toNat l.length with ho|ho
  ·exact(yU (hm.u6 l hl _ (aG ho)) c hc).2
  ·rw[show l.getD o.toNat default=default by rw[aw,iF ho];rfl]at hc;exact absurd hc (by rw[Cf];simp)
 ·rw[show m.cls.getD i default=[] by rw[aw,iF hi];rfl]at hc;exact absurd hc (by rw[Au,Cf];simp)
def PK{m:ah}(hm:VM m):∀ (p q:List Int) (i:Nat) (a b:List Int),p.length=q.length->(∀ j,p.getD j 0=q.getD j 0\/p.getD j 0<0)->LE a b->gG m.rules b->LE (np m i p a) (np m i q b)
 |[],[],_,_,_,_,_,h,_=>h
 |[],_::_,_,_,_,hl,_,_,_=>by simp at hl
 |_::_,[],_,_,_,hl,_,_,_=>by simp at hl
 |o::p,o'::q,i,a,b,hl,hj,h,hb=>by
  have aV:gG m.rules (np m i [o'] b):=Cg hm _ _ _ hb;rw[np,np]at aV;rw[np,np];refine PK hm p q (i+1) _ _ (by simpa using hl) (λj=>?_) ?_ aV
  ·have:=hj (j+1);rwa [jK,jK]at this
  ·have h0:=hj 0;rw[jm,jm]at h0;rcases h0 with h0|h0
   ·subst h0;split
    ·exact h
    ·exact PI _ h
   ·rw[if_pos h0];split
    ·exact h
    ·exact PJ _ h hb (VV hm i o')
def PL{m:ah}{p q:List Int}(hu:Up p q):∀ (l:List Pr) (a b:List Int),(∀ x∈l,gm m x=true)->LE a b->gG m.rules b->LE (qw m p l a) (qw m q l b)
 |[],_,_,_,h,_=>h
 |x::r,a,b,hp,h,hb=>by
  have he:=BR (hp x Dg) (q.getD x.fst.toNat 0) (q.getD x.snd.toNat 0);rw[qw,qw];refine PL hu r _ _ (λy hy=>hp y (by simp[hy])) ?_ ?_
  ·by_cases hc:0<=p.getD x.fst.toNat 0/\0<=p.getD x.snd.toNat 0
   ·have h1:p.getD x.fst.toNat 0=q.getD x.fst.toNat 0:=(hu.2 _).resolve_right Ay;have h2:p.getD x.snd.toNat 0=q.getD x.snd.toNat 0:=(hu.2 _).resolve_right Ay;rw[if_pos hc,if_pos (by rw[<- h1,<- h2];exact hc),h1,h2];exact h.add (vU _)
   ·rw[if_neg hc];split
    ·exact h.up hb he.1
    ·exact h
  ·split
   ·exact hb.add he
   ·exact hb
def PN{m:ah}{p q:List Int}(hu:Up p q):∀ (l:List Ld) (n k:Int),(∀ x∈l,iN m x.cls x.opt=true/\1<=x.wt/\x.wt<=1000)->n<=k->te p l n<=te q l k
 |[],_,_,_,h=>h
 |x::r,n,k,hp,h=>by
  have hx:=hp x Dg;have ho:=(qA.1 hx.1).2.2.1;rw[te,te];refine PN (m:=m) hu r _ _ (λy hy=>hp y (by simp[hy])) ?_;rcases hu.2 x.cls.toNat with h1|h1
  ·rw[h1];split<;>omega
  ·rw[if_neg Ay];split<;>omega
def VW{most da s t:Int}(hp:0<=da)(h:s<=t):u5 most da s<=u5 most da t:=by
 unfold u5;have h1:(s-most)*da<=(t-most)*da:=Int.mul_le_mul_of_nonneg_right Ay hp;split
 ·split
  ·exact vU _
  ·have:0<=(t-most)*da:=Int.mul_nonneg Ay hp;omega
 ·rw[if_neg Ay];omega
def PO{m:ah}{p q:List Int}(hu:Up p q):∀ (l:List Ct) (a b:List Int),(∀ x∈l,fE m x=true)->LE a b->LE (qy p l a) (qy q l b)
 |[],_,_,_,h=>h
 |x::r,a,b,hp,h=>by
  have hx:=yW (hp x Dg);have hw:=N4 hx.2.2.2;rw[qy,qy];exact PO (m:=m) hu r _ _ (λy hy=>hp y (by simp[hy])) (h.add (VW (qz hx.2.2.1).1 (PN (m:=m) hu _ _ _ hw (vU _))))
def VX{m:ah}(hm:VM m){p q:List Int}(hu:Up p q):LE (rI m p) (rI m q):=by
 have h0:=gG.rep hm.rJ.1;refine PO hu _ _ _ hm.ct (PL hu _ _ _ (nr hm.pr) (PK hm _ _ _ _ _ hu.1 hu.2 (LE.refl _) h0) (Cg hm _ _ _ h0))
def PQ:∀ {a b:List Int},a.length=b.length->(∀ i,a.getD i 0<=b.getD i 0)->gw a<=gw b
 |[],[],_,_=>vU _
 |[],_::_,h,_=>by simp at h
 |_::_,[],h,_=>by simp at h
 |x::a,y::b,h,hi=>by
  have h0:=hi 0;rw[jm,jm]at h0;have:=PQ (a:=a) (b:=b) (by simpa using h) λi=>by
   have:=hi (i+1);rwa [jK,jK]at this
  simp only[gw];omega
def VY{m:ah}(hm:VM m){p q:List Int}(hu:Up p q):rH (rI m p) 0<=rH (rI m q) 0:=by
 have h:=VX hm hu;rw[B' (Fu hm p).2 (by unfold b9;decide),B' (Fu hm q).2 (by unfold b9;decide)];have:=PQ h.1 h.2;omega
def Up.set{p:List Int}{c:Nat}(o:Int)(h:p.getD c 0 = -1):Up p (p.set c o):=by
 refine⟨Dg,λj=>?_⟩;rw[qJ];split
 ·rename_i hh;rw[<- hh.1,h];omega
 ·exact .inl rfl
def PM.set{m:ah}{p:List Int}(h:PM m p){c:Nat}{o:Int}(ho:o = -1\/iN m (c:Nat) o=true):PM m (p.set c o):=by
 refine⟨by rw[bt];exact h.len,λj hj=>?_⟩;rw[bt]at hj;rw[qJ];split
 ·rename_i hh;rw[<- hh.1];exact ho
 ·exact h.get j hj
def FH(cO:List Bool)(r:Int):Bool:=cO.getD r.toNat false
def Cut(cO:List Bool)(a b:List Int):Prop:=b.length=a.length/\∀ i:Nat,b.getD i 0=if FH cO i=true then a.getD i 0 else 0
def Cut.add{cO:List Bool}{a b:List Int}(h:Cut cO a b){r c:Int}(hr:0<=r):Cut cO (fA a r c) (if FH cO r=true then fA b r c else b):=by
 have jW:((r.toNat:Nat):Int)=r:=oR hr;refine⟨by split<;>simp only[fA,bt]<;>exact h.1,λi=>?_⟩;have hi:=h.2 i;have mC:=h.2 r.toNat;rw[jW]at mC;by_cases hk:FH cO r=true
 ·rw[if_pos hk];rw[if_pos hk]at mC;rw[fA,fA,qJ,qJ,mC,h.1];by_cases iM:r.toNat=i/\i<a.length
  ·rw[if_pos iM,if_pos iM,if_pos];rw[<- iM.1,jW];exact hk
  ·rw[if_neg iM,if_neg iM];exact hi
 ·rw[if_neg hk,fA,qJ];by_cases iM:r.toNat=i/\i<a.length
  ·rw[if_pos iM];rw[<- iM.1,jW,if_neg hk]at hi;rw[<- iM.1,jW,if_neg hk];exact hi
  ·rw[if_neg iM];exact hi
end T

