import Derived.Test.YtgaaopjagcaojaaGreatBc
set_option linter.unusedSimpArgs false
set_option linter.unusedVariables false
namespace Go.Proofs.YtgaaopjagcaojaaGreat
open Go.RowKit Go.IntWalk
theorem qW(l:List Dp):(l.flatMap pQ).length=2*l.length:=by
 induction l with
 |nil=>rfl
 |cons d l ih=>
  rw[bh,az,ih];simp only[pQ,aF,bE];omega
theorem AF:∀{l:List Dp} {i:Nat} {x:Dp},l[i]? =some x→∀(j:Nat) (v:Value),(d_ x)[j]? =some v→(l.flatMap d_)[i*2+j]? =some v
 | [],i,x,h,j,v,hv=>by simp at h
 |d::l,0,x,h,j,v,hv=>by
  simp only[gU,aq]at h;subst h;rw[bh,lq,cz,dD (List.getElem?_eq_some_iff.1 hv).1];exact hv
 |d::l,i+1,x,h,j,v,hv=>by
  rw[bh,e8 (by simp;omega)];have:=AF (l:=l) (i:=i) h j v hv;rw[←this];congr 1;simp;omega
theorem pR{T:Tb}{Γ:List aE}(b off:Nat){l:List Dp} [h:aY (RA (some ⟨b,off,none⟩)) (l.flatMap d_) Γ]{i:Nat}{x:Dp}(hx:l[i]? =some x)(j:Nat){v:Value}(hv:(d_ x)[j]? =some v):∀I w,bB T I w→aG Γ I w→w.cell? ⟨b,off+i*2+j,none⟩=some v:=fun I w _ hh=>by
 rw[ig];exact RA.cell (h.p hh) (AF hx j v hv)
section
variable{Γ:List aE}
set_option maxHeartbeats 4000000 in
theorem GW(a k:Int)(po:Option Addr)(pn pc:Nat){ps:List Dp} [h:aY (RA po) (ps.flatMap d_) Γ](hn:pn=ps.length)(hl:ps.length≤1000):
  au tb Tryz.prog 20 [.int .i64 a,.int .i64 k,.slice po pn pc] Γ (fun v Δ=>∃u:Sl,v=mo u ⟨none,0,0⟩∧Δ=[mq u ⟨none,0,0⟩ (cL a k ps)]):=by
 refine au.of_W aB Tryz.func20 rfl ?_;refine jZ [] [7,8] (fun q:Tq=>[(7,q.v),(8,.int .i64 q.z)]) (fun _=>[]) (fun q=>q.O) (fun _=>[RA po (ps.flatMap d_)]) (fun q=>q.z=(q.i:Int)∧q.i≤ps.length∧cG 1 q.O q.v (2*q.i) ((ps.take q.i).flatMap d_)) (fun q=>ps.length-q.i) ⟨0,0,.slice none 0 0,[]⟩ ⟨rfl,aM _,cG.nil 1⟩ (eC eK eE) ?_;rintro⟨i,z,v,O⟩ K ⟨hz,hi,hg⟩ close;simp only at hz hi hg;by_cases hlt:i<ps.length
 ·obtain⟨x,hx⟩:∃x,ps[i]? =some x:=⟨_,ar hlt⟩;refine Fh po (xs:=ps.flatMap d_) (fun e=>by
   have:=AF hx 0 _ rfl;rw[e]at this;simp at this) ?_
  rintro b off rfl;refine bD [] 12 (decide (z<(pn:Int))) (aw (by omega)) ?_;refine cA [12] 2 b off pn pc .i64 i z hz aB (by omega) ?_;refine cr [] 0 b (off+i*2) aB ?_;refine eg [] 1 b (off+i*2+0) (.int .i64 x.x) aB (pR b off hx 0 rfl) ?_;refine cA [] 2 b off pn pc .i64 i z hz aB (by omega) ?_;refine cr [] 1 b (off+i*2) aB ?_;refine eg [] 1 b (off+i*2+1) (.int .i64 x.y) aB (pR b off hx 1 rfl) ?_;refine cI [] 2 [.int .i64 x.x,.int .i64 x.y] aB (fun B=>?_);refine W.app [] O [] O [] 1 8 (2*i) 2 v (.slice (some ⟨B,0,none⟩) 2 2) ((ps.take i).flatMap d_) [.int .i64 x.x,.int .i64 x.y] aB (by simp) hg (bW B O 2 1 rfl 2) (Gd (l:=[x.x,x.y])) (by omega) (by decide) (fun v' O' hg'=>?_);refine close [] _ _ ⟨i+1,IntKind.i64.wrap (z+1),v',O'⟩ (by kernel_rfl) (by simp only[aA,af];kernel_rfl) ⟨by simp only[ah];omega,by simp only;omega,cG.cast ?_ (by simp only;omega) hg'⟩ (by simp only;omega) (eC eK eE);simp only;rw[yE d_ hx]
 refine aS [] 12 (decide (z<(pn:Int))) (ak (by omega)) ?_;obtain rfl:i=ps.length:=by omega
 rw[aV (ai _)]at hg;by_cases h0:0<ps.length
 ·obtain⟨x,hx⟩:∃x,ps[0]? =some x:=⟨_,ar h0⟩;have hc:gX ps=ps++[x]:=by
   unfold gX;cases ps with
   |nil=>simp at h0
   |cons d l=>
    simp only[gU,aq]at hx;subst hx;rfl
  have JK:(gX ps).length=ps.length+1:=by rw[hc];simp
  have hcd:(gX ps).flatMap d_=ps.flatMap d_++[.int .i64 x.x,.int .i64 x.y]:=by rw[hc,bA];simp
  refine Fh po (xs:=ps.flatMap d_) (fun e=>by
   have:=AF hx 0 _ rfl;rw[e]at this;simp at this) ?_
  rintro b off rfl;refine bD [12] 30 (decide ((pn:Int)>0)) (aw (by omega)) ?_;refine cA [30] 2 b off pn pc .i64 0 0 rfl aB (by omega) ?_;refine cr [] 0 b (off+0*2) aB ?_;refine eg [] 1 b (off+0*2+0) (.int .i64 x.x) aB (pR b off hx 0 rfl) ?_;refine cA [] 2 b off pn pc .i64 0 0 rfl aB (by omega) ?_;refine cr [] 1 b (off+0*2) aB ?_;refine eg [] 1 b (off+0*2+1) (.int .i64 x.y) aB (pR b off hx 1 rfl) ?_;refine cI [] 2 [.int .i64 x.x,.int .i64 x.y] aB (fun B0=>?_);refine W.app [] O [] O [] 1 8 (2*ps.length) 2 v (.slice (some ⟨B0,0,none⟩) 2 2) (ps.flatMap d_) [.int .i64 x.x,.int .i64 x.y] aB (by simp) hg (bW B0 O 2 1 rfl 2) (Gd (l:=[x.x,x.y])) (by omega) (by decide) (fun v' O' hg'=>?_);have nP:=hg';refine lP (by simp only[aA,af];kernel_rfl) nP (fun ao c' hv hc'=>?_);subst hv;have hcm:c'≤maxLen:=oZ nP;refine aj [] (gJ 8 0 ⟨none,0,0⟩) ?_;rintro _ _ ⟨rfl,rfl⟩;refine cI [] 1 [.int .i64 a] aB (fun b15=>?_);refine gF [] (Γ':=[NL ⟨some ⟨b15,0,none⟩,1,1⟩ [a]]) (fun I w _ hh=>aU (tS (l:=[a]) (by simp) hh.h0')) (ph ⟨some ⟨b15,0,none⟩,1,1⟩ (l:=[a]) (by simp)) ?_;rintro _ _ ⟨u16,rfl,rfl⟩;refine aj [] (gJ 13 2 u16) ?_;rintro _ _ ⟨rfl,rfl⟩;refine cI [] 1 [.int .i64 k] aB (fun Ms=>?_);refine gF [] (Γ':=[NL ⟨some ⟨Ms,0,none⟩,1,1⟩ [k]]) (fun I w _ hh=>aU (tS (l:=[k]) (by simp) hh.h0')) (ph ⟨some ⟨Ms,0,none⟩,1,1⟩ (l:=[k]) (by simp)) ?_
  rintro _ _ ⟨Ta,rfl,rfl⟩;refine aj [] (gJ 14 2 Ta) ?_;rintro _ _ ⟨rfl,rfl⟩;refine gF [] (Γ':=[NL ⟨ao,(2*ps.length+2),c'⟩ ((gX ps).flatMap pQ)]) (fun I w _ hh=>aU ⟨by have e:=qW (gX ps);rw[JK]at e;simp only;omega,⟨hc',hcm⟩,by rw[yN,hcd];exact aY.p (k:=RA ao) inferInstance hh⟩) (rn ⟨ao,(2*ps.length+2),c'⟩ (l:=(gX ps).flatMap pQ) (by rw[qW,JK];omega)) ?_;rintro _ _ ⟨Tc,rfl,rfl⟩;refine aj [] (gJ 16 3 Tc) ?_;rintro _ _ ⟨rfl,rfl⟩;refine cI [] 4 [.int .u8 8,.int .u8 0,.slice none 0 0,.int .u8 13,.int .u8 2,bz u16,.int .u8 14,.int .u8 2,bz Ta,.int .u8 16,.int .u8 3,bz Tc] aB (fun B=>?_);exact W.r [] (.agg #[.slice (some ⟨B,0,none⟩) 4 4,.slice none 0 0]) ⟨⟨some ⟨B,0,none⟩,4,4⟩,rfl,rfl⟩ (fun I w _ hh=>aU ⟨si [⟨⟨none,0,0⟩,⟨8,0,[]⟩⟩,⟨u16,⟨13,2,[a].flatMap sB⟩⟩,⟨Ta,⟨14,2,[k].flatMap sB⟩⟩,⟨Tc,⟨16,3,((gX ps).flatMap pQ).flatMap lB⟩⟩] (by simp) (aY.p (k:=dY B) inferInstance hh) (fun e he=>by
   simp only[aD,aC,bp]at he;rcases he with rfl|rfl|rfl|rfl
   ·exact g_ (by decide) (by decide) (qD _ _ _)
   ·exact g_ (by decide) (by decide) (aY.p (k:=BF u16) inferInstance hh)
   ·exact g_ (by decide) (by decide) (aY.p (k:=BF Ta) inferInstance hh)
   ·exact g_ (by decide) (by decide) (aY.p (k:=BF Tc) inferInstance hh)),xD _ _⟩)
 ·have hps:ps=[]:=aL (by omega);have JK:(gX ps).length=ps.length:=by rw[hps];rfl
  have hcd:(gX ps).flatMap d_=ps.flatMap d_:=by rw[hps];rfl
  refine aS [12] 30 (decide ((pn:Int)>0)) (ak (by omega)) ?_;have nP:=hg;refine lP (by simp only[aA,af];kernel_rfl) nP (fun ao c' hv hc'=>?_);subst hv;have hcm:c'≤maxLen:=oZ nP;refine aj [30] (gJ 8 0 ⟨none,0,0⟩) ?_;rintro _ _ ⟨rfl,rfl⟩;refine cI [] 1 [.int .i64 a] aB (fun b15=>?_);refine gF [] (Γ':=[NL ⟨some ⟨b15,0,none⟩,1,1⟩ [a]]) (fun I w _ hh=>aU (tS (l:=[a]) (by simp) hh.h0')) (ph ⟨some ⟨b15,0,none⟩,1,1⟩ (l:=[a]) (by simp)) ?_;rintro _ _ ⟨u16,rfl,rfl⟩;refine aj [] (gJ 13 2 u16) ?_;rintro _ _ ⟨rfl,rfl⟩;refine cI [] 1 [.int .i64 k] aB (fun Ms=>?_);refine gF [] (Γ':=[NL ⟨some ⟨Ms,0,none⟩,1,1⟩ [k]]) (fun I w _ hh=>aU (tS (l:=[k]) (by simp) hh.h0')) (ph ⟨some ⟨Ms,0,none⟩,1,1⟩ (l:=[k]) (by simp)) ?_;rintro _ _ ⟨Ta,rfl,rfl⟩;refine aj [] (gJ 14 2 Ta) ?_;rintro _ _ ⟨rfl,rfl⟩;refine gF [] (Γ':=[NL ⟨ao,(2*ps.length),c'⟩ ((gX ps).flatMap pQ)]) (fun I w _ hh=>aU ⟨by have e:=qW (gX ps);rw[JK]at e;simp only;omega,⟨hc',hcm⟩,by rw[yN,hcd];exact aY.p (k:=RA ao) inferInstance hh⟩) (rn ⟨ao,(2*ps.length),c'⟩ (l:=(gX ps).flatMap pQ) (by rw[qW,JK];omega)) ?_;rintro _ _ ⟨Tc,rfl,rfl⟩;refine aj [] (gJ 16 3 Tc) ?_;rintro _ _ ⟨rfl,rfl⟩;refine cI [] 4 [.int .u8 8,.int .u8 0,.slice none 0 0,.int .u8 13,.int .u8 2,bz u16,.int .u8 14,.int .u8 2,bz Ta,.int .u8 16,.int .u8 3,bz Tc] aB (fun B=>?_)
  exact W.r [] (.agg #[.slice (some ⟨B,0,none⟩) 4 4,.slice none 0 0]) ⟨⟨some ⟨B,0,none⟩,4,4⟩,rfl,rfl⟩ (fun I w _ hh=>aU ⟨si [⟨⟨none,0,0⟩,⟨8,0,[]⟩⟩,⟨u16,⟨13,2,[a].flatMap sB⟩⟩,⟨Ta,⟨14,2,[k].flatMap sB⟩⟩,⟨Tc,⟨16,3,((gX ps).flatMap pQ).flatMap lB⟩⟩] (by simp) (aY.p (k:=dY B) inferInstance hh) (fun e he=>by
   simp only[aD,aC,bp]at he;rcases he with rfl|rfl|rfl|rfl
   ·exact g_ (by decide) (by decide) (qD _ _ _)
   ·exact g_ (by decide) (by decide) (aY.p (k:=BF u16) inferInstance hh)
   ·exact g_ (by decide) (by decide) (aY.p (k:=BF Ta) inferInstance hh)
   ·exact g_ (by decide) (by decide) (aY.p (k:=BF Tc) inferInstance hh)),xD _ _⟩)
end
def mW:ByteArray:=⟨#[97]⟩
def j2:ByteArray:=⟨#[116,111,112]⟩
def jS:Im:=⟨[⟨10,0,[]⟩,⟨18,6,mu mW⟩,⟨26,1,[0,0]⟩,⟨28,5,[66,90,0,0,0,0,0,0]⟩,⟨16,3,[100,0].flatMap lB⟩],[]⟩
def kE:Li:=⟨CC,[fm mW [cL 1 0 [⟨0,0⟩,⟨10,0⟩,⟨10,10⟩,⟨0,10⟩]],fm j2 [jS]]⟩
theorem y8:oh kE=true:=by decide+kernel
theorem ID:lost kE.c=false:=by decide+kernel
theorem AZ:dep kE.c 64 0=some 1:=by decide+kernel
theorem A0:dep kE.c 64 1=some 2:=by decide+kernel
theorem IC:CP kE.c=false:=by decide+kernel
theorem Gh:total kE.c=1:=by decide+kernel
def kD:List Dp:=[⟨100,0⟩,⟨100,10⟩,⟨90,10⟩,⟨90,0⟩]
theorem LD:OK kE.c=.ok [⟨1,0,kD⟩]:=by kernel_rfl
theorem mL(n:Int)(h0:0≤n)(h1:n≤100000):yP kE n=if 1>n then .error 27 else .ok [⟨1,0,kD⟩]:=by
 have hl:kE.c.length=2:=rfl;unfold yP;rw[if_neg (by omega),if_neg (by rw[y8];simp)];unfold yQ;rw[ID,if_neg (by simp),if_neg (by
  rintro⟨c,hc,h⟩;rw[hl]at hc;have:c=0∨c=1:=by omega
  rcases this with rfl|rfl
  ·exact h 1 ⟨64,AZ⟩
  ·exact h 2 ⟨64,A0⟩),if_neg (by
  rintro(h|⟨c,hc,h⟩)
  ·rw[IC]at h;simp at h
  ·rw[hl]at hc;have:c=0∨c=1:=by omega
   rcases this with rfl|rfl
   ·rw[AZ]at h;simp at h
   ·rw[A0]at h;simp at h),Gh,LD]
theorem OY(z:Int):(r2 (z:Rat) 0).nr=z:=by
 have h0:(r2 0 0).nr=0:=by decide+kernel
 have h1:(r2 1 0).nr=1:=by decide+kernel
 have key:∀(r:Int) (q:Int),(r2 (r:Rat) 0).nr=r→(r2 ((r+(q+q):Int):Rat) 0).nr=r+(q+q):=fun r q h=>by
  have:=H5 (r2 (r:Rat) 0) (show(0:Int)≤2 by decide) (show(0:Int)≤0 by decide) q;rw[h]at this;rw[show r2 ((r+(q+q):Int):Rat) 0=(r2 (r:Rat) 0).add ⟨(r2 (r:Rat) 0).m,(r2 (r:Rat) 0).n,((q+q:Int):Rat),0,0,0⟩by
   refine Sn.ext' rfl rfl ?_ ?_ ?_ ?_ <;>simp only[Sn.add,r2,fU]<;>grind]
  rw[this];omega
 have:=key (z % 2) (z/2) (by
  rcases(show z % 2=0∨z % 2=1 by omega)with h|h<;>rw[h]
  ·exact h0
  ·exact h1)
 rw[show z % 2+(z/2+z/2)=z by omega]at this;exact this
def GD(x y:Int):On:=⟨false,0,1,(x:Rat),0,(y:Rat),0⟩
theorem UN{a b c d:Rat}(h:a=c)(g:b=d):r2 a b=r2 c d:=by rw[h,g]
theorem aam(x y a b:Int):(GD x y).X (a:Rat) (b:Rat)=r2 ((a+x:Int):Rat) 0:=by
 have hm:(GD x y).mag=1:=by rfl
 unfold On.X;refine UN ?_ ?_
 ·unfold On.u0 tm1 On.sg;rw[hm];simp only[GD,pc,G6,ps,Hd,fU];simp;grind
 ·unfold On.u1 tm2 On.sg;rw[hm];simp only[GD,pc,G6,ps,Hd];simp
  try grind
theorem aan(x y a b:Int):(GD x y).Y (a:Rat) (b:Rat)=r2 ((b+y:Int):Rat) 0:=by
 have hm:(GD x y).mag=1:=by rfl
 unfold On.Y;refine UN ?_ ?_
 ·unfold On.v0 tm1 On.sg;rw[hm];simp only[GD,pc,G6,ps,Hd,fU];simp;grind
 ·unfold On.v1 tm2 On.sg;rw[hm];simp only[GD,pc,G6,ps,Hd];simp
  try grind
theorem Sk(x y:Int):(GD x y).then Es=GD x y:=by
 have hm:Es.mag=1:=by rfl
 have hm':(GD x y).mag=1:=by rfl
 unfold On.then
 rw[hm,hm'];unfold On.u0 On.u1 On.v0 On.v1 tm1 tm2 On.sg;rw[hm];simp[GD,Es,pc,G6,ps,Hd]
 try grind
theorem oO{α:Type}(f:α→LR)(a:α)(l:List α):iC f (a::l)=match f a with
  | .error e=>.error e
  | .ok s=>match iC f l with
   | .error e=>.error e
   | .ok s'=>.ok (s++s'):=rfl
theorem Hn{α:Type}(f:α→LR):∀a b:List α,iC f (a++b)=match iC f a with
  | .error e=>.error e
  | .ok s=>match iC f b with
   | .error e=>.error e
   | .ok s'=>.ok (s++s')
 | [],b=>by
  simp only[aA,iC];cases iC f b<;>rfl
 |x::a,b=>by
  rw[dO,oO,oO,Hn f a b];cases f x with
  |error e=>rfl
  |ok s=>
   simp only;cases iC f a with
   |error e=>rfl
   |ok s1=>
    simp only;cases iC f b with
    |error e=>rfl
    |ok s2=>simp
theorem Mh{α β:Type}(f:β→LR)(g:α→List β):∀l:List α,iC (fun a=>iC f (g a)) l=iC f (l.flatMap g)
 | []=>rfl
 |a::l=>by
  rw[bh,Hn,←Mh f g l];rfl
theorem Qk{α β:Type}(f:β→LR)(g:α→β):∀l:List α,iC (fun a=>f (g a)) l=iC f (l.map g)
 | []=>rfl
 |a::l=>by
  rw[cj,oO,oO,Qk f g l]
theorem aaW{α:Type}(f:α→LR)(a:α):iC f [a]=f a:=by
 rw[oO];cases f a with
 |error e=>rfl
 |ok s=>simp[iC]
theorem Ho{α:Type}{f:α→LR}:∀{l:List α},(∀a∈l,∃s,f a=.ok s)→∃s,iC f l=.ok s
 | [],_=>⟨[],rfl⟩
 |a::l,h=>by
  obtain⟨s,hs⟩:=h a (by simp);obtain⟨s',hs'⟩:=Ho (l:=l) fun b hb=>h b (by simp[hb]);exact⟨s++s',by rw[oO,hs,hs']⟩
theorem CS:∀{l:List (Sn×Sn)},(∀p∈l,yZ p.1.nr∧yZ p.2.nr)→∃q,iY l=.ok q
 | [],_=>⟨[],rfl⟩
 |p::l,h=>by
  obtain⟨q,hq⟩:=CS (l:=l) fun x hx=>h x (by simp[hx]);exact⟨⟨p.1.nr,p.2.nr⟩::q,by unfold iY;rw[if_pos (h p (by simp)),hq]⟩
structure Vf(B:Im)(l:List Im):Prop where
 ok:g9 B
 kind:cC B=8
 right:gQ B=true
 none:iA B=none
 refs:∀x∈l,g9 x∧(cC x=10∨cC x=11)∧gQ x=true∧iA x=some [97]
 some:l≠ []
def pK(B:Im)(l:List Im):Li:=⟨CC,[fm mW [B],fm j2 l]⟩
theorem Mm(B:Im)(l:List Im):D4 (fm mW [B])=mW∧D4 (fm j2 l)=j2:=⟨by kernel_rfl,by kernel_rfl⟩
theorem abv(B:Im)(l:List Im):ns (pK B l).c mW=some 0∧ns (pK B l).c j2=some 1:=by
 obtain⟨h1,h2⟩:=Mm B l;have hne:¬j2=mW:=by decide
 have hc:(pK B l).c=[fm mW [B],fm j2 l]:=rfl;rw[hc];unfold ns sI;rw[h1,if_pos rfl,if_neg hne];refine⟨rfl,?_⟩;unfold sI;rw[h2,if_pos rfl]
namespace Vf
variable{B:Im}{l:List Im}(h:Vf B l)
include h
theorem oh:oh (pK B l)=true:=uz.2 ⟨(uz.1 y8).1,fun c hc=>by
 simp only[pK,aD,aC,bp]at hc;rcases hc with rfl|rfl
 ·exact⟨show dk [5,6,308] (AM mW++[iI 7])=Option.some (AM mW,[iI 7])from by kernel_rfl,fun x hx=>by
   simp only[fm,aD,aC,bp]at hx;subst hx;exact h.ok⟩
 ·exact⟨show dk [5,6,308] (AM j2++[iI 7])=Option.some (AM j2,[iI 7])from by kernel_rfl,fun x hx=>(h.refs x hx).1⟩⟩
theorem lost:lost (pK B l).c=false:=by
 unfold YtgaaopjagcaojaaGreat.lost;rw[ko];intro c hc;simp only[pK,aD,aC,bp]at hc;unfold rf;rcases hc with rfl|rfl
 ·show ¬([B].any fun x=>(iA x).isSome&&(qJ (pK B l).c x).isNone)=true;simp[h.none]
 ·show ¬(l.any fun x=>(iA x).isSome&&(qJ (pK B l).c x).isNone)=true;simp only[Bool.not_eq_true];rw[ko];intro x hx;rw[h.kid hx];simp
theorem total:total (pK B l).c=(l.map fun x=>(aZ x).1*(aZ x).2).sum:=by
 unfold Go.Proofs.YtgaaopjagcaojaaGreat.total;show([0,1].map (ou (pK B l).c)).sum=_;simp only[cj,di,fS,List.sum_nil];unfold ou;rw[if_pos h.named0,if_neg (by rw[h.named1];simp)];unfold jY;show 0+((l.map (jF (pK B l).c (jY (pK B l).c 63))).sum+0)=_;rw[nI (fun x hx=>h.cntR hx 62)];omega
end Vf
def lR(c r x y dx dy ex ey:Int):Im:=⟨[⟨11,0,[]⟩,⟨18,6,mu mW⟩,⟨19,2,[c,r].flatMap sB⟩,⟨16,3,[x,y,x+c*dx,y+c*dy,x+r*ex,y+r*ey].flatMap lB⟩],[]⟩
def jm(c r:Nat)(x y dx dy ex ey:Int):List Im:=(List.range r).flatMap fun k:Nat=>(List.range c).map fun i:Nat=>k9 mW (x+i*dx+k*ex) (y+i*dy+k*ey)
theorem Me{b:List Int}{n:Nat}(h:b.length=8*n)(h1:1≤n)(h2:n≤8191):gg ⟨16,3,b⟩=true:=by
 rw[BO (s:=⟨3,8,1,8191⟩) (by rfl)];simp only[h];rw[show((8*n:Nat):Int) % 8=0 by omega,show((8*n:Nat):Int)/8=n by omega];simp[AY,AX];omega
theorem yz(k:Int)(ks:List Int)(l:List Re):dk (k::ks) l=if k<256∨dR (k % 256) l=true then
   (match gN (k % 256) l with
    |some (r,m)=>(match dk ks m with
     |some (rs,m')=>some (r::rs,m')
     |none=>none)
    |none=>none)
  else dk ks l:=rfl
def Nj(s k b:List Int):Im:=⟨[⟨8,0,[]⟩,⟨13,2,s⟩,⟨14,2,k⟩,⟨16,3,b⟩],[]⟩
theorem RH{a k:Int}{b:List Int}(h:gg ⟨16,3,b⟩=true):g9 (Nj ([a].flatMap sB) ([k].flatMap sB) b):=by
 refine⟨by kernel_rfl,?_⟩;have e:dk [16] [⟨16,3,b⟩,iI 17]=some ([⟨16,3,b⟩],[iI 17]):=by
  rw[yz,if_pos (.inl (by decide))];unfold gN;rw[show(16:Int) % 256=16 by decide];simp only;rw[if_pos ⟨trivial,h⟩];rfl
 have e2:dk [13,14,16] [⟨13,2,[a].flatMap sB⟩,⟨14,2,[k].flatMap sB⟩,⟨16,3,b⟩,iI 17]=some ([⟨13,2,[a].flatMap sB⟩,⟨14,2,[k].flatMap sB⟩,⟨16,3,b⟩],[iI 17]):=by
  have:∀r:Re,dk [13,14,16] [⟨13,2,[a].flatMap sB⟩,⟨14,2,[k].flatMap sB⟩,r,iI 17]=(match dk [16] [r,iI 17]with
    |some (rs,m')=>some (⟨13,2,[a].flatMap sB⟩::⟨14,2,[k].flatMap sB⟩::rs,m')
    |none=>none):=fun r=>by
   rw[yz,if_pos (.inl (by decide)),show gN (13 % 256) [⟨13,2,[a].flatMap sB⟩,⟨14,2,[k].flatMap sB⟩,r,iI 17]=some (⟨13,2,[a].flatMap sB⟩,[⟨14,2,[k].flatMap sB⟩,r,iI 17])by kernel_rfl];simp only;rw[yz,if_pos (.inl (by decide)),show gN (14 % 256) [⟨14,2,[k].flatMap sB⟩,r,iI 17]=some (⟨14,2,[k].flatMap sB⟩,[r,iI 17])by kernel_rfl];simp only;cases dk [16] [r,iI 17]<;>rfl
  rw[this,e]
 have e3:eM (eP (Nj ([a].flatMap sB) ([k].flatMap sB) b))=some ((Nj ([a].flatMap sB) ([k].flatMap sB) b).f,[iI 17]):=by
  show fW (dk [8,294,303]) (gT 8) [⟨8,0,[]⟩,⟨13,2,[a].flatMap sB⟩,⟨14,2,[k].flatMap sB⟩,⟨16,3,b⟩,iI 17]=_;unfold fW;rw[show dk [8,294,303] [⟨8,0,[]⟩,⟨13,2,[a].flatMap sB⟩,⟨14,2,[k].flatMap sB⟩,⟨16,3,b⟩,iI 17]=some ([⟨8,0,[]⟩],[⟨13,2,[a].flatMap sB⟩,⟨14,2,[k].flatMap sB⟩,⟨16,3,b⟩,iI 17])by kernel_rfl];simp only;rw[show gT 8=dk [13,14,16]by rfl,e2];rfl
 unfold fV;rw[e3];rfl
theorem Bu:∀l:List Dp,jA (l.flatMap pQ)=l
 | []=>rfl
 |d::l=>by
  rw[bh];show⟨d.x,d.y⟩::jA (l.flatMap pQ)=_;rw[Bu l]
def Ca(d:Dp):Prop:=(-1000000≤d.x∧d.x≤1000000)∧ -1000000≤d.y∧d.y≤1000000
section
variable{ps:List Dp}(hl:3≤ps.length∧ps.length≤12)(hm:∀d∈ps,Ca d)
include hl
theorem Ay:(gX ps).length=ps.length+1:=by
 unfold gX;rw[az,dF];omega
theorem La(a k:Int):g9 (cL a k ps):=by
 refine RH (Me (n:=ps.length+1) ?_ (by omega) (by omega));rw[OI,qW,Ay hl];omega
include hm
theorem Aw(a k:Int):bu (cL a k ps)=gX ps:=by
 unfold bu;rw[show dK (cL a k ps) 16=some ⟨16,3,((gX ps).flatMap pQ).flatMap lB⟩by kernel_rfl];simp only;rw[Bd,Bu];intro z hz;obtain⟨d,hd,hz⟩:=List.mem_flatMap.1 hz;have hd':d∈ps:=by
  unfold gX at hd;rcases List.mem_append.1 hd with h|h
  ·exact h
  ·exact dI h
 have:=hm d hd';unfold Ca at this;simp only[pQ,aD,aC,bp]at hz;rcases hz with rfl|rfl<;>omega
theorem DV(a k:Int):gQ (cL a k ps)=true:=by
 have hk:cC (cL a k ps)=8:=rfl;unfold gQ;rw[if_pos hk,Aw hl hm];have hn:=Ay hl;rw[aK,dj,dj,hn];refine⟨by omega,?_⟩;cases ps with
 |nil=>simp at hl
 |cons d l=>
  unfold gX;simp
theorem Fy(a k:Int):(bu (cL a k ps)).dropLast=ps:=by
 rw[Aw hl hm];cases ps with
 |nil=>simp at hl
 |cons d l=>exact List.dropLast_concat
end
theorem ET(c:Nat):∀l:List Nat,(l.map fun _=>c).sum=l.length*c
 | []=>by simp
 |a::l=>by
  rw[cj,fS,ET c l,aF,ed];omega
theorem zH{c z:Int}(hc:1≤c):Rat.divInt (c*z) c=(z:Rat):=by
 rw[ir,dH];have:(c:Rat)≠0:=by
  intro h;have:=Rat.intCast_inj.1 (show(c:Rat)=((0:Int):Rat)from h);omega
 grind
theorem KJ(x y:Int)(h:(-1000000≤x∧x≤1000000)∧ -1000000≤y∧y≤1000000):bu (k9 mW x y)=[⟨x,y⟩]:=by
 unfold bu;rw[show dK (k9 mW x y) 16=some ⟨16,3,[x,y].flatMap lB⟩by kernel_rfl];simp only;rw[Bd]
 ·rfl
 ·intro z hz;simp only[aD,aC,bp]at hz;rcases hz with rfl|rfl<;>omega
theorem aaT(x y:Int)(h:(-1000000≤x∧x≤1000000)∧ -1000000≤y∧y≤1000000):oB (k9 mW x y) 0 0=GD x y:=by
 unfold oB oA;rw[KJ x y h,show oY (k9 mW x y)=false by kernel_rfl,show gE (k9 mW x y)=0 by kernel_rfl,show jJ (k9 mW x y)=1 by kernel_rfl,if_neg (by simp),if_neg (by simp)];rfl
theorem Nk{ps:List Dp}(hl:3≤ps.length∧ps.length≤12)(hm:∀d∈ps,Ca d)(a k:Int):g9 (cL a k ps)∧cC (cL a k ps)=8∧gQ (cL a k ps)=true∧iA (cL a k ps)=none:=
 ⟨La hl a k,rfl,DV hl hm a k,by kernel_rfl⟩
theorem S8{B:Im}{l:List Im}(h:Vf B l):zy (pK B l).c:=VT h.lost (by rw[h.feat];simp) (by
  rintro⟨c,hc,hd⟩;obtain⟨d,he⟩:=h.deps hc;rw[he]at hd;simp at hd)
theorem S9{B:Im}{l:List Im}(h:Vf B l){s:List Sh}(hs:iC (fun U=>h_ B ((bu B).dropLast.map (xW U))) (l.flatMap fun x=>(List.range (aZ x).2.toNat).flatMap fun k:Nat=>(List.range (aZ x).1.toNat).map fun i:Nat=>(oB x i k).then Es)=.ok s):(s.length:Int)=(l.map fun x=>(aZ x).1*(aZ x).2).sum:=by
 rw[←h.total];exact LG (S8 h) (h.lay.trans hs)
section
variable{c r:Nat}{x y dx dy ex ey:Int}(hc:1≤c∧c≤6)(hr:1≤r∧r≤6)(hx: -1000≤x∧x≤1000)(hy: -1000≤y∧y≤1000)(zr: -1000≤dx∧dx≤1000)(Ea: -1000≤dy∧dy≤1000)(hex: -1000≤ex∧ex≤1000)(Eb: -1000≤ey∧ey≤1000)
theorem kS{c:Nat}{z:Int}(hc:c≤6)(hz: -1000≤z∧z≤1000): -6000≤(c:Int)*z∧(c:Int)*z≤6000:=by
 have h:=cK (c:Int) z;have h2:c*z.natAbs≤6*1000:=aR hc (by omega);have h3:((c:Int)).natAbs=c:=by omega
 rw[h3]at h;omega
include hc hr
theorem tp:aZ (lR c r x y dx dy ex ey)=((c:Int),(r:Int)):=by
 unfold aZ;rw[show dK (lR c r x y dx dy ex ey) 19=some ⟨19,2,[(c:Int),(r:Int)].flatMap sB⟩by kernel_rfl];simp only;rw[Mi]
 ·rfl
 ·intro z hz;simp only[aD,aC,bp]at hz;rcases hz with rfl|rfl<;>omega
include hx hy zr Ea hex Eb
theorem Js:bu (lR c r x y dx dy ex ey)=[⟨x,y⟩,⟨x+c*dx,y+c*dy⟩,⟨x+r*ex,y+r*ey⟩]:=by
 unfold bu;rw[show dK (lR c r x y dx dy ex ey) 16=some ⟨16,3,[x,y,x+c*dx,y+c*dy,x+r*ex,y+r*ey].flatMap lB⟩by kernel_rfl];simp only;have h1:=kS hc.2 zr;have h2:=kS hc.2 Ea;have h3:=kS hr.2 hex;have h4:=kS hr.2 Eb;rw[Bd]
 ·rfl
 ·intro z hz;simp only[aD,aC,bp]at hz;rcases hz with rfl|rfl|rfl|rfl|rfl|rfl<;>omega
theorem TH(i k:Int):oB (lR c r x y dx dy ex ey) i k=GD (x+i*dx+k*ex) (y+i*dy+k*ey):=by
 unfold oB oA;rw[Js hc hr hx hy zr Ea hex Eb,tp hc hr,show oY (lR c r x y dx dy ex ey)=false by kernel_rfl,show gE (lR c r x y dx dy ex ey)=0 by kernel_rfl,show jJ (lR c r x y dx dy ex ey)=1 by kernel_rfl];rw[if_pos (by rfl),if_pos (by rfl)];simp only[List.getD_cons_zero,List.getD_cons_succ];unfold CR;rw[show(x+c*dx-x)*i=c*(i*dx)by rw[show x+c*dx-x=c*dx by omega,Int.mul_assoc,ik dx],show(x+r*ex-x)*k=r*(k*ex)by rw[show x+r*ex-x=r*ex by omega,Int.mul_assoc,ik ex],
  show(y+c*dy-y)*i=c*(i*dy)by rw[show y+c*dy-y=c*dy by omega,Int.mul_assoc,ik dy],show(y+r*ey-y)*k=r*(k*ey)by rw[show y+r*ey-y=r*ey by omega,Int.mul_assoc,ik ey],
  zH (by omega),zH (by omega),zH (by omega),zH (by omega)]
 unfold GD;simp only[fU]
theorem RC{B:Im}(hB:g9 B∧cC B=8∧gQ B=true∧iA B=none):Vf B [lR c r x y dx dy ex ey]:=by
 refine⟨hB.1,hB.2.1,hB.2.2.1,hB.2.2.2,fun z hz=>?_,by simp⟩;simp only[aD,aC,bp]at hz;subst hz;have hk:cC (lR c r x y dx dy ex ey)=11:=rfl;refine⟨⟨by kernel_rfl,by kernel_rfl⟩,.inr hk,?_,by kernel_rfl⟩;unfold gQ;rw[if_neg (by omega),if_neg (by omega),if_neg (by omega),if_neg (by omega),if_pos hk,tp hc hr,Js hc hr hx hy zr Ea hex Eb,show iU (lR c r x y dx dy ex ey)=true by kernel_rfl];simp;omega
theorem M7{i k:Nat}(hi:i<c)(hk:k<r):((-1000000≤x+i*dx+k*ex∧x+i*dx+k*ex≤1000000)∧ -1000000≤y+i*dy+k*ey∧y+i*dy+k*ey≤1000000):=by
 have h1:=kS (c:=i) (by omega) zr;have h2:=kS (c:=i) (by omega) Ea;have h3:=kS (c:=k) (by omega) hex;have h4:=kS (c:=k) (by omega) Eb;omega
theorem zX{z:Im}(hz:z∈jm c r x y dx dy ex ey):∃i k:Nat,i<c∧k<r∧z=k9 mW (x+i*dx+k*ex) (y+i*dy+k*ey):=by
 obtain⟨k,hk,hz⟩:=List.mem_flatMap.1 hz;obtain⟨i,hi,rfl⟩:=List.mem_map.1 hz;exact⟨i,k,by simpa using hi,by simpa using hk,rfl⟩
theorem Qe{B:Im}(hB:g9 B∧cC B=8∧gQ B=true∧iA B=none):Vf B (jm c r x y dx dy ex ey):=by
 refine⟨hB.1,hB.2.1,hB.2.2.1,hB.2.2.2,fun z hz=>?_,?_⟩
 ·obtain⟨i,k,hi,hk,rfl⟩:=zX hc hr hx hy zr Ea hex Eb hz;have ha:=M7 hc hr hx hy zr Ea hex Eb hi hk;generalize x+i*dx+k*ex=X at*;generalize y+i*dy+k*ey=Y at*;have hk:cC (k9 mW X Y)=10:=rfl;refine⟨⟨by kernel_rfl,by kernel_rfl⟩,.inl hk,?_,by kernel_rfl⟩;unfold gQ;rw[if_neg (by omega),if_neg (by omega),if_neg (by omega),if_pos hk,KJ X Y ha,show aZ (k9 mW X Y)=(1,1)by kernel_rfl,show iU (k9 mW X Y)=true by kernel_rfl];rfl
 ·intro he;have:k9 mW (x+(0:Nat)*dx+(0:Nat)*ex) (y+(0:Nat)*dy+(0:Nat)*ey)∈jm c r x y dx dy ex ey:=List.mem_flatMap.2 ⟨0,by simp;omega,List.mem_map.2 ⟨0,by simp;omega,rfl⟩⟩;rw[he]at this;simp at this
theorem Ln:((jm c r x y dx dy ex ey).flatMap fun z=>(List.range (aZ z).2.toNat).flatMap fun k:Nat=>(List.range (aZ z).1.toNat).map fun i:Nat=>(oB z i k).then Es)=
  ([lR c r x y dx dy ex ey].flatMap fun z=>(List.range (aZ z).2.toNat).flatMap fun k:Nat=>(List.range (aZ z).1.toNat).map fun i:Nat=>(oB z i k).then Es):=by
 rw[bh,iL,af,tp hc hr];simp only[gx];unfold jm;rw[List.flatMap_assoc];refine dz List.flatten (nI fun k hk=>?_);rw[List.flatMap_map];have:∀m:List Nat,(∀i∈m,i<c)→(m.flatMap fun i:Nat=>(List.range (aZ (k9 mW (x+i*dx+k*ex) (y+i*dy+k*ey))).2.toNat).flatMap fun k':Nat=>(List.range (aZ (k9 mW (x+i*dx+k*ex) (y+i*dy+k*ey))).1.toNat).map fun i':Nat=>(oB (k9 mW (x+i*dx+k*ex) (y+i*dy+k*ey)) i' k').then Es)=
   m.map fun i:Nat=>(oB (lR c r x y dx dy ex ey) i k).then Es:=by
  intro m
  induction m with
  |nil=>intro _;rfl
  |cons i m ih=>
   intro hm;rw[bh,cj,ih fun j hj=>hm j (by simp[hj]),TH hc hr hx hy zr Ea hex Eb];have ha:=M7 hc hr hx hy zr Ea hex Eb (hm i (by simp)) (by simpa using hk);generalize x+i*dx+k*ex=X at*;generalize y+i*dy+k*ey=Y at*;rw[show aZ (k9 mW X Y)=(1,1)by kernel_rfl];show [(oB (k9 mW X Y) 0 0).then Es]++_=_;rw[aaT X Y ha];rfl
 exact this _ fun i hi=>by simpa using hi
theorem Si{ps:List Dp}(hm:∀d∈ps,Ca d)(B:Im){X Y:Int}(ha:(-1000000≤X∧X≤1000000)∧ -1000000≤Y∧Y≤1000000):∃s,h_ B (ps.map (xW ((GD X Y).then Es)))=.ok s:=by
 rw[Sk];obtain⟨q,hq⟩:=CS (l:=ps.map (xW (GD X Y))) (fun p hp=>by
  obtain⟨d,hd,rfl⟩:=List.mem_map.1 hp;have:=hm d hd;unfold Ca at this;unfold xW;simp only;rw[aam,aan,OY,OY];unfold yZ;omega)
 exact⟨_,by unfold h_;rw[hq]⟩
theorem RB:(([lR c r x y dx dy ex ey]:List Im).map fun z=>(aZ z).1*(aZ z).2).sum=((c*r:Nat):Int):=by
 have hg:=tp (x:=x) (y:=y) (dx:=dx) (dy:=dy) (ex:=ex) (ey:=ey) hc hr;generalize lR c r x y dx dy ex ey=A at hg⊢;rw[cj,di,fS,List.sum_nil,hg,qj];exact(dp c r).symm
theorem Qd:((jm c r x y dx dy ex ey).map fun z=>(aZ z).1*(aZ z).2).sum=((c*r:Nat):Int):=by
 have e:(jm c r x y dx dy ex ey).map (fun z=>(aZ z).1*(aZ z).2)=(jm c r x y dx dy ex ey).map fun _=>(1:Int):=nI fun z hz=>by
  obtain⟨i,k,_,_,rfl⟩:=zX hc hr hx hy zr Ea hex Eb hz;generalize x+i*dx+k*ex=X;generalize y+i*dy+k*ey=Y;rw[show aZ (k9 mW X Y)=(1,1)by kernel_rfl];rfl
 rw[e,oP,Int.mul_one];unfold jm;rw[List.length_flatMap];simp only[bL,dX];rw[ET,dX,eA]
theorem Rz{ps:List Dp}(hl:3≤ps.length∧ps.length≤12)(hm:∀d∈ps,Ca d)(a k:Int):
  ∃s,iC (fun U=>h_ (cL a k ps) ((bu (cL a k ps)).dropLast.map (xW U))) ([lR c r x y dx dy ex ey].flatMap fun z=>(List.range (aZ z).2.toNat).flatMap fun k:Nat=>(List.range (aZ z).1.toNat).map fun i:Nat=>(oB z i k).then Es)=.ok s:=Ho (fun U hU=>by
  rw[bh,iL,af,tp hc hr]at hU;simp only[gx]at hU;obtain⟨j,hj,hU⟩:=List.mem_flatMap.1 hU;obtain⟨i,hi,rfl⟩:=List.mem_map.1 hU;rw[TH hc hr hx hy zr Ea hex Eb,Fy hl hm];exact Si hc hr hx hy zr Ea hex Eb hm _ (M7 hc hr hx hy zr Ea hex Eb (by simpa using hi) (by simpa using hj)))
theorem M6{ps:List Dp}(hl:3≤ps.length∧ps.length≤12)(hm:∀d∈ps,Ca d)(a k:Int):
  ∃s,yP (pK (cL a k ps) [lR c r x y dx dy ex ey]) 36=.ok s∧yP (pK (cL a k ps) (jm c r x y dx dy ex ey)) 36=.ok s∧s.length=c*r:=by
 have hB:=Nk hl hm a k;have h1:=RC hc hr hx hy zr Ea hex Eb hB;have h2:=Qe hc hr hx hy zr Ea hex Eb hB;have E6:c*r≤36:=aP (aR hc.2 hr.2) (by decide);have t1:=RB hc hr hx hy zr Ea hex Eb;have t2:=Qd hc hr hx hy zr Ea hex Eb;have f1:=h1.flat (n:=36) (by decide) (by decide) (by rw[t1];exact Int.ofNat_le.2 E6);have f2:=h2.flat (n:=36) (by decide) (by decide) (by rw[t2];exact Int.ofNat_le.2 E6);rw[Ln hc hr hx hy zr Ea hex Eb]at f2;obtain⟨s,hs⟩:=Rz hc hr hx hy zr Ea hex Eb hl hm a k;have hn:=S9 h1 hs;rw[t1]at hn;exact⟨s,f1.trans hs,f2.trans hs,Int.ofNat.inj hn⟩
end
end Go.Proofs.YtgaaopjagcaojaaGreat
