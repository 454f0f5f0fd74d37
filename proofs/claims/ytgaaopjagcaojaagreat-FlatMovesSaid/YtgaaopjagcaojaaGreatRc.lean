import Derived.Test.YtgaaopjagcaojaaGreatProg
import Derived.Test.YtgaaopjagcaojaaGreatNatM
import Derived.Deep.LoopGhost
import Derived.Test.YtgaaopjagcaojaaGreatMaths
import Derived.Deep.DeepCutAuto
import Derived.Lib.Strings
import Derived.Deep.RegionWith
import Derived.Lib.Hide
import Derived.Laws.IdiomStrings
import Derived.Deep.CutBlock
import Derived.Deep.QuietTactic
import Derived.BigQuiet
import Derived.IntWalk
import Derived.Deep.RegionLaw
import Derived.Deep.RegionHeld3
import Derived.Test.YtgaaopjagcaojaaGreatVm
import Derived.Below
import Derived.ChangeSame
import Derived.ProofKit
import Derived.OpenShut
import Derived.SliceStrings
import Derived.WideKeyArgs
import Derived.Lib.Bytealg
import Derived.DeepKeys
set_option linter.unusedSimpArgs false
set_option linter.unusedVariables false
set_option maxHeartbeats 4000000
namespace Go.Proofs.YtgaaopjagcaojaaGreat
open Go.RowKit
theorem AN{w:World}{s t:Sl}{x y:Nat}(h:dV w s x)(h':dV w t y)(hy:0<y)(hn:s.n≤100000000000:=by omega)(hm:t.n≤100000000000:=by omega):
  Calls Tryz.prog 199 #[.agg #[.slice s.ao s.n s.c],.agg #[.slice t.ao t.n t.c]] w fun e w'=>
   ∃u v:Sl,e=.returned (.tuple #[.agg #[.slice u.ao u.n u.c],.agg #[.slice v.ao v.n v.c],.int .i64 0])∧dV w' u (x/y)∧dV w' v (x % y)∧u.n≤s.n∧v.n≤s.n∧v.n≤t.n∧Below w.heap.size w w':=by
 rcases iW x y with hxy|hxy
 ·refine(NX h h' (by omega) (by omega) hxy).mono ?_;rintro e w' ⟨rfl,hb⟩;have e1:x/y=0:=jL hxy;have e2:x % y=x:=Nat.mod_eq_of_lt hxy;rw[e1,e2];exact⟨⟨none,0,0⟩,s,rfl,dV.nil _ _ _,h.up hb,aH _,aj _,h.n_le h' (by omega),hb⟩
 ·have ht0:t.n≠0:=by
   have:=h'.zero_iff;omega
  by_cases ht1:t.n=1
  ·refine(div_one h h' (by omega) ht1 hxy).mono ?_;rintro e w' ⟨u,v,rfl,hu,hv,_,_,hb⟩;exact⟨u,v,rfl,hu,hv,hu.n_le h (Nat.div_le_self _ _),hv.n_le h (Nat.mod_le _ _),hv.n_le h' (gg (fG _ hy)),hb⟩
  ·obtain⟨r,g1,g2,g3,g4⟩:=id h';obtain⟨b,off,hao,_,_⟩:=g1.open (by omega);obtain⟨tao,tn,tc⟩:=t;simp only at hao ht0 ht1 hm;subst hao;obtain⟨m,rfl⟩:∃m,tn=m+2:=⟨tn-2,by omega⟩;subst g4;refine(NZ h b off m tc r g1 g2 g3 hn (by omega) hxy).mono ?_;rintro e w' ⟨u,v,rfl,hu,hv,hb⟩;exact⟨u,v,rfl,hu,hv,hu.n_le h (Nat.div_le_self _ _),hv.n_le h (Nat.mod_le _ _),hv.n_le h' (gg (fG _ hy)),hb⟩
def Na(w:World)(G B:Nat)(k:Nat)(wr:World):Prop:=∃(sa sb:Sl) (a:Nat),
 wr.heap[w.heap.size]? =some (.cells #[.slice sa.ao sa.n sa.c] 110 (0,0))∧wr.heap[w.heap.size+1]? =some (.cells #[.slice sb.ao sb.n sb.c] 110 (0,0))∧
 wr.heap[w.heap.size+1+1]? =some (.cells #[.slice none 0 0] 110 (0,0))∧dV wr sa a∧dV wr sb k∧Nat.gcd a k=G∧sa.n≤B∧sb.n≤B∧Below w.heap.size w wr
theorem Ol{w:World}{s t:Sl}{x y:Nat}(h:dV w s x)(h':dV w t y)(hn:s.n≤100000000000)(hm:t.n≤100000000000):
  Calls Tryz.prog 258 #[.agg #[.slice s.ao s.n s.c],.agg #[.slice t.ao t.n t.c]] w fun e w'=>
   ∃u:Sl,e=.returned (.agg #[.slice u.ao u.n u.c])∧dV w' u (Nat.gcd x y)∧u.n≤max s.n t.n∧Below w.heap.size w w':=by
 have hE:=lN w (.cells #[.slice s.ao s.n s.c] 110) (.cells #[.slice t.ao t.n t.c] 110) (.cells #[.slice none 0 0] 110);have hbx:Below w.heap.size w _:=(((bD w.heap.size w).alloc (aj _) (.cells #[.slice s.ao s.n s.c] 110)).alloc (by simp) (.cells #[.slice t.ao t.n t.c] 110)).alloc (by simp;omega) (.cells #[.slice none 0 0] 110);have hinit:Na w (Nat.gcd x y) (max s.n t.n) y _:=⟨s,t,x,hE.1,hE.2.1,hE.2.2.1,h.up hbx,h'.up hbx,rfl,by omega,by omega,hbx⟩;have hB:max s.n t.n≤100000000000:=by omega
 generalize max s.n t.n=B at*;clear hE hbx
 go_enter Tryz.func258,Tryz.ntmps258
 go_wp2
 go_loopg [8] y (fun k _ wr=>Na w (Nat.gcd x y) B k wr)
 case atStart=>exact hinit
 case round=>
  obtain⟨sa,sb,a,hE1,hE2,hE3,ha,hb,hg,hna,hnb,hbl⟩:=hrel;have hA:=bW hE1 0;have hC:=bW hE2 0;have hws:w.heap.size+1+1<wr.heap.size:=rR hE3;have HG:=bk hg;clear hg;by_cases h0:0<sb.n
  ·have hk0:0<gk:=by have:=hb.zero_iff;omega
   go_wp2_with (go_at_call 199;refine(AN ha hb hk0).mono ?_;rintro e w2 ⟨u,v,rfl,hu,hv,hun,hvn,hvn2,hb2⟩;have hF1:=bG hb2 hE1;have hF2:=bG hb2 hE2;have hF3:=bG hb2 hE3;clear hA hC)
   have hbX:Below w2.heap.size w2 ((w2.alloc (.cells #[.slice u.ao u.n u.c] 110)).alloc (.cells #[.slice v.ao v.n v.c] 110)):=((bD _ _).alloc (aj _) _).alloc (by simp) _;have hX:=AP w2 (.cells #[.slice u.ao u.n u.c] 110) (.cells #[.slice v.ao v.n v.c] 110);have K1:=bG hbX hF1;have K2:=bG hbX hF2;have K3:=bG hbX hF3;have hv':=hv.up hbX;have hb':=(hb.up hb2).up hbX;have hblX:Below w.heap.size w ((w2.alloc (.cells #[.slice u.ao u.n u.c] 110)).alloc (.cells #[.slice v.ao v.n v.c] 110)):=(hbl.trans (hb2.mono hbl.size)).trans (hbX.mono (by have:=hbl.size;have:=hb2.size;omega));have hw2:w.heap.size+1<w2.heap.size:=by have:=hb2.size;omega
   have hcX:=bW hX.2.1 0;generalize hXd:((w2.alloc (.cells #[.slice u.ao u.n u.c] 110)).alloc (.cells #[.slice v.ao v.n v.c] 110))=X at*;have hA:=bW K1 0;have hAf:=dY K1 0;have hC:=bW K2 0;have hCf:=dY K2 0;clear hXd hX hbX hE1 hE2 hE3 hF1 hF2 hF3 ha
   go_region
   all_goals (
    go_wp2
    go_roundg (a % gk)
    case measure=>exact fG _ hk0
    case rel=>
     refine⟨sb,v,gk,?_,?_,?_,?_,?_,?_,hnb,by omega,?_⟩
     ·exact cG (p9 K1 _) (by simp) _
     ·exact p9 (cG K2 (by simp) _) _
     ·exact cG (cG K3 (by simp;omega) _) (by simp) _
     ·exact(hb'.kp ((Kp.refl _).setCell K1 (by decide) _)).kp ((Kp.refl _).setCell (cG K2 (by simp) _) (by decide) _)
     ·exact(hv'.kp ((Kp.refl _).setCell K1 (by decide) _)).kp ((Kp.refl _).setCell (cG K2 (by simp) _) (by decide) _)
     ·rw[Nat.gcd_comm,←Nat.gcd_rec,Nat.gcd_comm];exact HG.out
     ·exact(hblX.drew.setCell (by simp) _).setCell (by simp) _)
  ·have hk0:gk=0:=by have:=hb.zero_iff;omega
   subst hk0;have hR:=bW hE3 0;have hRf:=dY hE3 0
   go_wp2
   refine ff (v:=.agg #[.slice sa.ao sa.n sa.c]) (by simp[results,Tryz.results258,go_sem,hR]) rfl ⟨sa,rfl,?_,hna,hbl.setCell (by simp;omega) _⟩;have:=HG.out;rw[Nat.gcd_zero_right]at this;rw[←this];exact ha.kp ((Kp.refl _).setCell hE3 (by decide) _)
def bs(s:ByteArray):List Nat:=s.data.toList.map fun b=>b.toNat
def Iu(w:World)(s t:Sl)(R g:Nat)(o:List Nat)(sr:Sl)(P:Nat)(wr:World):Prop:=
 wr.heap[w.heap.size]? =some (.cells #[.slice s.ao s.n s.c] 84 (0,0))∧wr.heap[w.heap.size+1]? =some (.cells #[.slice t.ao t.n t.c] 84 (0,0))∧
 wr.heap[w.heap.size+1+1]? =some (.cells #[.slice none 0 0] 84 (0,0))∧wr.heap[w.heap.size+1+1+1]? =some (.cells #[.slice none 0 0] 84 (0,0))∧
 wr.heap[R]? =some (.cells #[.slice sr.ao sr.n sr.c] 84 (0,0))∧zB wr sr P∧iX wr (w.heap.size+4) 3 .i64 (.slice (some ⟨g,0,none⟩) s.n s.n) o∧Below w.heap.size w wr
theorem Iu.up{w:World}{s t:Sl}{R g:Nat}{o:List Nat}{sr:Sl}{P:Nat}{wr w':World}(h:Iu w s t R g o sr P wr)(hb:Below wr.heap.size wr w'):Iu w s t R g o sr P w':=
 ⟨bG hb h.1,bG hb h.2.1,bG hb h.2.2.1,bG hb h.2.2.2.1,bG hb h.2.2.2.2.1,h.2.2.2.2.2.1.up hb,h.2.2.2.2.2.2.1.below hb (aj _),h.2.2.2.2.2.2.2.trans (hb.mono h.2.2.2.2.2.2.2.size)⟩
def Iv(w:World)(b3 b4:Nat)(sa sb:Sl)(a b:Nat)(wr:World):Prop:=
 wr.heap[w.heap.size]? =some (.cells #[.slice none 0 0] 84 (0,0))∧wr.heap[b3]? =some (.cells #[.slice sa.ao sa.n sa.c] 84 (0,0))∧wr.heap[b4]? =some (.cells #[.slice sb.ao sb.n sb.c] 84 (0,0))∧
 zB wr sa a∧zB wr sb b∧Below w.heap.size w wr
theorem Iv.up{w:World}{b3 b4:Nat}{sa sb:Sl}{a b:Nat}{wr w':World}(h:Iv w b3 b4 sa sb a b wr)(hb:Below wr.heap.size wr w'):Iv w b3 b4 sa sb a b w':=
 ⟨bG hb h.1,bG hb h.2.1,bG hb h.2.2.1,h.2.2.2.1.up hb,h.2.2.2.2.1.up hb,h.2.2.2.2.2.trans (hb.mono h.2.2.2.2.2.size)⟩
def Nj(I:gd)(s:Sl):Prop:=0<s.n→∀b off sp,s.ao=some ⟨b,off,sp⟩→I b
theorem dk.blk{I I':gd}{w w':World}{T:TypeId}{k:IntKind}{s:Sl}{l:List Nat}(h:dk w T k s l)(hi:Nj I s)(h1:∀b,b<w.heap.size→I b→I' b)(h2:∀b,b<w.heap.size→I b→w'.heap[b]? =w.heap[b]?):dk w' T k s l∧Nj I' s:=by
 obtain⟨g1,g2,g3,g4⟩:=h;refine⟨⟨g1,g2,g3,fun hp=>?_⟩,fun hp b off sp ha=>?_⟩
 ·obtain⟨b,off,cur,ha,hb,hr⟩:=g4 hp;exact⟨b,off,cur,ha,by rw[h2 b (cw hb) (hi hp b off none ha)];exact hb,hr⟩
 ·obtain⟨b',off',cur,ha',hb,hr⟩:=g4 hp;have hI:=hi hp b off sp ha;rw[ha]at ha';injection ha' with ha';injection ha' with e1 _ _;subst e1;exact h1 b (cw hb) hI
theorem dk.data{I:gd}{w w':World}{T:TypeId}{k:IntKind}{s:Sl}{l:List Nat}(h:dk w' T k s l)(hT:tb.dat T=true)(hd:bj tb I w)(hb:Below w.heap.size w w'):Nj (fun b=>b<w.heap.size→I b) s:=by
 intro hp b off sp ha hlt;obtain⟨_,_,_,g4⟩:=h;obtain⟨b',off',cur,ha',hb',hr⟩:=g4 hp;rw[ha]at ha';injection ha' with ha';injection ha' with e1 _ _;subst e1;exact hd b cur T (0,0) (by rw[←hb.block b hlt];exact hb') hT
def NF(s:Sl)(a:Nat×Nat):aC where
 p I w:=dV w s a.2∧Nj I s∧s.n≤a.1
 up:=by
  rintro I I' w w' ⟨⟨l,h,hr⟩,hi,hl⟩ h1 h2 _;obtain⟨g1,g2⟩:=h.blk hi h1 h2;exact⟨⟨l,g1,hr⟩,g2,hl⟩
def RF(s:Sl)(a:Nat×Nat):aC where
 p I w:=zB w s a.2∧Nj I s∧s.n≤a.1
 up:=by
  rintro I I' w w' ⟨⟨l,h,hr⟩,hi,hl⟩ h1 h2 _;obtain⟨g1,g2⟩:=h.blk hi h1 h2;exact⟨⟨l,g1,hr⟩,g2,hl⟩
def ZF(s:Sl)(b:Bool)(a:Nat×Int):aC where
 p I w:=(NF s (a.1,a.2.natAbs)).p I w∧b=decide (a.2<0)
 up h h1 h2 h3:=⟨(NF s (_,_)).up h.1 h1 h2 h3,h.2⟩
abbrev mv(s:Sl):Value:=.agg #[.slice s.ao s.n s.c]
abbrev zv(s:Sl)(b:Bool):Value:=.agg #[.slice s.ao s.n s.c,.bool b]
def Fs(L x:Nat)(v:Value)(Δ:List aC):Prop:=∃u:Sl,v=mv u∧Δ=[NF u (L,x)]
def o9(L:Nat)(x:Int)(v:Value)(Δ:List aC):Prop:=∃(u:Sl) (d:Bool),v=zv u d∧Δ=[ZF u d (L,x)]
def jy(x:Value)(v:Value)(Δ:List aC):Prop:=v=x∧Δ=[]
theorem ab5:tb.dat 273=true:=by kernel_rfl
theorem dV.fact{I:gd}{w w':World}{s:Sl}{x L:Nat}(h:dV w' s x)(hd:bj tb I w)(hb:Below w.heap.size w w')(hl:s.n≤L):(NF s (L,x)).p (fun b=>b<w.heap.size→I b) w':=by
 obtain⟨l,g,hr⟩:=h;exact⟨⟨l,g,hr⟩,g.data ab5 hd hb,hl⟩
theorem aD.h0'{F:aC}{Γ:List aC}{I:gd}{w:World}(h:aD (F::Γ) I w):F.p I w:=h F (by simp)
theorem aT{F:aC}{I:gd}{w:World}(h:F.p I w):aD [F] I w:=aD.cons h (aD.nil _ _)
section
variable{Γ:List aC}{L M x y:Nat}
theorem lj{s:Sl}{b:Bool}{L':Nat}{x x':Int} [h:aZ (ZF s b) (L,x) Γ](hx:x=x')(hL:L≤L':=by omega):∀(I:gd) (w:World),bj tb I w→aD Γ I w→aD [ZF s b (L',x')] I w:=fun I w _ hh=>by
 subst hx;obtain⟨⟨h1,h2,h3⟩,h4⟩:=h.p hh;exact aT ⟨⟨h1,h2,aP h3 hL⟩,h4⟩
theorem YV(I:gd)(w:World):(NF ⟨none,0,0⟩ (0,0)).p I w:=⟨dV.nil w none 0,fun h=>absurd h (by simp),aj 0⟩
theorem aaC(s t:Sl) [ha:aZ (NF s) (L,x) Γ] [hc:aZ (NF t) (M,y) Γ](hL:L≤1000000000000:=by omega)(hM:M≤1000000000000:=by omega):
  aw tb Tryz.prog 252 [mv s,mv t] Γ (Fs (max L M+1) (x+y)):=
 ⟨⟨_,Tryz.func252,by kernel_rfl,by kernel_rfl⟩,fun I w hd hh=>by
  obtain⟨h1,h2,h3⟩:=ha.p hh;obtain⟨g1,g2,g3⟩:=hc.p hh;refine(Fz h1 g1 (aP h3 hL) (aP g3 hM)).mono ?_;rintro e w' ⟨u,rfl,hu,hn,hb⟩;exact⟨_,_,rfl,⟨u,rfl,rfl⟩,hb,aT (hu.fact hd hb (by simp only at h3 g3⊢;omega))⟩⟩
theorem PX(s t:Sl) [ha:aZ (NF s) (L,x) Γ] [hc:aZ (NF t) (M,y) Γ](hL:L≤1000000000000:=by omega)(hM:M≤1000000000000:=by omega):
  aw tb Tryz.prog 247 [mv s,mv t] Γ (Fs (L+M) (x*y)):=
 ⟨⟨_,Tryz.func247,by kernel_rfl,by kernel_rfl⟩,fun I w hd hh=>by
  obtain⟨h1,h2,h3⟩:=ha.p hh;obtain⟨g1,g2,g3⟩:=hc.p hh;refine(G0 h1 g1 (aP h3 hL) (aP g3 hM)).mono ?_;rintro e w' ⟨u,rfl,hu,hn,hb⟩;exact⟨_,_,rfl,⟨u,rfl,rfl⟩,hb,aT (hu.fact hd hb (by simp only at h3 g3⊢;omega))⟩⟩
theorem aaG(s t:Sl) [ha:aZ (NF s) (L,x) Γ] [hc:aZ (NF t) (M,y) Γ](hL:L≤100000000000:=by omega)(hM:M≤100000000000:=by omega):
  aw tb Tryz.prog 258 [mv s,mv t] Γ (Fs (max L M) (Nat.gcd x y)):=
 ⟨⟨_,Tryz.func258,by kernel_rfl,by kernel_rfl⟩,fun I w hd hh=>by
  obtain⟨h1,h2,h3⟩:=ha.p hh;obtain⟨g1,g2,g3⟩:=hc.p hh;refine(Ol h1 g1 (aP h3 hL) (aP g3 hM)).mono ?_;rintro e w' ⟨u,rfl,hu,hn,hb⟩;exact⟨_,_,rfl,⟨u,rfl,rfl⟩,hb,aT (hu.fact hd hb (by simp only at h3 g3⊢;omega))⟩⟩
theorem PS(s t:Sl) [ha:aZ (NF s) (L,x) Γ] [hc:aZ (NF t) (M,y) Γ](hL:L≤1000000000000:=by omega)(hM:M≤1000000000000:=by omega):
  aw tb Tryz.prog 204 [mv s,mv t] Γ (jy (.int .i64 (mY x y))):=
 ⟨⟨_,Tryz.func204,by kernel_rfl,by kernel_rfl⟩,fun I w hd hh=>by
  obtain⟨h1,h2,h3⟩:=ha.p hh;obtain⟨g1,g2,g3⟩:=hc.p hh;refine(nW h1 g1 (aP h3 hL) (aP g3 hM)).mono ?_;rintro e w' ⟨rfl,hb⟩;exact⟨_,_,rfl,⟨rfl,rfl⟩,hb,aD.nil _ _⟩⟩
theorem Hn(s t:Sl) [ha:aZ (NF s) (L,x) Γ] [hc:aZ (NF t) (M,y) Γ](hxy:y≤x)(hL:L≤1000000000000:=by omega)(hM:M≤1000000000000:=by omega):
  aw tb Tryz.prog 253 [mv s,mv t] Γ (fun v Δ=>∃u:Sl,v=.tuple #[mv u,.int .i64 0]∧Δ=[NF u (L,x-y)]):=
 ⟨⟨_,Tryz.func253,by kernel_rfl,by kernel_rfl⟩,fun I w hd hh=>by
  obtain⟨h1,h2,h3⟩:=ha.p hh;obtain⟨g1,g2,g3⟩:=hc.p hh;refine(X_ h1 g1 (aP h3 hL) (aP g3 hM) hxy).mono ?_;rintro e w' ⟨u,rfl,hu,hn,hb⟩;exact⟨_,_,rfl,⟨u,rfl,rfl⟩,hb,aT (hu.fact hd hb (by simp only at h3⊢;omega))⟩⟩
theorem Qf(s t:Sl) [ha:aZ (NF s) (L,x) Γ] [hc:aZ (NF t) (M,y) Γ](hxy:x<y)(hL:L≤1000000000000:=by omega)(hM:M≤1000000000000:=by omega):
  aw tb Tryz.prog 253 [mv s,mv t] Γ (jy (.tuple #[mv ⟨none,0,0⟩,.int .i64 4])):=
 ⟨⟨_,Tryz.func253,by kernel_rfl,by kernel_rfl⟩,fun I w hd hh=>by
  obtain⟨h1,h2,h3⟩:=ha.p hh;obtain⟨g1,g2,g3⟩:=hc.p hh;refine(Ya h1 g1 (aP h3 hL) (aP g3 hM) hxy).mono ?_;rintro e w' ⟨rfl,hb⟩;exact⟨_,_,rfl,⟨rfl,rfl⟩,hb,aD.nil _ _⟩⟩
theorem aaD(s t:Sl) [ha:aZ (NF s) (L,x) Γ] [hc:aZ (NF t) (M,y) Γ](hy:0<y)(hL:L≤100000000000:=by omega)(hM:M≤100000000000:=by omega):
  aw tb Tryz.prog 199 [mv s,mv t] Γ (fun v Δ=>∃u t:Sl,v=.tuple #[mv u,mv t,.int .i64 0]∧Δ=[NF u (L,x/y),NF t (min L M,x % y)]):=
 ⟨⟨_,Tryz.func199,by kernel_rfl,by kernel_rfl⟩,fun I w hd hh=>by
  obtain⟨h1,h2,h3⟩:=ha.p hh;obtain⟨g1,g2,g3⟩:=hc.p hh;refine(AN h1 g1 (hn:=(aP h3 hL)) (hm:=(aP g3 hM)) hy).mono ?_;rintro e w' ⟨u,v,rfl,hu,hv,hn,hn1,hn2,hb⟩;exact⟨_,_,rfl,⟨u,v,rfl,rfl⟩,hb,aD.cons (hu.fact hd hb (by simp only at h3⊢;omega)) (aT (hv.fact hd hb (by simp only at h3 g3⊢;omega)))⟩⟩
theorem PM(s:Sl) [ha:aZ (NF s) (L,x) Γ](hL:L≤1000000000000:=by omega):
  aw tb Tryz.prog 244 [mv s] Γ (jy (.int .i64 ((bl x:Nat):Int))):=
 ⟨⟨_,Tryz.func244,by kernel_rfl,by kernel_rfl⟩,fun I w hd hh=>by
  obtain⟨h1,h2,h3⟩:=ha.p hh;refine(CS h1 (aP h3 hL)).mono ?_;rintro e w' ⟨rfl,hb⟩;exact⟨_,_,rfl,⟨rfl,rfl⟩,hb,aD.nil _ _⟩⟩
theorem Jx(s:Sl) [ha:aZ (NF s) (L,x) Γ](hx:18446744073709551616≤x)(hL:L≤1000000000000:=by omega):
  aw tb Tryz.prog 202 [mv s] Γ (jy (.tuple #[.int .u64 0,.bool false])):=
 ⟨⟨_,Tryz.func202,by kernel_rfl,by kernel_rfl⟩,fun I w hd hh=>by
  obtain⟨h1,h2,h3⟩:=ha.p hh;refine(Rs h1 (aP h3 hL) hx).mono ?_;rintro e w' ⟨rfl,hb⟩;exact⟨_,_,rfl,⟨rfl,rfl⟩,hb,aD.nil _ _⟩⟩
theorem ES(s:Sl) [ha:aZ (NF s) (L,x) Γ](hx:x<18446744073709551616)(hL:L≤1000000000000:=by omega):
  aw tb Tryz.prog 202 [mv s] Γ (jy (.tuple #[.int .u64 (x:Int),.bool true])):=
 ⟨⟨_,Tryz.func202,by kernel_rfl,by kernel_rfl⟩,fun I w hd hh=>by
  obtain⟨h1,h2,h3⟩:=ha.p hh;refine(JT h1 hx).mono ?_;rintro e w' ⟨rfl,hb⟩;exact⟨_,_,rfl,⟨rfl,rfl⟩,hb,aD.nil _ _⟩⟩
theorem aaJ(s:Sl)(k:Nat) [ha:aZ (NF s) (L,x) Γ](hk:k≤65536)(hL:L≤1000000000000:=by omega):
  aw tb Tryz.prog 246 [mv s,.int .i64 (k:Int)] Γ (fun v Δ=>∃u:Sl,v=.tuple #[mv u,.int .i64 0]∧Δ=[NF u (L+k/32+1,x*2^k)]):=
 ⟨⟨_,Tryz.func246,by kernel_rfl,by kernel_rfl⟩,fun I w hd hh=>by
  obtain⟨h1,h2,h3⟩:=ha.p hh;refine(Ak k h1 (aP h3 hL) (hk:=hk)).mono ?_;rintro e w' ⟨u,rfl,hu,hn,hb⟩;exact⟨_,_,rfl,⟨u,rfl,rfl⟩,hb,aT (hu.fact hd hb (by simp only at h3⊢;omega))⟩⟩
theorem adw(x:Nat)(hx:x<18446744073709551616):
  aw tb Tryz.prog 193 [.int .u64 (x:Int)] Γ (Fs 2 x):=
 ⟨⟨_,Tryz.func193,by kernel_rfl,by kernel_rfl⟩,fun I w hd hh=>by
  refine(EI x w hx).mono ?_;rintro e w' ⟨u,rfl,hu,hn,hb⟩;exact⟨_,_,rfl,⟨u,rfl,rfl⟩,hb,aT (hu.fact hd hb (by omega))⟩⟩
end
open Go.RowKit Go.IntWalk
def rN(x y:Int):Int:=if x<y then-1 else if x=y then 0 else 1
theorem AK{x y:Int}(hx:0≤x:=by omega)(hy:0≤y:=by omega):mY x.natAbs y.natAbs=rN x y:=by
 unfold mY rN;have e1:x.natAbs<y.natAbs↔x<y:=by omega
 have e2:x.natAbs=y.natAbs↔x=y:=by omega
 simp only[e1,e2]
theorem IQ{x y:Int}(hx:x<0)(hy:y<0):mY y.natAbs x.natAbs=rN x y:=by
 unfold mY rN;have e1:y.natAbs<x.natAbs↔x<y:=by omega
 have e2:y.natAbs=x.natAbs↔x=y:=by omega
 simp only[e1,e2]
theorem NK(x y:Nat):mY x y=rN x y:=by
 have:=AK (x:=(x:Int)) (y:=(y:Int));simpa using this
theorem NH(x:Nat):(0<bl x)↔0<x:=by
 have:=qU x 0;omega
theorem Sd(x:Nat):bl x=0↔x=0:=by
 have:=NH x;omega
section
variable{fin:VS→List aC→Prop}{Γ:List aC}{L M:Nat}
theorem qE{T:Tb}{P:Program}{c:fF}(φ:Prop)(hm:dF c.k=false)(h:∀I w,bj T I w→aD Γ I w→φ)(hk:φ→W T P fin c Γ):W T P fin c Γ:=
 W.elim (α:=Unit) (fun _=>φ) (fun _=>[]) hm (fun I w hd hh=>⟨(),h I w hd hh,aD.nil _ _⟩) (fun _ hp=>hk hp)
theorem pX{T:Tb}{P:Program}{f:FuncId}{args:List Value}{post:Value→List aC→Prop}(φ:Value→List aC→Prop)(h:aw T P f args Γ post)(hi:∀v Δ,post v Δ→∀I w,aD Δ I w→φ v Δ):aw T P f args Γ (fun v Δ=>post v Δ∧φ v Δ):=
 ⟨h.1,fun I w hd hh=>(h.2 I w hd hh).mono fun _ _ ⟨v,Δ,h1,h2,h3,h4⟩=>⟨v,Δ,h1,⟨h2,hi v Δ h2 _ _ h4⟩,h3,h4⟩⟩
theorem aw.post{T:Tb}{P:Program}{f:FuncId}{args:List Value}{post post':Value→List aC→Prop}(h:aw T P f args Γ post)(hp:∀v Δ,post v Δ→post' v Δ):aw T P f args Γ post':=h.weak (fun _ _ _ hh=>hh) hp
theorem Az{P:Program}{c:fF}(s:Sl)(b:Bool){x:Int} [h:aZ (ZF s b) (L,x) Γ](hm:dF c.k=false)(hk:b=decide (x<0)→W tb P fin c (NF s (L,x.natAbs)::Γ)):W tb P fin c Γ:=
 W.elim (α:=Unit) (fun _=>b=decide (x<0)) (fun _=>[NF s (L,x.natAbs)]) hm (fun I w _ hh=>⟨(),(h.p hh).2,aT (h.p hh).1⟩) (fun _ hp=>hk hp)
theorem UC{s:Sl}{d:Bool}{L' x:Nat}{z:Int} [h:aZ (NF s) (L,x) Γ](hL:L≤L')(hd:d=decide (z<0))(hz:z.natAbs=x:=by simp):∀(I:gd) (w:World),bj tb I w→aD Γ I w→aD [ZF s d (L',z)] I w:=fun I w _ hh=>by
 subst hz;obtain⟨h1,h2,h3⟩:=h.p hh;exact aT ⟨⟨h1,h2,aP h3 hL⟩,hd⟩
theorem Zy{s:Sl}{d:Bool}{L' x:Nat}{z:Int} [h:aZ (ZF s d) (L,z) Γ](hL:L≤L')(hz:z.natAbs=x):∀(I:gd) (w:World),bj tb I w→aD Γ I w→aD [NF s (L',x)] I w:=fun I w _ hh=>by
 subst hz;obtain⟨⟨h1,h2,h3⟩,_⟩:=h.p hh;exact aT ⟨h1,h2,aP h3 hL⟩
theorem mh{Δ Δ':List aC}(h:∀(I:gd) (w:World),bj tb I w→aD Γ I w→aD Δ I w)(h':∀(I:gd) (w:World),bj tb I w→aD Γ I w→aD Δ' I w):∀(I:gd) (w:World),bj tb I w→aD Γ I w→aD (Δ++Δ') I w:=fun I w hd hh=>(h I w hd hh).append (h' I w hd hh)
theorem Dv(z:Int)(x:Nat)(hz:z=x)(hx:x<18446744073709551616:=by omega):aw tb Tryz.prog 193 [.int .u64 z] Γ (Fs 2 x):=by
 subst hz;exact adw x hx
theorem KQ(s:Sl)(b:Bool){x:Nat} [aZ (NF s) (L,x) Γ](hL:L≤1000000000000:=by omega):
  aw tb Tryz.prog 192 [mv s,.bool b] Γ (fun v Δ=>∃(u:Sl) (d:Bool),v=zv u d∧d=(b&&decide (0<x))∧Δ=[ZF u d (L,bif b then-(x:Int)else x)]):=by
 refine aw.of_W au Tryz.func192 rfl ?_;cases b with
 |true=>
  refine W.c0 [7] (PM s) ?_;have hb:=NH x;have e:decide (((bl x:Nat):Int)>0)=decide (0<x):=by rw[rO];omega
  refine W.r [7] (zv s (decide (((bl x:Nat):Int)>0))) ⟨s,_,rfl,by rw[e];rfl,rfl⟩ (UC (aj _) ?_);simp only[bZ];rw[rO];omega
 |false=>
  refine W.r [7] (zv s false) ⟨s,_,rfl,rfl,rfl⟩ (UC (aj _) ?_);simp only[cK];rw[eq_comm,aW];omega
theorem rZ(s:Sl)(b:Bool){x:Nat} [aZ (NF s) (L,x) Γ](hL:L≤1000000000000:=by omega):
  aw tb Tryz.prog 192 [mv s,.bool b] Γ (o9 L (bif b then-(x:Int)else x)):=
 (KQ s b hL).post fun _ _ ⟨u,d,h1,_,h2⟩=>⟨u,d,h1,h2⟩
theorem wu(s:Sl){x:Nat} [aZ (NF s) (L,x) Γ](hL:L≤1000000000000:=by omega):
  aw tb Tryz.prog 194 [mv s] Γ (o9 L (x:Int)):=by
 refine aw.of_W au Tryz.func194 rfl (bR [] (rZ s false) (fun u d=>W.r [] (zv u d) ⟨u,d,rfl,rfl⟩ (lj (hL:=(aj _)) rfl)))
theorem dW(n:Int)(h1: -9223372036854775808≤n:=by omega)(h2:n<9223372036854775808:=by omega):aw tb Tryz.prog 131 [.int .i64 n] Γ (o9 2 n):=by
 refine aw.of_W au Tryz.func131 rfl (W.d [] 4 (decide (n<0)) (fun hn=>?_) (fun hn=>?_))
 ·have hn:=jo hn;have e:IntKind.u64.wrap (IntKind.u64.wrap (IntKind.i64.wrap (0-IntKind.i64.wrap (n+1)))+1)=((-n).toNat:Int):=by
   rw[i64_in (n+1) (by omega),i64_in (0-(n+1)) (by omega),u64_in (0-(n+1)) (by omega),u64_in _ (by omega)];omega
  refine W.c1 [4] (Dv (IntKind.u64.wrap (IntKind.u64.wrap (IntKind.i64.wrap (0-IntKind.i64.wrap (n+1)))+1)) (-n).toNat e) (fun u=>bR [] (rZ u true) (fun t d=>W.r [] (zv t d) ⟨t,d,rfl,rfl⟩ (lj (hL:=(aj _)) (by simp;omega))))
 ·have hn:=eO hn;have e:IntKind.u64.wrap n=(n.toNat:Int):=by rw[u64_in _ (by omega)];omega
  refine W.c1 [4] (Dv (IntKind.u64.wrap n) n.toNat e) (fun u=>bR [] (rZ u false) (fun t d=>W.r [] (zv t d) ⟨t,d,rfl,rfl⟩ (lj (hL:=(aj _)) (by simp;omega))))
theorem BM(s:Sl)(b:Bool){x:Int} [aZ (ZF s b) (L,x) Γ]:aw tb Tryz.prog 257 [zv s b] Γ (fun v Δ=>v=mv s∧Δ=[NF s (L,x.natAbs)]):=by
 refine aw.of_W au Tryz.func257 rfl (W.r [] (mv s) ⟨rfl,rfl⟩ (Zy (d:=b) (aj _) rfl))
theorem nJ(s:Sl)(b:Bool){x:Int} [aZ (ZF s b) (L,x) Γ](hL:L≤1000000000000:=by omega):aw tb Tryz.prog 203 [zv s b] Γ (jy (.int .i64 x.sign)):=by
 refine aw.of_W au Tryz.func203 rfl (Az s b rfl ?_);rintro rfl;refine W.d [] 3 (decide (x<0)) (fun hn=>?_) (fun hn=>?_)
 ·have hn:=jo hn;exact W.r [3] (.int .i64 (-1)) ⟨by rw[jS hn],rfl⟩ bX
 ·have hn:=eO hn;refine W.c0 [3] (PM s) ?_;have hz:=Sd x.natAbs;refine W.d [] 6 (((bl x.natAbs:Nat):Int)==0) (fun h0=>?_) (fun h0=>?_)
  ·have h0:=eq_of_beq h0;have:x=0:=by omega
   exact W.r [6] (.int .i64 0) ⟨by rw[this];rfl,rfl⟩ bX
  ·have h0:=jv h0;exact W.r [6] (.int .i64 1) ⟨by rw[gf (by omega)],rfl⟩ bX
theorem EU(s:Sl)(b:Bool)(t:Sl)(c:Bool){x y:Int} [aZ (ZF s b) (L,x) Γ] [aZ (ZF t c) (M,y) Γ](hL:L≤1000000000000:=by omega)(hM:M≤1000000000000:=by omega):
  aw tb Tryz.prog 139 [zv s b,zv t c] Γ (jy (.int .i64 (rN x y))):=by
 refine aw.of_W au Tryz.func139 rfl (Az s b rfl ?_);rintro rfl;refine Az t c rfl ?_;rintro rfl;by_cases hx:x<0<;>by_cases hy:y<0
 ·refine aO [] 5 (!(decide (x<0)==decide (y<0))) (by simp[hx,hy]) (bh [5] 13 (decide (x<0)) (by simp[hx]) (W.c0 [13] (PS t s) (W.r [] (.int .i64 (mY y.natAbs x.natAbs)) ⟨by rw[IQ hx hy],rfl⟩ bX)))
 ·refine bh [] 5 (!(decide (x<0)==decide (y<0))) (by simp[hx,hy]) (bh [5] 12 (decide (x<0)) (by simp[hx]) (W.r [12] (.int .i64 (-1)) ⟨by unfold rN;rw[if_pos (by omega)],rfl⟩ bX))
 ·refine bh [] 5 (!(decide (x<0)==decide (y<0))) (by simp[hx,hy]) (aO [5] 12 (decide (x<0)) (by simp[hx]) (W.r [12] (.int .i64 1) ⟨by unfold rN;rw[if_neg (by omega),if_neg (by omega)],rfl⟩ bX))
 ·refine aO [] 5 (!(decide (x<0)==decide (y<0))) (by simp[hx,hy]) (aO [5] 13 (decide (x<0)) (by simp[hx]) (W.c0 [13] (PS s t) (W.r [] (.int .i64 (mY x.natAbs y.natAbs)) ⟨by rw[AK],rfl⟩ bX)))
theorem se(s:Sl)(b:Bool){x:Int} [aZ (ZF s b) (L,x) Γ](hL:L≤1000000000000:=by omega):aw tb Tryz.prog 243 [zv s b] Γ (o9 L (-x)):=by
 refine aw.of_W au Tryz.func243 rfl (Az s b rfl ?_);rintro rfl;refine bR [] (rZ s (!decide (x<0))) (fun u d=>W.r [] (zv u d) ⟨u,d,rfl,rfl⟩ (lj (hL:=(aj _)) ?_));by_cases hx:x<0<;>simp[hx]<;>omega
theorem mw(s:Sl)(b:Bool)(t:Sl)(c:Bool){x y:Int} [aZ (ZF s b) (L,x) Γ] [aZ (ZF t c) (M,y) Γ](hL:L≤1000000000:=by omega)(hM:M≤1000000000:=by omega):
  aw tb Tryz.prog 200 [zv s b,zv t c] Γ (o9 (max L M+1) (x+y)):=by
 refine aw.of_W au Tryz.func200 rfl (Az s b rfl ?_);rintro rfl;refine Az t c rfl ?_;rintro rfl;refine W.d [] 13 (decide (x<0)==decide (y<0)) (fun hb=>?_) (fun hb=>?_)
 ·have hb:=eq_of_beq hb;rw[rO]at hb;refine W.c1 [13] (aaC s t) (fun u=>bR [] (rZ u (decide (x<0))) (fun u2 d2=>W.r [] (zv u2 d2) ⟨u2,d2,rfl,rfl⟩ (lj (hL:=(aj _)) ?_)));by_cases hx:x<0<;>simp[hx]<;>omega
 ·have hb:=jv hb;rw[ne_eq,rO]at hb;rcases iW x.natAbs y.natAbs with hxy|hxy
  ·refine W.c0 [13] (Qf s t hxy) (W.c1 [31] (Hn t s (gg hxy)) (fun u=>bR [] (rZ u (decide (y<0))) (fun u2 d2=>W.r [] (zv u2 d2) ⟨u2,d2,rfl,rfl⟩ (lj ?_))));by_cases hx:x<0<;>by_cases hy:y<0<;>simp[hy]<;>omega
  ·refine W.c1 [13] (Hn s t hxy) (fun u=>bR [31] (rZ u (decide (x<0))) (fun u2 d2=>W.r [] (zv u2 d2) ⟨u2,d2,rfl,rfl⟩ (lj ?_)));by_cases hx:x<0<;>by_cases hy:y<0<;>simp[hx]<;>omega
theorem Jz(s:Sl)(b:Bool)(t:Sl)(c:Bool){x y:Int} [aZ (ZF s b) (L,x) Γ] [aZ (ZF t c) (M,y) Γ](hL:L≤1000000000:=by omega)(hM:M≤1000000000:=by omega):
  aw tb Tryz.prog 201 [zv s b,zv t c] Γ (o9 (max L M+1) (x-y)):=by
 refine aw.of_W au Tryz.func201 rfl (bR [] (se t c) (fun u d=>bR [] (mw s b u d) (fun u2 d2=>W.r [] (zv u2 d2) ⟨u2,d2,rfl,rfl⟩ (lj (hL:=(aj _)) (by omega)))))
theorem mz(s:Sl)(b:Bool)(t:Sl)(c:Bool){x y:Int} [aZ (ZF s b) (L,x) Γ] [aZ (ZF t c) (M,y) Γ](hL:L≤1000000000:=by omega)(hM:M≤1000000000:=by omega):
  aw tb Tryz.prog 198 [zv s b,zv t c] Γ (o9 (L+M) (x*y)):=by
 refine aw.of_W au Tryz.func198 rfl (Az s b rfl ?_);rintro rfl;refine Az t c rfl ?_;rintro rfl;refine W.c1 [] (PX s t) (fun u=>bR [] (rZ u (!(decide (x<0)==decide (y<0)))) (fun u2 d2=>W.r [] (zv u2 d2) ⟨u2,d2,rfl,rfl⟩ (lj (hL:=(aj _)) ?_)));rw[dQ];by_cases hx:x<0<;>by_cases hy:y<0<;>simp only[hx,hy,decide_true,decide_false,beq_self_eq_true,Bool.not_true,cK,bZ]
 ·rw[show((x.natAbs:Nat):Int)= -x by omega,show((y.natAbs:Nat):Int)= -y by omega,s8]
 ·rw[show((x.natAbs:Nat):Int)= -x by omega,show((y.natAbs:Nat):Int)=y by omega];simp[Int.neg_mul]
 ·rw[show((x.natAbs:Nat):Int)=x by omega,show((y.natAbs:Nat):Int)= -y by omega];simp[Int.mul_neg]
 ·rw[show((x.natAbs:Nat):Int)=x by omega,show((y.natAbs:Nat):Int)=y by omega]
theorem pM(s:Sl)(b:Bool)(t:Sl)(c:Bool){x y:Int} [aZ (ZF s b) (L,x) Γ] [aZ (ZF t c) (M,y) Γ](hy:y≠0)(hL:L≤1000000000:=by omega)(hM:M≤1000000000:=by omega):
  aw tb Tryz.prog 135 [zv s b,zv t c] Γ (fun v Δ=>∃(u:Sl) (d:Bool) (u':Sl) (d':Bool),v=.tuple #[zv u d,zv u' d',.int .i64 0]∧Δ=[ZF u d (max L 2+1,x/y),ZF u' d' (max L M+1,x % y)]):=by
 refine aw.of_W au Tryz.func135 rfl (Az s b rfl ?_);rintro rfl;refine Az t c rfl ?_;rintro rfl;refine bR [] (aaD s t (by omega)) (fun q r=>bR [22] (rZ q (!(decide (x<0)==decide (y<0)))) (fun u2 d2=>jD [] (KQ r (decide (x<0))) ?_));rintro _ _ ⟨u3,d3,rfl,hd3,rfl⟩;by_cases hx:x<0
 ·by_cases hr:x.natAbs % y.natAbs=0
  ·obtain⟨e1,e2⟩:=AT hx hy hr;refine aO [] 38 d3 (by rw[hd3];simp[hx,hr]) (W.r [38] (.tuple #[zv u2 d2,zv u3 d3,.int .i64 0]) ⟨u2,d2,u3,d3,rfl,rfl⟩ (mh (lj ?_) (lj ?_)))
   ·rw[e1];by_cases hyn:y<0<;>simp[hx,hyn]
   ·rw[e2];simp[hr]
  ·obtain⟨e1,e2⟩:=Ct hx hy hr;refine bh [] 38 d3 (by rw[hd3];simp[hx]<;>omega) ?_;refine bR [38] (wu t) (fun u4 d4=>bR [] (mw u3 d3 u4 d4) (fun u5 d5=>?_));by_cases hyn:y<0
   ·refine bh [] 45 (decide (y<0)) (by simp[hyn]) (bR [45] (dW 1) (fun u6 d6=>bR [] (mw u2 d2 u6 d6) (fun u7 d7=>W.r [] (.tuple #[zv u7 d7,zv u5 d5,.int .i64 0]) ⟨u7,d7,u5,d5,rfl,rfl⟩ (mh (lj ?_) (lj ?_)))))
    ·rw[e1];simp[hx,hyn]
    ·rw[e2];simp[hx];omega
   ·refine aO [] 45 (decide (y<0)) (by simp[hyn]) (bR [45] (dW 1) (fun u6 d6=>bR [] (Jz u2 d2 u6 d6) (fun u7 d7=>W.r [] (.tuple #[zv u7 d7,zv u5 d5,.int .i64 0]) ⟨u7,d7,u5,d5,rfl,rfl⟩ (mh (lj ?_) (lj ?_)))))
    ·rw[e1];simp[hx,hyn]
    ·rw[e2];simp[hx];omega
 ·obtain⟨e1,e2⟩:=Cu (a:=x) (b:=y) (by omega) hy;refine aO [] 38 d3 (by rw[hd3];simp[hx]<;>omega) ?_;refine W.r [38] (.tuple #[zv u2 d2,zv u3 d3,.int .i64 0]) ⟨u2,d2,u3,d3,rfl,rfl⟩ (mh (lj ?_) (lj ?_))
  ·rw[e1];by_cases hyn:y<0<;>simp[hx,hyn]
  ·rw[e2];simp[hx]
end
section
variable{fin:VS→List aC→Prop}{Γ:List aC}{L M:Nat}
theorem zT{L':Nat}:∀(I:gd) (w:World),bj tb I w→aD Γ I w→aD [ZF ⟨none,0,0⟩ false (L',0)] I w:=fun I w _ _=>by
 obtain⟨h1,h2,h3⟩:=YV I w;exact aT ⟨⟨h1,h2,aP h3 (aH _)⟩,rfl⟩
theorem Ai{x:Int}:x.sign<0↔x<0:=by
 rcases Int.lt_trichotomy x 0 with h|h|h
 ·rw[jS h];omega
 ·subst h;simp
 ·rw[gf h];omega
theorem yR{x:Int}:x.sign=0↔x=0:=Int.sign_eq_zero_iff_zero
end
instance digsDec(l:List Nat):Decidable (Vu l):=inferInstanceAs (Decidable (∀d∈l,48≤d∧d≤57))
section
variable{fin:VS→List aC→Prop}{Γ:List aC}{L M:Nat}
end
section
variable{fin:VS→List aC→Prop}{Γ:List aC}{L M:Nat}
end
section
variable{fin:VS→List aC→Prop}{Γ:List aC}{L M:Nat}
def jP(x:Int):Bool:=decide (-9223372036854775808≤x)&&decide (x≤9223372036854775807)
theorem xG(s:Sl)(b:Bool){x:Int} [aZ (ZF s b) (L,x) Γ](hL:L≤1000000000000:=by omega):aw tb Tryz.prog 136 [zv s b] Γ (jy (.tuple #[.int .i64 (if jP x=true then x else 0),.bool (jP x)])):=by
 refine aw.of_W au Tryz.func136 rfl (Az s b rfl ?_);rintro rfl;by_cases hw:18446744073709551616≤x.natAbs
 ·have hs:jP x=false:=by unfold jP;simp only[ry,aW];omega
  refine W.c0 [] (Jx s hw) (W.r [12] (.tuple #[.int .i64 0,.bool false]) ⟨by rw[hs];rfl,rfl⟩ bX)
 ·refine W.c0 [] (ES s (by omega)) ?_;by_cases hx:x<0
  ·refine bh [12] 18 (decide (x<0)) (ar hx) ?_;by_cases hb:x.natAbs≤9223372036854775808
   ·have hs:jP x=true:=by unfold jP;simp only[aK,cY];omega
    refine bh [18] 15 (decide (((x.natAbs:Nat):Int)≤9223372036854775808)) (by rw[fV];omega) (W.r [15] (.tuple #[.int .i64 (IntKind.i64.wrap (IntKind.i64.wrap (0-IntKind.i64.wrap (IntKind.u64.wrap (((x.natAbs:Nat):Int)-1)))-1)),.bool true]) ⟨?_,rfl⟩ bX);rw[hs,if_pos rfl,u64_in _ (by omega),i64_in (((x.natAbs:Nat):Int)-1) (by omega),i64_in (0-(((x.natAbs:Nat):Int)-1)) (by omega),i64_in _ (by omega)];rw[show(0:Int)-(((x.natAbs:Nat):Int)-1)-1=x by omega]
   ·have hs:jP x=false:=by unfold jP;simp only[ry,aW];omega
    refine aO [18] 15 (decide (((x.natAbs:Nat):Int)≤9223372036854775808)) (by rw[aW];omega) (aO [15] 31 (!decide (x<0)) (by simp[hx]) (W.r [27,31] (.tuple #[.int .i64 0,.bool false]) ⟨by rw[hs];rfl,rfl⟩ bX))
  ·refine aO [12] 18 (decide (x<0)) (ak hx) (bh [15,18] 31 (!decide (x<0)) (by simp[hx]) ?_);by_cases hb:x.natAbs<9223372036854775808
   ·have hs:jP x=true:=by unfold jP;simp only[aK,cY];omega
    refine bh [31] 27 (decide (((x.natAbs:Nat):Int)<9223372036854775808)) (by rw[fV];omega) (W.r [27] (.tuple #[.int .i64 (IntKind.i64.wrap ((x.natAbs:Nat):Int)),.bool true]) ⟨?_,rfl⟩ bX);rw[hs,if_pos rfl,i64_in _ (by omega),show((x.natAbs:Nat):Int)=x by omega]
   ·have hs:jP x=false:=by unfold jP;simp only[ry,aW];omega
    refine aO [31] 27 (decide (((x.natAbs:Nat):Int)<9223372036854775808)) (by rw[aW];omega) (W.r [27] (.tuple #[.int .i64 0,.bool false]) ⟨by rw[hs];rfl,rfl⟩ bX)
theorem Eh{x y:Int}:rN x y=0↔x=y:=by unfold rN;(repeat' split)<;>omega
end
section
variable{fin:VS→List aC→Prop}{Γ:List aC}{L M:Nat}
end
open Go.ChangeShapes Go.WideShapes Go.ChangeAt Go.RowKit
theorem Pd{H:Type}{enc:TypeId×Value→H}{P:Program}{f:Func}{s:ChangeSpec}{W W':World}{args:Array Value}{v:Value}{ds:List (DataW H)}{mW:List MemPlace}
  (hW:DataW.Whole enc P f.params.toList s.vars false W args.toList ds [] mW)(hvs:s.vars=[])
  (hres:∀(b:Nat) (sp:Nat→Bool) (hd:Bool),DataW.TrodAll enc P W' b sp hd f.resultTypes.toList (v.resultList f.resultTypes.size) (s.fn H (ds++[])).results [])
  (hargs:∀sp:Nat→Bool,(∀p∈mW,sp p.block=true)→DataW.TrodAll enc P W' 0 sp true f.params.toList args.toList (s.fn H (ds++[])).args mW)
  (hv0:(s.fn H (ds++[])).vars=[])(hb:Below W.heap.size W W'):
  s.post enc P f false true false false W args v W':=by
 have hin:∀p∈mW,decide (p.block<W.heap.size)=true:=fun p hp=>ar (hW.lt p hp);have hvars:∀sp:Nat→Bool,DataW.TrodVars enc P W' sp s.vars (s.fn H (ds++[])).vars []:=fun sp=>by
  rw[hvs,hv0];rfl
 have hkeep:W.keptBut W' (fun p=>p∈mW∧(p∈([]:List MemPlace)∨p∈mW∨p∈([]:List MemPlace))):=
  World.keptBut_mono (fun p hp=>⟨hp,.inr (.inl hp)⟩) (hb.frame (· ∈mW))
 refine⟨ds,[],mW,[],mW,[],hW,hres _ _ _,hargs _ hin,hvars _,hkeep,fun h=>absurd h (by simp)⟩
def RA(ao:Option Addr)(xs:List Value):aC where
 p I w:=xs≠ []→∃b off,ao=some ⟨b,off,none⟩∧I b∧∀(i:Nat) (v:Value),xs[i]? =some v→w.cell? ⟨b,off+i,none⟩=some v
 up:=by
  intro I I' w w' hb h1 h2 h3 hne;obtain⟨b,off,ha,hI,hr⟩:=hb hne;have hlt:b<w.heap.size:=by
   obtain⟨v,r,rfl⟩:=List.exists_cons_of_ne_nil hne;have h0:=hr 0 v rfl;unfold World.cell? at h0;split at h0
   ·rename_i cs e f hc;exact cw hc
   ·simp at h0
  refine⟨b,off,ha,h1 b hlt hI,fun i v hv=>?_⟩;have:=hr i v hv;unfold World.cell? at this⊢;simp only at this⊢;rw[h2 b hlt hI];exact this
theorem RA.nil(ao:Option Addr)(I:gd)(w:World):(RA ao []).p I w:=fun h=>absurd rfl h
theorem RA.of_row{b:Nat}{cs xs:List Value}{I:gd}{w:World}(h:(eT b cs).p I w)(hx:∀(i:Nat) (v:Value),xs[i]? =some v→cs[i]? =some v):(RA (some ⟨b,0,none⟩) xs).p I w:=by
 obtain⟨hI,e,hc⟩:=h;exact fun _=>⟨b,0,rfl,hI,fun i v hv=>by rw[nV hc,bU];exact hx i v hv⟩
theorem RA.cell{b off:Nat}{xs:List Value}{I:gd}{w:World}(h:(RA (some ⟨b,off,none⟩) xs).p I w){i:Nat}{v:Value}(hv:xs[i]? =some v):w.cell? ⟨b,off+i,none⟩=some v:=by
 obtain⟨b',off',ha,_,hr⟩:=h (by rintro rfl;simp at hv);injection ha with ha;injection ha with e1 e2 _;subst e1;subst e2;exact hr i v hv
def VS.setOwn(s:VS)(O:List (Nat×List Value)):VS:=⟨s.tmps,s.boxes,O,s.maps⟩
section
variable{T:Tb}{P:Program}{fin:VS→List aC→Prop}{c:fF}{Γ:List aC}
theorem gY(D:List Nat){α:Type}(N:List Nat)(V:α→List (Nat×Value))(X:α→List (Nat×List Value))(O:α→List (Nat×List Value))(G:α→List aC)(inv:α→Prop)(μ:α→Nat)(a0:α)
  
  
  (i0:inv a0)(f0:∀I w,bj T I w→aD Γ I w→aD (G a0) I w)
  (hr:∀(a:α) (R:VS→List aC→Prop),inv a→
   (∀(D':List Nat) (c':fF) (Γ':List aC) (a':α),kD (aE T (aV T D' 999 c'))=some R→
    (kE (aE T (aV T D' 999 c'))).map (jG (aE T (aV T D 999 c)) N)=some ((((jG (aE T (aV T D 999 c)) N (mN (aE T (aV T D 999 c)))).puts (V a')).boxs (X a')).setOwn (O a'))→
    inv a'→μ a'<μ a→(∀I w,bj T I w→aD Γ' I w→aD (G a') I w)→W T P fin c' Γ')→
   W T P fin ⟨(((jG (aE T (aV T D 999 c)) N (mN (aE T (aV T D 999 c)))).puts (V a)).boxs (X a)).setOwn (O a),.code (tP (aE T (aV T D 999 c)))::.again R::Dl (aE T (aV T D 999 c))⟩ (G a))(h:oB (aE T (aV T D 999 c))=true:=by kernel_rfl)(h0:jG (aE T (aV T D 999 c)) N (mN (aE T (aV T D 999 c)))=(((jG (aE T (aV T D 999 c)) N (mN (aE T (aV T D 999 c)))).puts (V a0)).boxs (X a0)).setOwn (O a0):=by kernel_rfl):W T P fin c Γ:=by
 refine ez D 999 ?_;generalize aV T D 999 c=c1 at*;generalize he:aE T c1=e at*;cases e with
 |loop b c'=>
  generalize hst:jG (Ev.loop b c') N (mN (Ev.loop b c'))=S at*;have key:∀(m:Nat) (s:VS) (Γ':List aC),(∃a,jG (Ev.loop b c') N s=((S.puts (V a)).boxs (X a)).setOwn (O a)∧inv a∧μ a=m∧∀I w,bj T I w→aD Γ' I w→aD (G a) I w)→
    W T P fin ⟨s,.code b::.again (fun s' Γ'=>∃m',m'<m∧∃a,jG (Ev.loop b c') N s'=((S.puts (V a)).boxs (X a)).setOwn (O a)∧inv a∧μ a=m'∧∀I w,bj T I w→aD Γ' I w→aD (G a) I w)::c'.k⟩ Γ':=by
   rintro m s Γ' ⟨a,hs,hi,rfl,hf⟩;refine W.forget (iD N (kq b)) (jA b) rfl ?_;rw[show s.forget (iD N (kq b)) (jA b)=((S.puts (V a)).boxs (X a)).setOwn (O a)from hs];refine W.sub rfl hf (hr a _ hi (fun D' c' Γ' a' hR hS hi' hl' hf'=>ez D' 999 ?_));generalize aV T D' 999 c'=c2 at*;cases hv:aE T c2<;>rw[hv]at hR hS<;>simp[kD,kE]at hR hS;subst hR;exact W.again hv ⟨μ a',hl',a',hS,hi',rfl,hf'⟩
  refine W.loop (fun m s Γ'=>∃a,jG (Ev.loop b c') N s=((S.puts (V a)).boxs (X a)).setOwn (O a)∧inv a∧μ a=m∧∀I w,bj T I w→aD Γ' I w→aD (G a) I w) (μ a0) he ⟨a0,?_,i0,rfl,f0⟩ key;rw[←h0];exact hst
 |_=>simp[oB]at h
theorem j5(D:List Nat)(n:Nat)
  (hk:W T P fin ⟨mN (aE T (aV T D 999 c)),.rnd n (tP (aE T (aV T D 999 c)))::Dl (aE T (aV T D 999 c))⟩ Γ)(h:oB (aE T (aV T D 999 c))=true:=by kernel_rfl):W T P fin c Γ:=by
 refine ez D 999 ?_;generalize aV T D 999 c=c1 at*;generalize he:aE T c1=e at*;cases e with
 |loop b c'=>exact W.un n he hk
 |_=>simp[oB]at h
end
theorem Jd{T:Tb}{P:Program}{f:FuncId}{args:List Value}{Γ:List aC}(h:aw T P f args Γ (fun v Δ=>v=.bool true∧Δ=[]))(w:World)(hh:aD Γ (fun _=>True) w):Calls P f args.toArray w fun e w'=>e=.returned (.bool true)∧Below w.heap.size w w':=by
 refine(h.2 (fun _=>True) w (fun _ _ _ _ _ _=>trivial) hh).mono ?_;rintro e w' ⟨v,Δ,rfl,⟨rfl,rfl⟩,hb,_⟩;exact⟨rfl,hb⟩
section
open Go.ChangeShapes Go.WideShapes
theorem vL{H:Type}{enc:TypeId×Value→H}{P:Program}(hl:laidOutB P=true){W W':World}(hb:Below W.heap.size W W'){sp:Nat→Bool}:
  ∀{ts:List TypeId} {vs:List Value} {ds:List (DataW H)} {ps:List MemPlace},(ts.all fun t=>P.readableRec t&&decide (t<P.types.size))=true→DataW.TrodAll enc P W 0 (fun _=>true) true ts vs ds ps→
   (∀x∈ps,x.block<W.heap.size)→(∀x∈ps,sp x.block=true)→DataW.TrodAll enc P W' 0 sp true ts vs ds ps
 | [],[],[],ps,_,h,_,_=>h
 |t::ts,v::vs,d::ds,ps,hr,h,hlt,hsp=>by
  obtain⟨p,q,h1,h2,rfl⟩:=h;simp only[List.all_cons,aK,cY]at hr;refine⟨p,q,?_,vL hl hb hr.2 h2 (fun x hx=>hlt x (iH _ hx)) (fun x hx=>hsp x (iH _ hx)),rfl⟩;exact WideElems.Trod_stays hl hr.1.1 hr.1.2 h1 (fun x hx=>hb.same (hlt x (gU _ hx))) (fun x hx=>hsp x (gU _ hx))
 | [],[],_::_,_,_,h,_,_=>h.elim
 | [],_::_,_,_,_,h,_,_=>by cases ‹List (DataW H)› <;>exact h.elim
 |_::_,[],_,_,_,h,_,_=>by cases ‹List (DataW H)› <;>exact h.elim
 |_::_,_::_,[],_,_,h,_,_=>h.elim
end
structure kV(α:Type) where
 z:Nat
 cells:α→List Value
 len:∀e,(cells e).length=z
 fact:Nat→α→aC
def OL{α:Type}(R:kV α)(ao:Option Addr)(a:Nat×List α):aC where
 p I w:=(∀e∈a.2,(R.fact a.1 e).p I w)∧(RA ao (a.2.flatMap R.cells)).p I w
 up:=by
  rintro I I' w w' ⟨h,hb⟩ h1 h2 h3;exact⟨fun e he=>(R.fact a.1 e).up (h e he) h1 h2 h3,(RA ao _).up hb h1 h2 h3⟩
def OS{α:Type}(R:kV α)(a:Nat×List α):aC where
 p I w:=∀e∈a.2,(R.fact a.1 e).p I w
 up:=by
  rintro I I' w w' h h1 h2 h3;exact fun e he=>(R.fact a.1 e).up (h e he) h1 h2 h3
theorem qp{α:Type}(R:kV α):∀l:List α,(l.flatMap R.cells).length=l.length*R.z
 | []=>by simp
 |e::r=>by rw[bB,aA,R.len,qp R r,aB,eD];omega
theorem E8{α:Type}(R:kV α){l:List α}:∀{k:Nat} (h:k<l.length) (j:Nat) (v:Value),(R.cells (l[k]'h))[j]? =some v→(l.flatMap R.cells)[k*R.z+j]? =some v:=by
 induction l with
 |nil=>intro k h;simp at h
 |cons e r ih=>
  intro k h j v hv;cases k with
  |zero=>
   simp only[List.getElem_cons_zero]at hv;have hj:j<R.z:=by rw[←R.len e];exact(List.getElem?_eq_some_iff.1 hv).1
   rw[bB,cZ (by rw[R.len];omega),show 0*R.z+j=j by omega];exact hv
  |succ k=>
   simp only[List.getElem_cons_succ]at hv;rw[bB,ec (by rw[R.len,eD];omega),show(k+1)*R.z+j-(R.cells e).length=k*R.z+j by rw[R.len,eD];omega];exact ih (by simpa using h) j v hv
section
variable{T:Tb}{P:Program}{fin:VS→List aC→Prop}{c:fF}{Γ:List aC}
theorem abE{α:Type}(R:kV α)(ao:Option Addr){L:Nat}{l:List α} [h:aZ (OL R ao) (L,l) Γ](k:Nat)(hk:k<l.length)(hm:dF c.k=false)(hz:0<R.z)
  (hc:∀b off,ao=some ⟨b,off,none⟩→W T P fin c (R.fact L (l[k]'hk)::Γ)):W T P fin c Γ:=
 W.elim (α:=Nat×Nat) (fun b=>ao=some ⟨b.1,b.2,none⟩) (fun b=>[R.fact L (l[k]'hk)]) hm (fun I w _ hh=>by
  obtain⟨g1,g2⟩:=h.p hh;obtain⟨b,off,ha,_⟩:=g2 (by
   intro e;have:=qp R l;simp only at e;rw[e]at this;have h2:0<l.length*R.z:=iw (by omega) hz;simp at this;omega)
  exact⟨(b,off),ha,aT (g1 _ (d_ hk))⟩) (fun b hb=>hc b.1 b.2 hb)
theorem JW{α:Type}(R:kV α)(b off:Nat){L:Nat}{l:List α} [h:aZ (OL R (some ⟨b,off,none⟩)) (L,l) Γ](k:Nat)(hk:k<l.length):∀I w,bj T I w→aD Γ I w→∀j v,(R.cells (l[k]'hk))[j]? =some v→w.cell? ⟨b,off+k*R.z+j,none⟩=some v:=fun I w _ hh j v hv=>by
 obtain⟨_,g2⟩:=h.p hh;rw[g_];exact RA.cell g2 (E8 R hk j v hv)
theorem IC(ao:Option Addr){xs:List Value} [h:aZ (RA ao) xs Γ](hm:dF c.k=false)(hne:xs≠ [])(hc:∀b off,ao=some ⟨b,off,none⟩→W T P fin c Γ):W T P fin c Γ:=
 W.elim (α:=Nat×Nat) (fun b=>ao=some ⟨b.1,b.2,none⟩) (fun b=>[]) hm (fun I w _ hh=>by
  obtain⟨b,off,ha,_⟩:=h.p hh hne;exact⟨(b,off),ha,aD.nil _ _⟩) (fun b hb=>hc b.1 b.2 hb)
theorem cg(b:Nat){cs:List Value} [h:aZ (eT b) cs Γ](own:List (Nat×List Value))(m z:Nat)(hl:cs.length=m*z)(c:Nat):pY T Γ own (.slice (some ⟨b,0,none⟩) m c) m z cs:=
 ⟨some ⟨b,0,none⟩,c,rfl,hl,fun _=>⟨⟨b,0,none⟩,rfl,fun I w _ hh _ j u hu=>by
  rw[gZ,oY (h.p hh),bU];exact hu⟩⟩
theorem B7(ao:Option Addr){xs:List Value} [h:aZ (RA ao) xs Γ](own:List (Nat×List Value))(m z c:Nat)(hl:xs.length=m*z)(ha:0<m→∃b off,ao=some ⟨b,off,none⟩):pY T Γ own (.slice ao m c) m z xs:=
 ⟨ao,c,rfl,hl,fun hm=>by
  obtain⟨b,off,rfl⟩:=ha hm;exact⟨⟨b,off,none⟩,rfl,fun I w _ hh _ j u hu=>by
   rw[gZ];exact RA.cell (h.p hh) hu⟩⟩
theorem VK{s:VS}{k:List It}{z n:Nat}{O:List (Nat×List Value)}{v:Value}{xs:List Value}(hs:s.own=O)(hg:cH z O v n xs)(hm:dF k=false)
  (hk:∀ao c,v=.slice ao n c→W T P fin ⟨⟨s.tmps,s.boxes,[],s.maps⟩,k⟩ (RA ao xs::Γ)):W T P fin ⟨s,k⟩ Γ:=by
 obtain⟨hl,hg⟩:=hg;rcases hg with⟨rfl,rfl,rfl⟩|⟨g,cap,cur,rfl,rfl,hnc,hcm,hcs,htk⟩
 ·obtain rfl:xs=[]:=aL (by simpa using hl);obtain⟨tm,bx,ow⟩:=s;simp only at hs;subst hs;exact W.elim (α:=Unit) (fun _=>True) (fun _=>[RA none []]) hm (fun I w _ hh=>⟨(),trivial,aT (RA.nil _ _ _)⟩) (fun _ _=>hk none 0 rfl)
 ·refine W.pub (O1:=[]) (O2:=[]) (b:=g) (cs:=cur) hm hs (W.elim (α:=Unit) (fun _=>True) (fun _=>[RA (some ⟨g,0,none⟩) xs]) hm (fun I w _ hh=>⟨(),trivial,aT (RA.of_row hh.h0' fun i v hv=>?_)⟩) (fun _ _=>?_))
  ·rw[←htk,dz]at hv;split at hv
   ·exact hv
   ·simp at hv
  ·refine W.sub hm (fun I w _ hh=>?_) (hk _ _ rfl);exact aD.cons hh.h0' (fun F hF=>hh F (by simp[hF]))
end
def vY(x y:Rat):Int:=if x<y then-1 else if x=y then 0 else 1
def Vg(q:Rat):Int:=q.num/q.den
theorem SR{x y:Int}(hy:0<y):(Rat.divInt x y).num=x/(Nat.gcd x.natAbs y.natAbs:Nat)∧((Rat.divInt x y).den:Int)=y/(Nat.gcd x.natAbs y.natAbs:Nat):=by
 have hg:Int.gcd y x=Nat.gcd x.natAbs y.natAbs:=by rw[Int.gcd_comm];rfl
 refine⟨?_,?_⟩
 ·rw[Rat.num_divInt,hg,gf hy,Int.one_mul]
 ·rw[Rat.den_divInt,if_neg (by omega),hg,kZ,show((y.natAbs:Nat):Int)=y by omega]
theorem SQ{x y:Int}(hy:y<0):(Rat.divInt x y).num= -(x/(Nat.gcd x.natAbs y.natAbs:Nat))∧((Rat.divInt x y).den:Int)= -(y/(Nat.gcd x.natAbs y.natAbs:Nat)):=by
 have hg:Int.gcd y x=Nat.gcd x.natAbs y.natAbs:=by rw[Int.gcd_comm];rfl
 have d1:((Nat.gcd x.natAbs y.natAbs:Nat):Int)∣x:=Int.ofNat_dvd_left.2 (Nat.gcd_dvd_left _ _);have d2:((Nat.gcd x.natAbs y.natAbs:Nat):Int)∣y:=Int.ofNat_dvd_left.2 (Nat.gcd_dvd_right _ _);refine⟨?_,?_⟩
 ·rw[Rat.num_divInt,hg,jS hy,Int.neg_one_mul,Int.neg_ediv_of_dvd d1]
 ·rw[Rat.den_divInt,if_neg (by omega),hg,kZ,show((y.natAbs:Nat):Int)= -y by omega,Int.neg_ediv_of_dvd d2]
theorem y5{x:Int}{g:Nat}(h:(g:Int)∣x)(hg:0<g):(x/(g:Int)).natAbs≤x.natAbs:=by
 obtain⟨k,rfl⟩:=h;rw[Int.mul_ediv_cancel_left _ (by omega),cL];show k.natAbs≤g*k.natAbs;exact Nat.le_mul_of_pos_left _ hg
theorem gI(q:Rat):(0:Int)<q.den:=by
 have:=q.den_pos;omega
theorem Qu(a b:Rat):Rat.divInt (a.num*b.den+b.num*a.den) (a.den*b.den)=a+b:=by
 rw[Rat.add_def',←dQ,Rat.divInt_ofNat]
theorem Qv(a b:Rat):Rat.divInt (a.num*b.num) (a.den*b.den)=a*b:=by
 rw[Rat.mul_def',←dQ,Rat.divInt_ofNat]
theorem aaR(a b:Rat):Rat.divInt (a.num*b.den) (a.den*b.num)=a/b:=by
 rw[lz]
 conv=>rhs;rw[←lG a,←lG b,Rat.inv_divInt,l7]
theorem oX(x:Int):Rat.divInt x 1=(x:Rat):=by
 rw[show(1:Int)=((1:Nat):Int)from rfl,Rat.divInt_ofNat,Rat.mkRat_one]
theorem xI{n d:Int}{q:Rat}(hd:0<d)(h:q=Rat.divInt n d):∃g:Int,0<g∧n=q.num*g∧d=q.den*g:=by
 obtain⟨hn,hdd⟩:=(show(Rat.divInt n d).num=n/(Nat.gcd n.natAbs d.natAbs:Nat)∧((Rat.divInt n d).den:Int)=d/(Nat.gcd n.natAbs d.natAbs:Nat)by
  have hg:Int.gcd d n=Nat.gcd n.natAbs d.natAbs:=by rw[Int.gcd_comm];rfl
  refine⟨?_,?_⟩
  ·rw[Rat.num_divInt,hg,gf hd,Int.one_mul]
  ·rw[Rat.den_divInt,if_neg (by omega),hg,kZ,show((d.natAbs:Nat):Int)=d by omega])
 subst h;have hgp:0<Nat.gcd n.natAbs d.natAbs:=Nat.gcd_pos_of_pos_right _ (by omega);refine⟨(Nat.gcd n.natAbs d.natAbs:Nat),by omega,?_,?_⟩
 ·rw[hn];exact(Int.ediv_mul_cancel (Int.ofNat_dvd_left.2 (Nat.gcd_dvd_left _ _))).symm
 ·rw[hdd];exact(Int.ediv_mul_cancel (Int.ofNat_dvd_left.2 (Nat.gcd_dvd_right _ _))).symm
theorem IS{n d m e:Int}{a b:Rat}(hd:0<d)(he:0<e)(ha:a=Rat.divInt n d)(hb:b=Rat.divInt m e):rN (n*e) (m*d)=vY a b:=by
 obtain⟨g,hg,rfl,rfl⟩:=xI hd ha;obtain⟨k,hk,rfl,rfl⟩:=xI he hb;have e1:a.num*g*(b.den*k)=(a.num*b.den)*(g*k):=by grind
 have e2:b.num*k*(a.den*g)=(b.num*a.den)*(g*k):=by grind
 have hgk:0<g*k:=Int.mul_pos hg hk;have h1:(a.num*b.den*(g*k)<b.num*a.den*(g*k))↔a<b:=by
  rw[Rat.lt_iff];exact⟨fun h=>Int.lt_of_mul_lt_mul_right h (qy hgk),fun h=>Int.mul_lt_mul_of_pos_right h hgk⟩
 have h2:(a.num*b.den*(g*k)=b.num*a.den*(g*k))↔a=b:=by
  rw[Int.mul_eq_mul_right_iff (by omega),Rat.eq_iff_mul_eq_mul]
 unfold rN vY;rw[e1,e2];simp only[h1,h2]
theorem IT(a b:Rat):rN (a.num*b.den) (b.num*a.den)=vY a b:=IS (gI a) (gI b) (lG a).symm (lG b).symm
theorem HU{q:Rat}:q.num.sign=vY q 0:=by
 unfold vY;by_cases h:q<0
 ·rw[if_pos h];rw[Rat.lt_iff]at h;exact jS (by simpa using h)
 ·rw[if_neg h];by_cases h0:q=0
  ·rw[if_pos h0,h0];rfl
  ·rw[if_neg h0];rw[Rat.lt_iff]at h;have:q.num≠0:=fun e=>h0 (Rat.num_eq_zero.1 e);have h:¬q.num<0:=by simpa using h
   exact gf (by omega)
abbrev qv(n:Sl)(nb:Bool)(d:Sl)(db:Bool):Value:=.agg #[.slice n.ao n.n n.c,.bool nb,.slice d.ao d.n d.c,.bool db]
abbrev pv(S:Int)(s:Sl)(R:Int)(t:Sl):Value:=.agg #[.int .i64 S,.slice s.ao s.n s.c,.int .i64 R,.slice t.ao t.n t.c]
def adB(s:ByteArray):Nat:=(bs s).findIdx (· ==47)
def over(s:ByteArray):ByteArray:=s.extract 0 (adB s)
def QF(n:Sl)(nb:Bool)(d:Sl)(db:Bool)(a:Nat×Rat):aC where
 p I w:=∃y:Int,(ZF n nb (a.1,a.2.num)).p I w∧(ZF d db (a.1,y)).p I w∧(y=a.2.den∨(y=0∧a.2.den=1))
 up:=by
  rintro I I' w w' ⟨y,h,h',hy⟩ h1 h2 h3;exact⟨y,(ZF n nb _).up h h1 h2 h3,(ZF d db _).up h' h1 h2 h3,hy⟩
def s9(L:Nat)(q:Rat)(v:Value)(Δ:List aC):Prop:=∃(n:Sl) (nb:Bool) (d:Sl) (db:Bool),v=qv n nb d db∧Δ=[QF n nb d db (L,q)]
def Uc(L:Nat)(q:Rat)(v:Value)(Δ:List aC):Prop:=∃(n:Sl) (nb:Bool) (d:Sl) (db:Bool),v=.tuple #[qv n nb d db,.int .i64 0]∧Δ=[QF n nb d db (L,q)]
section
variable{fin:VS→List aC→Prop}{Γ:List aC}{L M:Nat}
theorem Zd{P:Program}{c:fF}(n:Sl)(nb:Bool)(d:Sl)(db:Bool){q:Rat} [h:aZ (QF n nb d db) (L,q) Γ](hm:dF c.k=false)
  (hk:∀y:Int,(y=q.den∨(y=0∧q.den=1))→W tb P fin c (ZF n nb (L,q.num)::ZF d db (L,y)::Γ)):W tb P fin c Γ:=
 W.elim (α:=Int) (fun y=>y=q.den∨(y=0∧q.den=1)) (fun y=>[ZF n nb (L,q.num),ZF d db (L,y)]) hm (fun I w _ hh=>by
  obtain⟨y,h1,h2,h3⟩:=h.p hh;exact⟨y,h3,aD.cons h1 (aT h2)⟩) hk
theorem Ax{P:Program}{c:fF}(n:Sl)(nb:Bool)(d:Sl)(db:Bool){q:Rat} [h:aZ (QF n nb d db) (L,q) Γ](hm:dF c.k=false)
  (hk:W tb P fin c (ZF n nb (L,q.num)::Γ)):W tb P fin c Γ:=
 W.elim (α:=Unit) (fun _=>True) (fun _=>[ZF n nb (L,q.num)]) hm (fun I w _ hh=>by
  obtain⟨y,h1,h2,h3⟩:=h.p hh;exact⟨(),trivial,aT h1⟩) (fun _ _=>hk)
theorem pq{n d:Sl}{nb db:Bool}{L':Nat}{q q':Rat} [h:aZ (QF n nb d db) (L,q) Γ](hq:q=q')(hL:L≤L':=by omega):∀(I:gd) (w:World),bj tb I w→aD Γ I w→aD [QF n nb d db (L',q')] I w:=fun I w _ hh=>by
 subst hq;obtain⟨y,⟨⟨h1,h2,h3⟩,h4⟩,⟨⟨g1,g2,g3⟩,g4⟩,hy⟩:=h.p hh;exact aT ⟨y,⟨⟨h1,h2,aP h3 hL⟩,h4⟩,⟨⟨g1,g2,aP g3 hL⟩,g4⟩,hy⟩
theorem Kj{n d:Sl}{nb db:Bool}{L':Nat}{x y:Int}{q:Rat} [h:aZ (ZF n nb) (L,x) Γ] [h':aZ (ZF d db) (M,y) Γ](hx:x=q.num)(hy:y=q.den∨(y=0∧q.den=1))(hL:L≤L':=by omega)(hM:M≤L':=by omega):∀(I:gd) (w:World),bj tb I w→aD Γ I w→aD [QF n nb d db (L',q)] I w:=fun I w _ hh=>by
 subst hx;obtain⟨⟨h1,h2,h3⟩,h4⟩:=h.p hh;obtain⟨⟨g1,g2,g3⟩,g4⟩:=h'.p hh;exact aT ⟨y,⟨⟨h1,h2,aP h3 hL⟩,h4⟩,⟨⟨g1,g2,aP g3 hM⟩,g4⟩,hy⟩
theorem mK{L':Nat}:∀(I:gd) (w:World),bj tb I w→aD Γ I w→aD [QF ⟨none,0,0⟩ false ⟨none,0,0⟩ false (L',0)] I w:=fun I w hd hh=>
 aT ⟨0,(zT (L':=L') I w hd hh).h0',(zT (L':=L') I w hd hh).h0',.inr ⟨rfl,rfl⟩⟩
theorem ZA{I:gd}{w:World}{u t:Sl}{d c:Bool}{L M L':Nat}{x y:Int}(h:(ZF u d (L,x)).p I w)(h':(ZF t c (M,y)).p I w)(hx:x.natAbs≤y.natAbs)(hL:M≤L'):(ZF u d (L',x)).p I w:=by
 obtain⟨⟨h1,h2,h3⟩,h4⟩:=h;obtain⟨⟨g1,g2,g3⟩,g4⟩:=h';have h1:dV w u x.natAbs:=h1;have g1:dV w t y.natAbs:=g1;have:=h1.n_le g1 hx;simp only at g3;exact⟨⟨h1,h2,by simp only;omega⟩,h4⟩
theorem UD{n d u t:Sl}{nb db ub tb':Bool}{L' L1 M1:Nat}{x y a b:Int}{q:Rat} [h1:aZ (ZF u ub) (L1,a) Γ] [h2:aZ (ZF t tb') (M1,b) Γ] [h3:aZ (ZF n nb) (L,x) Γ] [h4:aZ (ZF d db) (M,y) Γ]
  (ha:a=q.num)(hb:b=q.den)(hx:a.natAbs≤x.natAbs:=by omega)(hy:b.natAbs≤y.natAbs:=by omega)(hL:L≤L':=by omega)(hM:M≤L':=by omega):∀(I:gd) (w:World),bj tb I w→aD Γ I w→aD [QF u ub t tb' (L',q)] I w:=fun I w _ hh=>by
 refine aT ⟨b,?_,ZA (h2.p hh) (h4.p hh) hy hM,.inl hb⟩;rw[←ha];exact ZA (h1.p hh) (h3.p hh) hx hL
theorem yD(n:Sl)(nb:Bool)(d:Sl)(db:Bool){x y:Int} [hn:aZ (ZF n nb) (L,x) Γ] [hd:aZ (ZF d db) (M,y) Γ](hy:y≠0)(hL:L≤1000000000:=by omega)(hM:M≤1000000000:=by omega):
  aw tb Tryz.prog 215 [zv n nb,zv d db] Γ (s9 (max L M) (Rat.divInt x y)):=by
 have hgp:0<Nat.gcd x.natAbs y.natAbs:=Nat.gcd_pos_of_pos_right _ (by omega);have d1:((Nat.gcd x.natAbs y.natAbs:Nat):Int)∣x:=Int.ofNat_dvd_left.2 (Nat.gcd_dvd_left _ _);have d2:((Nat.gcd x.natAbs y.natAbs:Nat):Int)∣y:=Int.ofNat_dvd_left.2 (Nat.gcd_dvd_right _ _);have b1:=y5 d1 hgp;have b2:=y5 d2 hgp;have l1:=fun h=>SR (x:=x) (y:=y) h;have l2:=fun h=>SQ (x:=x) (y:=y) h;obtain⟨g,hg⟩:∃g,g=Nat.gcd x.natAbs y.natAbs:=⟨_,rfl⟩;rw[←hg]at hgp d1 d2 b1 b2 l1 l2;have hs:(y/(g:Int)).sign=y.sign:=by
  obtain⟨k,hk⟩:=d2;rw[hk,Int.mul_ediv_cancel_left _ (by omega),Int.sign_mul,show(g:Int).sign=1 from gf (by omega),Int.one_mul]
 refine aw.of_W au Tryz.func215 rfl (W.c0 [] (BM n nb) (W.c0 [] (BM d db) (W.c1 [] (aaG n d) (fun u3=>?_))));rw[←hg];refine W.c1 [] (Dv 1 1 rfl) (fun u4=>W.c0 [] (PS u3 u4) (W.d [] 16 ((mY g 1) != 0) (fun hb=>?_) (fun hb=>?_)))
 ·refine bR [16] (wu u3) (fun u6 d6=>bz [] (pM n nb u6 d6 (by omega)) (fun u7 d7 v7 e7=>bR [] (wu u3) (fun u8 d8=>bz [] (pM d db u8 d8 (by omega)) (fun u9 d9 v9 e9=>W.c0 [] (nJ u9 d9) ?_))));rw[hs];by_cases hn0:y<0
  ·refine bh [] 35 (decide (y.sign<0)) (by rw[fV,Ai];exact hn0) (bR [35] (se u7 d7) (fun u11 d11=>bR [] (se u9 d9) (fun u12 d12=>W.r [] (qv u11 d11 u12 d12) ⟨_,_,_,_,rfl,rfl⟩ (UD (n:=n) (nb:=nb) (d:=d) (db:=db) (l2 hn0).1.symm (l2 hn0).2.symm))))
  ·refine aO [] 35 (decide (y.sign<0)) (by rw[aW,Ai];exact hn0) (W.r [35] (qv u7 d7 u9 d9) ⟨_,_,_,_,rfl,rfl⟩ (UD (n:=n) (nb:=nb) (d:=d) (db:=db) (l1 (by omega)).1.symm (l1 (by omega)).2.symm))
 ·have hg1:g=1:=by
   have:=eq_of_beq (show mY g 1==0 by simpa using hb);rw[NK,Eh]at this;omega
  subst hg1;simp only[Int.natCast_one,Int.ediv_one,Int.cast_ofNat_Int]at l1 l2;refine W.c0 [16] (nJ d db) ?_;by_cases hn0:y<0
  ·refine bh [] 35 (decide (y.sign<0)) (by rw[fV,Ai];exact hn0) (bR [35] (se n nb) (fun u14 d14=>bR [] (se d db) (fun u15 d15=>W.r [] (qv u14 d14 u15 d15) ⟨_,_,_,_,rfl,rfl⟩ (Kj (l2 hn0).1.symm (.inl (l2 hn0).2.symm)))))
  ·refine aO [] 35 (decide (y.sign<0)) (by rw[aW,Ai];exact hn0) (W.r [35] (qv n nb d db) ⟨_,_,_,_,rfl,rfl⟩ (Kj (l1 (by omega)).1.symm (.inl (l1 (by omega)).2.symm)))
theorem z9(n:Sl)(nb:Bool)(d:Sl)(db:Bool){x y:Int} [hn:aZ (ZF n nb) (L,x) Γ] [hd:aZ (ZF d db) (M,y) Γ](hy:y≠0)(hL:L≤1000000000:=by omega)(hM:M≤1000000000:=by omega):
  aw tb Tryz.prog 197 [zv n nb,zv d db] Γ (Uc (max L M) (Rat.divInt x y)):=by
 refine aw.of_W au Tryz.func197 rfl (W.c0 [] (nJ d db) (aO [] 8 (y.sign==0) (by rw[cP,ne_eq,yR];exact hy) (bz [8] (yD n nb d db hy) (fun n2 a2 m2 b2=>W.r [] (.tuple #[qv n2 a2 m2 b2,.int .i64 0]) ⟨_,_,_,_,rfl,rfl⟩ (pq (hL:=(aj _)) rfl)))))
theorem BH(a b:Int)(hb:b≠0:=by omega)(h1: -9223372036854775808≤a:=by omega)(h2:a<9223372036854775808:=by omega)(h3: -9223372036854775808≤b:=by omega)(h4:b<9223372036854775808:=by omega):
  aw tb Tryz.prog 154 [.int .i64 a,.int .i64 b] Γ (Uc 2 (Rat.divInt a b)):=by
 refine aw.of_W au Tryz.func154 rfl (bR [] (dW a (h1:=h1) (h2:=h2)) (fun u1 d1=>bR [] (dW b (h1:=h3) (h2:=h4)) (fun u2 d2=>bz [] (z9 u1 d1 u2 d2 hb) (fun n3 a3 m3 b3=>W.r [] (.tuple #[qv n3 a3 m3 b3,.int .i64 0]) ⟨_,_,_,_,rfl,rfl⟩ (pq rfl)))))
theorem cD(n:Sl)(nb:Bool){x:Int} [hn:aZ (ZF n nb) (L,x) Γ]:
  aw tb Tryz.prog 130 [zv n nb] Γ (s9 (max L 2) (x:Rat)):=by
 refine aw.of_W au Tryz.func130 rfl (bR [] (dW 1) (fun u1 d1=>W.r [] (qv n nb u1 d1) ⟨_,_,_,_,rfl,rfl⟩ (Kj rfl (.inl rfl))))
theorem P_(n:Sl)(nb:Bool)(d:Sl)(db:Bool){q:Rat} [hn:aZ (QF n nb d db) (L,q) Γ]:
  aw tb Tryz.prog 273 [qv n nb d db] Γ (o9 L q.num):=by
 refine aw.of_W au Tryz.func273 rfl (Ax n nb d db rfl (W.r [] (zv n nb) ⟨_,_,rfl,rfl⟩ (lj (hL:=(aj _)) rfl)))
theorem np(n:Sl)(nb:Bool)(d:Sl)(db:Bool){q:Rat} [hn:aZ (QF n nb d db) (L,q) Γ](hL:L≤1000000000:=by omega):
  aw tb Tryz.prog 138 [qv n nb d db] Γ (o9 (max L 2) (q.den:Int)):=by
 refine aw.of_W au Tryz.func138 rfl (Zd n nb d db rfl ?_);rintro y hy;refine W.c0 [] (nJ d db) ?_;have hp:=gI q;refine W.d [] 6 (y.sign==0) (fun hb=>?_) (fun hb=>?_)
 ·have h0:=yR.1 (eq_of_beq hb);refine bR [6] (dW 1) (fun u2 d2=>W.r [] (zv u2 d2) ⟨_,_,rfl,rfl⟩ (lj (by omega)))
 ·have h0:y≠0:=fun h=>(jv hb) (yR.2 h);exact W.r [6] (zv d db) ⟨_,_,rfl,rfl⟩ (lj (by omega))
theorem nH(n:Sl)(nb:Bool)(d:Sl)(db:Bool){q:Rat} [hn:aZ (QF n nb d db) (L,q) Γ](hL:L≤1000000000:=by omega):
  aw tb Tryz.prog 137 [qv n nb d db] Γ (jy (.int .i64 q.num.sign)):=by
 refine aw.of_W au Tryz.func137 rfl (Ax n nb d db rfl (W.c0 [] (nJ n nb) (W.r [] (.int .i64 (q.num).sign) ⟨rfl,rfl⟩ bX)))
theorem Xz(n:Sl)(nb:Bool)(d:Sl)(db:Bool)(m:Sl)(mb:Bool)(e:Sl)(eb:Bool){a b:Rat} [hn:aZ (QF n nb d db) (L,a) Γ] [hm:aZ (QF m mb e eb) (M,b) Γ](hL:L≤1000000:=by omega)(hM:M≤1000000:=by omega):
  aw tb Tryz.prog 275 [qv n nb d db,qv m mb e eb] Γ (jy (.int .i64 (vY a b))):=by
 refine aw.of_W au Tryz.func275 rfl (Ax n nb d db rfl (Ax m mb e eb rfl (bR [] (np m mb e eb) (fun u1 d1=>bR [] (mz n nb u1 d1) (fun u2 d2=>bR [] (np n nb d db) (fun u3 d3=>bR [] (mz m mb u3 d3) (fun u4 d4=>W.c0 [] (EU u2 d2 u4 d4) (W.r [] (.int .i64 (rN (a.num*(b.den:Int)) (b.num*(a.den:Int)))) ⟨by rw[IT],rfl⟩ bX))))))))
theorem pK(n:Sl)(nb:Bool)(d:Sl)(db:Bool){q:Rat} [hn:aZ (QF n nb d db) (L,q) Γ](hL:L≤1000000000:=by omega):
  aw tb Tryz.prog 191 [qv n nb d db] Γ (s9 L (-q)):=by
 refine aw.of_W au Tryz.func191 rfl (Zd n nb d db rfl ?_);rintro y hy;refine bR [] (se n nb) (fun u1 d1=>W.r [] (qv u1 d1 d db) ⟨_,_,_,_,rfl,rfl⟩ (Kj (by rw[Rat.neg_num]) (by rw[Rat.neg_den];exact hy)))
theorem fz(n:Sl)(nb:Bool)(d:Sl)(db:Bool)(m:Sl)(mb:Bool)(e:Sl)(eb:Bool){a b:Rat} [hn:aZ (QF n nb d db) (L,a) Γ] [hm:aZ (QF m mb e eb) (M,b) Γ](hL:L≤1000000:=by omega)(hM:M≤1000000:=by omega):
  aw tb Tryz.prog 155 [qv n nb d db,qv m mb e eb] Γ (s9 (L+M+5) (a+b)):=by
 refine aw.of_W au Tryz.func155 rfl (Ax n nb d db rfl (Ax m mb e eb rfl (bR [] (np m mb e eb) (fun u1 d1=>bR [] (mz n nb u1 d1) (fun u2 d2=>bR [] (np n nb d db) (fun u3 d3=>bR [] (mz m mb u3 d3) (fun u4 d4=>bR [] (mw u2 d2 u4 d4) (fun u5 d5=>bR [] (np n nb d db) (fun u6 d6=>bR [] (np m mb e eb) (fun u7 d7=>bR [] (mz u6 d6 u7 d7) (fun u8 d8=>?_)))))))))));refine bz [] (yD u5 d5 u8 d8 (kj (by have:=gI a;omega) (by have:=gI b;omega))) (fun n9 a9 m9 b9=>W.r [] (qv n9 a9 m9 b9) ⟨_,_,_,_,rfl,rfl⟩ (pq (Qu a b)))
theorem EO(n:Sl)(nb:Bool)(d:Sl)(db:Bool)(m:Sl)(mb:Bool)(e:Sl)(eb:Bool){a b:Rat} [hn:aZ (QF n nb d db) (L,a) Γ] [hm:aZ (QF m mb e eb) (M,b) Γ](hL:L≤1000000:=by omega)(hM:M≤1000000:=by omega):
  aw tb Tryz.prog 255 [qv n nb d db,qv m mb e eb] Γ (s9 (L+M+5) (a-b)):=by
 refine aw.of_W au Tryz.func255 rfl (bz [] (pK m mb e eb) (fun n1 a1 m1 b1=>bz [] (fz n nb d db n1 a1 m1 b1) (fun n2 a2 m2 b2=>W.r [] (qv n2 a2 m2 b2) ⟨_,_,_,_,rfl,rfl⟩ (pq (Rat.sub_eq_add_neg _ _).symm))))
theorem bY(n:Sl)(nb:Bool)(d:Sl)(db:Bool)(m:Sl)(mb:Bool)(e:Sl)(eb:Bool){a b:Rat} [hn:aZ (QF n nb d db) (L,a) Γ] [hm:aZ (QF m mb e eb) (M,b) Γ](hL:L≤1000000:=by omega)(hM:M≤1000000:=by omega):
  aw tb Tryz.prog 195 [qv n nb d db,qv m mb e eb] Γ (s9 (L+M+5) (a*b)):=by
 refine aw.of_W au Tryz.func195 rfl (Ax n nb d db rfl (Ax m mb e eb rfl (bR [] (mz n nb m mb) (fun u1 d1=>bR [] (np n nb d db) (fun u2 d2=>bR [] (np m mb e eb) (fun u3 d3=>bR [] (mz u2 d2 u3 d3) (fun u4 d4=>bz [] (yD u1 d1 u4 d4 (kj (by have:=gI a;omega) (by have:=gI b;omega))) (fun n5 a5 m5 b5=>W.r [] (qv n5 a5 m5 b5) ⟨_,_,_,_,rfl,rfl⟩ (pq (Qv a b))))))))))
theorem Jv(n:Sl)(nb:Bool)(d:Sl)(db:Bool)(m:Sl)(mb:Bool)(e:Sl)(eb:Bool){a b:Rat} [hn:aZ (QF n nb d db) (L,a) Γ] [hm:aZ (QF m mb e eb) (M,b) Γ](hL:L≤1000000:=by omega)(hM:M≤1000000:=by omega)(hb:b≠0:=by decide):
  aw tb Tryz.prog 133 [qv n nb d db,qv m mb e eb] Γ (Uc (L+M+5) (a/b)):=by
 refine aw.of_W au Tryz.func133 rfl (Ax n nb d db rfl (Ax m mb e eb rfl (bR [] (np m mb e eb) (fun u1 d1=>bR [] (mz n nb u1 d1) (fun u2 d2=>bR [] (np n nb d db) (fun u3 d3=>bR [] (mz u3 d3 m mb) (fun u4 d4=>bz [] (z9 u2 d2 u4 d4 (kj (by have:=gI a;omega) (fun h=>hb (Rat.num_eq_zero.1 h)))) (fun n5 a5 m5 b5=>W.r [] (.tuple #[qv n5 a5 m5 b5,.int .i64 0]) ⟨_,_,_,_,rfl,rfl⟩ (pq (aaR a b))))))))))
theorem P9(n:Sl)(nb:Bool)(d:Sl)(db:Bool){q:Rat} [hn:aZ (QF n nb d db) (L,q) Γ](hL:L≤1000000:=by omega):
  aw tb Tryz.prog 134 [qv n nb d db] Γ (o9 (L+3) (Vg q)):=by
 refine aw.of_W au Tryz.func134 rfl (Ax n nb d db rfl (bR [] (np n nb d db) (fun u1 d1=>bz [] (pM n nb u1 d1 (by have:=gI q;omega)) (fun u2 d2 v2 e2=>W.r [] (zv u2 d2) ⟨_,_,rfl,rfl⟩ (lj rfl)))))
end
section
variable{fin:VS→List aC→Prop}{Γ:List aC}{L M:Nat}
end
theorem SE(b:UInt8)(l:List UInt8)(c:UInt8):Lib.indexByte (b::l) c=if b==c then 0 else if Lib.indexByte l c== -1 then-1 else Lib.indexByte l c+1:=by rw[Lib.indexByte]
section
variable{fin:VS→List aC→Prop}{Γ:List aC}{L M:Nat}
end
section
variable{fin:VS→List aC→Prop}{Γ:List aC}{L M:Nat}
end
structure QE where
 n:Sl
 nb:Bool
 d:Sl
 db:Bool
 q:Rat
def QR:kV QE where
 z:=4
 cells e:=[.slice e.n.ao e.n.n e.n.c,.bool e.nb,.slice e.d.ao e.d.n e.d.c,.bool e.db]
 len _:=rfl
 fact L e:=QF e.n e.nb e.d e.db (L,e.q)
section
variable{Γ:List aC}{L M:Nat}
end
def Le(T:Tb)(e:Ev):Option (Nat×Nat×Value×Option Value×Option Value):=
 match e with
 | .read o c=>match o.op with
  | .slice ty x lo hi none=>match T.get ty,c.s.ev x,Ry c.s lo,Ry c.s hi with
   |some t,.val a,some l,some h=>bif (Nat.beq t.kind 4&& !Nat.beq t.esize 0)then some (t.alen,t.esize,a,l,h)else none
   |_,_,_,_=>none
  |_=>none
 |_=>none
def QC(T:Tb)(e:Ev):Option (Nat×Value):=
 match e with
 | .read o c=>match o.op with
  | .fieldAddr ty x f=>match T.get ty,c.s.ev x with
   |some t,.val a=>match t.fields[f]? with
    |some (o,sz,_)=>bif Nat.beq sz 0 then none else some (o,a)
    |none=>none
   |_,_=>none
  |_=>none
 |_=>none
def K8(T:Tb)(e:Ev):Option (List (Nat×List Value)×Nat×Value×Value):=
 match e with
 | .own o c=>match o.op with
  | .call cl=>match cl.callee,cl.args.toList,cl.argTypes.toList with
   | .builtin .copy,[sx,xx],[t1,t2]=>match c.s.ev sx,c.s.ev xx,T.get t1 with
    | .val a,.val b,some y1=>bif (Nat.beq y1.kind 3&& !Nat.beq y1.esize 0)then some (c.s.own,y1.esize,a,b)else none
    |_,_,_=>none
   |_,_,_=>none
  |_=>none
 |_=>none
def vh(T:Tb)(e:Ev):Option (Bool×Nat×Value×List (Nat×List Value)):=
 match e with
 | .read o c=>match o.op with
  | .load ty x=>match T.get ty,c.s.ev x with
   |some t,.val a=>some (t.agg,t.size,a,c.s.own)
   |_,_=>none
  |_=>none
 |_=>none
section
variable{T:Tb}{P:Program}{fin:VS→List aC→Prop}{c:fF}{Γ:List aC}
theorem wN(D:List Nat)(alen z b off:Nat)(lo hi:Option Value)(l r:Nat)(hT:T.Ok P)
  (hl:lo=some (.int .i64 (l:Int))∨(lo=none∧l=0))(hr:hi=some (.int .i64 (r:Int))∨(hi=none∧r=alen))
  (hk:W T P fin (fH (aE T (aV T D 999 c)) (.slice (some ⟨b,off+l*z,none⟩) (r-l) (alen-l))) Γ)(h:Le T (aE T (aV T D 999 c))=some (alen,z,.pointer (some ⟨b,off,none⟩),lo,hi):=by kernel_rfl)(hlr:l≤r:=by decide)(hrs:r≤alen:=by decide)(hla:l<alen:=by decide):W T P fin c Γ:=by
 refine ez D 999 ?_;generalize aV T D 999 c=c1 at*;unfold Le at h;split at h
 ·rename_i o c' he;rw[he]at hk;split at h
  ·rename_i ty x lo' hi' hop;split at h
   ·rename_i t a l' h' ht ha hlo hhi;cases hkd:(Nat.beq t.kind 4&& !Nat.beq t.esize 0)with
    |false=>simp[hkd]at h
    |true=>
     simp only[hkd,bZ,aq,aG]at h;obtain⟨rfl,rfl,rfl,rfl,rfl⟩:=h;simp only[aK]at hkd;refine W.read _ he (.any ?_) hk;intro w;obtain⟨hd,hes⟩:=pC hT ht (aI hkd.1);have hie:∃ie,P.info? t.elem=some ie∧ie.size=t.esize:=by
      cases hie:P.info? t.elem with
      |none=>
       simp[hie]at hes;rw[←hes]at hkd;simp at hkd
      |some ie=>exact⟨ie,rfl,by simp[hie]at hes;omega⟩
     obtain⟨ie,hie,hin⟩:=hie;have hrho:∀(q:Option Operand) (z:Option Value),Ry c'.s q=some z→q.map c'.s.rho=z:=by
      intro q z hq;cases q with
      |none=>simp[Ry]at hq;exact hq
      |some x=>
       simp only[Ry]at hq;split at hq
       ·rename_i v hv;injection hq with hq;subst hq;simp[cE hv]
       ·simp at hq
     have hm1:=hrho _ _ hlo;have hm2:=hrho _ _ hhi;have hne:¬t.alen=l:=by omega
     have hla':l≤t.alen:=by omega
     simp only[execOp,hop,Instr.sliceAt,cB,cM hd,bu,cE ha,hm1,hm2];rcases hl with rfl|⟨rfl,rfl⟩<;>rcases hr with rfl|⟨rfl,rfl⟩<;>simp[Instr.sureAddr,Instr.sliceBounds,Instr.sliceBound,asIntOf,hlr,hrs,hla',hne,iT hie,hin,gZ]
   ·simp at h
  ·simp at h
 ·simp at h
theorem bN(D:List Nat)(ofs b off:Nat)(hT:T.Ok P)
  (hk:W T P fin (fH (aE T (aV T D 999 c)) (.pointer (some ⟨b,off+ofs,none⟩))) Γ)(h:QC T (aE T (aV T D 999 c))=some (ofs,.pointer (some ⟨b,off,none⟩)):=by kernel_rfl):W T P fin c Γ:=by
 refine ez D 999 ?_;generalize aV T D 999 c=c1 at*;unfold QC at h;split at h
 ·rename_i o c' he;rw[he]at hk;split at h
  ·rename_i ty x f hop;split at h
   ·rename_i t a ht ha;split at h
    ·rename_i ofs' sz ag hf;cases hsz:Nat.beq sz 0 with
     |true=>simp[hsz]at h
     |false=>
      simp only[hsz,cK,aq,aG]at h;obtain⟨rfl,rfl⟩:=h;refine W.read _ he (.any ?_) hk;intro w;have hsz':sz≠0:=by
       rintro rfl;simp at hsz
      obtain⟨fs,hd,hfs⟩:=oS hT ht (vG hT ht hf);rw[hfs,bL]at hf;cases hff:fs.toList[f]? with
      |none=>rw[hff]at hf;simp at hf
      |some fl=>
       rw[hff]at hf;simp only[di,aq,aG]at hf;obtain⟨hf1,hf2,hf3⟩:=hf;have hff':fs[f]? =some fl:=by rw[←eV];exact hff
       cases hfi:P.info? fl.type with
       |none=>simp[hfi]at hf2;exact absurd hf2.symm hsz'
       |some fi=>
        simp[hfi]at hf2;have hne:¬fi.size=0:=by rw[hf2];exact hsz'
        simp[execOp,hop,Instr.fieldAt,cM hd,hff',Instr.sureAddr,cE ha,fieldPlace,iT hfi,hne,gZ,hf1]
    ·simp at h
   ·simp at h
  ·simp at h
 ·simp at h
theorem wM(D:List Nat)(own:List (Nat×List Value))(b off n:Nat)(row cs:List Value)(hT:T.Ok P)
   (hcs:(row.drop off).take n=cs)(hn:cs.length=n)
  (hk:W T P fin (fH (aE T (aV T D 999 c)) (.agg cs.toArray)) Γ)(h:vh T (aE T (aV T D 999 c))=some (true,n,.pointer (some ⟨b,off,none⟩),own):=by kernel_rfl)(hm:(b,row)∈own:=by simp):W T P fin c Γ:=by
 refine ez D 999 ?_;generalize aV T D 999 c=c1 at*;unfold vh at h;split at h
 ·rename_i o c' he;rw[he]at hk;split at h
  ·rename_i ty u hop;split at h
   ·rename_i t a ht ha;simp only[aq,aG]at h;obtain⟨hag,hsz,rfl,rfl⟩:=h;refine W.read _ he (.look (by simp[ji,hop]) ?_) hk;intro I w hd hh ho;obtain⟨e',_,hblk⟩:=ho b row hm;obtain⟨i,d,hi,hdd,hz,hsz',hag',_⟩:=fk (hT.ty _ _ ht);have hl:=run_loadCells_list (P:=P) w ⟨b,off,none⟩ cs (fun j v hj=>by
     rw[gZ,nV hblk];rw[←hcs,dz]at hj;split at hj
     ·rw[List.getElem?_drop]at hj;exact hj
     ·simp at hj)
    rw[hn,←hsz,←hsz']at hl;simp only[execOp,hop,Instr.loadAt,Instr.sureAddr,cE ha,loadVar,cB,Sem.run_map,dT,Sem.run_ite,bu,kR hdd,hag',hag,fj,iT hi,hl]
   ·simp at h
  ·simp at h
 ·simp at h
theorem Dt{O1 O2:List (Nat×List Value)}{g:Nat}{row:List Value}(h:((O1++(g,row)::O2).map (·.1)).Nodup):∀b cs,((b,cs)∈O1∨(b,cs)∈O2)→b≠g:=by
 rintro b cs hb rfl;simp only[aS,bQ,fJ,km]at h;obtain⟨_,⟨h2,_⟩,h3⟩:=h;rcases hb with hb|hb
 ·exact h3 _ (List.mem_map.2 ⟨(b,cs),hb,rfl⟩) _ (by simp) rfl
 ·exact h2 (List.mem_map.2 ⟨(b,cs),hb,rfl⟩)
theorem Za(D:List Nat)(own O1 O2:List (Nat×List Value))(z g off dl dc m:Nat)(row:List Value)(x:Value)(news:List Value)(hT:T.Ok P)
   (ho:own=O1++(g,row)::O2)(hx:pY T Γ own x m z news)(h1:∀u∈news,u.oneCell'=true)
  (hm:m≤dl)(hfit:off+news.length≤row.length)
  (hk:W T P fin (mA (aE T (aV T D 999 c)) (O1++(g,row.take off++news++row.drop (off+news.length))::O2) (.int .i64 (m:Nat))) Γ)(h:K8 T (aE T (aV T D 999 c))=some (own,z,.slice (some ⟨g,off,none⟩) dl dc,x):=by kernel_rfl):W T P fin c Γ:=by
 refine ez D 999 ?_;generalize aV T D 999 c=c1 at*;unfold K8 at h;split at h
 ·rename_i o c' he;rw[he]at hk;split at h
  ·rename_i cl hop;split at h
   ·rename_i sx xx t1 t2 hcal hargs htys;split at h
    ·rename_i a b y1 ha hbv hy;cases hc:(Nat.beq y1.kind 3&& !Nat.beq y1.esize 0)with
     |false=>simp[hc]at h
     |true=>
      simp only[hc,bZ,aq,aG]at h;obtain⟨hown,rfl,rfl,rfl⟩:=h;simp only[aK,cF]at hc;obtain⟨c2,c3⟩:=hc;have hne:y1.esize≠0:=by
       intro e0;rw[e0]at c3;simp at c3
      obtain⟨e,hd,hsz⟩:=wj hT hy (aI c2);have hie:∃ie,P.info? e=some ie∧ie.size=y1.esize:=by
       cases hie:P.info? e with
       |none=>simp[hie]at hsz;exact absurd hsz.symm hne
       |some ie=>exact⟨ie,rfl,by simp[hie]at hsz;omega⟩
      obtain⟨ie,hie,hin⟩:=hie;have hcargs:cl.args= #[sx,xx]:=by rw[←fB];exact hargs
      have hctys:cl.argTypes= #[t1,t2]:=by rw[←fB];exact htys
      obtain⟨ao,cc,rfl,hnl,hrd⟩:=hx;refine W.own (fun v' iX Δ=>v'=.int .i64 (m:Nat)∧iX=O1++(g,row.take off++news++row.drop (off+news.length))::O2∧Δ=[]) he (fun I w hdo hh hoa hnod _=>?_) ?_
      ·rw[hown]at hoa hnod;obtain⟨e',he',hblk⟩:=hoa g row (by rw[ho];simp);have hst:=run_storeCells_at P g off e' news 0 row.toArray w hblk (by simpa using hfit) h1;simp only[fK]at hst;have hf:(Builtin.firstCells y1.esize m (.slice ao m cc)).run P w=.ok news.toArray w:=by
        by_cases hm0:m=0
        ·subst hm0;obtain rfl:news=[]:=aL (by simpa using hnl);cases ao<;>simp[Builtin.firstCells,loadCells,loadCellsFrom]
        ·obtain⟨ad,rfl,hrd2⟩:=hrd (by omega);exact run_firstCells_some (P:=P) w y1.esize m ad m cc news hnl (hrd2 I w hdo hh hoa)
       have hmin:Nat.min m dl=m:=fy hm;have hrun:(Builtin.copy_ #[t1,t2] o.type #[.slice (some ⟨g,off,none⟩) dl dc,.slice ao m cc]).run P w=.ok (goInt m) (w.setRow g (row.take off++news++row.drop (off+news.length)).toArray):=by
        simp[Builtin.copy_,cM hd,Builtin.lenOf,hmin,iT hie,hin,hf,hst]
       have hexec:(execOp c'.s.rho o).run P w=.ok (.value (goInt m)) (w.setRow g (row.take off++news++row.drop (off+news.length)).toArray):=by
        simp[execOp,hop,resolve,invoke,builtin,hcal,hcargs,hctys,cE ha,cE hbv,hrun]
       refine⟨_,_,[],_,_,hexec,.inl rfl,⟨rfl,rfl,rfl⟩,fun q hq _=>⟨rfl,rfl,rfl,by simp,fun k hk=>oK w g k _ (by have:=hq g row (by rw[hown,ho];simp);omega)⟩,by simp,fun k hk hk'=>oK w g k _ (by rintro rfl;exact hk' row (by rw[hown,ho];simp)),fun b cs hb=>?_,fun b cs hb=>?_,?_,aD.nil _ _⟩
       ·have hother:((b,cs)∈O1∨(b,cs)∈O2)→∃e,T.dat e=false∧(w.setRow g (row.take off++news++row.drop (off+news.length)).toArray).heap[b]? =some (Obj.cells cs.toArray e (0,0)):=by
         intro hb;have hbg:=Dt (by rw[←ho];exact hnod) b cs hb;obtain⟨e,he2,hc⟩:=hoa b cs (by rw[ho];rcases hb with h|h<;>simp[h]);exact⟨e,he2,by rw[oK w g b _ hbg];exact hc⟩
        rcases List.mem_append.1 hb with hb|hb
        ·exact hother (.inl hb)
        ·rcases List.mem_cons.1 hb with hb|hb
         ·injection hb with h1' h2';subst h1' h2';exact⟨e',he',by simpa using setRow_heap w b _ _ e' _ hblk⟩
         ·exact hother (.inr hb)
       ·rcases List.mem_append.1 hb with hb|hb
        ·exact .inl ⟨cs,by rw[hown,ho];simp[hb]⟩
        ·rcases List.mem_cons.1 hb with hb|hb
         ·injection hb with h1' h2';subst h1' h2';exact .inl ⟨row,by rw[hown,ho];simp⟩
         ·exact .inl ⟨cs,by rw[hown,ho];simp[hb]⟩
       ·rw[ho]at hnod;simpa using hnod
      ·rintro v' iX Δ ⟨rfl,rfl,rfl⟩;exact hk
    ·simp at h
   ·simp at h
  ·simp at h
 ·simp at h
def qL(T:Tb)(t:Nat):Nat→fF→fF
 |0,c=>c
 |n+1,c=>bif ((c.s.boxes.getD t none).isSome&& !dF c.k)then c else match aE T c with
  | .next c'=>qL T t n c'
  |_=>c
theorem D8(t:Nat):∀(n:Nat) {c:fF},W T P fin (qL T t n c) Γ→W T P fin c Γ
 |0,_,h=>h
 |n+1,c,h=>by
  unfold qL at h;cases hb:((c.s.boxes.getD t none).isSome&& !dF c.k)with
  |true=>simp only[hb,bZ]at h;exact h
  |false=>
   simp only[hb,cK]at h;split at h
   ·rename_i c' hc;exact W.next hc (D8 t n h)
   ·exact h
def Lg(t:Nat)(c:fF):Bool:=(c.s.boxes.getD t none).isSome&& !dF c.k
def adz(t b:Nat)(c:fF):fF:=⟨c.s.reveal t b,c.k⟩
theorem vD(t:Nat)(hk:∀b,W T P fin (adz t b (qL T t 999 c)) Γ)(h:Lg t (qL T t 999 c)=true:=by kernel_rfl):W T P fin c Γ:=by
 refine D8 t 999 ?_;generalize qL T t 999 c=c1 at*;obtain⟨s,k⟩:=c1;unfold Lg at h;rw[aK,cF]at h;exact W.reveal t h.2 h.1 hk
def revp(t b:Nat)(c:fF):fF:=⟨⟨nN t b c.s.tmps,c.s.boxes.set t none,c.s.own,c.s.maps⟩,c.k⟩
theorem W.revp(t:Nat)(row:List Value)
  (hk:∀b,W T P fin (YtgaaopjagcaojaaGreat.revp t b (qL T t 999 c)) (eT b row::Γ))(h:Lg t (qL T t 999 c)=true:=by kernel_rfl)(hr:(qL T t 999 c).s.boxes.getD t none=some row:=by kernel_rfl):W T P fin c Γ:=by
 refine D8 t 999 ?_;generalize qL T t 999 c=c1 at*;obtain⟨s,k⟩:=c1;unfold Lg at h;rw[aK,cF]at h;refine W.reveal t h.2 h.1 (fun b=>?_);have e:s.reveal t b=⟨nN t b s.tmps,s.boxes.set t none,[]++(b,row)::s.own,s.maps⟩:=by
  unfold VS.reveal;rw[hr];rfl
 rw[e];exact W.pub (O1:=[]) (O2:=s.own) (b:=b) (cs:=row) h.2 rfl (hk b)
theorem jE(D:List Nat)(b off:Nat){row:List Value}(cs:List Value) [hr:aZ (eT b) row Γ](hT:T.Ok P)
  (hcs:(row.drop off).take cs.length=cs)
  (hk:W T P fin (fH (aE T (aV T D 999 c)) (.agg cs.toArray)) Γ)(h:B6 T (aE T (aV T D 999 c))=some (true,cs.length,.pointer (some ⟨b,off,none⟩)):=by kernel_rfl):W T P fin c Γ:=
 cJ D b off cs hT (h:=h) (fun I w _ hh j v hv=>by
  rw[oY (hr.p hh)];rw[←hcs,dz]at hv;split at hv
  ·rw[List.getElem?_drop]at hv;exact hv
  ·simp at hv) hk
theorem jT(D:List Nat){f:FuncId}{args:List Value}{Γ':List aC}{post:Value→List aC→Prop}(hs:∀I w,bj T I w→aD Γ I w→aD Γ' I w)(hp:aw T P f args (Γ'++Γ) post)
  (hk:∀v Δ,post v Δ→W T P fin (fH (aE T (aV T D 999 c)) v) (Δ++Γ))(h:mX (aE T (aV T D 999 c))=some (f,args):=by kernel_rfl):W T P fin c Γ:=
 J0 D 999 h hp (fun I w hd hh F hF=>by
  rcases List.mem_append.1 hF with h|h
  ·exact hs I w hd hh F h
  ·exact hh F h) hk
theorem W.more{Δ:List aC}(hm:dF c.k=false)(hs:∀I w,bj T I w→aD Γ I w→aD Δ I w)(hk:W T P fin c (Δ++Γ)):W T P fin c Γ:=
 W.elim (α:=Unit) (fun _=>True) (fun _=>Δ) hm (fun I w hd hh=>⟨(),trivial,hs I w hd hh⟩) (fun _ _=>hk)
def dN(T:Tb):Nat→fF→fF
 |0,c=>c
 |n+1,c=>bif dF c.k then(match aE T c with
  | .next c'=>dN T n c'
  |_=>c)else c
theorem W.code:∀(n:Nat) {c:fF},W T P fin (dN T n c) Γ→W T P fin c Γ
 |0,_,h=>h
 |n+1,c,h=>by
  unfold dN at h;cases hb:dF c.k with
  |false=>simp only[hb,cK]at h;exact h
  |true=>
   simp only[hb,bZ]at h;split at h
   ·rename_i c' hc;exact W.next hc (W.code n h)
   ·exact h
end
theorem aaV(x z:Nat):4*(x*z)≤(x+z)*(x+z):=by
 rcases Nat.le_total x z with h|h
 ·obtain⟨d,rfl⟩:∃d,z=x+d:=⟨z-x,by omega⟩;have e:(x+(x+d))*(x+(x+d))=4*(x*(x+d))+d*d:=by grind
  omega
 ·obtain⟨d,rfl⟩:∃d,x=z+d:=⟨x-z,by omega⟩;have e:(z+d+z)*(z+d+z)=4*((z+d)*z)+d*d:=by grind
  omega
theorem MO{a x:Nat}(hx:0<x):a<((x+a/x)/2+1)*((x+a/x)/2+1):=by
 have h1:a<x*(a/x+1):=by
  have:=fY a x;have:=fG a hx;rw[fD];omega
 generalize a/x=q at*;have h2:=aaV x (q+1);have h3:x+(q+1)≤2*((x+q)/2+1):=by omega
 generalize(x+q)/2+1=y at*;have h4:(x+(q+1))*(x+(q+1))≤2*y*(2*y):=aX h3 h3;have e:2*y*(2*y)=4*(y*y):=by grind
 omega
theorem QN{a x:Nat}(hx:0<x)(h:x≤(x+a/x)/2):x*x≤a:=by
 have h1:x≤a/x:=by omega
 exact(j3 hx).1 h1
theorem JL{a b k:Nat}(h:a<2^b)(hk:b≤2*k):a<(2^k+1)*(2^k+1):=by
 have h1:2^b≤2^(2*k):=da (by omega) hk;have e:2^(2*k)=2^k*2^k:=by rw[Nat.two_mul,cR]
 have:2^k*2^k≤(2^k+1)*(2^k+1):=aX (by omega) (by omega);omega
def lA(w:World)(s:Sl)(x b4 B:Nat)(k:Nat)(wr:World):Prop:=∃sx:Sl,
 wr.heap[w.heap.size]? =some (.cells #[.slice s.ao s.n s.c] 110 (0,0))∧wr.heap[w.heap.size+1]? =some (.cells #[.slice none 0 0] 110 (0,0))∧
 wr.heap[w.heap.size+1+1]? =some (.cells #[.slice none 0 0] 110 (0,0))∧wr.heap[b4]? =some (.cells #[.slice sx.ao sx.n sx.c] 110 (0,0))∧
 dV wr s x∧dV wr sx k∧0<k∧x<(k+1)*(k+1)∧sx.n≤B∧Below w.heap.size w wr
theorem Xl(w:World):Calls Tryz.prog 193 #[.int .u64 1] w fun e w'=>
   ∃u:Sl,e=.returned (.agg #[.slice u.ao u.n u.c])∧dV w' u 1∧u.n≤2∧Below w.heap.size w w':=EI 1 w (by omega)
def Ni(w:World)(s:Sl)(x:Nat)(e:Ending)(w':World):Prop:=
 ∃(u v:Sl) (r:Nat),e=.returned (.tuple #[.agg #[.slice u.ao u.n u.c],.agg #[.slice v.ao v.n v.c]])∧dV w' u r∧dV w' v (x-r*r)∧r*r≤x∧x<(r+1)*(r+1)∧u.n≤s.n∧v.n≤s.n∧Below w.heap.size w w'
theorem NG{w:World}{s:Sl}{x:Nat}(h:dV w s x):bl x≤32*s.n:=by
 rw[qU];obtain⟨l,k1,k2,k3,k4⟩:=h;have k5:=mG 4294967296 l k2;rw[KZ,←k1.1,k4]at k5;exact k5
def eQ(w:World)(s:Sl)(x:Nat)(w':World):Prop:=
 w'.heap[w.heap.size]? =some (.cells #[.slice s.ao s.n s.c] 110 (0,0))∧w'.heap[w.heap.size+1]? =some (.cells #[.slice none 0 0] 110 (0,0))∧
 w'.heap[w.heap.size+1+1]? =some (.cells #[.slice none 0 0] 110 (0,0))∧dV w' s x∧Below w.heap.size w w'
theorem eQ.up{w:World}{s:Sl}{x:Nat}{w' w'':World}(h:eQ w s x w')(hb:Below w'.heap.size w' w''):eQ w s x w'':=
 ⟨bG hb h.1,bG hb h.2.1,bG hb h.2.2.1,h.2.2.2.1.up hb,h.2.2.2.2.trans (hb.mono h.2.2.2.2.size)⟩
theorem eQ.alloc{w:World}{s:Sl}{x:Nat}{w':World}(h:eQ w s x w')(o:Obj):eQ w s x (w'.alloc o):=h.up ((bD _ _).alloc (aj _) o)
theorem eQ.drew{w:World}{s:Sl}{x:Nat}{w':World}(h:eQ w s x w'):eQ w s x w'.drew:=⟨h.1,h.2.1,h.2.2.1,h.2.2.2.1,h.2.2.2.2.drew⟩
theorem eQ.cell{w:World}{s:Sl}{x:Nat}{w':World}(h:eQ w s x w'):w'.cell? ⟨w.heap.size,0,none⟩=some (.slice s.ao s.n s.c):=bW h.1 0
theorem eQ.both{w:World}{s:Sl}{x:Nat}{w':World}(h:eQ w s x w'):w'.cell? ⟨w.heap.size,0,none⟩=some (.slice s.ao s.n s.c)∧eQ w s x w':=⟨h.cell,h⟩
theorem eQ.set{w:World}{s:Sl}{x:Nat}{w':World}(h:eQ w s x w'){b:Nat}{c:Array Value}(hc:w'.heap[b]? =some (.cells c 110 (0,0)))(hb:w.heap.size+1+1<b)(v:Value):eQ w s x (w'.setCell ⟨b,0,none⟩ v):=
 ⟨cG h.1 (by simp;omega) v,cG h.2.1 (by simp;omega) v,cG h.2.2.1 (by simp;omega) v,h.2.2.2.1.kp ((Kp.refl _).setCell hc (by decide) v),h.2.2.2.2.setCell (by simp;omega) v⟩
theorem eQ.setNew{w:World}{s:Sl}{x:Nat}{w':World}{c:Array Value}(h:eQ w s x (w'.alloc (.cells c 110)))(hb:w.heap.size+1+1<w'.heap.size)(v:Value):eQ w s x ((w'.alloc (.cells c 110)).setCell ⟨w'.heap.size,0,none⟩ v):=h.set (lD _ _) hb v
theorem eQ.re{w:World}{s:Sl}{x:Nat}{w':World}{v0 v:Value}(h:eQ w s x (w'.alloc (.cells #[v0] 110)))(hb:w.heap.size+1+1<w'.heap.size):eQ w s x (w'.alloc (.cells #[v] 110)):=by
 have h1:=h.setNew hb v;have e:(w'.alloc (.cells #[v0] 110)).setCell ⟨w'.heap.size,0,none⟩ v=w'.alloc (.cells #[v] 110):=by simp[go_sem]
 rwa [e]at h1
theorem zD{w:World}{s:Sl}{x:Nat}{w':World}(h:eQ w s x w')(o:Obj):eQ w s x (w'.alloc o).drew:=(h.alloc o).drew
theorem eQ.lt{w:World}{s:Sl}{x:Nat}{w' w'':World}(h:eQ w s x w')(hb:Below w'.heap.size w' w''):w.heap.size+1+1<w''.heap.size:=cN (rR h.2.2.1) hb.size
theorem MM{w w':World}{s:Sl}{x:Nat}(h:eQ w s x w')(hn:s.n≤2000):
  Calls Tryz.prog 244 #[.agg #[.slice s.ao s.n s.c]] w' fun e w''=>e=.returned (.int .i64 (bl x:Int))∧Below w'.heap.size w' w'':=CS h.2.2.2.1 (by omega)
theorem TE{w:World}{o:Sl}{k:Nat}{v:Int}(h:dV w o 1)(hn:o.n≤2)(hk:k≤32000)(hv:v=(k:Int)):
  Calls Tryz.prog 246 #[.agg #[.slice o.ao o.n o.c],.int .i64 v] w fun e w'=>
   ∃u:Sl,e=.returned (.tuple #[.agg #[.slice u.ao u.n u.c],.int .i64 0])∧dV w' u (2^k)∧u.n≤2000∧Below w.heap.size w w':=by
 subst hv;refine(Ak k h (by omega)).mono ?_;rintro e w' ⟨u,h1,h2,h3,h4⟩;exact⟨u,h1,by simpa using h2,by omega,h4⟩
theorem lA.mk{w:World}{s sx:Sl}{x b4 B k:Nat}{wr:World}(h:eQ w s x wr)(hb:wr.heap[b4]? =some (.cells #[.slice sx.ao sx.n sx.c] 110 (0,0)))(hx:dV wr sx k)(hk:0<k∧x<(k+1)*(k+1))(hn:sx.n≤B):lA w s x b4 B k wr:=
 ⟨sx,h.1,h.2.1,h.2.2.1,hb,h.2.2.2.1,hx,hk.1,hk.2,hn,h.2.2.2.2⟩
theorem Cq{w:World}{s sx:Sl}{x b4 B k:Nat}{wr:World}{v0:Value}(h:eQ w s x (wr.setCell ⟨b4,0,none⟩ (.slice sx.ao sx.n sx.c)))(hb:wr.heap[b4]? =some (.cells #[v0] 110 (0,0)))(hx:dV wr sx k)(hk:0<k∧x<(k+1)*(k+1))(hn:sx.n≤B):lA w s x b4 B k (wr.setCell ⟨b4,0,none⟩ (.slice sx.ao sx.n sx.c)):=
 lA.mk h (p9 hb _) (hx.kp ((Kp.refl _).setCell hb (by decide) _)) hk hn
theorem zC{w:World}{s sx:Sl}{x B k:Nat}{wr:World}(h:eQ w s x (wr.alloc (.cells #[.slice sx.ao sx.n sx.c] 110)))(hx:dV wr sx k)(hk:0<k∧x<(k+1)*(k+1))(hn:sx.n≤B):lA w s x wr.heap.size B k (wr.alloc (.cells #[.slice sx.ao sx.n sx.c] 110)):=
 lA.mk h (lD _ _) (hx.alloc _) hk hn
theorem E6{a b:Nat}(h:a≤b)(h':b≤2000):a≤1000000000000:=by omega
def jC(w:World)(s sx:Sl)(x k b4:Nat)(w':World):Prop:=
 w'.heap[w.heap.size]? =some (.cells #[.slice s.ao s.n s.c] 110 (0,0))∧(∃v,w'.heap[w.heap.size+1]? =some (.cells #[v] 110 (0,0)))∧
 (∃v,w'.heap[w.heap.size+1+1]? =some (.cells #[v] 110 (0,0)))∧w'.heap[b4]? =some (.cells #[.slice sx.ao sx.n sx.c] 110 (0,0))∧dV w' s x∧dV w' sx k∧Below w.heap.size w w'
theorem jC.up{w:World}{s sx:Sl}{x k b4:Nat}{w' w'':World}(h:jC w s sx x k b4 w')(hb:Below w'.heap.size w' w''):jC w s sx x k b4 w'':=by
 obtain⟨h1,⟨v2,h2⟩,⟨v3,h3⟩,h4,h5,h6,h7⟩:=h;exact⟨bG hb h1,⟨v2,bG hb h2⟩,⟨v3,bG hb h3⟩,bG hb h4,h5.up hb,h6.up hb,h7.trans (hb.mono h7.size)⟩
theorem jC.drew{w:World}{s sx:Sl}{x k b4:Nat}{w':World}(h:jC w s sx x k b4 w'):jC w s sx x k b4 w'.drew:=⟨h.1,h.2.1,h.2.2.1,h.2.2.2.1,h.2.2.2.2.1,h.2.2.2.2.2.1,h.2.2.2.2.2.2.drew⟩
theorem jC.both{w:World}{s sx:Sl}{x k b4:Nat}{w':World}(h:jC w s sx x k b4 w'):w'.cell? ⟨w.heap.size,0,none⟩=some (.slice s.ao s.n s.c)∧w'.cell? ⟨b4,0,none⟩=some (.slice sx.ao sx.n sx.c)∧jC w s sx x k b4 w':=⟨bW h.1 0,bW h.2.2.2.1 0,h⟩
theorem Iw{w:World}{s sx:Sl}{x k b4:Nat}{w':World}(h:jC w s sx x k b4 w')(hb4:w.heap.size+1+1<b4)(v:Value):jC w s sx x k b4 (w'.setCell ⟨w.heap.size+1,0,none⟩ v):=by
 obtain⟨h1,⟨v2,h2⟩,⟨v3,h3⟩,h4,h5,h6,h7⟩:=h;exact⟨cG h1 (by simp) v,⟨v,p9 h2 v⟩,⟨v3,cG h3 (by simp) v⟩,cG h4 (by simp;omega) v,h5.kp ((Kp.refl _).setCell h2 (by decide) v),h6.kp ((Kp.refl _).setCell h2 (by decide) v),h7.setCell (by simp) v⟩
theorem Ix{w:World}{s sx:Sl}{x k b4:Nat}{w':World}(h:jC w s sx x k b4 w')(hb4:w.heap.size+1+1<b4)(v:Value):jC w s sx x k b4 (w'.setCell ⟨w.heap.size+1+1,0,none⟩ v):=by
 obtain⟨h1,⟨v2,h2⟩,⟨v3,h3⟩,h4,h5,h6,h7⟩:=h;exact⟨cG h1 (by simp;omega) v,⟨v2,cG h2 (by simp) v⟩,⟨v,p9 h3 v⟩,cG h4 (by simp;omega) v,h5.kp ((Kp.refl _).setCell h3 (by decide) v),h6.kp ((Kp.refl _).setCell h3 (by decide) v),h7.setCell (by simp;omega) v⟩
theorem MN{w:World}{s:Sl}{x:Nat}(h:dV w s x)(hn:s.n≤2000):
  Calls Tryz.prog 274 #[.agg #[.slice s.ao s.n s.c]] w (Ni w s x):=by
 have hE:=lN w (.cells #[.slice s.ao s.n s.c] 110) (.cells #[.slice none 0 0] 110) (.cells #[.slice none 0 0] 110);have hbx:Below w.heap.size w _:=(((bD w.heap.size w).alloc (aj _) (.cells #[.slice s.ao s.n s.c] 110)).alloc (by simp) (.cells #[.slice none 0 0] 110)).alloc (by simp;omega) (.cells #[.slice none 0 0] 110);by_cases h0:s.n=0
 ·have hx:x=0:=by have:=h.zero_iff;omega
  subst hx;obtain⟨ao,n,c⟩:=s;simp only at h0;subst h0
  go_enter Tryz.func274,Tryz.ntmps274
  go_wp2
  refine ff (v:=.tuple #[.agg #[.slice none 0 0],.agg #[.slice none 0 0]]) (by simp[results,Tryz.results274,go_sem]) rfl ⟨⟨none,0,0⟩,⟨none,0,0⟩,0,rfl,dV.nil _ _ _,dV.nil _ _ _,by omega,by omega,by simp,by simp,?_⟩;exact hbx
 ·have hn0:((s.n:Int)==0)=false:=by simp;omega
  have hx1:=h.up hbx;have hx0:0<x:=by have:=h.zero_iff;omega
  have hE1:=hE.1;have hE2:=hE.2.1;have hE3:=hE.2.2.1;have hsz:=hE.2.2.2;have hbl:bl x≤64000:=by have:=NG h;omega
  have Hsz:=bk hsz;clear hE hsz
  go_enter Tryz.func274,Tryz.ntmps274
  go_wp2
  generalize hW3:(((w.alloc (.cells #[.slice s.ao s.n s.c] 110)).alloc (.cells #[.slice none 0 0] 110)).alloc (.cells #[.slice none 0 0] 110))=W3 at*;clear hW3;obtain⟨k0,hk0⟩:∃k0,k0=(bl x+1)/2:=⟨_,rfl⟩;have hbit:((bl x:Int)+1)/2=(k0:Int):=by omega
  have hk1:bl x≤2*k0:=by omega
  have hk2:k0≤32000:=by omega
  have hK:IntKind.i64.wrap ((IntKind.i64.wrap ((bl x:Int)+1)).tdiv 2)=(k0:Int):=by
   rw[IntWalk.i64_in ((bl x:Int)+1) (by omega),IntWalk.i64_quo _ _ (by omega),hbit]
  have hk0p:0<2^k0∧x<(2^k0+1)*(2^k0+1):=⟨kn _,JL ((qU x (bl x)).1 (aj _)) hk1⟩;clear hk0 hbit;have hS0:eQ w s x W3:=⟨hE1,hE2,hE3,hx1,hbx⟩;have hsz0:w.heap.size+1+1<W3.heap.size:=rR hE3;clear hE1 hE2 hE3 hx1 hbx
  go_upto_region 3 with fail
  go_cut [4] (fun s4 wx=>∃b4:Nat,s4=.pointer (some ⟨b4,0,none⟩)∧lA w s x b4 (max s.n 2000) (2^k0) wx∧w.heap.size+1+1<b4)
  case first=>
   have hsz0':w.heap.size+1+1<W3.drew.heap.size:=hsz0
   go_region_held3 (fun w'=>w'.cell? ⟨w.heap.size,0,none⟩=some (.slice s.ao s.n s.c)∧eQ w s x w')
    (first
     |with_reducible exact hS0.drew.both
     |with_reducible exact(eQ.re (‹_∧eQ w s x _›).2 (by assumption)).both
     |with_reducible exact(zD hS0 _).both
     |with_reducible exact(eQ.alloc (‹_∧eQ w s x _›).2 _).both
     |with_reducible exact(eQ.set (‹_∧eQ w s x _›).2 hc (by assumption) _).both
     |with_reducible exact(eQ.up (‹_∧eQ w s x _›).2 ‹Below _ _ _›).both)
    (first
     |(go_at_call 193;refine(Xl _).mono ?_;rintro e w1 ⟨o,rfl,ho,hon,hb1⟩;(have hl1:=eQ.lt (‹_∧eQ w s x _›).2 hb1);(first|with_reducible have hc:=AH hb1|skip))
     |(go_at_call 244;refine(MM (‹_∧eQ w s x _›).2 hn).mono ?_;rintro e w2 ⟨rfl,hb2⟩;(have hl2:=eQ.lt (‹_∧eQ w s x _›).2 hb2);(first|with_reducible have hc:=CT hb2|with_reducible have hc:=bG hb2 hc|skip))
     |(go_at_call 246;refine(TE (o:=o) (k:=k0) (v:=_) ?_ hon hk2 ?_).mono ?_;(first|with_reducible exact ho|with_reducible exact ho.up hb2|with_reducible exact(ho.up hb2).alloc _|with_reducible exact ho.alloc _|with_reducible exact(ho.alloc _).up hb2);with_reducible rfl
       rintro e w3 ⟨sx,rfl,hsx,hsxn,hb3⟩;(have hl3:=eQ.lt (‹_∧eQ w s x _›).2 hb3);(first|with_reducible have hc:=CT hb3|with_reducible have hc:=bG hb3 hc|skip);(try with_reducible have hcc:=NJ hc);(try with_reducible have hcf:=dY hc 0)))
   all_goals go_wp2
   all_goals go_meet
   all_goals first
    |exact⟨_,rfl,zC (‹_∧eQ w s x _›).2 hsx hk0p (aP hsxn (Nat.le_max_right _ _)),hl3⟩
    |exact⟨_,rfl,Cq (‹_∧eQ w s x _›).2 hc hsx hk0p (aP hsxn (Nat.le_max_right _ _)),by assumption⟩
  case rest=>
   clear hS0 hsz0 hk1 hk2 hK hbl Hsz;obtain⟨b4,rfl,hR,hb4⟩:=hcut;have hB:max s.n 2000≤2000:=by omega
   generalize max s.n 2000=B at*;have h2k:=hk0p;obtain⟨g0,hg0⟩:∃g0,g0=2^k0:=⟨_,rfl⟩;rw[←hg0]at hR;clear hg0 h2k hk0p
   go_wp2
   go_loopg [9] g0 (fun k _ wr=>lA w s x b4 B k wr)
   case atStart=>exact hR
   case round=>
    clear hR;obtain⟨sx,hE1,hE2,hE3,hE4,hs,hsx,hk,hkx,hxn,hbl⟩:=hrel;have hA:=bW hE1 0;have hC:=bW hE4 0
    go_upto_region 5 with(go_at_call 199;refine(AN hs hsx hk).mono ?_;rintro e w2 ⟨u,v,rfl,hu,hv,hun,hvn,hvn2,hb2⟩;have hF1:=bG hb2 hE1;have hF2:=bG hb2 hE2;have hF3:=bG hb2 hE3;have hF4:=bG hb2 hE4;clear hA hC)
    have hbX:Below w2.heap.size w2 ((w2.alloc (.cells #[.slice u.ao u.n u.c] 110)).alloc (.cells #[.slice v.ao v.n v.c] 110)):=((bD _ _).alloc (aj _) _).alloc (by simp) _;have K1:=bG hbX hF1;have K2:=bG hbX hF2;have K3:=bG hbX hF3;have K4:=bG hbX hF4;have K6:((w2.alloc (.cells #[.slice u.ao u.n u.c] 110)).alloc (.cells #[.slice v.ao v.n v.c] 110)).heap[w2.heap.size]? =some (.cells #[.slice u.ao u.n u.c] 110 (0,0)):=kN (lD _ _) _;have hu':=hu.up hbX;have hsx':=(hsx.up hb2).up hbX;have hs':=(hs.up hb2).up hbX;have hblX:Below w.heap.size w ((w2.alloc (.cells #[.slice u.ao u.n u.c] 110)).alloc (.cells #[.slice v.ao v.n v.c] 110)):=(hbl.trans (hb2.mono hbl.size)).trans (hbX.mono (by have:=hbl.size;have:=hb2.size;omega));generalize hXd:((w2.alloc (.cells #[.slice u.ao u.n u.c] 110)).alloc (.cells #[.slice v.ao v.n v.c] 110))=X at*;have c6:=bW K6 0;have c4:=bW K4 0;clear hXd hbX hF1 hF2 hF3 hF4 hE1 hE2 hE3 hE4 hu hv hb2 hbl hsx hs
    go_upto_region 6 with(first
     |(go_at_call 252;refine(Fz hsx' hu' (by omega) (by omega)).mono ?_;rintro e w3 ⟨a,rfl,ha,han,hb3⟩)
     |(go_at_call 251;refine(C3 1 ha (by omega)).mono ?_;rintro e w4 ⟨d,rfl,hd,hdn,hb4'⟩))
    have hd1:dV w4 d ((gk+x/gk)/2):=hd;have hbY:Below w4.heap.size w4 (w4.alloc (.cells #[.slice d.ao d.n d.c] 110)):=(bD _ _).alloc (aj _) _;have L1:=bG hbY (bG hb4' (bG hb3 K1));have L2:=bG hbY (bG hb4' (bG hb3 K2));have L3:=bG hbY (bG hb4' (bG hb3 K3));have L4:=bG hbY (bG hb4' (bG hb3 K4));have L9:=lD w4 (.cells #[.slice d.ao d.n d.c] 110);have hd2:=hd1.up hbY;have hsx2:=((hsx'.up hb3).up hb4').up hbY;have hs2:=((hs'.up hb3).up hb4').up hbY;have hblY:Below w.heap.size w _:=((hblX.trans (hb3.mono hblX.size)).trans (hb4'.mono (by have:=hblX.size;have:=hb3.size;omega))).trans (hbY.mono (by have:=hblX.size;have:=hb3.size;have:=hb4'.size;omega));generalize hYd:(w4.alloc (.cells #[.slice d.ao d.n d.c] 110))=Y at*;have c9:=bW L9 0;have c4':=bW L4 0;have hstep:=MO (a:=x) hk;have hend:=QN (a:=x) hk;clear hYd hbY c6 c4 K1 K2 K3 K4 K6 hu' hsx' hs' hd hd1 ha hb3 hb4' hblX;generalize w4.heap.size=b9 at*;obtain⟨g1,hg1⟩:∃g1,g1=(gk+x/gk)/2:=⟨_,rfl⟩;rw[←hg1]at hd2 hstep hend;have hg1q:0<g1:=by
     rcases iW 1 gk with hgk|hgk
     ·generalize x/gk=Z at hg1;omega
     ·have hgk1:gk=1:=by omega
      rw[hgk1,Nat.div_one]at hg1;omega
    clear hg1;by_cases hge:gk≤g1
    ·have hcmp:decide ((0:Int)≤mY g1 gk)=true:=by
      rcases iW gk g1 with hlt|hlt
      ·rw[uQ hlt];decide
      ·rw[show gk=g1 by omega,wS];decide
     go_upto_region 7 with(go_at_call 204;refine(nW hd2 hsx2 (by omega) (by omega)).mono ?_;rintro e w5 ⟨rfl,hb5⟩;have M1:=bG hb5 L1;have M2:=bG hb5 L2;have M3:=bG hb5 L3;have M4:=bG hb5 L4;clear c9 c4')
     have hS5:jC w s sx x gk b4 w5:=⟨M1,⟨_,M2⟩,⟨_,M3⟩,M4,hs2.up hb5,hsx2.up hb5,hblY.trans (hb5.mono hblY.size)⟩;clear M1 M4 hs2 hsx2 hb5 hblY hcmp hd2 L1 L2 L3 L4 L9 hstep
     go_region_held3 (fun w'=>w'.cell? ⟨w.heap.size,0,none⟩=some (.slice s.ao s.n s.c)∧w'.cell? ⟨b4,0,none⟩=some (.slice sx.ao sx.n sx.c)∧jC w s sx x gk b4 w')
      (first
       |with_reducible exact hS5.drew.both
       |with_reducible exact(Iw (‹_∧_∧jC w s sx x gk b4 _›).2.2 hb4 _).both
       |with_reducible exact(Ix (‹_∧_∧jC w s sx x gk b4 _›).2.2 hb4 _).both
       |with_reducible exact(jC.up (‹_∧_∧jC w s sx x gk b4 _›).2.2 ‹Below _ _ _›).both)
      (first
       |(go_at_call 247;refine(G0 (‹_∧_∧jC w s sx x gk b4 _›).2.2.2.2.2.2.2.1 (‹_∧_∧jC w s sx x gk b4 _›).2.2.2.2.2.2.2.1 (E6 hxn hB) (E6 hxn hB)).mono ?_;rintro e w6 ⟨m,rfl,hm,hmn,hb6⟩)
       |(go_at_call 267;refine(Dh (‹_∧_∧jC w s sx x gk b4 _›).2.2.2.2.2.2.1 hm (E6 (aj _) hn) (hend hge)).mono ?_;rintro e w7 ⟨l,rfl,hl,hln,hb7⟩;(have N2:=bG hb7 (bG (l_ hb6) M2));(have N3:=bG hb7 (bG (l_ hb6) M3));(have q2:=bW N2 0);(have q3:=bW N3 0);(have f2:=dY N2 0);(have f3:=dY N3 0)))
     have hE9:=(‹_∧_∧jC w s sx x gk b4 _›).2.2;have P2:=cG (a:=⟨w.heap.size+1+1,0,none⟩) (p9 (i:=0) N2 (.slice sx.ao sx.n sx.c)) (by simp) (.slice l.ao l.n l.c);have P3':=cG (a:=⟨w.heap.size+1,0,none⟩) N3 (by simp) (.slice sx.ao sx.n sx.c);have P3:=p9 (i:=0) P3' (.slice l.ao l.n l.c);have hl9:=(hl.kp ((Kp.refl _).setCell (a:=⟨w.heap.size+1,0,none⟩) N2 (by decide) (.slice sx.ao sx.n sx.c))).kp ((Kp.refl _).setCell (a:=⟨w.heap.size+1+1,0,none⟩) P3' (by decide) (.slice l.ao l.n l.c));have r2:=bW P2 0;have r3:=bW P3 0;clear q2 q3 f2 f3 N2 N3 P2 P3 P3' hl hm hS5 M2 M3 hb6 hb7;have hks:gk≤x:=aP (Nat.le_mul_of_pos_left gk hk) (hend hge);generalize hW9:((w7.setCell ⟨w.heap.size+1,0,none⟩ (.slice sx.ao sx.n sx.c)).setCell ⟨w.heap.size+1+1,0,none⟩ (.slice l.ao l.n l.c))=W9 at*;clear hW9
     go_wp2
     refine ff (v:=.tuple #[.agg #[.slice sx.ao sx.n sx.c],.agg #[.slice l.ao l.n l.c]]) (by simp[results,Tryz.results274,go_sem,r2,r3]) rfl ⟨sx,l,gk,rfl,hE9.2.2.2.2.2.1,hl9,hend hge,hkx,hE9.2.2.2.2.2.1.n_le hE9.2.2.2.2.1 hks,hln,hE9.2.2.2.2.2.2⟩
    ·have hcmp:decide ((0:Int)≤mY g1 gk)=false:=by rw[wT (by omega)];decide
     have hdn2:d.n≤sx.n:=hd2.n_le hsx2 (by omega)
     go_wp2_with (go_at_call 204;refine(nW hd2 hsx2 (by omega) (by omega)).mono ?_;rintro e w5 ⟨rfl,hb5⟩;have M4:=bG hb5 L4;have m9:=bW (bG hb5 L9) 0;have m4:=bW M4 0;have f4:=dY M4 0;clear c9 c4')
     go_roundg g1
     case measure=>omega
     case rel=>
      refine⟨d,cG (bG hb5 L1) (by simp;omega) _,cG (bG hb5 L2) (by simp;omega) _,cG (bG hb5 L3) (by simp;omega) _,p9 M4 _,?_,?_,hg1q,hstep,by omega,?_⟩
      ·exact(hs2.up hb5).kp ((Kp.refl _).setCell M4 (by decide) _)
      ·exact(hd2.up hb5).kp ((Kp.refl _).setCell M4 (by decide) _)
      ·exact(hblY.trans (hb5.mono hblY.size)).setCell (by simp;omega) _
def GB:Nat→Nat→Nat
 |0,_=>0
 |k+1,n=>let r:=2*GB k (n/4);if(r+1)*(r+1)≤n then r+1 else r
def yl(n:Nat):Nat:=GB (n.log2+1) n
theorem De:∀(k n:Nat),n<4^k→GB k n*GB k n≤n∧n<(GB k n+1)*(GB k n+1)
 |0,n,h=>by
  have:n=0:=by simpa using h
  subst this;decide
 |k+1,n,h=>by
  obtain⟨h1,h2⟩:=De k (n/4) (by rw[eF]at h;omega);simp only[GB];generalize GB k (n/4)=r at*;have e1:(2*r)*(2*r)=4*(r*r):=by grind
  have e2:(2*r+1+1)*(2*r+1+1)=4*((r+1)*(r+1)):=by grind
  split
  ·refine⟨by assumption,?_⟩;rw[e2];omega
  ·refine⟨by rw[e1];omega,by omega⟩
theorem xg(n:Nat):yl n*yl n≤n∧n<(yl n+1)*(yl n+1):=by
 refine De _ _ (cN (Nat.lt_log2_self) ?_);exact Nat.pow_le_pow_left (by omega) _
theorem I_{n r:Nat}(h1:r*r≤n)(h2:n<(r+1)*(r+1)):yl n=r:=by
 obtain⟨g1,g2⟩:=xg n;rcases Nat.lt_trichotomy (yl n) r with h|h|h
 ·have:(yl n+1)*(yl n+1)≤r*r:=aX h h;omega
 ·exact h
 ·have:(r+1)*(r+1)≤yl n*yl n:=aX h h;omega
section
variable{Γ:List aC}{L M x y:Nat}
theorem XD(s:Sl) [ha:aZ (NF s) (L,x) Γ](hL:L≤2000:=by omega):
  aw tb Tryz.prog 274 [mv s] Γ (fun v Δ=>∃u t:Sl,v=.tuple #[mv u,mv t]∧Δ=[NF u (L,yl x),NF t (L,x-yl x*yl x)]):=
 ⟨⟨_,Tryz.func274,by kernel_rfl,by kernel_rfl⟩,fun I w hd hh=>by
  obtain⟨h1,h2,h3⟩:=ha.p hh;refine(MN h1 (aP h3 hL)).mono ?_;rintro e w' ⟨u,v,r,rfl,hu,hv,hr1,hr2,hn1,hn2,hb⟩;obtain rfl:=I_ hr1 hr2;exact⟨_,_,rfl,⟨u,v,rfl,rfl⟩,hb,aD.cons (hu.fact hd hb (by simp only at h3;omega)) (aT (hv.fact hd hb (by simp only at h3;omega)))⟩⟩
end
structure Qw where
 n:Sl
 a:Bool
 m:Sl
 b:Bool
structure Sw where
 u:Sl
 d:Bool
 v:Sl
 e:Bool
 p:Qw
 q:Qw
 r:Qw
 s:Qw
structure Sn where
 m:Int
 n:Int
 p:Rat
 q:Rat
 r:Rat
 s:Rat
abbrev QG(x:Qw):Nat×Rat→aC:=QF x.n x.a x.m x.b
abbrev sv(x:Sw):Value:=.agg #[.slice x.u.ao x.u.n x.u.c,.bool x.d,.slice x.v.ao x.v.n x.v.c,.bool x.e,
 .slice x.p.n.ao x.p.n.n x.p.n.c,.bool x.p.a,.slice x.p.m.ao x.p.m.n x.p.m.c,.bool x.p.b,.slice x.q.n.ao x.q.n.n x.q.n.c,.bool x.q.a,.slice x.q.m.ao x.q.m.n x.q.m.c,.bool x.q.b,
 .slice x.r.n.ao x.r.n.n x.r.n.c,.bool x.r.a,.slice x.r.m.ao x.r.m.n x.r.m.c,.bool x.r.b,.slice x.s.n.ao x.s.n.n x.s.n.c,.bool x.s.a,.slice x.s.m.ao x.s.m.n x.s.m.c,.bool x.s.b]
abbrev ptv(x:Sw):Value:=.agg #[
 .slice x.p.n.ao x.p.n.n x.p.n.c,.bool x.p.a,.slice x.p.m.ao x.p.m.n x.p.m.c,.bool x.p.b,.slice x.q.n.ao x.q.n.n x.q.n.c,.bool x.q.a,.slice x.q.m.ao x.q.m.n x.q.m.c,.bool x.q.b,
 .slice x.r.n.ao x.r.n.n x.r.n.c,.bool x.r.a,.slice x.r.m.ao x.r.m.n x.r.m.c,.bool x.r.b,.slice x.s.n.ao x.s.n.n x.s.n.c,.bool x.s.a,.slice x.s.m.ao x.s.m.n x.s.m.c,.bool x.s.b]
abbrev cf:Qw:=⟨⟨none,0,0⟩,false,⟨none,0,0⟩,false⟩
def Cy:Sw:=⟨⟨none,0,0⟩,false,⟨none,0,0⟩,false,cf,cf,cf,cf⟩
def SF(x:Sw)(a:Nat×Sn):aC where
 p I w:=(ZF x.u x.d (a.1,a.2.m)).p I w∧(ZF x.v x.e (a.1,a.2.n)).p I w∧(QG x.p (a.1,a.2.p)).p I w∧(QG x.q (a.1,a.2.q)).p I w∧(QG x.r (a.1,a.2.r)).p I w∧(QG x.s (a.1,a.2.s)).p I w
 up:=by
  rintro I I' w w' ⟨g1,g2,g3,g4,g5,g6⟩ h1 h2 h3;exact⟨(ZF x.u x.d _).up g1 h1 h2 h3,(ZF x.v x.e _).up g2 h1 h2 h3,(QG x.p _).up g3 h1 h2 h3,(QG x.q _).up g4 h1 h2 h3,(QG x.r _).up g5 h1 h2 h3,(QG x.s _).up g6 h1 h2 h3⟩
def Ue(L:Nat)(S:Sn)(v:Value)(Δ:List aC):Prop:=∃x:Sw,v=sv x∧Δ=[SF x (L,S)]
def Yw(L:Nat)(S:Sn)(v:Value)(Δ:List aC):Prop:=∃x:Sw,v=.tuple #[sv x,.int .i64 0]∧Δ=[SF x (L,S)]
structure Pw where
 n:Int
 a:Sl
 m:Int
 b:Sl
structure Tw where
 d:Int
 u:Sl
 e:Int
 v:Sl
 p:Pw
 q:Pw
 r:Pw
 s:Pw
abbrev tv(x:Tw):Value:=.agg #[.int .i64 x.d,.slice x.u.ao x.u.n x.u.c,.int .i64 x.e,.slice x.v.ao x.v.n x.v.c,
 .int .i64 x.p.n,.slice x.p.a.ao x.p.a.n x.p.a.c,.int .i64 x.p.m,.slice x.p.b.ao x.p.b.n x.p.b.c,.int .i64 x.q.n,.slice x.q.a.ao x.q.a.n x.q.a.c,.int .i64 x.q.m,.slice x.q.b.ao x.q.b.n x.q.b.c,
 .int .i64 x.r.n,.slice x.r.a.ao x.r.a.n x.r.a.c,.int .i64 x.r.m,.slice x.r.b.ao x.r.b.n x.r.b.c,.int .i64 x.s.n,.slice x.s.a.ao x.s.a.n x.s.a.c,.int .i64 x.s.m,.slice x.s.b.ao x.s.b.n x.s.b.c]
section
variable{fin:VS→List aC→Prop}{Γ:List aC}{L:Nat}
theorem td{P:Program}{c:fF}(x:Sw){S:Sn} [h:aZ (SF x) (L,S) Γ](hm:dF c.k=false)
  (hk:W tb P fin c (ZF x.u x.d (L,S.m)::ZF x.v x.e (L,S.n)::QG x.p (L,S.p)::QG x.q (L,S.q)::QG x.r (L,S.r)::QG x.s (L,S.s)::Γ)):W tb P fin c Γ:=
 W.elim (α:=Unit) (fun _=>True) (fun _=>[ZF x.u x.d (L,S.m),ZF x.v x.e (L,S.n),QG x.p (L,S.p),QG x.q (L,S.q),QG x.r (L,S.r),QG x.s (L,S.s)]) hm (fun I w _ hh=>by
  obtain⟨g1,g2,g3,g4,g5,g6⟩:=h.p hh;exact⟨(),trivial,aD.cons g1 (aD.cons g2 (aD.cons g3 (aD.cons g4 (aD.cons g5 (aT g6)))))⟩) (fun _ _=>hk)
theorem QF.up2{n m:Sl}{a b:Bool}{L L':Nat}{q:Rat}{I:gd}{w:World}(h:(QF n a m b (L,q)).p I w)(hL:L≤L'):(QF n a m b (L',q)).p I w:=by
 obtain⟨y,⟨⟨h1,h2,h3⟩,h4⟩,⟨⟨g1,g2,g3⟩,g4⟩,hy⟩:=h;exact⟨y,⟨⟨h1,h2,aP h3 hL⟩,h4⟩,⟨⟨g1,g2,aP g3 hL⟩,g4⟩,hy⟩
theorem ZF.up2{n:Sl}{a:Bool}{L L':Nat}{q:Int}{I:gd}{w:World}(h:(ZF n a (L,q)).p I w)(hL:L≤L'):(ZF n a (L',q)).p I w:=by
 obtain⟨⟨h1,h2,h3⟩,h4⟩:=h;exact⟨⟨h1,h2,aP h3 hL⟩,h4⟩
theorem LP{x:Sw}{L' L1 L2 L3 L4 L5 L6:Nat}{m n:Int}{p q r s:Rat}{S:Sn} [h1:aZ (ZF x.u x.d) (L1,m) Γ] [h2:aZ (ZF x.v x.e) (L2,n) Γ] [h3:aZ (QG x.p) (L3,p) Γ] [h4:aZ (QG x.q) (L4,q) Γ] [h5:aZ (QG x.r) (L5,r) Γ] [h6:aZ (QG x.s) (L6,s) Γ]
  (hm:m=S.m)(hn:n=S.n)(hp:p=S.p)(hq:q=S.q)(hr:r=S.r)(hs:s=S.s)(hL:L1≤L'∧L2≤L'∧L3≤L'∧L4≤L'∧L5≤L'∧L6≤L':=by omega):∀(I:gd) (w:World),bj tb I w→aD Γ I w→aD [SF x (L',S)] I w:=fun I w _ hh=>by
 subst hm hn hp hq hr hs;obtain⟨l1,l2,l3,l4,l5,l6⟩:=hL;exact aT ⟨ZF.up2 (h1.p hh) l1,ZF.up2 (h2.p hh) l2,QF.up2 (h3.p hh) l3,QF.up2 (h4.p hh) l4,QF.up2 (h5.p hh) l5,QF.up2 (h6.p hh) l6⟩
theorem p8{x:Sw}{L':Nat}{S S':Sn} [h:aZ (SF x) (L,S) Γ](hL:L≤L')(hS:S=S'):∀(I:gd) (w:World),bj tb I w→aD Γ I w→aD [SF x (L',S')] I w:=fun I w _ hh=>by
 subst hS;obtain⟨g1,g2,g3,g4,g5,g6⟩:=h.p hh;exact aT ⟨ZF.up2 g1 hL,ZF.up2 g2 hL,QF.up2 g3 hL,QF.up2 g4 hL,QF.up2 g5 hL,QF.up2 g6 hL⟩
end
def Sn.neg(S:Sn):Sn:=⟨S.m,S.n,-S.p,-S.q,-S.r,-S.s⟩
def Sn.add(S T:Sn):Sn:=⟨S.m,S.n,S.p+T.p,S.q+T.q,S.r+T.r,S.s+T.s⟩
def Sn.sub(S T:Sn):Sn:=⟨S.m,S.n,S.p-T.p,S.q-T.q,S.r-T.r,S.s-T.s⟩
def Sn.mul(S T:Sn):Sn:=⟨S.m,S.n,
 S.p*T.p+S.m*(S.q*T.q)+S.n*(S.r*T.r)+S.m*S.n*(S.s*T.s),
 S.p*T.q+S.q*T.p+S.n*(S.r*T.s+S.s*T.r),
 S.p*T.r+S.r*T.p+S.m*(S.q*T.s+S.s*T.q),
 S.p*T.s+S.s*T.p+S.q*T.r+S.r*T.q⟩
def Cb(x y:Rat)(m:Int):Int:=
 let s:=x.num.sign
 let t:=if m.sign=0 then 0 else y.num.sign
 if t=0∨s=t then s else if s=0 then t else s*vY (x*x) (y*y*m)
def Sn.sg(S:Sn):Int:=
 let s:=Cb S.p S.q S.m
 let t:=if S.n.sign=0 then 0 else Cb S.r S.s S.m
 if t=0∨s=t then s else if s=0 then t else
  s*Cb (S.p*S.p+S.m*S.q*S.q-S.n*(S.r*S.r+S.m*S.s*S.s)) (2*(S.p*S.q-S.n*S.r*S.s)) S.m
theorem Sn.ext'{S T:Sn}(h1:S.m=T.m)(h2:S.n=T.n)(h3:S.p=T.p)(h4:S.q=T.q)(h5:S.r=T.r)(h6:S.s=T.s):S=T:=by
 cases S;cases T;simp_all
theorem Sn.mul_comm{S T:Sn}(hm:T.m=S.m)(hn:T.n=S.n):S.mul T=T.mul S:=by
 refine Sn.ext' hm.symm hn.symm ?_ ?_ ?_ ?_ <;>simp only[Sn.mul,hm,hn]<;>grind
theorem Lv(S T:Sn):S.add T.neg=S.sub T:=by
 refine Sn.ext' rfl rfl ?_ ?_ ?_ ?_ <;>simp only[Sn.add,Sn.neg,Sn.sub]<;>grind
def k_(x:Rat)(root:Int)(k:Nat):Int:=
 let q:Int:=(yl (x.num.natAbs*x.num.natAbs*root.natAbs*2^(2*k)):Nat)/(x.den:Int)
 if x.num.sign<0 then-q else q
def Sn.lessq(S:Sn)(q:Int):Sn:=⟨S.m,S.n,S.p-q,S.q,S.r,S.s⟩
def Sn.low(S:Sn):Int:=(0+k_ S.p 1 8+k_ S.q S.m 8+k_ S.r S.n 8+k_ S.s (S.m*S.n) 8)/256
def Sn.up(S:Sn)(h:Rat):Sn:=⟨S.m,S.n,S.p+h,S.q,S.r,S.s⟩
def Sn.half(S:Sn):Sn:=S.up (Rat.divInt 1 2)
def MZ(z:Int):Prop:=z= -1∨z=0∨z=1
theorem Vq{a b:Int}(ha:MZ a)(hb:MZ b):IntKind.i64.wrap (a*b)=a*b:=by
 rcases ha with rfl|rfl|rfl<;>rcases hb with rfl|rfl|rfl<;>rfl
theorem QW(z:Int):MZ z.sign:=by
 unfold MZ;rcases Int.lt_trichotomy z 0 with h|h|h
 ·exact .inl (jS h)
 ·subst h;exact .inr (.inl rfl)
 ·exact .inr (.inr (gf h))
theorem Uz(a b:Rat):MZ (vY a b):=by unfold MZ vY;grind
theorem TP{a b:Int}(ha:MZ a)(hb:MZ b):MZ (a*b):=by
 rcases ha with rfl|rfl|rfl<;>rcases hb with rfl|rfl|rfl<;>unfold MZ<;>decide
theorem Vj(x y:Rat)(m:Int):MZ (Cb x y m):=by
 unfold Cb;have h1:=QW x.num;have h2:=QW y.num;have h3:=TP h1 (Uz (x*x) (y*y*m));have h0:MZ 0:=.inr (.inl rfl);simp only
 (repeat' split)<;>assumption
section
variable{fin:VS→List aC→Prop}{Γ:List aC}{L M K:Nat}
theorem BK(x:Sw):
  aw tb Tryz.prog 147 [sv x] Γ (jy (.tuple #[zv x.u x.d,zv x.v x.e])):=by
 refine aw.of_W au Tryz.func147 rfl (W.r [] (.tuple #[zv x.u x.d,zv x.v x.e]) ⟨rfl,rfl⟩ bX)
theorem xF(x:Sw):
  aw tb Tryz.prog 213 [sv x] Γ (jy (ptv x)):=by
 refine aw.of_W au Tryz.func213 rfl (W.r [] (ptv x) ⟨rfl,rfl⟩ bX)
theorem KW(x:Sw){S:Sn} [aZ (SF x) (L,S) Γ](y:Sw){T:Sn} [aZ (SF y) (M,T) Γ](hm:S.m=T.m)(hn:S.n=T.n)(hL:L≤100000:=by omega)(hM:M≤100000:=by omega):
  aw tb Tryz.prog 214 [sv x,sv y] Γ (jy (.bool true)):=by
 refine aw.of_W au Tryz.func214 rfl (td x rfl (td y rfl (W.c0 [] (EU x.u x.d y.u y.d) (bh [] 13 ((rN S.m T.m)==0) (by rw[eJ,Eh];exact hm) (W.c0 [13] (EU x.v x.e y.v y.e) (W.r [13] (.bool ((rN S.n T.n)==0)) ⟨by rw[Eh.2 hn];rfl,rfl⟩ bX))))))
theorem ET(x:Sw){S:Sn} [aZ (SF x) (L,S) Γ](hL:L≤100000:=by omega):
  aw tb Tryz.prog 151 [sv x] Γ (Ue L S.neg):=by
 refine aw.of_W au Tryz.func151 rfl (td x rfl (j5 [] 6 (bz [8] (pK x.p.n x.p.a x.p.m x.p.b) (fun n1 a1 m1 b1=>bz [8] (pK x.q.n x.q.a x.q.m x.q.b) (fun n2 a2 m2 b2=>bz [8] (pK x.r.n x.r.a x.r.m x.r.b) (fun n3 a3 m3 b3=>bz [8] (pK x.s.n x.s.a x.s.m x.s.b) (fun n4 a4 m4 b4=>?_)))))));exact W.r [8] (sv ⟨x.u,x.d,x.v,x.e,⟨n1,a1,m1,b1⟩,⟨n2,a2,m2,b2⟩,⟨n3,a3,m3,b3⟩,⟨n4,a4,m4,b4⟩⟩) ⟨_,rfl,rfl⟩ (LP rfl rfl rfl rfl rfl rfl)
theorem pL(x:Sw){S:Sn} [aZ (SF x) (L,S) Γ](y:Sw){T:Sn} [aZ (SF y) (M,T) Γ](hm:S.m=T.m)(hn:S.n=T.n)(hL:L≤100000:=by omega)(hM:M≤100000:=by omega):
  aw tb Tryz.prog 152 [sv x,sv y] Γ (Yw (L+M+5) (S.add T)):=by
 refine aw.of_W au Tryz.func152 rfl (td x rfl (td y rfl (W.c0 [] (KW x y hm hn) (j5 [11] 6 (bz [16] (fz x.p.n x.p.a x.p.m x.p.b y.p.n y.p.a y.p.m y.p.b) (fun n2 a2 m2 b2=>bz [16] (fz x.q.n x.q.a x.q.m x.q.b y.q.n y.q.a y.q.m y.q.b) (fun n3 a3 m3 b3=>bz [16] (fz x.r.n x.r.a x.r.m x.r.b y.r.n y.r.a y.r.m y.r.b) (fun n4 a4 m4 b4=>bz [16] (fz x.s.n x.s.a x.s.m x.s.b y.s.n y.s.a y.s.m y.s.b) (fun n5 a5 m5 b5=>?_)))))))));exact W.r [16] (.tuple #[sv ⟨x.u,x.d,x.v,x.e,⟨n2,a2,m2,b2⟩,⟨n3,a3,m3,b3⟩,⟨n4,a4,m4,b4⟩,⟨n5,a5,m5,b5⟩⟩,.int .i64 0]) ⟨_,rfl,rfl⟩ (LP rfl rfl rfl rfl rfl rfl)
theorem XI(x:Sw){S:Sn} [aZ (SF x) (L,S) Γ](y:Sw){T:Sn} [aZ (SF y) (M,T) Γ](hm:S.m=T.m)(hn:S.n=T.n)(hL:L≤100000:=by omega)(hM:M≤100000:=by omega):
  aw tb Tryz.prog 210 [sv x,sv y] Γ (Yw (L+M+5) (S.sub T)):=by
 refine aw.of_W au Tryz.func210 rfl (W.c1 [] (ET y) (fun X1=>W.c1 [] (pL x X1 (by exact hm) (by exact hn)) (fun X2=>?_)));exact W.r [] (.tuple #[sv X2,.int .i64 0]) ⟨_,rfl,rfl⟩ (p8 (by omega) (Lv _ _))
theorem Qg(x:Sw){S:Sn} [aZ (SF x) (L,S) Γ](y:Sw){T:Sn} [aZ (SF y) (M,T) Γ](hm:S.m=T.m)(hn:S.n=T.n)(hL:L≤100000:=by omega)(hM:M≤100000:=by omega):
  aw tb Tryz.prog 150 [sv x,sv y] Γ (Yw (4*L+4*M+8*max L 2+200) (S.mul T)):=by
 refine aw.of_W au Tryz.func150 rfl (td x rfl (td y rfl (W.more rfl (mK (L':=0)) (W.c0 [] (KW x y hm hn) (bz [17] (cD x.u x.d) (fun n2 a2 m2 b2=>bz [] (cD x.v x.e) (fun n3 a3 m3 b3=>bR [] (dW 1) (fun u4 d4=>bz [] (cD u4 d4) (fun n5 a5 m5 b5=>bz [] (bY n2 a2 m2 b2 n3 a3 m3 b3) (fun n6 a6 m6 b6=>j5 [] 6 ?_))))))))));refine j5 [38] 6 (bz [44] (bY x.p.n x.p.a x.p.m x.p.b y.p.n y.p.a y.p.m y.p.b) (fun n7 a7 m7 b7=>bz [] (bY n7 a7 m7 b7 n5 a5 m5 b5) (fun n8 a8 m8 b8=>bz [] (fz ⟨none,0,0⟩ false ⟨none,0,0⟩ false n8 a8 m8 b8) (fun n9 a9 m9 b9=>bz [44] (bY x.p.n x.p.a x.p.m x.p.b y.q.n y.q.a y.q.m y.q.b) (fun n10 a10 m10 b10=>bz [] (bY n10 a10 m10 b10 n5 a5 m5 b5) (fun n11 a11 m11 b11=>bz [] (fz ⟨none,0,0⟩ false ⟨none,0,0⟩ false n11 a11 m11 b11) (fun n12 a12 m12 b12=>bz [44] (bY x.p.n x.p.a x.p.m x.p.b y.r.n y.r.a y.r.m y.r.b) (fun n13 a13 m13 b13=>bz [] (bY n13 a13 m13 b13 n5 a5 m5 b5) (fun n14 a14 m14 b14=>bz [] (fz ⟨none,0,0⟩ false ⟨none,0,0⟩ false n14 a14 m14 b14) (fun n15 a15 m15 b15=>bz [44] (bY x.p.n x.p.a x.p.m x.p.b y.s.n y.s.a y.s.m y.s.b) (fun n16 a16 m16 b16=>?_)))))))))));refine bz [] (bY n16 a16 m16 b16 n5 a5 m5 b5) (fun n17 a17 m17 b17=>?_)
 refine bz [] (fz ⟨none,0,0⟩ false ⟨none,0,0⟩ false n17 a17 m17 b17) (fun n18 a18 m18 b18=>j5 [38,44] 6 (bz [44] (bY x.q.n x.q.a x.q.m x.q.b y.p.n y.p.a y.p.m y.p.b) (fun n19 a19 m19 b19=>bz [] (bY n19 a19 m19 b19 n5 a5 m5 b5) (fun n20 a20 m20 b20=>bz [] (fz n12 a12 m12 b12 n20 a20 m20 b20) (fun n21 a21 m21 b21=>bz [44] (bY x.q.n x.q.a x.q.m x.q.b y.q.n y.q.a y.q.m y.q.b) (fun n22 a22 m22 b22=>bz [] (bY n22 a22 m22 b22 n2 a2 m2 b2) (fun n23 a23 m23 b23=>bz [] (fz n9 a9 m9 b9 n23 a23 m23 b23) (fun n24 a24 m24 b24=>bz [44] (bY x.q.n x.q.a x.q.m x.q.b y.r.n y.r.a y.r.m y.r.b) (fun n25 a25 m25 b25=>bz [] (bY n25 a25 m25 b25 n5 a5 m5 b5) (fun n26 a26 m26 b26=>bz [] (fz n18 a18 m18 b18 n26 a26 m26 b26) (fun n27 a27 m27 b27=>?_)))))))))));refine bz [44] (bY x.q.n x.q.a x.q.m x.q.b y.s.n y.s.a y.s.m y.s.b) (fun n28 a28 m28 b28=>bz [] (bY n28 a28 m28 b28 n2 a2 m2 b2) (fun n29 a29 m29 b29=>bz [] (fz n15 a15 m15 b15 n29 a29 m29 b29) (fun n30 a30 m30 b30=>j5 [38,44] 6 (bz [44] (bY x.r.n x.r.a x.r.m x.r.b y.p.n y.p.a y.p.m y.p.b) (fun n31 a31 m31 b31=>bz [] (bY n31 a31 m31 b31 n5 a5 m5 b5) (fun n32 a32 m32 b32=>bz [] (fz n30 a30 m30 b30 n32 a32 m32 b32) (fun n33 a33 m33 b33=>bz [44] (bY x.r.n x.r.a x.r.m x.r.b y.q.n y.q.a y.q.m y.q.b) (fun n34 a34 m34 b34=>?_))))))))
 refine bz [] (bY n34 a34 m34 b34 n5 a5 m5 b5) (fun n35 a35 m35 b35=>bz [] (fz n27 a27 m27 b27 n35 a35 m35 b35) (fun n36 a36 m36 b36=>bz [44] (bY x.r.n x.r.a x.r.m x.r.b y.r.n y.r.a y.r.m y.r.b) (fun n37 a37 m37 b37=>bz [] (bY n37 a37 m37 b37 n3 a3 m3 b3) (fun n38 a38 m38 b38=>bz [] (fz n24 a24 m24 b24 n38 a38 m38 b38) (fun n39 a39 m39 b39=>bz [44] (bY x.r.n x.r.a x.r.m x.r.b y.s.n y.s.a y.s.m y.s.b) (fun n40 a40 m40 b40=>bz [] (bY n40 a40 m40 b40 n3 a3 m3 b3) (fun n41 a41 m41 b41=>bz [] (fz n21 a21 m21 b21 n41 a41 m41 b41) (fun n42 a42 m42 b42=>j5 [38,44] 6 (bz [44] (bY x.s.n x.s.a x.s.m x.s.b y.p.n y.p.a y.p.m y.p.b) (fun n43 a43 m43 b43=>bz [] (bY n43 a43 m43 b43 n5 a5 m5 b5) (fun n44 a44 m44 b44=>?_)))))))))));refine bz [] (fz n36 a36 m36 b36 n44 a44 m44 b44) (fun n45 a45 m45 b45=>bz [44] (bY x.s.n x.s.a x.s.m x.s.b y.q.n y.q.a y.q.m y.q.b) (fun n46 a46 m46 b46=>bz [] (bY n46 a46 m46 b46 n2 a2 m2 b2) (fun n47 a47 m47 b47=>bz [] (fz n33 a33 m33 b33 n47 a47 m47 b47) (fun n48 a48 m48 b48=>bz [44] (bY x.s.n x.s.a x.s.m x.s.b y.r.n y.r.a y.r.m y.r.b) (fun n49 a49 m49 b49=>bz [] (bY n49 a49 m49 b49 n3 a3 m3 b3) (fun n50 a50 m50 b50=>bz [] (fz n42 a42 m42 b42 n50 a50 m50 b50) (fun n51 a51 m51 b51=>?_)))))))
 refine bz [44] (bY x.s.n x.s.a x.s.m x.s.b y.s.n y.s.a y.s.m y.s.b) (fun n52 a52 m52 b52=>bz [] (bY n52 a52 m52 b52 n6 a6 m6 b6) (fun n53 a53 m53 b53=>bz [] (fz n39 a39 m39 b39 n53 a53 m53 b53) (fun n54 a54 m54 b54=>?_)));exact W.r [38,44] (.tuple #[sv ⟨x.u,x.d,x.v,x.e,⟨n54,a54,m54,b54⟩,⟨n51,a51,m51,b51⟩,⟨n48,a48,m48,b48⟩,⟨n45,a45,m45,b45⟩⟩,.int .i64 0]) ⟨_,rfl,rfl⟩ (LP rfl rfl (by simp only[Sn.mul];grind) (by simp only[Sn.mul];grind) (by simp only[Sn.mul];grind) (by simp only[Sn.mul];grind))
theorem Jy(n:Sl)(a:Bool)(m:Sl)(b:Bool)(k:Sl)(c:Bool)(l:Sl)(d:Bool)(u:Sl)(e:Bool){x y:Rat}{z:Int} [aZ (QF n a m b) (L,x) Γ] [aZ (QF k c l d) (M,y) Γ] [aZ (ZF u e) (K,z) Γ](hL:L≤400000:=by omega)(hM:M≤290000:=by omega)(hK:K≤400000:=by omega):
  aw tb Tryz.prog 270 [qv n a m b,qv k c l d,zv u e] Γ (jy (.int .i64 (Cb x y z))):=by
 refine aw.of_W au Tryz.func270 rfl (W.c0 [] (nH n a m b) (W.c0 [] (nH k c l d) (W.c0 [] (nJ u e) (W.d [] 15 ((z).sign==0) (fun hb=>?_) (fun hb=>?_)))))
 ·skip
  exact W.r [16,19,15] (.int .i64 x.num.sign) ⟨dM _ (by unfold Cb;grind),rfl⟩ bX
 ·skip
  refine W.d [15] 19 (y.num.sign==0) (fun hb=>?_) (fun hb=>?_)
  ·skip
   exact W.r [16,19] (.int .i64 x.num.sign) ⟨dM _ (by unfold Cb;grind),rfl⟩ bX
  ·skip
   refine W.d [19] 16 (x.num.sign==y.num.sign) (fun hb=>?_) (fun hb=>?_)
   ·skip
    exact W.r [16] (.int .i64 x.num.sign) ⟨dM _ (by unfold Cb;grind),rfl⟩ bX
   ·skip
    refine W.d [16] 25 (x.num.sign==0) (fun hb=>?_) (fun hb=>?_)
    ·skip
     exact W.r [25] (.int .i64 y.num.sign) ⟨dM _ (by unfold Cb;grind),rfl⟩ bX
    ·skip
     refine bz [25] (bY n a m b n a m b) (fun n4 a4 m4 b4=>bz [] (bY k c l d k c l d) (fun n5 a5 m5 b5=>bz [] (cD u e) (fun n6 a6 m6 b6=>bz [] (bY n5 a5 m5 b5 n6 a6 m6 b6) (fun n7 a7 m7 b7=>W.c0 [] (Xz n4 a4 m4 b4 n7 a7 m7 b7) (W.r [] (.int .i64 (IntKind.i64.wrap (x.num.sign*(vY (x*x) ((y*y)*(z:Rat)))))) ⟨dM _ (by rw[Vq (QW _) (Uz _ _)];unfold Cb;grind),rfl⟩ bX)))))
theorem KY(x:Sw){S:Sn} [aZ (SF x) (L,S) Γ](hL:L≤10000:=by omega):
  aw tb Tryz.prog 256 [sv x] Γ (jy (.int .i64 S.sg)):=by
 refine aw.of_W au Tryz.func256 rfl (td x rfl (W.revp 1 ((sv x).cells.toList) ?_));intro b0;refine bN [] 4 b0 0 au (wN [] 4 4 b0 4 none (some (.int .i64 ((2:Nat):Int))) 0 2 au (.inr ⟨rfl,rfl⟩) (.inl rfl) (bN [] 4 b0 0 au (wN [] 4 4 b0 4 (some (.int .i64 ((2:Nat):Int))) none 2 4 au (.inl rfl) (.inr ⟨rfl,rfl⟩) (bI [] 4 b0 4 2 4 .i64 0 0 rfl au (by decide) (jE [] b0 4 [.slice x.p.n.ao x.p.n.n x.p.n.c,.bool x.p.a,.slice x.p.m.ao x.p.m.n x.p.m.c,.bool x.p.b] au rfl (bI [] 4 b0 4 2 4 .i64 1 1 rfl au (by decide) (jE [] b0 8 [.slice x.q.n.ao x.q.n.n x.q.n.c,.bool x.q.a,.slice x.q.m.ao x.q.m.n x.q.m.c,.bool x.q.b] au rfl (bN [] 0 b0 0 au (bN [] 0 b0 0 au (jE [] b0 0 [.slice x.u.ao x.u.n x.u.c,.bool x.d] au rfl ?_))))))))));refine bI [] 4 b0 12 2 2 .i64 0 0 rfl au (by decide) (jE [] b0 12 [.slice x.r.n.ao x.r.n.n x.r.n.c,.bool x.r.a,.slice x.r.m.ao x.r.m.n x.r.m.c,.bool x.r.b] au rfl (bI [] 4 b0 12 2 2 .i64 1 1 rfl au (by decide) (jE [] b0 16 [.slice x.s.n.ao x.s.n.n x.s.n.c,.bool x.s.a,.slice x.s.m.ao x.s.m.n x.s.m.c,.bool x.s.b] au rfl (bN [] 0 b0 0 au (bN [] 0 b0 0 au (jE [] b0 0 [.slice x.u.ao x.u.n x.u.c,.bool x.d] au rfl (W.c0 [] (Jy x.p.n x.p.a x.p.m x.p.b x.q.n x.q.a x.q.m x.q.b x.u x.d) (W.c0 [] (Jy x.r.n x.r.a x.r.m x.r.b x.s.n x.s.a x.s.m x.s.b x.u x.d) ?_))))))))
 refine bN [] 0 b0 0 au (bN [] 2 b0 0 au (jE [] b0 2 [.slice x.v.ao x.v.n x.v.c,.bool x.e] au rfl (W.c0 [] (nJ x.v x.e) (W.d [] 40 ((S.n).sign==0) (fun hb=>?_) (fun hb=>?_)))))
 ·skip
  exact W.r [41,44,40] (.int .i64 (Cb S.p S.q S.m)) ⟨dM _ (by unfold Sn.sg;grind),rfl⟩ bX
 ·skip
  refine W.d [40] 44 ((Cb S.r S.s S.m)==0) (fun hb=>?_) (fun hb=>?_)
  ·skip
   exact W.r [41,44] (.int .i64 (Cb S.p S.q S.m)) ⟨dM _ (by unfold Sn.sg;grind),rfl⟩ bX
  ·skip
   refine W.d [44] 41 ((Cb S.p S.q S.m)==(Cb S.r S.s S.m)) (fun hb=>?_) (fun hb=>?_)
   ·skip
    exact W.r [41] (.int .i64 (Cb S.p S.q S.m)) ⟨dM _ (by unfold Sn.sg;grind),rfl⟩ bX
   ·skip
    refine W.d [41] 50 ((Cb S.p S.q S.m)==0) (fun hb=>?_) (fun hb=>?_)
    ·skip
     exact W.r [50] (.int .i64 (Cb S.r S.s S.m)) ⟨dM _ (by unfold Sn.sg;grind),rfl⟩ bX
    ·skip
     refine bN [50] 0 b0 0 au (bN [] 0 b0 0 au (jE [] b0 0 [.slice x.u.ao x.u.n x.u.c,.bool x.d] au rfl (bN [] 0 b0 0 au (bN [] 2 b0 0 au (jE [] b0 2 [.slice x.v.ao x.v.n x.v.c,.bool x.e] au rfl (bz [] (cD x.u x.d) (fun n4 a4 m4 b4=>bz [] (cD x.v x.e) (fun n5 a5 m5 b5=>bR [] (dW 2) (fun u6 d6=>bz [] (cD u6 d6) (fun n7 a7 m7 b7=>bI [] 4 b0 4 2 4 .i64 0 0 rfl au (by decide) ?_))))))))));refine jE [] b0 4 [.slice x.p.n.ao x.p.n.n x.p.n.c,.bool x.p.a,.slice x.p.m.ao x.p.m.n x.p.m.c,.bool x.p.b] au rfl (bI [] 4 b0 4 2 4 .i64 0 0 rfl au (by decide) (jE [] b0 4 [.slice x.p.n.ao x.p.n.n x.p.n.c,.bool x.p.a,.slice x.p.m.ao x.p.m.n x.p.m.c,.bool x.p.b] au rfl (bI [] 4 b0 4 2 4 .i64 1 1 rfl au (by decide) (jE [] b0 8 [.slice x.q.n.ao x.q.n.n x.q.n.c,.bool x.q.a,.slice x.q.m.ao x.q.m.n x.q.m.c,.bool x.q.b] au rfl (bI [] 4 b0 4 2 4 .i64 1 1 rfl au (by decide) (jE [] b0 8 [.slice x.q.n.ao x.q.n.n x.q.n.c,.bool x.q.a,.slice x.q.m.ao x.q.m.n x.q.m.c,.bool x.q.b] au rfl (bI [] 4 b0 12 2 2 .i64 0 0 rfl au (by decide) (jE [] b0 12 [.slice x.r.n.ao x.r.n.n x.r.n.c,.bool x.r.a,.slice x.r.m.ao x.r.m.n x.r.m.c,.bool x.r.b] au rfl (bI [] 4 b0 12 2 2 .i64 0 0 rfl au (by decide) (jE [] b0 12 [.slice x.r.n.ao x.r.n.n x.r.n.c,.bool x.r.a,.slice x.r.m.ao x.r.m.n x.r.m.c,.bool x.r.b] au rfl ?_))))))))))
     refine bI [] 4 b0 12 2 2 .i64 1 1 rfl au (by decide) (jE [] b0 16 [.slice x.s.n.ao x.s.n.n x.s.n.c,.bool x.s.a,.slice x.s.m.ao x.s.m.n x.s.m.c,.bool x.s.b] au rfl (bI [] 4 b0 12 2 2 .i64 1 1 rfl au (by decide) (jE [] b0 16 [.slice x.s.n.ao x.s.n.n x.s.n.c,.bool x.s.a,.slice x.s.m.ao x.s.m.n x.s.m.c,.bool x.s.b] au rfl (bz [] (bY x.p.n x.p.a x.p.m x.p.b x.p.n x.p.a x.p.m x.p.b) (fun n8 a8 m8 b8=>bz [] (bY n4 a4 m4 b4 x.q.n x.q.a x.q.m x.q.b) (fun n9 a9 m9 b9=>bz [] (bY n9 a9 m9 b9 x.q.n x.q.a x.q.m x.q.b) (fun n10 a10 m10 b10=>bz [] (fz n8 a8 m8 b8 n10 a10 m10 b10) (fun n11 a11 m11 b11=>bz [] (bY x.r.n x.r.a x.r.m x.r.b x.r.n x.r.a x.r.m x.r.b) (fun n12 a12 m12 b12=>bz [] (bY n4 a4 m4 b4 x.s.n x.s.a x.s.m x.s.b) (fun n13 a13 m13 b13=>bz [] (bY n13 a13 m13 b13 x.s.n x.s.a x.s.m x.s.b) (fun n14 a14 m14 b14=>?_)))))))))));refine bz [] (fz n12 a12 m12 b12 n14 a14 m14 b14) (fun n15 a15 m15 b15=>bz [] (bY n5 a5 m5 b5 n15 a15 m15 b15) (fun n16 a16 m16 b16=>bz [] (EO n11 a11 m11 b11 n16 a16 m16 b16) (fun n17 a17 m17 b17=>bI [] 4 b0 4 2 4 .i64 0 0 rfl au (by decide) (jE [] b0 4 [.slice x.p.n.ao x.p.n.n x.p.n.c,.bool x.p.a,.slice x.p.m.ao x.p.m.n x.p.m.c,.bool x.p.b] au rfl (bI [] 4 b0 4 2 4 .i64 1 1 rfl au (by decide) (jE [] b0 8 [.slice x.q.n.ao x.q.n.n x.q.n.c,.bool x.q.a,.slice x.q.m.ao x.q.m.n x.q.m.c,.bool x.q.b] au rfl ?_))))))
     refine bI [] 4 b0 12 2 2 .i64 0 0 rfl au (by decide) (jE [] b0 12 [.slice x.r.n.ao x.r.n.n x.r.n.c,.bool x.r.a,.slice x.r.m.ao x.r.m.n x.r.m.c,.bool x.r.b] au rfl (bI [] 4 b0 12 2 2 .i64 1 1 rfl au (by decide) (jE [] b0 16 [.slice x.s.n.ao x.s.n.n x.s.n.c,.bool x.s.a,.slice x.s.m.ao x.s.m.n x.s.m.c,.bool x.s.b] au rfl (bz [] (bY x.p.n x.p.a x.p.m x.p.b x.q.n x.q.a x.q.m x.q.b) (fun n18 a18 m18 b18=>bz [] (bY n5 a5 m5 b5 x.r.n x.r.a x.r.m x.r.b) (fun n19 a19 m19 b19=>bz [] (bY n19 a19 m19 b19 x.s.n x.s.a x.s.m x.s.b) (fun n20 a20 m20 b20=>bz [] (EO n18 a18 m18 b18 n20 a20 m20 b20) (fun n21 a21 m21 b21=>bz [] (bY n7 a7 m7 b7 n21 a21 m21 b21) (fun n22 a22 m22 b22=>bN [] 0 b0 0 au (bN [] 0 b0 0 au ?_))))))))));refine jE [] b0 0 [.slice x.u.ao x.u.n x.u.c,.bool x.d] au rfl (W.c0 [] (Jy n17 a17 m17 b17 n22 a22 m22 b22 x.u x.d) (W.r [] (.int .i64 (IntKind.i64.wrap ((Cb S.p S.q S.m)*(Cb (((S.p*S.p)+(((S.m:Rat)*S.q)*S.q))-((S.n:Rat)*((S.r*S.r)+(((S.m:Rat)*S.s)*S.s)))) ((2:Rat)*((S.p*S.q)-(((S.n:Rat)*S.r)*S.s))) S.m)))) ⟨dM _ (by rw[Vq (Vj _ _ _) (Vj _ _ _)];unfold Sn.sg;grind),rfl⟩ bX))
theorem vd(x:Sw){S:Sn} [aZ (SF x) (L,S) Γ](u:Sl)(e:Bool){q:Int} [aZ (ZF u e) (M,q) Γ](hL:L≤4000:=by omega)(hM:M≤4000:=by omega):
  aw tb Tryz.prog 269 [sv x,zv u e] Γ (jy (.bool (decide ((S.lessq q).sg<0)))):=by
 refine aw.of_W au Tryz.func269 rfl (td x rfl (bz [] (cD u e) (fun n1 a1 m1 b1=>bz [] (EO x.p.n x.p.a x.p.m x.p.b n1 a1 m1 b1) (fun n2 a2 m2 b2=>?_))));refine jT [] (LP (x:=⟨x.u,x.d,x.v,x.e,⟨n2,a2,m2,b2⟩,x.q,x.r,x.s⟩) (L':=L+max M 2+10) (S:=(S.lessq q)) rfl rfl rfl rfl rfl rfl) (KY ⟨x.u,x.d,x.v,x.e,⟨n2,a2,m2,b2⟩,x.q,x.r,x.s⟩) ?_;rintro _ _ ⟨rfl,rfl⟩;exact W.r [] (.bool (decide ((S.lessq q).sg<0))) ⟨rfl,rfl⟩ bX
theorem xE(n:Sl)(a:Bool)(m:Sl)(b:Bool)(u:Sl)(e:Bool)(k:Int)(hk:k=8){x:Rat}{r:Int} [aZ (QF n a m b) (L,x) Γ] [hr:aZ (ZF u e) (M,r) Γ](hL:L≤600:=by omega)(hM:M≤700:=by omega):
  aw tb Tryz.prog 268 [qv n a m b,zv u e,.int .i64 k] Γ (o9 (2*L+M+10) (k_ x r 8)):=by
 subst hk;refine aw.of_W au Tryz.func268 rfl (bR [] (P_ n a m b) (fun u1 d1=>W.c0 [] (BM u1 d1) (bR [] (P_ n a m b) (fun u3 d3=>W.c0 [] (BM u3 d3) (W.c1 [] (PX u1 u3) (fun u5=>W.c0 [] (BM u e) (W.c1 [] (PX u5 u) (fun u7=>W.c1 [] (aaJ u7 16 (by omega)) (fun u8=>bR [] (XD u8) (fun u9 t9=>bR [] (wu u9) (fun u10 d10=>?_)))))))))));refine bR [] (np n a m b) (fun u11 d11=>bz [] (pM u10 d10 u11 d11 (by have:=gI x;omega)) (fun u12 d12 v12 e12=>W.c0 [] (nH n a m b) (W.d [] 46 (decide (x.num.sign<0)) (fun hb=>?_) (fun hb=>?_))))
 ·refine bR [46] (se u12 d12) (fun u14 d14=>W.r [] (zv u14 d14) ⟨_,_,rfl,rfl⟩ (lj (by unfold k_;simp only;rw[if_pos (jo hb)])))
 ·exact W.r [46] (zv u12 d12) ⟨_,_,rfl,rfl⟩ (lj (by unfold k_;simp only;rw[if_neg (eO hb)]))
end
def K0(l:List QE)(i:Nat):Qw:=match l[i]? with
 |some e=>⟨e.n,e.nb,e.d,e.db⟩
 |none=>cf
def YK(l:List QE)(i:Nat):Rat:=match l[i]? with
 |some e=>e.q
 |none=>0
theorem xK{l:List QE}{L L':Nat}{I:gd}{w:World}(hd:bj tb I w)(h:∀e∈l,(QR.fact L e).p I w)(i:Nat)(hL:L≤L':=by omega):(QG (K0 l i) (L',YK l i)).p I w:=by
 unfold K0 YK;cases hi:l[i]? with
 |none=>exact(mK (Γ:=[]) (L':=L') I w hd (aD.nil _ _)).h0'
 |some e=>
  have:=h e (aM hi);exact QF.up2 this hL
section
variable{fin:VS→List aC→Prop}{Γ:List aC}{L M K:Nat}
theorem Qh(u:Sl)(d:Bool)(v:Sl)(e:Bool)(ao:Option Addr)(n c:Nat){l:List QE}{p q:Int} [hu:aZ (ZF u d) (L,p) Γ] [hv:aZ (ZF v e) (M,q) Γ] [h:aZ (OL QR ao) (K,l) Γ](hn:n=l.length)(hp:0≤p)(hq:0≤q)
  (hL:L≤100000:=by omega)(hM:M≤100000:=by omega)(hl:n≤4:=by omega):
  aw tb Tryz.prog 148 [zv u d,zv v e,.slice ao n c] Γ (Yw (max (max L M) K) ⟨p,q,YK l 0,YK l 1,YK l 2,YK l 3⟩):=by
 subst hn;refine aw.of_W au Tryz.func148 rfl (W.more (Δ:=[RA ao (l.flatMap QR.cells)]) rfl (fun I w _ hh=>aT (h.p hh).2) (qE (l.flatMap QR.cells≠ []→∃b off,ao=some ⟨b,off,none⟩) rfl (fun I w _ hh hne=>by
  obtain⟨b,off,ha,_⟩:=(h.p (fun F hF=>hh F (by simp[hF]))).2 hne;exact⟨b,off,ha⟩) (fun hao=>?_)))
 refine W.c0 [] (nJ u d) (aO [] 12 (decide ((p).sign<0)) (by rw[aW,Int.sign_neg_iff];omega) (W.c0 [12] (nJ v e) (aO [12] 17 (decide ((q).sign<0)) (by rw[aW,Int.sign_neg_iff];omega) (aO [17] 21 (decide (((l.length:Nat):Int)>4)) (by rw[aW];omega) (vD 8 (fun b=>bN [] 4 b 0 au (wN [] 4 4 b 4 none none 0 4 au (.inr ⟨rfl,rfl⟩) (.inr ⟨rfl,rfl⟩) ?_)))))));have hone:∀z∈l.flatMap QR.cells,z.oneCell'=true:=by
  intro z hz;obtain⟨e,_,hz⟩:=List.mem_flatMap.1 hz;simp[QR]at hz;rcases hz with rfl|rfl|rfl|rfl<;>rfl
 have hlen:=qp QR l;have hz:QR.z=4:=rfl;refine Za [] [(b,(sv ⟨u,d,v,e,cf,cf,cf,cf⟩).cells.toList)] [] [] 4 b 4 4 4 l.length (sv ⟨u,d,v,e,cf,cf,cf,cf⟩).cells.toList (.slice ao l.length c) (l.flatMap QR.cells) au rfl
  (B7 ao _ l.length 4 c hlen (fun h0=>hao (by intro e;have h2:=dM List.length e;rw[hlen,hz]at h2;simp only[a_]at h2;omega))) hone hl (by rw[hlen,hz];show _≤20;omega) ?_
 have key:∀(X:Sw),X=⟨u,d,v,e,K0 l 0,K0 l 1,K0 l 2,K0 l 3⟩→((((sv ⟨u,d,v,e,cf,cf,cf,cf⟩).cells.toList.take 4++l.flatMap QR.cells++(sv ⟨u,d,v,e,cf,cf,cf,cf⟩).cells.toList.drop (4+(l.flatMap QR.cells).length)).drop 0).take 20=(sv X).cells.toList):=by
  rintro X rfl;rcases l with _|⟨e0,_|⟨e1,_|⟨e2,_|⟨e3,_|⟨e4,l⟩⟩⟩⟩⟩
  ·rfl
  ·rfl
  ·rfl
  ·rfl
  ·rfl
  ·simp at hl
 refine wM [] ([]++(b,(sv ⟨u,d,v,e,cf,cf,cf,cf⟩).cells.toList.take 4++l.flatMap QR.cells++(sv ⟨u,d,v,e,cf,cf,cf,cf⟩).cells.toList.drop (4+(l.flatMap QR.cells).length))::[]) b 0 20 _ (sv ⟨u,d,v,e,K0 l 0,K0 l 1,K0 l 2,K0 l 3⟩).cells.toList au (key _ rfl) rfl (W.r [] (.tuple #[sv ⟨u,d,v,e,K0 l 0,K0 l 1,K0 l 2,K0 l 3⟩,.int .i64 0]) ⟨_,rfl,rfl⟩ (fun I w hd hh=>by
  have f1:=aZ.p (k:=ZF u d) (a:=(L,p)) inferInstance hh;have f2:=aZ.p (k:=ZF v e) (a:=(M,q)) inferInstance hh;have f3:=(aZ.p (k:=OL QR ao) (a:=(K,l)) inferInstance hh).1;exact aT ⟨ZF.up2 f1 (by omega),ZF.up2 f2 (by omega),xK hd f3 0,xK hd f3 1,xK hd f3 2,xK hd f3 3⟩))
end
section
variable{fin:VS→List aC→Prop}{Γ:List aC}{L M K:Nat}
theorem aw.entH{f:FuncId}{args:List Value}{Γ:List aC}{post post':Value→List aC→Prop}(h:aw tb Tryz.prog f args Γ post)(hp:∀v Δ,post v Δ→∃Δ',post' v Δ'∧∀I w,aD Δ I w→aD Δ' I w):aw tb Tryz.prog f args Γ post':=
 ⟨h.1,fun I w hd hh=>(h.2 I w hd hh).mono fun _ _ ⟨v,Δ,h1,h2,h3,h4⟩=>by
  obtain⟨Δ',g1,g2⟩:=hp v Δ h2;exact⟨v,Δ',h1,g1,h3,g2 _ _ h4⟩⟩
end
def QB(e:Ev):Option (TypeId×Value×Value):=
 match e with
 | .read o c=>match o.op with
  | .binOp .eql t x y _=>match c.s.ev x,c.s.ev y with
   | .val a,.val b=>some (t,a,b)
   |_,_=>none
  |_=>none
 |_=>none
section
variable{T:Tb}{P:Program}{fin:VS→List aC→Prop}{c:fF}{Γ:List aC}
theorem W.rem(D:List Nat)(a b r:Int)(hb:b≠0)(hr:a.tmod b=r)
  (hk:W T P fin (fH (aE T (aV T D 999 c)) (.int .i64 r)) Γ)(h:nL (aE T (aV T D 999 c))=some (.rem,.int .i64 a,.int .i64 b):=by kernel_rfl):W T P fin c Γ:=by
 subst hr;refine ez D 999 ?_;generalize aV T D 999 c=c1 at*;unfold nL at h;split at h
 ·rename_i o c' he;rw[he]at hk;split at h
  ·rename_i op ty u v yt hop;split at h
   ·rename_i x y hx hy;simp only[aq,aG]at h;obtain⟨rfl,rfl,rfl⟩:=h;refine W.read _ he (.any ?_) hk;intro w;simp[execOp,hop,cE hx,cE hy,eqGuard,binOp,Op.intDiv,hb]
   ·simp at h
  ·simp at h
 ·simp at h
end
structure Ow where
 f:Bool
 o:Int
 g:Qw
 a:Qw
 b:Qw
 c:Qw
 d:Qw
structure On where
 f:Bool
 o:Int
 g:Rat
 a:Rat
 b:Rat
 c:Rat
 d:Rat
structure Q5 where
 g:Qw
 a:Qw
 b:Qw
 c:Qw
 d:Qw
abbrev vK(a b:Qw):Value:=.agg #[.slice a.n.ao a.n.n a.n.c,.bool a.a,.slice a.m.ao a.m.n a.m.c,.bool a.b,.slice b.n.ao b.n.n b.n.c,.bool b.a,.slice b.m.ao b.m.n b.m.c,.bool b.b]
abbrev Vm(f:Bool)(o:Int)(g a b c d:Qw):Value:=.agg #[.bool f,.int .i64 o,.slice g.n.ao g.n.n g.n.c,.bool g.a,.slice g.m.ao g.m.n g.m.c,.bool g.b,.slice a.n.ao a.n.n a.n.c,.bool a.a,.slice a.m.ao a.m.n a.m.c,.bool a.b,
 .slice b.n.ao b.n.n b.n.c,.bool b.a,.slice b.m.ao b.m.n b.m.c,.bool b.b,.slice c.n.ao c.n.n c.n.c,.bool c.a,.slice c.m.ao c.m.n c.m.c,.bool c.b,.slice d.n.ao d.n.n d.n.c,.bool d.a,.slice d.m.ao d.m.n d.m.c,.bool d.b]
abbrev BS(x y:Sw):Value:=.agg ((sv x).cells++(sv y).cells)
abbrev Io(V:On)(x:Q5):Value:=Vm V.f V.o x.g x.a x.b x.c x.d
def OF(x:Q5)(a:Nat×On):aC where
 p I w:=(QG x.g (a.1,a.2.g)).p I w∧(QG x.a (a.1,a.2.a)).p I w∧(QG x.b (a.1,a.2.b)).p I w∧(QG x.c (a.1,a.2.c)).p I w∧(QG x.d (a.1,a.2.d)).p I w
 up:=by
  rintro I I' w w' ⟨g2,g3,g4,g5,g6⟩ h1 h2 h3;exact⟨(QG x.g _).up g2 h1 h2 h3,(QG x.a _).up g3 h1 h2 h3,(QG x.b _).up g4 h1 h2 h3,(QG x.c _).up g5 h1 h2 h3,(QG x.d _).up g6 h1 h2 h3⟩
section
variable{fin:VS→List aC→Prop}{Γ:List aC}{L:Nat}
theorem CJ{P:Program}{c:fF}(x:Q5){V:On} [h:aZ (OF x) (L,V) Γ](hm:dF c.k=false)
  (hk:W tb P fin c (QG x.g (L,V.g)::QG x.a (L,V.a)::QG x.b (L,V.b)::QG x.c (L,V.c)::QG x.d (L,V.d)::Γ)):W tb P fin c Γ:=
 W.more (Δ:=[QG x.g (L,V.g),QG x.a (L,V.a),QG x.b (L,V.b),QG x.c (L,V.c),QG x.d (L,V.d)]) hm (fun I w _ hh=>by
  obtain⟨g2,g3,g4,g5,g6⟩:=h.p hh;exact aD.cons g2 (aD.cons g3 (aD.cons g4 (aD.cons g5 (aT g6))))) hk
theorem Wn{x:Q5}{L' L1 L2 L3 L4 L5:Nat}{V:On}{g a b c d:Rat} [h1:aZ (QG x.g) (L1,g) Γ] [h2:aZ (QG x.a) (L2,a) Γ] [h3:aZ (QG x.b) (L3,b) Γ] [h4:aZ (QG x.c) (L4,c) Γ] [h5:aZ (QG x.d) (L5,d) Γ]
  (e1:g=V.g)(e2:a=V.a)(e3:b=V.b)(e4:c=V.c)(e5:d=V.d)(hL:L1≤L'∧L2≤L'∧L3≤L'∧L4≤L'∧L5≤L':=by omega):∀(I:gd) (w:World),bj tb I w→aD Γ I w→aD [OF x (L',V)] I w:=fun I w _ hh=>by
 subst e1 e2 e3 e4 e5;obtain⟨l1,l2,l3,l4,l5⟩:=hL;exact aT ⟨QF.up2 (h1.p hh) l1,QF.up2 (h2.p hh) l2,QF.up2 (h3.p hh) l3,QF.up2 (h4.p hh) l4,QF.up2 (h5.p hh) l5⟩
end
def tm1(x y:Rat)(c d:Int):Rat:=x*c+y*d
def tm2(x y:Rat)(c d:Int):Rat:=y*c+x*Rat.divInt d 2
def pc(o:Int):Int:=if o=0 then 1 else if o=4 then-1 else 0
def ps(o:Int):Int:=if o=2 then 1 else if o=6 then-1 else 0
def MD(o:Int):Int:=if o=1∨o=7 then 1 else if o=3∨o=5 then-1 else 0
def MJ(o:Int):Int:=if o=1∨o=3 then 1 else if o=5∨o=7 then-1 else 0
def On.mag(V:On):Rat:=if V.g.num.sign=0 then 1 else V.g
def On.sg(V:On)(z:Rat):Rat:=if V.f then-z else z
def On.u0(V:On)(x y z w:Rat):Rat:=tm1 (x*V.mag) (y*V.mag) (pc V.o) (MD V.o)+ -(tm1 (V.sg z*V.mag) (V.sg w*V.mag) (ps V.o) (MJ V.o))+V.a
def On.u1(V:On)(x y z w:Rat):Rat:=tm2 (x*V.mag) (y*V.mag) (pc V.o) (MD V.o)+ -(tm2 (V.sg z*V.mag) (V.sg w*V.mag) (ps V.o) (MJ V.o))+V.b
def On.v0(V:On)(x y z w:Rat):Rat:=tm1 (x*V.mag) (y*V.mag) (ps V.o) (MJ V.o)+tm1 (V.sg z*V.mag) (V.sg w*V.mag) (pc V.o) (MD V.o)+V.c
def On.v1(V:On)(x y z w:Rat):Rat:=tm2 (x*V.mag) (y*V.mag) (ps V.o) (MJ V.o)+tm2 (V.sg z*V.mag) (V.sg w*V.mag) (pc V.o) (MD V.o)+V.d
def r2(x y:Rat):Sn:=⟨2,0,x,y,0,0⟩
def D5(L:Nat)(x y:Rat)(v:Value)(Δ:List aC):Prop:=∃a b:Qw,v=vK a b∧Δ=[QG a (L,x),QG b (L,y)]
def vU(L:Nat)(X Y:Sn)(v:Value)(Δ:List aC):Prop:=∃x y:Sw,v=BS x y∧Δ=[SF x (L,X),SF y (L,Y)]
def On.then(V U:On):On:=⟨!(V.f==U.f),if U.f then(-V.o+U.o) % 8 else(V.o+U.o) % 8,V.mag*U.mag,U.u0 V.a V.b V.c V.d,U.u1 V.a V.b V.c V.d,U.v0 V.a V.b V.c V.d,U.v1 V.a V.b V.c V.d⟩
theorem VY:∀n m:_root_.Fin 8,bits BinOp.and .i64 (IntKind.i64.wrap ((n:Int)+m)) 7=((n:Int)+m) % 8:=by decide+kernel
theorem VZ:∀n m:_root_.Fin 8,bits BinOp.and .i64 (IntKind.i64.wrap (IntKind.i64.wrap (0-(n:Int))+m)) 7=(-(n:Int)+m) % 8:=by decide+kernel
theorem Ss{o:Int}(h:0≤o∧o≤7):∃n:_root_.Fin 8,o=(n:Int):=⟨⟨o.toNat,by omega⟩,by simp only;omega⟩
theorem Zm{o u:Int}(h:0≤o∧o≤7)(h':0≤u∧u≤7):bits BinOp.and .i64 (IntKind.i64.wrap (o+u)) 7=(o+u) % 8:=by
 obtain⟨n,rfl⟩:=Ss h;obtain⟨m,rfl⟩:=Ss h';exact VY n m
theorem Zn{o u:Int}(h:0≤o∧o≤7)(h':0≤u∧u≤7):bits BinOp.and .i64 (IntKind.i64.wrap (IntKind.i64.wrap (0-o)+u)) 7=(-o+u) % 8:=by
 obtain⟨n,rfl⟩:=Ss h;obtain⟨m,rfl⟩:=Ss h';exact VZ n m
theorem Lt(V U:On):0≤(V.then U).o∧(V.then U).o≤7:=by
 unfold On.then
 simp only;split<;>omega
theorem XK(o:Int): -1≤pc o∧pc o≤1:=by unfold pc;(repeat' split)<;>omega
theorem XL(o:Int): -1≤ps o∧ps o≤1:=by unfold ps;(repeat' split)<;>omega
theorem Ql(o:Int): -1≤MD o∧MD o≤1:=by unfold MD;(repeat' split)<;>omega
theorem Qp(o:Int): -1≤MJ o∧MJ o≤1:=by unfold MJ;(repeat' split)<;>omega
section
variable{fin:VS→List aC→Prop}{Γ:List aC}{L M K:Nat}
theorem acf{a:Qw}{L':Nat}{q q':Rat} [h:aZ (QG a) (L,q) Γ](hL:L≤L')(hq:q=q'):∀(I:gd) (w:World),bj tb I w→aD Γ I w→aD [QG a (L',q')] I w:=fun I w _ hh=>by
 subst hq;exact aT (QF.up2 (h.p hh) hL)
theorem AO{a b:Qw}{L1 L2 L':Nat}{q q' r r':Rat} [h:aZ (QG a) (L1,q) Γ] [h':aZ (QG b) (L2,r) Γ](hq:q=q')(hr:r=r')(hL:L1≤L'∧L2≤L':=by omega):∀(I:gd) (w:World),bj tb I w→aD Γ I w→aD [QG a (L',q'),QG b (L',r')] I w:=fun I w _ hh=>by
 subst hq hr;exact aD.cons (QF.up2 (h.p hh) hL.1) (aT (QF.up2 (h'.p hh) hL.2))
theorem adC{z:Int}(h:(z==0)=true):z=0:=eq_of_beq h
theorem KR(o:Int)(h:0≤o∧o≤7):aw tb Tryz.prog 206 [.int .i64 o] Γ (jy (.agg #[.int .i64 (pc o),.int .i64 (ps o),.int .i64 (MD o),.int .i64 (MJ o)])):=by
 obtain rfl|rfl|rfl|rfl|rfl|rfl|rfl|rfl:o=0∨o=1∨o=2∨o=3∨o=4∨o=5∨o=6∨o=7:=by omega
 ·exact aw.of_W au Tryz.func206 rfl (W.r [] (.agg #[.int .i64 1,.int .i64 0,.int .i64 0,.int .i64 0]) ⟨rfl,rfl⟩ bX)
 ·exact aw.of_W au Tryz.func206 rfl (W.r [] (.agg #[.int .i64 0,.int .i64 0,.int .i64 1,.int .i64 1]) ⟨rfl,rfl⟩ bX)
 ·exact aw.of_W au Tryz.func206 rfl (W.r [] (.agg #[.int .i64 0,.int .i64 1,.int .i64 0,.int .i64 0]) ⟨rfl,rfl⟩ bX)
 ·exact aw.of_W au Tryz.func206 rfl (W.r [] (.agg #[.int .i64 0,.int .i64 0,.int .i64 (-1),.int .i64 1]) ⟨rfl,rfl⟩ bX)
 ·exact aw.of_W au Tryz.func206 rfl (W.r [] (.agg #[.int .i64 (-1),.int .i64 0,.int .i64 0,.int .i64 0]) ⟨rfl,rfl⟩ bX)
 ·exact aw.of_W au Tryz.func206 rfl (W.r [] (.agg #[.int .i64 0,.int .i64 0,.int .i64 (-1),.int .i64 (-1)]) ⟨rfl,rfl⟩ bX)
 ·exact aw.of_W au Tryz.func206 rfl (W.r [] (.agg #[.int .i64 0,.int .i64 (-1),.int .i64 0,.int .i64 0]) ⟨rfl,rfl⟩ bX)
 ·exact aw.of_W au Tryz.func206 rfl (W.r [] (.agg #[.int .i64 0,.int .i64 0,.int .i64 1,.int .i64 (-1)]) ⟨rfl,rfl⟩ bX)
theorem lP(u:Sl)(d:Bool)(v:Sl)(e:Bool)(a b:Qw){m n:Int}{x y:Rat}{L1 L2:Nat} [h1:aZ (ZF u d) (L,m) Γ] [h2:aZ (ZF v e) (M,n) Γ] [ha:aZ (QG a) (L1,x) Γ] [hb:aZ (QG b) (L2,y) Γ](hm:0≤m)(hn:0≤n)
  (hL:L≤100000:=by omega)(hM:M≤100000:=by omega):
  aw tb Tryz.prog 143 [zv u d,zv v e,vK a b] Γ (Ue (max (max L M) (max L1 L2)) ⟨m,n,x,y,0,0⟩):=by
 refine aw.of_W au Tryz.func143 rfl (cW [] 2 ([(⟨a.n,a.a,a.m,a.b,x⟩:QE),⟨b.n,b.a,b.m,b.b,y⟩].flatMap QR.cells) au (fun B=>jD [] ((Qh (Γ:=OL QR (some ⟨B,0,none⟩) (max L1 L2,[(⟨a.n,a.a,a.m,a.b,x⟩:QE),⟨b.n,b.a,b.m,b.b,y⟩])::_) u d v e (some ⟨B,0,none⟩) 2 2 rfl hm hn).weak (fun I w hd hh=>aD.cons ⟨fun q hq=>?_,?_⟩ hh) (fun _ _ h=>h)) ?_))
 ·simp at hq;rcases hq with rfl|rfl
  ·exact QF.up2 (aZ.p (k:=QG a) (a:=(L1,x)) inferInstance hh) (by omega)
  ·exact QF.up2 (aZ.p (k:=QG b) (a:=(L2,y)) inferInstance hh) (by omega)
 ·exact RA.of_row (aZ.p (k:=eT B) (a:=[(⟨a.n,a.a,a.m,a.b,x⟩:QE),⟨b.n,b.a,b.m,b.b,y⟩].flatMap QR.cells) inferInstance hh) (fun _ _ h=>h)
 rintro _ _ ⟨X,rfl,rfl⟩;exact W.r [] (sv X) ⟨X,rfl,rfl⟩ (p8 (by omega) rfl)
theorem ln(n:Int)(h1: -9223372036854775808≤n:=by omega)(h2:n<9223372036854775808:=by omega):
  aw tb Tryz.prog 141 [.int .i64 n] Γ (s9 2 (n:Rat)):=by
 refine aw.of_W au Tryz.func141 rfl (bR [] (dW n) (fun u1 d1=>bz [] (cD u1 d1) (fun n2 a2 m2 b2=>W.r [] (qv n2 a2 m2 b2) ⟨_,_,_,_,rfl,rfl⟩ (pq rfl))))
theorem P5:
  aw tb Tryz.prog 142 [] Γ (fun v Δ=>∃(u:Sl) (d:Bool),v=.tuple #[zv u d,zv ⟨none,0,0⟩ false]∧Δ=[ZF u d (2,2),ZF ⟨none,0,0⟩ false (2,0)]):=by
 refine aw.of_W au Tryz.func142 rfl (bR [] (dW 2) (fun u1 d1=>W.r [] (.tuple #[zv u1 d1,zv ⟨none,0,0⟩ false]) ⟨_,_,rfl,rfl⟩ (mh (Δ:=[_]) (Δ':=[_]) (lj rfl) zT)))
theorem og(a b:Qw)(c d:Int){x y:Rat} [aZ (QG a) (L,x) Γ] [aZ (QG b) (M,y) Γ](hL:L≤400000:=by omega)(hM:M≤400000:=by omega)(hc: -9223372036854775808≤c∧c<9223372036854775808:=by omega)(hd: -9223372036854775808≤d∧d<9223372036854775808:=by omega):
  aw tb Tryz.prog 208 [vK a b,.int .i64 c,.int .i64 d] Γ (D5 (L+M+30) (tm1 x y c d) (tm2 x y c d)):=by
 refine aw.of_W au Tryz.func208 rfl (bz [] (BH d 2) (fun n1 a1 m1 b1=>bz [] (ln c) (fun n2 a2 m2 b2=>bz [] (bY a.n a.a a.m a.b n2 a2 m2 b2) (fun n3 a3 m3 b3=>bz [] (ln d) (fun n4 a4 m4 b4=>bz [] (bY b.n b.a b.m b.b n4 a4 m4 b4) (fun n5 a5 m5 b5=>bz [] (fz n3 a3 m3 b3 n5 a5 m5 b5) (fun n6 a6 m6 b6=>bz [] (ln c) (fun n7 a7 m7 b7=>bz [] (bY b.n b.a b.m b.b n7 a7 m7 b7) (fun n8 a8 m8 b8=>bz [] (bY a.n a.a a.m a.b n1 a1 m1 b1) (fun n9 a9 m9 b9=>bz [] (fz n8 a8 m8 b8 n9 a9 m9 b9) (fun n10 a10 m10 b10=>?_)))))))))));exact W.r [] (vK ⟨n6,a6,m6,b6⟩ ⟨n10,a10,m10,b10⟩) ⟨⟨_,_,_,_⟩,⟨_,_,_,_⟩,rfl,rfl⟩ (AO rfl rfl)
theorem oC(a b c d:Qw){x y z w:Rat}{L1 L2 L3 L4:Nat} [aZ (QG a) (L1,x) Γ] [aZ (QG b) (L2,y) Γ] [aZ (QG c) (L3,z) Γ] [aZ (QG d) (L4,w) Γ](hL:L1≤1000000∧L2≤1000000∧L3≤1000000∧L4≤1000000:=by omega):
  aw tb Tryz.prog 207 [vK a b,vK c d] Γ (D5 (max L1 L2+max L3 L4+5) (x+z) (y+w)):=by
 refine aw.of_W au Tryz.func207 rfl (bz [] (fz a.n a.a a.m a.b c.n c.a c.m c.b) (fun n1 a1 m1 b1=>bz [] (fz b.n b.a b.m b.b d.n d.a d.m d.b) (fun n2 a2 m2 b2=>W.r [] (vK ⟨n1,a1,m1,b1⟩ ⟨n2,a2,m2,b2⟩) ⟨⟨_,_,_,_⟩,⟨_,_,_,_⟩,rfl,rfl⟩ (AO rfl rfl))))
theorem BD(a b:Qw){x y:Rat}{L1 L2:Nat} [aZ (QG a) (L1,x) Γ] [aZ (QG b) (L2,y) Γ](hL:L1≤1000000∧L2≤1000000:=by omega):
  aw tb Tryz.prog 205 [vK a b] Γ (D5 (max L1 L2) (-x) (-y)):=by
 refine aw.of_W au Tryz.func205 rfl (bz [] (pK a.n a.a a.m a.b) (fun n1 a1 m1 b1=>bz [] (pK b.n b.a b.m b.b) (fun n2 a2 m2 b2=>W.r [] (vK ⟨n1,a1,m1,b1⟩ ⟨n2,a2,m2,b2⟩) ⟨⟨_,_,_,_⟩,⟨_,_,_,_⟩,rfl,rfl⟩ (AO rfl rfl))))
theorem UB{a b c d:Qw}{L1 L2 L3 L4 L':Nat}{p p' q q' r r' s s':Rat} [h1:aZ (QG a) (L1,p) Γ] [h2:aZ (QG b) (L2,q) Γ] [h3:aZ (QG c) (L3,r) Γ] [h4:aZ (QG d) (L4,s) Γ](e1:p=p')(e2:q=q')(e3:r=r')(e4:s=s')(hL:L1≤L'∧L2≤L'∧L3≤L'∧L4≤L':=by omega):
  ∀(I:gd) (w:World),bj tb I w→aD Γ I w→aD [QG a (L',p'),QG b (L',q'),QG c (L',r'),QG d (L',s')] I w:=fun I w _ hh=>by
 subst e1 e2 e3 e4;exact aD.cons (QF.up2 (h1.p hh) hL.1) (aD.cons (QF.up2 (h2.p hh) hL.2.1) (aD.cons (QF.up2 (h3.p hh) hL.2.2.1) (aT (QF.up2 (h4.p hh) hL.2.2.2))))
theorem Ki{x y:Sw}{L1 L2 L':Nat}{X X' Y Y':Sn} [h1:aZ (SF x) (L1,X) Γ] [h2:aZ (SF y) (L2,Y) Γ](e1:X=X')(e2:Y=Y')(hL:L1≤L'∧L2≤L':=by omega):∀(I:gd) (w:World),bj tb I w→aD Γ I w→aD [SF x (L',X'),SF y (L',Y')] I w:=fun I w hd hh=>by
 exact aD.cons ((p8 (Γ:=Γ) (x:=x) hL.1 e1) I w hd hh).h0' (p8 (Γ:=Γ) (x:=y) hL.2 e2 I w hd hh)
theorem wm(f:Bool)(o:Int)(g a b c d:Qw){V:On} [aZ (QG g) (L,V.g) Γ](hL:L≤1000000:=by omega):
  aw tb Tryz.prog 149 [Vm f o g a b c d] Γ (fun v Δ=>∃g:Qw,v=qv g.n g.a g.m g.b∧Δ=[QG g (max L 2,V.mag)]):=by
 refine aw.of_W au Tryz.func149 rfl (W.c0 [] (nH g.n g.a g.m g.b) (W.d [] 6 (V.g.num.sign==0) (fun hb=>?_) (fun hb=>?_)))
 ·skip
  refine bz [6] (ln 1) (fun n2 a2 m2 b2=>W.r [] (qv n2 a2 m2 b2) ⟨⟨_,_,_,_⟩,rfl,rfl⟩ (pq (by unfold On.mag;rw[if_pos (adC hb)];rfl)))
 ·skip
  exact W.r [6] (qv g.n g.a g.m g.b) ⟨g,rfl,rfl⟩ (acf (by omega) (by unfold On.mag;rw[if_neg (jv hb)]))
theorem EM(V:On)(x:Q5)(p q r s:Qw){X Y Z U:Rat}{L1 L2 L3 L4:Nat} [aZ (OF x) (L,V) Γ] [aZ (QG p) (L1,X) Γ] [aZ (QG q) (L2,Y) Γ] [aZ (QG r) (L3,Z) Γ] [aZ (QG s) (L4,U) Γ](ho:0≤V.o∧V.o≤7)(hL:L≤10000∧L1≤10000∧L2≤10000∧L3≤10000∧L4≤10000:=by omega):
  aw tb Tryz.prog 140 [Io V x,vK p q,vK r s] Γ (fun v Δ=>∃a b c d:Qw,v=.tuple #[vK a b,vK c d]∧Δ=[QG a (5*L+4*max (max L1 L2) (max L3 L4)+200,V.u0 X Y Z U),QG b (5*L+4*max (max L1 L2) (max L3 L4)+200,V.u1 X Y Z U),QG c (5*L+4*max (max L1 L2) (max L3 L4)+200,V.v0 X Y Z U),QG d (5*L+4*max (max L1 L2) (max L3 L4)+200,V.v1 X Y Z U)]):=by
 refine aw.of_W au Tryz.func140 rfl ?_;have b1:=XK V.o;have b2:=XL V.o;have b3:=Ql V.o;have b4:=Qp V.o;refine CJ x rfl (W.d [] 14 (V.f) (fun hb=>?_) (fun hb=>?_))
 ·skip
  refine bR [14] (BD r s) (fun a1 b1=>W.c1 [] (wm V.f V.o x.g x.a x.b x.c x.d (V:=V)) (fun g2=>j5 [] 4 (bz [20] (bY p.n p.a p.m p.b g2.n g2.a g2.m g2.b) (fun n3 a3 m3 b3=>bz [] (bY a1.n a1.a a1.m a1.b g2.n g2.a g2.m g2.b) (fun n4 a4 m4 b4=>bz [20] (bY q.n q.a q.m q.b g2.n g2.a g2.m g2.b) (fun n5 a5 m5 b5=>bz [] (bY b1.n b1.a b1.m b1.b g2.n g2.a g2.m g2.b) (fun n6 a6 m6 b6=>W.c0 [20] (KR V.o ho) (bR [] (og ⟨n3,a3,m3,b3⟩ ⟨n5,a5,m5,b5⟩ ((pc V.o)) ((MD V.o))) (fun a8 b8=>bR [] (og ⟨n4,a4,m4,b4⟩ ⟨n6,a6,m6,b6⟩ ((ps V.o)) ((MJ V.o))) (fun a9 b9=>bR [] (BD a9 b9) (fun a10 b10=>?_)))))))))));refine bR [] (oC a8 b8 a10 b10) (fun a11 b11=>bR [] (og ⟨n3,a3,m3,b3⟩ ⟨n5,a5,m5,b5⟩ ((ps V.o)) ((MJ V.o))) (fun a12 b12=>bR [] (og ⟨n4,a4,m4,b4⟩ ⟨n6,a6,m6,b6⟩ ((pc V.o)) ((MD V.o))) (fun a13 b13=>bR [] (oC a12 b12 a13 b13) (fun a14 b14=>bR [] (oC a11 b11 x.a x.b) (fun a15 b15=>bR [] (oC a14 b14 x.c x.d) (fun a16 b16=>W.r [] (.tuple #[vK a15 b15,vK a16 b16]) ⟨_,_,_,_,rfl,rfl⟩ (UB (by unfold On.u0 On.sg;rw[hb];rfl) (by unfold On.u1 On.sg;rw[hb];rfl) (by unfold On.v0 On.sg;rw[hb];rfl) (by unfold On.v1 On.sg;rw[hb];rfl))))))))
 ·skip
  refine W.c1 [14] (wm V.f V.o x.g x.a x.b x.c x.d (V:=V)) (fun g17=>j5 [] 4 (bz [20] (bY p.n p.a p.m p.b g17.n g17.a g17.m g17.b) (fun n18 a18 m18 b18=>bz [] (bY r.n r.a r.m r.b g17.n g17.a g17.m g17.b) (fun n19 a19 m19 b19=>bz [20] (bY q.n q.a q.m q.b g17.n g17.a g17.m g17.b) (fun n20 a20 m20 b20=>bz [] (bY s.n s.a s.m s.b g17.n g17.a g17.m g17.b) (fun n21 a21 m21 b21=>W.c0 [20] (KR V.o ho) (bR [] (og ⟨n18,a18,m18,b18⟩ ⟨n20,a20,m20,b20⟩ ((pc V.o)) ((MD V.o))) (fun a23 b23=>bR [] (og ⟨n19,a19,m19,b19⟩ ⟨n21,a21,m21,b21⟩ ((ps V.o)) ((MJ V.o))) (fun a24 b24=>bR [] (BD a24 b24) (fun a25 b25=>bR [] (oC a23 b23 a25 b25) (fun a26 b26=>?_)))))))))));refine bR [] (og ⟨n18,a18,m18,b18⟩ ⟨n20,a20,m20,b20⟩ ((ps V.o)) ((MJ V.o))) (fun a27 b27=>bR [] (og ⟨n19,a19,m19,b19⟩ ⟨n21,a21,m21,b21⟩ ((pc V.o)) ((MD V.o))) (fun a28 b28=>bR [] (oC a27 b27 a28 b28) (fun a29 b29=>bR [] (oC a26 b26 x.a x.b) (fun a30 b30=>bR [] (oC a29 b29 x.c x.d) (fun a31 b31=>W.r [] (.tuple #[vK a30 b30,vK a31 b31]) ⟨_,_,_,_,rfl,rfl⟩ (UB (by unfold On.u0 On.sg;rw[hb];rfl) (by unfold On.u1 On.sg;rw[hb];rfl) (by unfold On.v0 On.sg;rw[hb];rfl) (by unfold On.v1 On.sg;rw[hb];rfl)))))))
theorem aaI(V:On)(x:Q5)(a b:Int) [aZ (OF x) (L,V) Γ](ho:0≤V.o∧V.o≤7)(ha: -9223372036854775808≤a∧a<9223372036854775808)(hb: -9223372036854775808≤b∧b<9223372036854775808)(hL:L≤10000:=by omega):
  aw tb Tryz.prog 86 [Io V x,.agg #[.int .i64 a,.int .i64 b]] Γ (vU (5*L+208) (r2 (V.u0 a 0 b 0) (V.u1 a 0 b 0)) (r2 (V.v0 a 0 b 0) (V.v1 a 0 b 0))):=by
 refine aw.of_W au Tryz.func86 rfl (W.more rfl (mK (L':=0)) (bz [] (ln a) (fun n1 a1 m1 b1=>bz [] (ln b) (fun n2 a2 m2 b2=>bz [] (EM V x ⟨n1,a1,m1,b1⟩ cf ⟨n2,a2,m2,b2⟩ cf ho) (fun a3 b3 c3 d3=>bR [] (P5) (fun u4 d4=>W.c1 [] (lP u4 d4 ⟨none,0,0⟩ false a3 b3 (by omega) (by omega)) (fun X5=>W.c1 [] (lP u4 d4 ⟨none,0,0⟩ false c3 d3 (by omega) (by omega)) (fun X6=>W.r [] (BS X5 X6) ⟨_,_,rfl,rfl⟩ (Ki rfl rfl)))))))))
theorem Tn(f:Bool)(g:Qw)(o:Int)(a c:Qw){X Y Z:Rat}{L1 L2 L3:Nat} [aZ (QG g) (L1,X) Γ] [aZ (QG a) (L2,Y) Γ] [aZ (QG c) (L3,Z) Γ](ho:0≤o∧o≤7)(hX:0<X.num.sign)(hL:L1≤1000000:=by omega):
  aw tb Tryz.prog 156 [.bool f,qv g.n g.a g.m g.b,.int .i64 o,qv a.n a.a a.m a.b,qv c.n c.a c.m c.b] Γ (fun v Δ=>v=.tuple #[Vm f o g a cf c cf,.int .i64 0]∧Δ=[OF ⟨g,a,cf,c,cf⟩ (max L1 (max L2 L3),⟨f,o,X,Y,0,Z,0⟩)]):=by
 refine aw.of_W au Tryz.func156 rfl (W.more rfl (mK (L':=0)) (aO [] 15 (decide (o<0)) (by rw[aW];omega) (aO [15] 12 (decide (o>7)) (by rw[aW];omega) (W.c0 [12] (nH g.n g.a g.m g.b) (aO [] 20 (decide (X.num.sign≤0)) (by rw[aW];omega) (W.r [20] (.tuple #[Vm f o g a ⟨⟨none,0,0⟩,false,⟨none,0,0⟩,false⟩ c ⟨⟨none,0,0⟩,false,⟨none,0,0⟩,false⟩,.int .i64 0]) ⟨rfl,rfl⟩ (Wn rfl rfl rfl rfl rfl)))))))
theorem To(V U:On)(x y:Q5) [aZ (OF x) (L,V) Γ] [aZ (OF y) (M,U) Γ](ho:0≤V.o∧V.o≤7)(hu:0≤U.o∧U.o≤7)(hL:L≤10000∧M≤10000:=by omega):
  aw tb Tryz.prog 159 [Io V x,Io U y] Γ (fun v Δ=>∃q:Q5,v=Io (V.then U) q∧Δ=[OF q (5*M+4*L+300,V.then U)]):=by
 refine aw.of_W au Tryz.func159 rfl (W.more (Δ:=[QG y.g (M,U.g)]) rfl (fun I w _ hh=>aT (aZ.p (k:=OF y) (a:=(M,U)) inferInstance hh).1) (CJ x rfl (bz [] (EM U y x.a x.b x.c x.d hu) (fun a1 b1 c1 d1=>W.d [] 20 (U.f) (fun hb=>?_) (fun hb=>?_)))))
 ·skip
  refine W.c1 [20] (wm V.f V.o x.g x.a x.b x.c x.d (V:=V)) (fun g2=>W.c1 [] (wm U.f U.o y.g y.a y.b y.c y.d (V:=U)) (fun g3=>bz [] (bY g2.n g2.a g2.m g2.b g3.n g3.a g3.m g3.b) (fun n4 a4 m4 b4=>W.r [] (Vm (!V.f==U.f) (bits BinOp.and .i64 (IntKind.i64.wrap (IntKind.i64.wrap (0-V.o)+U.o)) 7) ⟨n4,a4,m4,b4⟩ a1 b1 c1 d1) ⟨⟨⟨_,_,_,_⟩,_,_,_,_⟩,dM (fun z=>Vm (!(V.f==U.f)) z _ _ _ _ _) (by rw[Zn ho hu];unfold On.then;simp only;rw[hb,if_pos rfl]),rfl⟩ (Wn rfl rfl rfl rfl rfl))))
 ·skip
  refine W.c1 [20] (wm V.f V.o x.g x.a x.b x.c x.d (V:=V)) (fun g5=>W.c1 [] (wm U.f U.o y.g y.a y.b y.c y.d (V:=U)) (fun g6=>bz [] (bY g5.n g5.a g5.m g5.b g6.n g6.a g6.m g6.b) (fun n7 a7 m7 b7=>W.r [] (Vm (!V.f==U.f) (bits BinOp.and .i64 (IntKind.i64.wrap (V.o+U.o)) 7) ⟨n7,a7,m7,b7⟩ a1 b1 c1 d1) ⟨⟨⟨_,_,_,_⟩,_,_,_,_⟩,dM (fun z=>Vm (!(V.f==U.f)) z _ _ _ _ _) (by rw[Zm ho hu];unfold On.then;simp only;rw[hb,if_neg (by simp)]),rfl⟩ (Wn rfl rfl rfl rfl rfl))))
end
section
variable{fin:VS→List aC→Prop}{Γ:List aC}{L M K:Nat}
theorem ve(s:Sl)(b:Bool){x:Int} [aZ (ZF s b) (L,x) Γ](h:jP x=true)(hL:L≤1000000000000:=by omega):aw tb Tryz.prog 136 [zv s b] Γ (jy (.tuple #[.int .i64 x,.bool true])):=by
 have g:=xG (Γ:=Γ) s b (x:=x);simpa only[h,fj]using g
end
section
variable{fin:VS→List aC→Prop}{Γ:List aC}{L M K:Nat}
end
section
variable{fin:VS→List aC→Prop}{Γ:List aC}{L M K:Nat}
end
end Go.Proofs.YtgaaopjagcaojaaGreat
