import Derived.Test.YtgaaopjagcaojaaGreatProg
import Derived.Test.YtgaaopjagcaojaaGreatNatV
import Derived.Test.YtgaaopjagcaojaaGreatNatM
import Derived.Deep.LoopGhost
import Derived.Test.YtgaaopjagcaojaaGreatNatU
import Derived.Test.YtgaaopjagcaojaaGreatMaths
import Derived.Deep.DeepCutAuto
import Derived.Lib.Strings
import Derived.Deep.RegionWith
import Derived.Lib.Hide
import Derived.Laws.IdiomStrings
import Derived.Deep.CutBlock
import Derived.Deep.QuietTactic
import Derived.BigQuiet
import Derived.IntWalk
import Derived.Deep.RegionLaw
import Derived.Deep.RegionHeld3
import Derived.Test.YtgaaopjagcaojaaGreatTb
import Derived.Test.YtgaaopjagcaojaaGreatVm
import Derived.Below
import Derived.ChangeSame
import Derived.ProofKit
import Derived.OpenShut
import Derived.SliceStrings
import Derived.WideKeyArgs
set_option linter.unusedSimpArgs false
set_option linter.unusedVariables false
namespace Go.Proofs.YtgaaopjagcaojaaGreat
open Go.RowKit
theorem Al{w:World}{s t:Sl}{x y:Nat}(h:dP w s x)(h':dP w t y)(hn:s.n≤100000000000)(hm:t.n≤100000000000)(hy:0<y):
  Calls Tryz.prog 199 #[.agg #[.slice s.ao s.n s.c],.agg #[.slice t.ao t.n t.c]] w fun e w'=>
   ∃u v:Sl,e=.returned (.tuple #[.agg #[.slice u.ao u.n u.c],.agg #[.slice v.ao v.n v.c],.int .i64 0])∧dP w' u (x/y)∧dP w' v (x % y)∧u.n≤s.n∧v.n≤s.n∧v.n≤t.n∧Below w.heap.size w w':=by
 rcases iD x y with hxy|hxy
 ·refine(Nc h h' (by omega) (by omega) hxy).mono ?_;rintro e w' ⟨rfl,hb⟩;have e1:x/y=0:=jo hxy;have e2:x % y=x:=Nat.mod_eq_of_lt hxy;rw[e1,e2];exact⟨⟨none,0,0⟩,s,rfl,dP.nil _ _ _ (by omega),h.up hb,aJ _,aj _,h.n_le h' (by omega),hb⟩
 ·have ht0:t.n≠0:=by
   have:=h'.zero_iff;omega
  by_cases ht1:t.n=1
  ·refine(div_one h h' (by omega) ht1 hxy).mono ?_;rintro e w' ⟨u,v,rfl,hu,hv,_,_,hb⟩;exact⟨u,v,rfl,hu,hv,hu.n_le h (Nat.div_le_self _ _),hv.n_le h (Nat.mod_le _ _),hv.n_le h' (fP (fw _ hy)),hb⟩
  ·obtain⟨r,g1,g2,g3,g4⟩:=id h';obtain⟨b,off,hao,_,_⟩:=g1.open (by omega);obtain⟨tao,tn,tc⟩:=t;simp only at hao ht0 ht1 hm;subst hao;obtain⟨m,rfl⟩:∃m,tn=m+2:=⟨tn-2,by omega⟩;subst g4;refine(Nf h b off m tc r g1 g2 g3 hn (by omega) hxy).mono ?_;rintro e w' ⟨u,v,rfl,hu,hv,hb⟩;exact⟨u,v,rfl,hu,hv,hu.n_le h (Nat.div_le_self _ _),hv.n_le h (Nat.mod_le _ _),hv.n_le h' (fP (fw _ hy)),hb⟩
def Mj(w:World)(G B:Nat)(k:Nat)(wr:World):Prop:=∃(sa sb:Sl) (a:Nat),
 wr.heap[w.heap.size]? =some (.cells #[.slice sa.ao sa.n sa.c] 110 (0,0))∧wr.heap[w.heap.size+1]? =some (.cells #[.slice sb.ao sb.n sb.c] 110 (0,0))∧
 wr.heap[w.heap.size+1+1]? =some (.cells #[.slice none 0 0] 110 (0,0))∧dP wr sa a∧dP wr sb k∧Nat.gcd a k=G∧sa.n≤B∧sb.n≤B∧Below w.heap.size w wr
set_option maxHeartbeats 1600000 in
theorem Nx{w:World}{s t:Sl}{x y:Nat}(h:dP w s x)(h':dP w t y)(hn:s.n≤100000000000)(hm:t.n≤100000000000):
  Calls Tryz.prog 258 #[.agg #[.slice s.ao s.n s.c],.agg #[.slice t.ao t.n t.c]] w fun e w'=>
   ∃u:Sl,e=.returned (.agg #[.slice u.ao u.n u.c])∧dP w' u (Nat.gcd x y)∧u.n≤max s.n t.n∧Below w.heap.size w w':=by
 have hE:=lk w (.cells #[.slice s.ao s.n s.c] 110) (.cells #[.slice t.ao t.n t.c] 110) (.cells #[.slice none 0 0] 110);have hbx:Below w.heap.size w _:=(((Below.refl w.heap.size w).alloc (aj _) (.cells #[.slice s.ao s.n s.c] 110)).alloc (by simp) (.cells #[.slice t.ao t.n t.c] 110)).alloc (by simp;omega) (.cells #[.slice none 0 0] 110);have hinit:Mj w (Nat.gcd x y) (max s.n t.n) y _:=⟨s,t,x,hE.1,hE.2.1,hE.2.2.1,h.up hbx,h'.up hbx,rfl,by omega,by omega,hbx⟩;have hB:max s.n t.n≤100000000000:=by omega
 generalize max s.n t.n=B at*;clear hE hbx
 go_enter Tryz.func258,Tryz.ntmps258
 go_wp2
 go_loopg [8] y (fun k _ wr=>Mj w (Nat.gcd x y) B k wr)
 case atStart=>exact hinit
 case round=>
  obtain⟨sa,sb,a,hE1,hE2,hE3,ha,hb,hg,hna,hnb,hbl⟩:=hrel;have hA:=bK hE1 0;have hC:=bK hE2 0;have hws:w.heap.size+1+1<wr.heap.size:=rf hE3;have HG:=bj hg;clear hg;by_cases h0:0<sb.n
  ·have hk0:0<gk:=by have:=hb.zero_iff;omega
   go_wp2_with (go_at_call 199;refine(Al ha hb (by omega) (by omega) hk0).mono ?_;rintro e w2 ⟨u,v,rfl,hu,hv,hun,hvn,hvn2,hb2⟩;have hF1:=bE hb2 hE1;have hF2:=bE hb2 hE2;have hF3:=bE hb2 hE3;clear hA hC)
   have hbX:Below w2.heap.size w2 ((w2.alloc (.cells #[.slice u.ao u.n u.c] 110)).alloc (.cells #[.slice v.ao v.n v.c] 110)):=((Below.refl _ _).alloc (aj _) _).alloc (by simp) _;have hX:=Ao w2 (.cells #[.slice u.ao u.n u.c] 110) (.cells #[.slice v.ao v.n v.c] 110);have K1:=bE hbX hF1;have K2:=bE hbX hF2;have K3:=bE hbX hF3;have hv':=hv.up hbX;have hb':=(hb.up hb2).up hbX;have hblX:Below w.heap.size w ((w2.alloc (.cells #[.slice u.ao u.n u.c] 110)).alloc (.cells #[.slice v.ao v.n v.c] 110)):=(hbl.trans (hb2.mono hbl.size)).trans (hbX.mono (by have:=hbl.size;have:=hb2.size;omega));have hw2:w.heap.size+1<w2.heap.size:=by have:=hb2.size;omega
   have hcX:=bK hX.2.1 0;generalize hXd:((w2.alloc (.cells #[.slice u.ao u.n u.c] 110)).alloc (.cells #[.slice v.ao v.n v.c] 110))=X at*;have hA:=bK K1 0;have hAf:=dQ K1 0;have hC:=bK K2 0;have hCf:=dQ K2 0;clear hXd hX hbX hE1 hE2 hE3 hF1 hF2 hF3 ha
   go_region
   all_goals (
    go_wp2
    go_roundg (a % gk)
    case measure=>exact fw _ hk0
    case rel=>
     refine⟨sb,v,gk,?_,?_,?_,?_,?_,?_,hnb,by omega,?_⟩
     ·exact cF (pH K1 _) (by simp) _
     ·exact pH (cF K2 (by simp) _) _
     ·exact cF (cF K3 (by simp;omega) _) (by simp) _
     ·exact(hb'.kp ((Kp.refl _).setCell K1 (by decide) _)).kp ((Kp.refl _).setCell (cF K2 (by simp) _) (by decide) _)
     ·exact(hv'.kp ((Kp.refl _).setCell K1 (by decide) _)).kp ((Kp.refl _).setCell (cF K2 (by simp) _) (by decide) _)
     ·rw[Nat.gcd_comm,←Nat.gcd_rec,Nat.gcd_comm];exact HG.out
     ·exact(hblX.drew.setCell (by simp) _).setCell (by simp) _)
  ·have hk0:gk=0:=by have:=hb.zero_iff;omega
   subst hk0;have hR:=bK hE3 0;have hRf:=dQ hE3 0
   go_wp2
   refine eV (v:=.agg #[.slice sa.ao sa.n sa.c]) (by simp[results,Tryz.results258,go_sem,hR]) rfl ⟨sa,rfl,?_,hna,hbl.setCell (by simp;omega) _⟩;have:=HG.out;rw[Nat.gcd_zero_right]at this;rw[←this];exact ha.kp ((Kp.refl _).setCell hE3 (by decide) _)
def bs(s:ByteArray):List Nat:=s.data.toList.map fun b=>b.toNat
def Hm(w:World)(s t:Sl)(R g:Nat)(o:List Nat)(sr:Sl)(P:Nat)(wr:World):Prop:=
 wr.heap[w.heap.size]? =some (.cells #[.slice s.ao s.n s.c] 84 (0,0))∧wr.heap[w.heap.size+1]? =some (.cells #[.slice t.ao t.n t.c] 84 (0,0))∧
 wr.heap[w.heap.size+1+1]? =some (.cells #[.slice none 0 0] 84 (0,0))∧wr.heap[w.heap.size+1+1+1]? =some (.cells #[.slice none 0 0] 84 (0,0))∧
 wr.heap[R]? =some (.cells #[.slice sr.ao sr.n sr.c] 84 (0,0))∧yW wr sr P∧iE wr (w.heap.size+4) 3 .i64 (.slice (some ⟨g,0,none⟩) s.n s.n) o∧Below w.heap.size w wr
theorem Hm.up{w:World}{s t:Sl}{R g:Nat}{o:List Nat}{sr:Sl}{P:Nat}{wr w':World}(h:Hm w s t R g o sr P wr)(hb:Below wr.heap.size wr w'):Hm w s t R g o sr P w':=
 ⟨bE hb h.1,bE hb h.2.1,bE hb h.2.2.1,bE hb h.2.2.2.1,bE hb h.2.2.2.2.1,h.2.2.2.2.2.1.up hb,h.2.2.2.2.2.2.1.below hb (aj _),h.2.2.2.2.2.2.2.trans (hb.mono h.2.2.2.2.2.2.2.size)⟩
def Hn(w:World)(b3 b4:Nat)(sa sb:Sl)(a b:Nat)(wr:World):Prop:=
 wr.heap[w.heap.size]? =some (.cells #[.slice none 0 0] 84 (0,0))∧wr.heap[b3]? =some (.cells #[.slice sa.ao sa.n sa.c] 84 (0,0))∧wr.heap[b4]? =some (.cells #[.slice sb.ao sb.n sb.c] 84 (0,0))∧
 yW wr sa a∧yW wr sb b∧Below w.heap.size w wr
theorem Hn.up{w:World}{b3 b4:Nat}{sa sb:Sl}{a b:Nat}{wr w':World}(h:Hn w b3 b4 sa sb a b wr)(hb:Below wr.heap.size wr w'):Hn w b3 b4 sa sb a b w':=
 ⟨bE hb h.1,bE hb h.2.1,bE hb h.2.2.1,h.2.2.2.1.up hb,h.2.2.2.2.1.up hb,h.2.2.2.2.2.trans (hb.mono h.2.2.2.2.2.size)⟩
def Mt(I:fN)(s:Sl):Prop:=0<s.n→∀b off sp,s.ao=some ⟨b,off,sp⟩→I b
theorem da.blk{I I':fN}{w w':World}{T:TypeId}{k:IntKind}{s:Sl}{l:List Nat}(h:da w T k s l)(hi:Mt I s)(h1:∀b,b<w.heap.size→I b→I' b)(h2:∀b,b<w.heap.size→I b→w'.heap[b]? =w.heap[b]?):da w' T k s l∧Mt I' s:=by
 obtain⟨g1,g2,g3,g4⟩:=h;refine⟨⟨g1,g2,g3,fun hp=>?_⟩,fun hp b off sp ha=>?_⟩
 ·obtain⟨b,off,cur,ha,hb,hr⟩:=g4 hp;exact⟨b,off,cur,ha,by rw[h2 b (cj hb) (hi hp b off none ha)];exact hb,hr⟩
 ·obtain⟨b',off',cur,ha',hb,hr⟩:=g4 hp;have hI:=hi hp b off sp ha;rw[ha]at ha';injection ha' with ha';injection ha' with e1 _ _;subst e1;exact h1 b (cj hb) hI
theorem da.data{I:fN}{w w':World}{T:TypeId}{k:IntKind}{s:Sl}{l:List Nat}(h:da w' T k s l)(hT:tb.dat T=true)(hd:br tb I w)(hb:Below w.heap.size w w'):Mt (fun b=>b<w.heap.size→I b) s:=by
 intro hp b off sp ha hlt;obtain⟨_,_,_,g4⟩:=h;obtain⟨b',off',cur,ha',hb',hr⟩:=g4 hp;rw[ha]at ha';injection ha' with ha';injection ha' with e1 _ _;subst e1;exact hd b cur T (0,0) (by rw[←hb.block b hlt];exact hb') hT
def NF(s:Sl)(a:Nat×Nat):aC where
 p I w:=dP w s a.2∧Mt I s∧s.n≤a.1
 up:=by
  rintro I I' w w' ⟨⟨l,h,hr⟩,hi,hl⟩ h1 h2 _;obtain⟨g1,g2⟩:=h.blk hi h1 h2;exact⟨⟨l,g1,hr⟩,g2,hl⟩
def RF(s:Sl)(a:Nat×Nat):aC where
 p I w:=yW w s a.2∧Mt I s∧s.n≤a.1
 up:=by
  rintro I I' w w' ⟨⟨l,h,hr⟩,hi,hl⟩ h1 h2 _;obtain⟨g1,g2⟩:=h.blk hi h1 h2;exact⟨⟨l,g1,hr⟩,g2,hl⟩
def ZF(s:Sl)(b:Bool)(a:Nat×Int):aC where
 p I w:=(NF s (a.1,a.2.natAbs)).p I w∧b=decide (a.2<0)
 up h h1 h2 h3:=⟨(NF s (_,_)).up h.1 h1 h2 h3,h.2⟩
abbrev mv(s:Sl):Value:=.agg #[.slice s.ao s.n s.c]
abbrev zv(s:Sl)(b:Bool):Value:=.agg #[.slice s.ao s.n s.c,.bool b]
def EL(L x:Nat)(v:Value)(Δ:List aC):Prop:=∃u:Sl,v=mv u∧Δ=[NF u (L,x)]
def oC(L:Nat)(x:Int)(v:Value)(Δ:List aC):Prop:=∃(u:Sl) (d:Bool),v=zv u d∧Δ=[ZF u d (L,x)]
def jf(x:Value)(v:Value)(Δ:List aC):Prop:=v=x∧Δ=[]
theorem ab8:tb.dat 273=true:=by kernel_rfl
theorem dP.fact{I:fN}{w w':World}{s:Sl}{x L:Nat}(h:dP w' s x)(hd:br tb I w)(hb:Below w.heap.size w w')(hl:s.n≤L):(NF s (L,x)).p (fun b=>b<w.heap.size→I b) w':=by
 obtain⟨l,g,hr⟩:=h;exact⟨⟨l,g,hr⟩,g.data ab8 hd hb,hl⟩
theorem aE.h0'{F:aC}{Γ:List aC}{I:fN}{w:World}(h:aE (F::Γ) I w):F.p I w:=h F (by simp)
theorem aU{F:aC}{I:fN}{w:World}(h:F.p I w):aE [F] I w:=aE.cons h (aE.nil _ _)
section
variable{Γ:List aC}{L M x y:Nat}
theorem kO{s:Sl}{b:Bool}{L':Nat}{x x':Int} [h:aY (ZF s b) (L,x) Γ](hL:L≤L')(hx:x=x'):∀(I:fN) (w:World),br tb I w→aE Γ I w→aE [ZF s b (L',x')] I w:=fun I w _ hh=>by
 subst hx;obtain⟨⟨h1,h2,h3⟩,h4⟩:=h.p hh;exact aU ⟨⟨h1,h2,aP h3 hL⟩,h4⟩
theorem YB(I:fN)(w:World):(NF ⟨none,0,0⟩ (0,0)).p I w:=⟨dP.nil w none 0 (by omega),fun h=>absurd h (by simp),aj 0⟩
theorem aat(s t:Sl) [ha:aY (NF s) (L,x) Γ] [hc:aY (NF t) (M,y) Γ](hL:L≤1000000000000:=by omega)(hM:M≤1000000000000:=by omega):
  aw tb Tryz.prog 252 [mv s,mv t] Γ (EL (max L M+1) (x+y)):=
 ⟨⟨_,Tryz.func252,by kernel_rfl,by kernel_rfl⟩,fun I w hd hh=>by
  obtain⟨h1,h2,h3⟩:=ha.p hh;obtain⟨g1,g2,g3⟩:=hc.p hh;refine(ES h1 g1 (aP h3 hL) (aP g3 hM)).mono ?_;rintro e w' ⟨u,rfl,hu,hn,hb⟩;exact⟨_,_,rfl,⟨u,rfl,rfl⟩,hb,aU (hu.fact hd hb (by simp only at h3 g3⊢;omega))⟩⟩
theorem Pd(s t:Sl) [ha:aY (NF s) (L,x) Γ] [hc:aY (NF t) (M,y) Γ](hL:L≤1000000000000:=by omega)(hM:M≤1000000000000:=by omega):
  aw tb Tryz.prog 247 [mv s,mv t] Γ (EL (L+M) (x*y)):=
 ⟨⟨_,Tryz.func247,by kernel_rfl,by kernel_rfl⟩,fun I w hd hh=>by
  obtain⟨h1,h2,h3⟩:=ha.p hh;obtain⟨g1,g2,g3⟩:=hc.p hh;refine(Gj h1 g1 (aP h3 hL) (aP g3 hM)).mono ?_;rintro e w' ⟨u,rfl,hu,hn,hb⟩;exact⟨_,_,rfl,⟨u,rfl,rfl⟩,hb,aU (hu.fact hd hb (by simp only at h3 g3⊢;omega))⟩⟩
theorem aax(s t:Sl) [ha:aY (NF s) (L,x) Γ] [hc:aY (NF t) (M,y) Γ](hL:L≤100000000000:=by omega)(hM:M≤100000000000:=by omega):
  aw tb Tryz.prog 258 [mv s,mv t] Γ (EL (max L M) (Nat.gcd x y)):=
 ⟨⟨_,Tryz.func258,by kernel_rfl,by kernel_rfl⟩,fun I w hd hh=>by
  obtain⟨h1,h2,h3⟩:=ha.p hh;obtain⟨g1,g2,g3⟩:=hc.p hh;refine(Nx h1 g1 (aP h3 hL) (aP g3 hM)).mono ?_;rintro e w' ⟨u,rfl,hu,hn,hb⟩;exact⟨_,_,rfl,⟨u,rfl,rfl⟩,hb,aU (hu.fact hd hb (by simp only at h3 g3⊢;omega))⟩⟩
theorem O8(s t:Sl) [ha:aY (NF s) (L,x) Γ] [hc:aY (NF t) (M,y) Γ](hL:L≤1000000000000:=by omega)(hM:M≤1000000000000:=by omega):
  aw tb Tryz.prog 204 [mv s,mv t] Γ (jf (.int .i64 (mw x y))):=
 ⟨⟨_,Tryz.func204,by kernel_rfl,by kernel_rfl⟩,fun I w hd hh=>by
  obtain⟨h1,h2,h3⟩:=ha.p hh;obtain⟨g1,g2,g3⟩:=hc.p hh;refine(mY h1 g1 (aP h3 hL) (aP g3 hM)).mono ?_;rintro e w' ⟨rfl,hb⟩;exact⟨_,_,rfl,⟨rfl,rfl⟩,hb,aE.nil _ _⟩⟩
theorem GD(s t:Sl) [ha:aY (NF s) (L,x) Γ] [hc:aY (NF t) (M,y) Γ](hxy:y≤x)(hL:L≤1000000000000:=by omega)(hM:M≤1000000000000:=by omega):
  aw tb Tryz.prog 253 [mv s,mv t] Γ (fun v Δ=>∃u:Sl,v=.tuple #[mv u,.int .i64 0]∧Δ=[NF u (L,x-y)]):=
 ⟨⟨_,Tryz.func253,by kernel_rfl,by kernel_rfl⟩,fun I w hd hh=>by
  obtain⟨h1,h2,h3⟩:=ha.p hh;obtain⟨g1,g2,g3⟩:=hc.p hh;refine(Xt h1 g1 (aP h3 hL) (aP g3 hM) hxy).mono ?_;rintro e w' ⟨u,rfl,hu,hn,hb⟩;exact⟨_,_,rfl,⟨u,rfl,rfl⟩,hb,aU (hu.fact hd hb (by simp only at h3⊢;omega))⟩⟩
theorem Pr(s t:Sl) [ha:aY (NF s) (L,x) Γ] [hc:aY (NF t) (M,y) Γ](hxy:x<y)(hL:L≤1000000000000:=by omega)(hM:M≤1000000000000:=by omega):
  aw tb Tryz.prog 253 [mv s,mv t] Γ (jf (.tuple #[mv ⟨none,0,0⟩,.int .i64 4])):=
 ⟨⟨_,Tryz.func253,by kernel_rfl,by kernel_rfl⟩,fun I w hd hh=>by
  obtain⟨h1,h2,h3⟩:=ha.p hh;obtain⟨g1,g2,g3⟩:=hc.p hh;refine(Xu h1 g1 (aP h3 hL) (aP g3 hM) hxy).mono ?_;rintro e w' ⟨rfl,hb⟩;exact⟨_,_,rfl,⟨rfl,rfl⟩,hb,aE.nil _ _⟩⟩
theorem aau(s t:Sl) [ha:aY (NF s) (L,x) Γ] [hc:aY (NF t) (M,y) Γ](hy:0<y)(hL:L≤100000000000:=by omega)(hM:M≤100000000000:=by omega):
  aw tb Tryz.prog 199 [mv s,mv t] Γ (fun v Δ=>∃u t:Sl,v=.tuple #[mv u,mv t,.int .i64 0]∧Δ=[NF u (L,x/y),NF t (min L M,x % y)]):=
 ⟨⟨_,Tryz.func199,by kernel_rfl,by kernel_rfl⟩,fun I w hd hh=>by
  obtain⟨h1,h2,h3⟩:=ha.p hh;obtain⟨g1,g2,g3⟩:=hc.p hh;refine(Al h1 g1 (aP h3 hL) (aP g3 hM) hy).mono ?_;rintro e w' ⟨u,v,rfl,hu,hv,hn,hn1,hn2,hb⟩;exact⟨_,_,rfl,⟨u,v,rfl,rfl⟩,hb,aE.cons (hu.fact hd hb (by simp only at h3⊢;omega)) (aU (hv.fact hd hb (by simp only at h3 g3⊢;omega)))⟩⟩
theorem OY(s:Sl) [ha:aY (NF s) (L,x) Γ](hL:L≤1000000000000:=by omega):
  aw tb Tryz.prog 244 [mv s] Γ (jf (.int .i64 ((bl x:Nat):Int))):=
 ⟨⟨_,Tryz.func244,by kernel_rfl,by kernel_rfl⟩,fun I w hd hh=>by
  obtain⟨h1,h2,h3⟩:=ha.p hh;refine(Ck h1 (aP h3 hL)).mono ?_;rintro e w' ⟨rfl,hb⟩;exact⟨_,_,rfl,⟨rfl,rfl⟩,hb,aE.nil _ _⟩⟩
theorem IC(s:Sl) [ha:aY (NF s) (L,x) Γ](hx:18446744073709551616≤x)(hL:L≤1000000000000:=by omega):
  aw tb Tryz.prog 202 [mv s] Γ (jf (.tuple #[.int .u64 0,.bool false])):=
 ⟨⟨_,Tryz.func202,by kernel_rfl,by kernel_rfl⟩,fun I w hd hh=>by
  obtain⟨h1,h2,h3⟩:=ha.p hh;refine(Qy h1 (aP h3 hL) hx).mono ?_;rintro e w' ⟨rfl,hb⟩;exact⟨_,_,rfl,⟨rfl,rfl⟩,hb,aE.nil _ _⟩⟩
theorem Eh(s:Sl) [ha:aY (NF s) (L,x) Γ](hx:x<18446744073709551616)(hL:L≤1000000000000:=by omega):
  aw tb Tryz.prog 202 [mv s] Γ (jf (.tuple #[.int .u64 (x:Int),.bool true])):=
 ⟨⟨_,Tryz.func202,by kernel_rfl,by kernel_rfl⟩,fun I w hd hh=>by
  obtain⟨h1,h2,h3⟩:=ha.p hh;refine(IY h1 hx).mono ?_;rintro e w' ⟨rfl,hb⟩;exact⟨_,_,rfl,⟨rfl,rfl⟩,hb,aE.nil _ _⟩⟩
theorem aaA(s:Sl)(k:Nat) [ha:aY (NF s) (L,x) Γ](hk:k≤65536)(hL:L≤1000000000000:=by omega):
  aw tb Tryz.prog 246 [mv s,.int .i64 (k:Int)] Γ (fun v Δ=>∃u:Sl,v=.tuple #[mv u,.int .i64 0]∧Δ=[NF u (L+k/32+1,x*2^k)]):=
 ⟨⟨_,Tryz.func246,by kernel_rfl,by kernel_rfl⟩,fun I w hd hh=>by
  obtain⟨h1,h2,h3⟩:=ha.p hh;refine(zI k h1 (aP h3 hL) hk).mono ?_;rintro e w' ⟨u,rfl,hu,hn,hb⟩;exact⟨_,_,rfl,⟨u,rfl,rfl⟩,hb,aU (hu.fact hd hb (by simp only at h3⊢;omega))⟩⟩
theorem adS(x:Nat)(hx:x<18446744073709551616):
  aw tb Tryz.prog 193 [.int .u64 (x:Int)] Γ (EL 2 x):=
 ⟨⟨_,Tryz.func193,by kernel_rfl,by kernel_rfl⟩,fun I w hd hh=>by
  refine(D5 x w hx).mono ?_;rintro e w' ⟨u,rfl,hu,hn,hb⟩;exact⟨_,_,rfl,⟨u,rfl,rfl⟩,hb,aU (hu.fact hd hb (by omega))⟩⟩
end
open Go.RowKit Go.IntWalk
def mX(x y:Int):Int:=if x<y then-1 else if x=y then 0 else 1
theorem Ah{x y:Int}(hx:0≤x)(hy:0≤y):mw x.natAbs y.natAbs=mX x y:=by
 unfold mw mX;have e1:x.natAbs<y.natAbs↔x<y:=by omega
 have e2:x.natAbs=y.natAbs↔x=y:=by omega
 simp only[e1,e2]
theorem HH{x y:Int}(hx:x<0)(hy:y<0):mw y.natAbs x.natAbs=mX x y:=by
 unfold mw mX;have e1:y.natAbs<x.natAbs↔x<y:=by omega
 have e2:y.natAbs=x.natAbs↔x=y:=by omega
 simp only[e1,e2]
theorem MX(x y:Nat):mw x y=mX x y:=by
 have:=Ah (x:=(x:Int)) (y:=(y:Int)) (by omega) (by omega);simpa using this
theorem MR(x:Nat):(0<bl x)↔0<x:=by
 have:=qD x 0;omega
theorem Rr(x:Nat):bl x=0↔x=0:=by
 have:=MR x;omega
section
variable{fin:VS→List aC→Prop}{Γ:List aC}{L M:Nat}
theorem p6{T:Tb}{P:Program}{c:fC}(φ:Prop)(hm:dz c.k=false)(h:∀I w,br T I w→aE Γ I w→φ)(hk:φ→W T P fin c Γ):W T P fin c Γ:=
 W.elim (α:=Unit) (fun _=>φ) (fun _=>[]) hm (fun I w hd hh=>⟨(),h I w hd hh,aE.nil _ _⟩) (fun _ hp=>hk hp)
theorem pz{T:Tb}{P:Program}{f:FuncId}{args:List Value}{post:Value→List aC→Prop}(φ:Value→List aC→Prop)(h:aw T P f args Γ post)(hi:∀v Δ,post v Δ→∀I w,aE Δ I w→φ v Δ):aw T P f args Γ (fun v Δ=>post v Δ∧φ v Δ):=
 ⟨h.1,fun I w hd hh=>(h.2 I w hd hh).mono fun _ _ ⟨v,Δ,h1,h2,h3,h4⟩=>⟨v,Δ,h1,⟨h2,hi v Δ h2 _ _ h4⟩,h3,h4⟩⟩
theorem aw.post{T:Tb}{P:Program}{f:FuncId}{args:List Value}{post post':Value→List aC→Prop}(h:aw T P f args Γ post)(hp:∀v Δ,post v Δ→post' v Δ):aw T P f args Γ post':=h.weak (fun _ _ _ hh=>hh) hp
theorem z9{P:Program}{c:fC}(s:Sl)(b:Bool){x:Int} [h:aY (ZF s b) (L,x) Γ](hm:dz c.k=false)(hk:b=decide (x<0)→W tb P fin c (NF s (L,x.natAbs)::Γ)):W tb P fin c Γ:=
 W.elim (α:=Unit) (fun _=>b=decide (x<0)) (fun _=>[NF s (L,x.natAbs)]) hm (fun I w _ hh=>⟨(),(h.p hh).2,aU (h.p hh).1⟩) (fun _ hp=>hk hp)
theorem TL{s:Sl}{d:Bool}{L' x:Nat}{z:Int} [h:aY (NF s) (L,x) Γ](hL:L≤L')(hz:z.natAbs=x)(hd:d=decide (z<0)):∀(I:fN) (w:World),br tb I w→aE Γ I w→aE [ZF s d (L',z)] I w:=fun I w _ hh=>by
 subst hz;obtain⟨h1,h2,h3⟩:=h.p hh;exact aU ⟨⟨h1,h2,aP h3 hL⟩,hd⟩
theorem Zc{s:Sl}{d:Bool}{L' x:Nat}{z:Int} [h:aY (ZF s d) (L,z) Γ](hL:L≤L')(hz:z.natAbs=x):∀(I:fN) (w:World),br tb I w→aE Γ I w→aE [NF s (L',x)] I w:=fun I w _ hh=>by
 subst hz;obtain⟨⟨h1,h2,h3⟩,_⟩:=h.p hh;exact aU ⟨h1,h2,aP h3 hL⟩
theorem lM{Δ Δ':List aC}(h:∀(I:fN) (w:World),br tb I w→aE Γ I w→aE Δ I w)(h':∀(I:fN) (w:World),br tb I w→aE Γ I w→aE Δ' I w):∀(I:fN) (w:World),br tb I w→aE Γ I w→aE (Δ++Δ') I w:=fun I w hd hh=>(h I w hd hh).append (h' I w hd hh)
theorem CR(z:Int)(x:Nat)(hz:z=x)(hx:x<18446744073709551616):aw tb Tryz.prog 193 [.int .u64 z] Γ (EL 2 x):=by
 subst hz;exact adS x hx
theorem JV(s:Sl)(b:Bool){x:Nat} [aY (NF s) (L,x) Γ](hL:L≤1000000000000:=by omega):
  aw tb Tryz.prog 192 [mv s,.bool b] Γ (fun v Δ=>∃(u:Sl) (d:Bool),v=zv u d∧d=(b&&decide (0<x))∧Δ=[ZF u d (L,bif b then-(x:Int)else x)]):=by
 refine aw.of_W az Tryz.func192 rfl ?_;cases b with
 |true=>
  refine aq [7] (OY s) ?_;rintro _ _ ⟨rfl,rfl⟩;have hb:=MR x;have e:decide (((bl x:Nat):Int)>0)=decide (0<x):=by rw[q9];omega
  refine W.r [7] (zv s (decide (((bl x:Nat):Int)>0))) ⟨s,_,rfl,by rw[e];rfl,rfl⟩ (TL (aj _) (by simp) ?_);simp only[bQ];rw[q9];omega
 |false=>
  refine W.r [7] (zv s false) ⟨s,_,rfl,rfl,rfl⟩ (TL (aj _) (by simp) ?_);simp only[cJ];rw[eq_comm,aV];omega
theorem rA(s:Sl)(b:Bool){x:Nat} [aY (NF s) (L,x) Γ](hL:L≤1000000000000:=by omega):
  aw tb Tryz.prog 192 [mv s,.bool b] Γ (oC L (bif b then-(x:Int)else x)):=
 (JV s b hL).post fun _ _ ⟨u,d,h1,_,h2⟩=>⟨u,d,h1,h2⟩
theorem vJ(s:Sl){x:Nat} [aY (NF s) (L,x) Γ](hL:L≤1000000000000:=by omega):
  aw tb Tryz.prog 194 [mv s] Γ (oC L (x:Int)):=by
 refine aw.of_W az Tryz.func194 rfl ?_;refine aq [] (rA s false) ?_;rintro _ _ ⟨u,d,rfl,rfl⟩;exact W.r [] (zv u d) ⟨u,d,rfl,rfl⟩ (kO (aj _) rfl)
theorem cU(n:Int)(h1: -9223372036854775808≤n)(h2:n<9223372036854775808):aw tb Tryz.prog 131 [.int .i64 n] Γ (oC 2 n):=by
 refine aw.of_W az Tryz.func131 rfl ?_;refine W.d [] 4 (decide (n<0)) (fun hn=>?_) (fun hn=>?_)
 ·have hn:=iW hn;have e:IntKind.u64.wrap (IntKind.u64.wrap (IntKind.i64.wrap (0-IntKind.i64.wrap (n+1)))+1)=((-n).toNat:Int):=by
   rw[i64_in (n+1) (by omega),i64_in (0-(n+1)) (by omega),u64_in (0-(n+1)) (by omega),u64_in _ (by omega)];omega
  refine aq [4] (CR (IntKind.u64.wrap (IntKind.u64.wrap (IntKind.i64.wrap (0-IntKind.i64.wrap (n+1)))+1)) (-n).toNat e (by omega)) ?_;rintro _ _ ⟨u,rfl,rfl⟩;refine aq [] (rA u true) ?_;rintro _ _ ⟨t,d,rfl,rfl⟩;exact W.r [] (zv t d) ⟨t,d,rfl,rfl⟩ (kO (aj _) (by simp;omega))
 ·have hn:=eA hn;have e:IntKind.u64.wrap n=(n.toNat:Int):=by rw[u64_in _ (by omega)];omega
  refine aq [4] (CR (IntKind.u64.wrap n) n.toNat e (by omega)) ?_;rintro _ _ ⟨u,rfl,rfl⟩;refine aq [] (rA u false) ?_;rintro _ _ ⟨t,d,rfl,rfl⟩;exact W.r [] (zv t d) ⟨t,d,rfl,rfl⟩ (kO (aj _) (by simp;omega))
theorem Bc(s:Sl)(b:Bool){x:Int} [aY (ZF s b) (L,x) Γ]:aw tb Tryz.prog 257 [zv s b] Γ (fun v Δ=>v=mv s∧Δ=[NF s (L,x.natAbs)]):=by
 refine aw.of_W az Tryz.func257 rfl ?_;exact W.r [] (mv s) ⟨rfl,rfl⟩ (Zc (d:=b) (aj _) rfl)
theorem mP(s:Sl)(b:Bool){x:Int} [aY (ZF s b) (L,x) Γ](hL:L≤1000000000000:=by omega):aw tb Tryz.prog 203 [zv s b] Γ (jf (.int .i64 x.sign)):=by
 refine aw.of_W az Tryz.func203 rfl ?_;refine z9 s b rfl ?_;rintro rfl;refine W.d [] 3 (decide (x<0)) (fun hn=>?_) (fun hn=>?_)
 ·have hn:=iW hn;exact W.r [3] (.int .i64 (-1)) ⟨by rw[jw hn],rfl⟩ bR
 ·have hn:=eA hn;refine aq [3] (OY s) ?_;rintro _ _ ⟨rfl,rfl⟩;have hz:=Rr x.natAbs;refine W.d [] 6 (((bl x.natAbs:Nat):Int)==0) (fun h0=>?_) (fun h0=>?_)
  ·have h0:=eq_of_beq h0;have:x=0:=by omega
   exact W.r [6] (.int .i64 0) ⟨by rw[this];rfl,rfl⟩ bR
  ·have h0:=j_ h0;exact W.r [6] (.int .i64 1) ⟨by rw[fO (by omega)],rfl⟩ bR
theorem oY(s:Sl)(b:Bool)(t:Sl)(c:Bool){x y:Int} [aY (ZF s b) (L,x) Γ] [aY (ZF t c) (M,y) Γ](hL:L≤1000000000000:=by omega)(hM:M≤1000000000000:=by omega):
  aw tb Tryz.prog 139 [zv s b,zv t c] Γ (jf (.int .i64 (mX x y))):=by
 refine aw.of_W az Tryz.func139 rfl ?_;refine z9 s b rfl ?_;rintro rfl;refine z9 t c rfl ?_;rintro rfl;by_cases hx:x<0<;>by_cases hy:y<0
 ·refine aR [] 5 (!(decide (x<0)==decide (y<0))) (by simp[hx,hy]) ?_;refine bk [5] 13 (decide (x<0)) (by simp[hx]) ?_;refine aq [13] (O8 t s) ?_;rintro _ _ ⟨rfl,rfl⟩;exact W.r [] (.int .i64 (mw y.natAbs x.natAbs)) ⟨by rw[HH hx hy],rfl⟩ bR
 ·refine bk [] 5 (!(decide (x<0)==decide (y<0))) (by simp[hx,hy]) ?_;refine bk [5] 12 (decide (x<0)) (by simp[hx]) ?_;exact W.r [12] (.int .i64 (-1)) ⟨by unfold mX;rw[if_pos (by omega)],rfl⟩ bR
 ·refine bk [] 5 (!(decide (x<0)==decide (y<0))) (by simp[hx,hy]) ?_;refine aR [5] 12 (decide (x<0)) (by simp[hx]) ?_;exact W.r [12] (.int .i64 1) ⟨by unfold mX;rw[if_neg (by omega),if_neg (by omega)],rfl⟩ bR
 ·refine aR [] 5 (!(decide (x<0)==decide (y<0))) (by simp[hx,hy]) ?_;refine aR [5] 13 (decide (x<0)) (by simp[hx]) ?_;refine aq [13] (O8 s t) ?_;rintro _ _ ⟨rfl,rfl⟩;exact W.r [] (.int .i64 (mw x.natAbs y.natAbs)) ⟨by rw[Ah (by omega) (by omega)],rfl⟩ bR
theorem rE(s:Sl)(b:Bool){x:Int} [aY (ZF s b) (L,x) Γ](hL:L≤1000000000000:=by omega):aw tb Tryz.prog 243 [zv s b] Γ (oC L (-x)):=by
 refine aw.of_W az Tryz.func243 rfl ?_;refine z9 s b rfl ?_;rintro rfl;refine aq [] (rA s (!decide (x<0))) ?_;rintro _ _ ⟨u,d,rfl,rfl⟩;refine W.r [] (zv u d) ⟨u,d,rfl,rfl⟩ (kO (aj _) ?_);by_cases hx:x<0<;>simp[hx]<;>omega
theorem lU(s:Sl)(b:Bool)(t:Sl)(c:Bool){x y:Int} [aY (ZF s b) (L,x) Γ] [aY (ZF t c) (M,y) Γ](hL:L≤1000000000:=by omega)(hM:M≤1000000000:=by omega):
  aw tb Tryz.prog 200 [zv s b,zv t c] Γ (oC (max L M+1) (x+y)):=by
 refine aw.of_W az Tryz.func200 rfl ?_;refine z9 s b rfl ?_;rintro rfl;refine z9 t c rfl ?_;rintro rfl;refine W.d [] 13 (decide (x<0)==decide (y<0)) (fun hb=>?_) (fun hb=>?_)
 ·have hb:=eq_of_beq hb;rw[q9]at hb;refine aq [13] (aat s t) ?_;rintro _ _ ⟨u,rfl,rfl⟩;refine aq [] (rA u (decide (x<0))) ?_;rintro _ _ ⟨u2,d2,rfl,rfl⟩;refine W.r [] (zv u2 d2) ⟨u2,d2,rfl,rfl⟩ (kO (aj _) ?_);by_cases hx:x<0<;>simp[hx]<;>omega
 ·have hb:=j_ hb;rw[ne_eq,q9]at hb;rcases iD x.natAbs y.natAbs with hxy|hxy
  ·refine aq [13] (Pr s t hxy) ?_;rintro _ _ ⟨rfl,rfl⟩;refine aq [31] (GD t s (fP hxy)) ?_;rintro _ _ ⟨u,rfl,rfl⟩;refine aq [] (rA u (decide (y<0))) ?_;rintro _ _ ⟨u2,d2,rfl,rfl⟩;refine W.r [] (zv u2 d2) ⟨u2,d2,rfl,rfl⟩ (kO (by omega) ?_);by_cases hx:x<0<;>by_cases hy:y<0<;>simp[hy]<;>omega
  ·refine aq [13] (GD s t hxy) ?_;rintro _ _ ⟨u,rfl,rfl⟩;refine aq [31] (rA u (decide (x<0))) ?_;rintro _ _ ⟨u2,d2,rfl,rfl⟩;refine W.r [] (zv u2 d2) ⟨u2,d2,rfl,rfl⟩ (kO (by omega) ?_);by_cases hx:x<0<;>by_cases hy:y<0<;>simp[hx]<;>omega
theorem IE(s:Sl)(b:Bool)(t:Sl)(c:Bool){x y:Int} [aY (ZF s b) (L,x) Γ] [aY (ZF t c) (M,y) Γ](hL:L≤1000000000:=by omega)(hM:M≤1000000000:=by omega):
  aw tb Tryz.prog 201 [zv s b,zv t c] Γ (oC (max L M+1) (x-y)):=by
 refine aw.of_W az Tryz.func201 rfl ?_;refine aq [] (rE t c) ?_;rintro _ _ ⟨u,d,rfl,rfl⟩;refine aq [] (lU s b u d) ?_;rintro _ _ ⟨u2,d2,rfl,rfl⟩;exact W.r [] (zv u2 d2) ⟨u2,d2,rfl,rfl⟩ (kO (aj _) (by omega))
theorem lV(s:Sl)(b:Bool)(t:Sl)(c:Bool){x y:Int} [aY (ZF s b) (L,x) Γ] [aY (ZF t c) (M,y) Γ](hL:L≤1000000000:=by omega)(hM:M≤1000000000:=by omega):
  aw tb Tryz.prog 198 [zv s b,zv t c] Γ (oC (L+M) (x*y)):=by
 refine aw.of_W az Tryz.func198 rfl ?_;refine z9 s b rfl ?_;rintro rfl;refine z9 t c rfl ?_;rintro rfl;refine aq [] (Pd s t) ?_;rintro _ _ ⟨u,rfl,rfl⟩;refine aq [] (rA u (!(decide (x<0)==decide (y<0)))) ?_;rintro _ _ ⟨u2,d2,rfl,rfl⟩;refine W.r [] (zv u2 d2) ⟨u2,d2,rfl,rfl⟩ (kO (aj _) ?_);rw[dI];by_cases hx:x<0<;>by_cases hy:y<0<;>simp only[hx,hy,decide_true,decide_false,beq_self_eq_true,Bool.not_true,cJ,bQ]
 ·rw[show((x.natAbs:Nat):Int)= -x by omega,show((y.natAbs:Nat):Int)= -y by omega,sI]
 ·rw[show((x.natAbs:Nat):Int)= -x by omega,show((y.natAbs:Nat):Int)=y by omega];simp[Int.neg_mul]
 ·rw[show((x.natAbs:Nat):Int)=x by omega,show((y.natAbs:Nat):Int)= -y by omega];simp[Int.mul_neg]
 ·rw[show((x.natAbs:Nat):Int)=x by omega,show((y.natAbs:Nat):Int)=y by omega]
theorem iR(s:Sl)(b:Bool)(t:Sl)(c:Bool){x y:Int} [aY (ZF s b) (L,x) Γ] [aY (ZF t c) (M,y) Γ](hy:y≠0)(hL:L≤1000000000:=by omega)(hM:M≤1000000000:=by omega):
  aw tb Tryz.prog 135 [zv s b,zv t c] Γ (fun v Δ=>∃(u:Sl) (d:Bool) (u':Sl) (d':Bool),v=.tuple #[zv u d,zv u' d',.int .i64 0]∧Δ=[ZF u d (max L 2+1,x/y),ZF u' d' (max L M+1,x % y)]):=by
 refine aw.of_W az Tryz.func135 rfl ?_;refine z9 s b rfl ?_;rintro rfl;refine z9 t c rfl ?_;rintro rfl;refine aq [] (aau s t (by omega)) ?_;rintro _ _ ⟨q,r,rfl,rfl⟩;refine aq [22] (rA q (!(decide (x<0)==decide (y<0)))) ?_;rintro _ _ ⟨u2,d2,rfl,rfl⟩;refine aq [] (JV r (decide (x<0))) ?_;rintro _ _ ⟨u3,d3,rfl,hd3,rfl⟩;by_cases hx:x<0
 ·by_cases hr:x.natAbs % y.natAbs=0
  ·obtain⟨e1,e2⟩:=Ar hx hy hr;refine aR [] 38 d3 (by rw[hd3];simp[hx,hr]) ?_;refine W.r [38] (.tuple #[zv u2 d2,zv u3 d3,.int .i64 0]) ⟨u2,d2,u3,d3,rfl,rfl⟩ (lM (kO (by omega) ?_) (kO (by omega) ?_))
   ·rw[e1];by_cases hyn:y<0<;>simp[hx,hyn]
   ·rw[e2];simp[hr]
  ·obtain⟨e1,e2⟩:=BP hx hy hr;refine bk [] 38 d3 (by rw[hd3];simp[hx]<;>omega) ?_;refine aq [38] (vJ t) ?_;rintro _ _ ⟨u4,d4,rfl,rfl⟩;refine aq [] (lU u3 d3 u4 d4) ?_;rintro _ _ ⟨u5,d5,rfl,rfl⟩;by_cases hyn:y<0
   ·refine bk [] 45 (decide (y<0)) (by simp[hyn]) ?_;refine aq [45] (cU 1 (by omega) (by omega)) ?_;rintro _ _ ⟨u6,d6,rfl,rfl⟩;refine aq [] (lU u2 d2 u6 d6) ?_;rintro _ _ ⟨u7,d7,rfl,rfl⟩;refine W.r [] (.tuple #[zv u7 d7,zv u5 d5,.int .i64 0]) ⟨u7,d7,u5,d5,rfl,rfl⟩ (lM (kO (by omega) ?_) (kO (by omega) ?_))
    ·rw[e1];simp[hx,hyn]
    ·rw[e2];simp[hx];omega
   ·refine aR [] 45 (decide (y<0)) (by simp[hyn]) ?_;refine aq [45] (cU 1 (by omega) (by omega)) ?_;rintro _ _ ⟨u6,d6,rfl,rfl⟩;refine aq [] (IE u2 d2 u6 d6) ?_;rintro _ _ ⟨u7,d7,rfl,rfl⟩;refine W.r [] (.tuple #[zv u7 d7,zv u5 d5,.int .i64 0]) ⟨u7,d7,u5,d5,rfl,rfl⟩ (lM (kO (by omega) ?_) (kO (by omega) ?_))
    ·rw[e1];simp[hx,hyn]
    ·rw[e2];simp[hx];omega
 ·obtain⟨e1,e2⟩:=BQ (a:=x) (b:=y) (by omega) hy;refine aR [] 38 d3 (by rw[hd3];simp[hx]<;>omega) ?_;refine W.r [38] (.tuple #[zv u2 d2,zv u3 d3,.int .i64 0]) ⟨u2,d2,u3,d3,rfl,rfl⟩ (lM (kO (by omega) ?_) (kO (by omega) ?_))
  ·rw[e1];by_cases hyn:y<0<;>simp[hx,hyn]
  ·rw[e2];simp[hx]
end
section
variable{fin:VS→List aC→Prop}{Γ:List aC}{L M:Nat}
theorem zo{L':Nat}:∀(I:fN) (w:World),br tb I w→aE Γ I w→aE [ZF ⟨none,0,0⟩ false (L',0)] I w:=fun I w _ _=>by
 obtain⟨h1,h2,h3⟩:=YB I w;exact aU ⟨⟨h1,h2,aP h3 (aJ _)⟩,rfl⟩
theorem zG{x:Int}:x.sign<0↔x<0:=by
 rcases Int.lt_trichotomy x 0 with h|h|h
 ·rw[jw h];omega
 ·subst h;simp
 ·rw[fO h];omega
theorem x_{x:Int}:x.sign=0↔x=0:=Int.sign_eq_zero_iff_zero
end
instance digsDec(l:List Nat):Decidable (UI l):=inferInstanceAs (Decidable (∀d∈l,48≤d∧d≤57))
section
variable{fin:VS→List aC→Prop}{Γ:List aC}{L M:Nat}
end
section
variable{fin:VS→List aC→Prop}{Γ:List aC}{L M:Nat}
end
section
variable{fin:VS→List aC→Prop}{Γ:List aC}{L M:Nat}
def gZ(x:Int):Bool:=decide (-9223372036854775808≤x)&&decide (x≤9223372036854775807)
theorem wV(s:Sl)(b:Bool){x:Int} [aY (ZF s b) (L,x) Γ](hL:L≤1000000000000:=by omega):aw tb Tryz.prog 136 [zv s b] Γ (jf (.tuple #[.int .i64 (if gZ x=true then x else 0),.bool (gZ x)])):=by
 refine aw.of_W az Tryz.func136 rfl ?_;refine z9 s b rfl ?_;rintro rfl;by_cases hw:18446744073709551616≤x.natAbs
 ·have hs:gZ x=false:=by unfold gZ;simp only[qT,aV];omega
  refine aq [] (IC s hw) ?_;rintro _ _ ⟨rfl,rfl⟩;exact W.r [12] (.tuple #[.int .i64 0,.bool false]) ⟨by rw[hs];rfl,rfl⟩ bR
 ·refine aq [] (Eh s (by omega)) ?_;rintro _ _ ⟨rfl,rfl⟩;by_cases hx:x<0
  ·refine bk [12] 18 (decide (x<0)) (ar hx) ?_;by_cases hb:x.natAbs≤9223372036854775808
   ·have hs:gZ x=true:=by unfold gZ;simp only[aL,dG];omega
    refine bk [18] 15 (decide (((x.natAbs:Nat):Int)≤9223372036854775808)) (by rw[fG];omega) ?_;refine W.r [15] (.tuple #[.int .i64 (IntKind.i64.wrap (IntKind.i64.wrap (0-IntKind.i64.wrap (IntKind.u64.wrap (((x.natAbs:Nat):Int)-1)))-1)),.bool true]) ⟨?_,rfl⟩ bR;rw[hs,if_pos rfl,u64_in _ (by omega),i64_in (((x.natAbs:Nat):Int)-1) (by omega),i64_in (0-(((x.natAbs:Nat):Int)-1)) (by omega),i64_in _ (by omega)];rw[show(0:Int)-(((x.natAbs:Nat):Int)-1)-1=x by omega]
   ·have hs:gZ x=false:=by unfold gZ;simp only[qT,aV];omega
    refine aR [18] 15 (decide (((x.natAbs:Nat):Int)≤9223372036854775808)) (by rw[aV];omega) ?_;refine aR [15] 31 (!decide (x<0)) (by simp[hx]) ?_;exact W.r [27,31] (.tuple #[.int .i64 0,.bool false]) ⟨by rw[hs];rfl,rfl⟩ bR
  ·refine aR [12] 18 (decide (x<0)) (ai hx) ?_;refine bk [15,18] 31 (!decide (x<0)) (by simp[hx]) ?_;by_cases hb:x.natAbs<9223372036854775808
   ·have hs:gZ x=true:=by unfold gZ;simp only[aL,dG];omega
    refine bk [31] 27 (decide (((x.natAbs:Nat):Int)<9223372036854775808)) (by rw[fG];omega) ?_;refine W.r [27] (.tuple #[.int .i64 (IntKind.i64.wrap ((x.natAbs:Nat):Int)),.bool true]) ⟨?_,rfl⟩ bR;rw[hs,if_pos rfl,i64_in _ (by omega),show((x.natAbs:Nat):Int)=x by omega]
   ·have hs:gZ x=false:=by unfold gZ;simp only[qT,aV];omega
    refine aR [31] 27 (decide (((x.natAbs:Nat):Int)<9223372036854775808)) (by rw[aV];omega) ?_;exact W.r [27] (.tuple #[.int .i64 0,.bool false]) ⟨by rw[hs];rfl,rfl⟩ bR
theorem DD{x y:Int}:mX x y=0↔x=y:=by unfold mX;(repeat' split)<;>omega
end
section
variable{fin:VS→List aC→Prop}{Γ:List aC}{L M:Nat}
end
open Go.ChangeShapes Go.WideShapes Go.ChangeAt Go.RowKit
theorem Om{H:Type}{enc:TypeId×Value→H}{P:Program}{f:Func}{s:ChangeSpec}{W W':World}{args:Array Value}{v:Value}{ds:List (DataW H)}{mr:List MemPlace}
  (hW:DataW.Whole enc P f.params.toList s.vars false W args.toList ds [] mr)(hvs:s.vars=[])
  (hres:∀(b:Nat) (sp:Nat→Bool) (hd:Bool),DataW.TrodAll enc P W' b sp hd f.resultTypes.toList (v.resultList f.resultTypes.size) (s.fn H (ds++[])).results [])
  (hargs:∀sp:Nat→Bool,(∀p∈mr,sp p.block=true)→DataW.TrodAll enc P W' 0 sp true f.params.toList args.toList (s.fn H (ds++[])).args mr)
  (hv0:(s.fn H (ds++[])).vars=[])(hb:Below W.heap.size W W'):
  s.post enc P f false true false false W args v W':=by
 have hin:∀p∈mr,decide (p.block<W.heap.size)=true:=fun p hp=>ar (hW.lt p hp);have hvars:∀sp:Nat→Bool,DataW.TrodVars enc P W' sp s.vars (s.fn H (ds++[])).vars []:=fun sp=>by
  rw[hvs,hv0];rfl
 have hkeep:W.keptBut W' (fun p=>p∈mr∧(p∈([]:List MemPlace)∨p∈mr∨p∈([]:List MemPlace))):=
  World.keptBut_mono (fun p hp=>⟨hp,.inr (.inl hp)⟩) (hb.frame (· ∈mr))
 refine⟨ds,[],mr,[],mr,[],hW,hres _ _ _,hargs _ hin,hvars _,hkeep,fun h=>absurd h (by simp)⟩
def RA(ao:Option Addr)(xs:List Value):aC where
 p I w:=xs≠ []→∃b off,ao=some ⟨b,off,none⟩∧I b∧∀(i:Nat) (v:Value),xs[i]? =some v→w.cell? ⟨b,off+i,none⟩=some v
 up:=by
  intro I I' w w' hb h1 h2 h3 hne;obtain⟨b,off,ha,hI,hr⟩:=hb hne;have hlt:b<w.heap.size:=by
   obtain⟨v,r,rfl⟩:=List.exists_cons_of_ne_nil hne;have h0:=hr 0 v rfl;unfold World.cell? at h0;split at h0
   ·rename_i cs e f hc;exact cj hc
   ·simp at h0
  refine⟨b,off,ha,h1 b hlt hI,fun i v hv=>?_⟩;have:=hr i v hv;unfold World.cell? at this⊢;simp only at this⊢;rw[h2 b hlt hI];exact this
theorem RA.nil(ao:Option Addr)(I:fN)(w:World):(RA ao []).p I w:=fun h=>absurd rfl h
theorem RA.of_row{b:Nat}{cs xs:List Value}{I:fN}{w:World}(h:(d_ b cs).p I w)(hx:∀(i:Nat) (v:Value),xs[i]? =some v→cs[i]? =some v):(RA (some ⟨b,0,none⟩) xs).p I w:=by
 obtain⟨hI,e,hc⟩:=h;exact fun _=>⟨b,0,rfl,hI,fun i v hv=>by rw[mW hc,cu];exact hx i v hv⟩
theorem RA.cell{b off:Nat}{xs:List Value}{I:fN}{w:World}(h:(RA (some ⟨b,off,none⟩) xs).p I w){i:Nat}{v:Value}(hv:xs[i]? =some v):w.cell? ⟨b,off+i,none⟩=some v:=by
 obtain⟨b',off',ha,_,hr⟩:=h (by rintro rfl;simp at hv);injection ha with ha;injection ha with e1 e2 _;subst e1;subst e2;exact hr i v hv
def VS.setOwn(s:VS)(O:List (Nat×List Value)):VS:=⟨s.tmps,s.boxes,O,s.maps⟩
section
variable{T:Tb}{P:Program}{fin:VS→List aC→Prop}{c:fC}{Γ:List aC}
theorem gO(D:List Nat){α:Type}(N:List Nat)(V:α→List (Nat×Value))(X:α→List (Nat×List Value))(O:α→List (Nat×List Value))(G:α→List aC)(inv:α→Prop)(μ:α→Nat)(a0:α)
  
  
  (i0:inv a0)(f0:∀I w,br T I w→aE Γ I w→aE (G a0) I w)
  (hr:∀(a:α) (R:VS→List aC→Prop),inv a→
   (∀(D':List Nat) (c':fC) (Γ':List aC) (a':α),oD (aK T (aZ T D' 999 c'))=some R→
    (oE (aK T (aZ T D' 999 c'))).map (ji (aK T (aZ T D 999 c)) N)=some ((((ji (aK T (aZ T D 999 c)) N (nd (aK T (aZ T D 999 c)))).puts (V a')).boxs (X a')).setOwn (O a'))→
    inv a'→μ a'<μ a→(∀I w,br T I w→aE Γ' I w→aE (G a') I w)→W T P fin c' Γ')→
   W T P fin ⟨(((ji (aK T (aZ T D 999 c)) N (nd (aK T (aZ T D 999 c)))).puts (V a)).boxs (X a)).setOwn (O a),.code (vH (aK T (aZ T D 999 c)))::.again R::F_ (aK T (aZ T D 999 c))⟩ (G a))(h:qg (aK T (aZ T D 999 c))=true:=by kernel_rfl)(h0:ji (aK T (aZ T D 999 c)) N (nd (aK T (aZ T D 999 c)))=(((ji (aK T (aZ T D 999 c)) N (nd (aK T (aZ T D 999 c)))).puts (V a0)).boxs (X a0)).setOwn (O a0):=by kernel_rfl):W T P fin c Γ:=by
 refine eg D 999 ?_;generalize aZ T D 999 c=c1 at*;generalize he:aK T c1=e at*;cases e with
 |loop b c'=>
  generalize hst:ji (Ev.loop b c') N (nd (Ev.loop b c'))=S at*;have key:∀(m:Nat) (s:VS) (Γ':List aC),(∃a,ji (Ev.loop b c') N s=((S.puts (V a)).boxs (X a)).setOwn (O a)∧inv a∧μ a=m∧∀I w,br T I w→aE Γ' I w→aE (G a) I w)→
    W T P fin ⟨s,.code b::.again (fun s' Γ'=>∃m',m'<m∧∃a,ji (Ev.loop b c') N s'=((S.puts (V a)).boxs (X a)).setOwn (O a)∧inv a∧μ a=m'∧∀I w,br T I w→aE Γ' I w→aE (G a) I w)::c'.k⟩ Γ':=by
   rintro m s Γ' ⟨a,hs,hi,rfl,hf⟩;refine W.forget (jK N (j8 b)) (jd b) rfl ?_;rw[show s.forget (jK N (j8 b)) (jd b)=((S.puts (V a)).boxs (X a)).setOwn (O a)from hs];refine W.sub rfl hf ?_;refine hr a _ hi (fun D' c' Γ' a' hR hS hi' hl' hf'=>?_);refine eg D' 999 ?_;generalize aZ T D' 999 c'=c2 at*;cases hv:aK T c2<;>rw[hv]at hR hS<;>simp[oD,oE]at hR hS;subst hR;exact W.again hv ⟨μ a',hl',a',hS,hi',rfl,hf'⟩
  refine W.loop (fun m s Γ'=>∃a,ji (Ev.loop b c') N s=((S.puts (V a)).boxs (X a)).setOwn (O a)∧inv a∧μ a=m∧∀I w,br T I w→aE Γ' I w→aE (G a) I w) (μ a0) he ⟨a0,?_,i0,rfl,f0⟩ key;rw[←h0];exact hst
 |_=>simp[qg]at h
theorem jP(D:List Nat)(n:Nat)
  (hk:W T P fin ⟨nd (aK T (aZ T D 999 c)),.rnd n (vH (aK T (aZ T D 999 c)))::F_ (aK T (aZ T D 999 c))⟩ Γ)(h:qg (aK T (aZ T D 999 c))=true:=by kernel_rfl):W T P fin c Γ:=by
 refine eg D 999 ?_;generalize aZ T D 999 c=c1 at*;generalize he:aK T c1=e at*;cases e with
 |loop b c'=>exact W.un n he hk
 |_=>simp[qg]at h
end
theorem Ik{T:Tb}{P:Program}{f:FuncId}{args:List Value}{Γ:List aC}(h:aw T P f args Γ (fun v Δ=>v=.bool true∧Δ=[]))(w:World)(hh:aE Γ (fun _=>True) w):Calls P f args.toArray w fun e w'=>e=.returned (.bool true)∧Below w.heap.size w w':=by
 refine(h.2 (fun _=>True) w (fun _ _ _ _ _ _=>trivial) hh).mono ?_;rintro e w' ⟨v,Δ,rfl,⟨rfl,rfl⟩,hb,_⟩;exact⟨rfl,hb⟩
section
open Go.ChangeShapes Go.WideShapes
theorem vf{H:Type}{enc:TypeId×Value→H}{P:Program}(hl:laidOutB P=true){W W':World}(hb:Below W.heap.size W W'){sp:Nat→Bool}:
  ∀{ts:List TypeId} {vs:List Value} {ds:List (DataW H)} {ps:List MemPlace},(ts.all fun t=>P.readableRec t&&decide (t<P.types.size))=true→DataW.TrodAll enc P W 0 (fun _=>true) true ts vs ds ps→
   (∀x∈ps,x.block<W.heap.size)→(∀x∈ps,sp x.block=true)→DataW.TrodAll enc P W' 0 sp true ts vs ds ps
 | [],[],[],ps,_,h,_,_=>h
 |t::ts,v::vs,d::ds,ps,hr,h,hlt,hsp=>by
  obtain⟨p,q,h1,h2,rfl⟩:=h;simp only[List.all_cons,aL,dG]at hr;refine⟨p,q,?_,vf hl hb hr.2 h2 (fun x hx=>hlt x (hZ _ hx)) (fun x hx=>hsp x (hZ _ hx)),rfl⟩;exact WideElems.Trod_stays hl hr.1.1 hr.1.2 h1 (fun x hx=>hb.same (hlt x (gE _ hx))) (fun x hx=>hsp x (gE _ hx))
 | [],[],_::_,_,_,h,_,_=>h.elim
 | [],_::_,_,_,_,h,_,_=>by cases ‹List (DataW H)› <;>exact h.elim
 |_::_,[],_,_,_,h,_,_=>by cases ‹List (DataW H)› <;>exact h.elim
 |_::_,_::_,[],_,_,h,_,_=>h.elim
end
structure kK(α:Type) where
 z:Nat
 cells:α→List Value
 len:∀e,(cells e).length=z
 fact:Nat→α→aC
def OL{α:Type}(R:kK α)(ao:Option Addr)(a:Nat×List α):aC where
 p I w:=(∀e∈a.2,(R.fact a.1 e).p I w)∧(RA ao (a.2.flatMap R.cells)).p I w
 up:=by
  rintro I I' w w' ⟨h,hb⟩ h1 h2 h3;exact⟨fun e he=>(R.fact a.1 e).up (h e he) h1 h2 h3,(RA ao _).up hb h1 h2 h3⟩
def OS{α:Type}(R:kK α)(a:Nat×List α):aC where
 p I w:=∀e∈a.2,(R.fact a.1 e).p I w
 up:=by
  rintro I I' w w' h h1 h2 h3;exact fun e he=>(R.fact a.1 e).up (h e he) h1 h2 h3
theorem pS{α:Type}(R:kK α):∀l:List α,(l.flatMap R.cells).length=l.length*R.z
 | []=>by simp
 |e::r=>by rw[bL,aA,R.len,pS R r,aD,ea];omega
theorem Eu{α:Type}(R:kK α){l:List α}:∀{k:Nat} (h:k<l.length) (j:Nat) (v:Value),(R.cells (l[k]'h))[j]? =some v→(l.flatMap R.cells)[k*R.z+j]? =some v:=by
 induction l with
 |nil=>intro k h;simp at h
 |cons e r ih=>
  intro k h j v hv;cases k with
  |zero=>
   simp only[List.getElem_cons_zero]at hv;have hj:j<R.z:=by rw[←R.len e];exact(List.getElem?_eq_some_iff.1 hv).1
   rw[bL,dk (by rw[R.len];omega),show 0*R.z+j=j by omega];exact hv
  |succ k=>
   simp only[List.getElem_cons_succ]at hv;rw[bL,eQ (by rw[R.len,ea];omega),show(k+1)*R.z+j-(R.cells e).length=k*R.z+j by rw[R.len,ea];omega];exact ih (by simpa using h) j v hv
section
variable{T:Tb}{P:Program}{fin:VS→List aC→Prop}{c:fC}{Γ:List aC}
theorem abu{α:Type}(R:kK α)(ao:Option Addr){L:Nat}{l:List α} [h:aY (OL R ao) (L,l) Γ](k:Nat)(hk:k<l.length)(hm:dz c.k=false)(hz:0<R.z)
  (hc:∀b off,ao=some ⟨b,off,none⟩→W T P fin c (R.fact L (l[k]'hk)::Γ)):W T P fin c Γ:=
 W.elim (α:=Nat×Nat) (fun b=>ao=some ⟨b.1,b.2,none⟩) (fun b=>[R.fact L (l[k]'hk)]) hm (fun I w _ hh=>by
  obtain⟨g1,g2⟩:=h.p hh;obtain⟨b,off,ha,_⟩:=g2 (by
   intro e;have:=pS R l;simp only at e;rw[e]at this;have h2:0<l.length*R.z:=g8 (by omega) hz;simp at this;omega)
  exact⟨(b,off),ha,aU (g1 _ (dS hk))⟩) (fun b hb=>hc b.1 b.2 hb)
theorem I2{α:Type}(R:kK α)(b off:Nat){L:Nat}{l:List α} [h:aY (OL R (some ⟨b,off,none⟩)) (L,l) Γ](k:Nat)(hk:k<l.length):∀I w,br T I w→aE Γ I w→∀j v,(R.cells (l[k]'hk))[j]? =some v→w.cell? ⟨b,off+k*R.z+j,none⟩=some v:=fun I w _ hh j v hv=>by
 obtain⟨_,g2⟩:=h.p hh;rw[gN];exact RA.cell g2 (Eu R hk j v hv)
theorem Hs(ao:Option Addr){xs:List Value} [h:aY (RA ao) xs Γ](hm:dz c.k=false)(hne:xs≠ [])(hc:∀b off,ao=some ⟨b,off,none⟩→W T P fin c Γ):W T P fin c Γ:=
 W.elim (α:=Nat×Nat) (fun b=>ao=some ⟨b.1,b.2,none⟩) (fun b=>[]) hm (fun I w _ hh=>by
  obtain⟨b,off,ha,_⟩:=h.p hh hne;exact⟨(b,off),ha,aE.nil _ _⟩) (fun b hb=>hc b.1 b.2 hb)
theorem b_(b:Nat){cs:List Value} [h:aY (d_ b) cs Γ](own:List (Nat×List Value))(m z:Nat)(hl:cs.length=m*z)(c:Nat):qA T Γ own (.slice (some ⟨b,0,none⟩) m c) m z cs:=
 ⟨some ⟨b,0,none⟩,c,rfl,hl,fun _=>⟨⟨b,0,none⟩,rfl,fun I w _ hh _ j u hu=>by
  rw[gI,ov (h.p hh),cu];exact hu⟩⟩
theorem GS(ao:Option Addr){xs:List Value} [h:aY (RA ao) xs Γ](own:List (Nat×List Value))(m z c:Nat)(hl:xs.length=m*z)(ha:0<m→∃b off,ao=some ⟨b,off,none⟩):qA T Γ own (.slice ao m c) m z xs:=
 ⟨ao,c,rfl,hl,fun hm=>by
  obtain⟨b,off,rfl⟩:=ha hm;exact⟨⟨b,off,none⟩,rfl,fun I w _ hh _ j u hu=>by
   rw[gI];exact RA.cell (h.p hh) hu⟩⟩
theorem UZ{s:VS}{k:List It}{z n:Nat}{O:List (Nat×List Value)}{v:Value}{xs:List Value}(hs:s.own=O)(hg:cH z O v n xs)(hm:dz k=false)
  (hk:∀ao c,v=.slice ao n c→W T P fin ⟨⟨s.tmps,s.boxes,[],s.maps⟩,k⟩ (RA ao xs::Γ)):W T P fin ⟨s,k⟩ Γ:=by
 obtain⟨hl,hg⟩:=hg;rcases hg with⟨rfl,rfl,rfl⟩|⟨g,cap,cur,rfl,rfl,hnc,hcm,hcs,htk⟩
 ·obtain rfl:xs=[]:=aM (by simpa using hl);obtain⟨tm,bx,ow⟩:=s;simp only at hs;subst hs;exact W.elim (α:=Unit) (fun _=>True) (fun _=>[RA none []]) hm (fun I w _ hh=>⟨(),trivial,aU (RA.nil _ _ _)⟩) (fun _ _=>hk none 0 rfl)
 ·refine W.pub (O1:=[]) (O2:=[]) (b:=g) (cs:=cur) hm hs ?_;refine W.elim (α:=Unit) (fun _=>True) (fun _=>[RA (some ⟨g,0,none⟩) xs]) hm (fun I w _ hh=>⟨(),trivial,aU (RA.of_row hh.h0' fun i v hv=>?_)⟩) (fun _ _=>?_)
  ·rw[←htk,dw]at hv;split at hv
   ·exact hv
   ·simp at hv
  ·refine W.sub hm (fun I w _ hh=>?_) (hk _ _ rfl);exact aE.cons hh.h0' (fun F hF=>hh F (by simp[hF]))
end
end Go.Proofs.YtgaaopjagcaojaaGreat
