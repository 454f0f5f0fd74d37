import Derived.Test.YtgaaopjagcaojaaGreatProg
import Derived.Test.YtgaaopjagcaojaaGreatNatV
import Derived.Test.YtgaaopjagcaojaaGreatNatM
import Derived.Deep.LoopGhost
import Derived.Test.YtgaaopjagcaojaaGreatNatU
import Derived.Test.YtgaaopjagcaojaaGreatMaths
import Derived.Deep.DeepCutAuto
import Derived.Lib.Strings
import Derived.Deep.RegionWith
import Derived.Lib.Hide
import Derived.Laws.IdiomStrings
import Derived.Deep.CutBlock
import Derived.Deep.QuietTactic
import Derived.BigQuiet
import Derived.IntWalk
import Derived.Deep.RegionLaw
import Derived.Deep.RegionHeld3
import Derived.Test.YtgaaopjagcaojaaGreatTb
import Derived.Test.YtgaaopjagcaojaaGreatVm
import Derived.Below
import Derived.ChangeSame
import Derived.ProofKit
import Derived.OpenShut
import Derived.SliceStrings
import Derived.WideKeyArgs
set_option linter.unusedSimpArgs false
set_option linter.unusedVariables false
namespace Go.Proofs.YtgaaopjagcaojaaGreat
open Go.RowKit
theorem AD{w:World}{s t:Sl}{x y:Nat}(h:dU w s x)(h':dU w t y)(hn:s.n≤100000000000)(hm:t.n≤100000000000)(hy:0<y):
  Calls Tryz.prog 199 #[.agg #[.slice s.ao s.n s.c],.agg #[.slice t.ao t.n t.c]] w fun e w'=>
   ∃u v:Sl,e=.returned (.tuple #[.agg #[.slice u.ao u.n u.c],.agg #[.slice v.ao v.n v.c],.int .i64 0])∧dU w' u (x/y)∧dU w' v (x % y)∧u.n≤s.n∧v.n≤s.n∧v.n≤t.n∧Below w.heap.size w w':=by
 rcases iV x y with hxy|hxy
 ·refine(Nf h h' (by omega) (by omega) hxy).mono ?_;rintro e w' ⟨rfl,hb⟩;have e1:x/y=0:=jH hxy;have e2:x % y=x:=Nat.mod_eq_of_lt hxy;rw[e1,e2];exact⟨⟨none,0,0⟩,s,rfl,dU.nil _ _ _ (by omega),h.up hb,aM _,ai _,h.n_le h' (by omega),hb⟩
 ·have ht0:t.n≠0:=by
   have:=h'.zero_iff;omega
  by_cases ht1:t.n=1
  ·refine(div_one h h' (by omega) ht1 hxy).mono ?_;rintro e w' ⟨u,v,rfl,hu,hv,_,_,hb⟩;exact⟨u,v,rfl,hu,hv,hu.n_le h (Nat.div_le_self _ _),hv.n_le h (Nat.mod_le _ _),hv.n_le h' (gf (fF _ hy)),hb⟩
  ·obtain⟨r,g1,g2,g3,g4⟩:=id h';obtain⟨b,off,hao,_,_⟩:=g1.open (by omega);obtain⟨tao,tn,tc⟩:=t;simp only at hao ht0 ht1 hm;subst hao;obtain⟨m,rfl⟩:∃m,tn=m+2:=⟨tn-2,by omega⟩;subst g4;refine(Nh h b off m tc r g1 g2 g3 hn (by omega) hxy).mono ?_;rintro e w' ⟨u,v,rfl,hu,hv,hb⟩;exact⟨u,v,rfl,hu,hv,hu.n_le h (Nat.div_le_self _ _),hv.n_le h (Nat.mod_le _ _),hv.n_le h' (gf (fF _ hy)),hb⟩
def Mf(w:World)(G B:Nat)(k:Nat)(wr:World):Prop:=∃(sa sb:Sl) (a:Nat),
 wr.heap[w.heap.size]? =some (.cells #[.slice sa.ao sa.n sa.c] 110 (0,0))∧wr.heap[w.heap.size+1]? =some (.cells #[.slice sb.ao sb.n sb.c] 110 (0,0))∧
 wr.heap[w.heap.size+1+1]? =some (.cells #[.slice none 0 0] 110 (0,0))∧dU wr sa a∧dU wr sb k∧Nat.gcd a k=G∧sa.n≤B∧sb.n≤B∧Below w.heap.size w wr
set_option maxHeartbeats 1600000 in
theorem Nw{w:World}{s t:Sl}{x y:Nat}(h:dU w s x)(h':dU w t y)(hn:s.n≤100000000000)(hm:t.n≤100000000000):
  Calls Tryz.prog 258 #[.agg #[.slice s.ao s.n s.c],.agg #[.slice t.ao t.n t.c]] w fun e w'=>
   ∃u:Sl,e=.returned (.agg #[.slice u.ao u.n u.c])∧dU w' u (Nat.gcd x y)∧u.n≤max s.n t.n∧Below w.heap.size w w':=by
 have hE:=lD w (.cells #[.slice s.ao s.n s.c] 110) (.cells #[.slice t.ao t.n t.c] 110) (.cells #[.slice none 0 0] 110);have hbx:Below w.heap.size w _:=(((Below.refl w.heap.size w).alloc (ai _) (.cells #[.slice s.ao s.n s.c] 110)).alloc (by simp) (.cells #[.slice t.ao t.n t.c] 110)).alloc (by simp;omega) (.cells #[.slice none 0 0] 110);have hinit:Mf w (Nat.gcd x y) (max s.n t.n) y _:=⟨s,t,x,hE.1,hE.2.1,hE.2.2.1,h.up hbx,h'.up hbx,rfl,by omega,by omega,hbx⟩;have hB:max s.n t.n≤100000000000:=by omega
 generalize max s.n t.n=B at*;clear hE hbx
 go_enter Tryz.func258,Tryz.ntmps258
 go_wp2
 go_loopg [8] y (fun k _ wr=>Mf w (Nat.gcd x y) B k wr)
 case atStart=>exact hinit
 case round=>
  obtain⟨sa,sb,a,hE1,hE2,hE3,ha,hb,hg,hna,hnb,hbl⟩:=hrel;have hA:=bQ hE1 0;have hC:=bQ hE2 0;have hws:w.heap.size+1+1<wr.heap.size:=rK hE3;have HG:=bk hg;clear hg;by_cases h0:0<sb.n
  ·have hk0:0<gk:=by have:=hb.zero_iff;omega
   go_wp2_with (go_at_call 199;refine(AD ha hb (by omega) (by omega) hk0).mono ?_;rintro e w2 ⟨u,v,rfl,hu,hv,hun,hvn,hvn2,hb2⟩;have hF1:=bJ hb2 hE1;have hF2:=bJ hb2 hE2;have hF3:=bJ hb2 hE3;clear hA hC)
   have hbX:Below w2.heap.size w2 ((w2.alloc (.cells #[.slice u.ao u.n u.c] 110)).alloc (.cells #[.slice v.ao v.n v.c] 110)):=((Below.refl _ _).alloc (ai _) _).alloc (by simp) _;have hX:=AH w2 (.cells #[.slice u.ao u.n u.c] 110) (.cells #[.slice v.ao v.n v.c] 110);have K1:=bJ hbX hF1;have K2:=bJ hbX hF2;have K3:=bJ hbX hF3;have hv':=hv.up hbX;have hb':=(hb.up hb2).up hbX;have hblX:Below w.heap.size w ((w2.alloc (.cells #[.slice u.ao u.n u.c] 110)).alloc (.cells #[.slice v.ao v.n v.c] 110)):=(hbl.trans (hb2.mono hbl.size)).trans (hbX.mono (by have:=hbl.size;have:=hb2.size;omega));have hw2:w.heap.size+1<w2.heap.size:=by have:=hb2.size;omega
   have hcX:=bQ hX.2.1 0;generalize hXd:((w2.alloc (.cells #[.slice u.ao u.n u.c] 110)).alloc (.cells #[.slice v.ao v.n v.c] 110))=X at*;have hA:=bQ K1 0;have hAf:=dV K1 0;have hC:=bQ K2 0;have hCf:=dV K2 0;clear hXd hX hbX hE1 hE2 hE3 hF1 hF2 hF3 ha
   go_region
   all_goals (
    go_wp2
    go_roundg (a % gk)
    case measure=>exact fF _ hk0
    case rel=>
     refine⟨sb,v,gk,?_,?_,?_,?_,?_,?_,hnb,by omega,?_⟩
     ·exact cH (pS K1 _) (by simp) _
     ·exact pS (cH K2 (by simp) _) _
     ·exact cH (cH K3 (by simp;omega) _) (by simp) _
     ·exact(hb'.kp ((Kp.refl _).setCell K1 (by decide) _)).kp ((Kp.refl _).setCell (cH K2 (by simp) _) (by decide) _)
     ·exact(hv'.kp ((Kp.refl _).setCell K1 (by decide) _)).kp ((Kp.refl _).setCell (cH K2 (by simp) _) (by decide) _)
     ·rw[Nat.gcd_comm,←Nat.gcd_rec,Nat.gcd_comm];exact HG.out
     ·exact(hblX.drew.setCell (by simp) _).setCell (by simp) _)
  ·have hk0:gk=0:=by have:=hb.zero_iff;omega
   subst hk0;have hR:=bQ hE3 0;have hRf:=dV hE3 0
   go_wp2
   refine fg (v:=.agg #[.slice sa.ao sa.n sa.c]) (by simp[results,Tryz.results258,go_sem,hR]) rfl ⟨sa,rfl,?_,hna,hbl.setCell (by simp;omega) _⟩;have:=HG.out;rw[Nat.gcd_zero_right]at this;rw[←this];exact ha.kp ((Kp.refl _).setCell hE3 (by decide) _)
def bs(s:ByteArray):List Nat:=s.data.toList.map fun b=>b.toNat
def Mq(x z:Nat)(o:List Nat):Prop:=o++(dl z).map (· +48)=(dl x).map (· +48)
theorem Mq.len{x z:Nat}{o:List Nat}(h:Mq x z o):o.length≤(dl x).length:=by
 have:=dz List.length h;simp at this;omega
def HA(w:World)(s t:Sl)(R g:Nat)(o:List Nat)(sr:Sl)(P:Nat)(wr:World):Prop:=
 wr.heap[w.heap.size]? =some (.cells #[.slice s.ao s.n s.c] 84 (0,0))∧wr.heap[w.heap.size+1]? =some (.cells #[.slice t.ao t.n t.c] 84 (0,0))∧
 wr.heap[w.heap.size+1+1]? =some (.cells #[.slice none 0 0] 84 (0,0))∧wr.heap[w.heap.size+1+1+1]? =some (.cells #[.slice none 0 0] 84 (0,0))∧
 wr.heap[R]? =some (.cells #[.slice sr.ao sr.n sr.c] 84 (0,0))∧Aj wr sr P∧iX wr (w.heap.size+4) 3 .i64 (.slice (some ⟨g,0,none⟩) s.n s.n) o∧Below w.heap.size w wr
theorem HA.up{w:World}{s t:Sl}{R g:Nat}{o:List Nat}{sr:Sl}{P:Nat}{wr w':World}(h:HA w s t R g o sr P wr)(hb:Below wr.heap.size wr w'):HA w s t R g o sr P w':=
 ⟨bJ hb h.1,bJ hb h.2.1,bJ hb h.2.2.1,bJ hb h.2.2.2.1,bJ hb h.2.2.2.2.1,h.2.2.2.2.2.1.up hb,h.2.2.2.2.2.2.1.below hb (ai _),h.2.2.2.2.2.2.2.trans (hb.mono h.2.2.2.2.2.2.2.size)⟩
def HB(w:World)(b3 b4:Nat)(sa sb:Sl)(a b:Nat)(wr:World):Prop:=
 wr.heap[w.heap.size]? =some (.cells #[.slice none 0 0] 84 (0,0))∧wr.heap[b3]? =some (.cells #[.slice sa.ao sa.n sa.c] 84 (0,0))∧wr.heap[b4]? =some (.cells #[.slice sb.ao sb.n sb.c] 84 (0,0))∧
 Aj wr sa a∧Aj wr sb b∧Below w.heap.size w wr
theorem HB.up{w:World}{b3 b4:Nat}{sa sb:Sl}{a b:Nat}{wr w':World}(h:HB w b3 b4 sa sb a b wr)(hb:Below wr.heap.size wr w'):HB w b3 b4 sa sb a b w':=
 ⟨bJ hb h.1,bJ hb h.2.1,bJ hb h.2.2.1,h.2.2.2.1.up hb,h.2.2.2.2.1.up hb,h.2.2.2.2.2.trans (hb.mono h.2.2.2.2.2.size)⟩
def QM(I:f_)(s:Sl):Prop:=0<s.n→∀b off sp,s.ao=some ⟨b,off,sp⟩→I b
theorem dd.blk{I I':f_}{w w':World}{T:TypeId}{k:IntKind}{s:Sl}{l:List Nat}(h:dd w T k s l)(hi:QM I s)(h1:∀b,b<w.heap.size→I b→I' b)(h2:∀b,b<w.heap.size→I b→w'.heap[b]? =w.heap[b]?):dd w' T k s l∧QM I' s:=by
 obtain⟨g1,g2,g3,g4⟩:=h;refine⟨⟨g1,g2,g3,fun hp=>?_⟩,fun hp b off sp ha=>?_⟩
 ·obtain⟨b,off,cur,ha,hb,hr⟩:=g4 hp;exact⟨b,off,cur,ha,by rw[h2 b (cu hb) (hi hp b off none ha)];exact hb,hr⟩
 ·obtain⟨b',off',cur,ha',hb,hr⟩:=g4 hp;have hI:=hi hp b off sp ha;rw[ha]at ha';injection ha' with ha';injection ha' with e1 _ _;subst e1;exact h1 b (cu hb) hI
theorem dd.data{I:f_}{w w':World}{T:TypeId}{k:IntKind}{s:Sl}{l:List Nat}(h:dd w' T k s l)(hT:tb.dat T=true)(hd:bB tb I w)(hb:Below w.heap.size w w'):QM (fun b=>b<w.heap.size→I b) s:=by
 intro hp b off sp ha hlt;obtain⟨_,_,_,g4⟩:=h;obtain⟨b',off',cur,ha',hb',hr⟩:=g4 hp;rw[ha]at ha';injection ha' with ha';injection ha' with e1 _ _;subst e1;exact hd b cur T (0,0) (by rw[←hb.block b hlt];exact hb') hT
def NF(s:Sl)(a:Nat×Nat):aE where
 p I w:=dU w s a.2∧QM I s∧s.n≤a.1
 up:=by
  rintro I I' w w' ⟨⟨l,h,hr⟩,hi,hl⟩ h1 h2 _;obtain⟨g1,g2⟩:=h.blk hi h1 h2;exact⟨⟨l,g1,hr⟩,g2,hl⟩
def ZF(s:Sl)(b:Bool)(a:Nat×Int):aE where
 p I w:=(NF s (a.1,a.2.natAbs)).p I w∧b=decide (a.2<0)
 up h h1 h2 h3:=⟨(NF s (_,_)).up h.1 h1 h2 h3,h.2⟩
abbrev mv(s:Sl):Value:=.agg #[.slice s.ao s.n s.c]
abbrev zv(s:Sl)(b:Bool):Value:=.agg #[.slice s.ao s.n s.c,.bool b]
def E6(L x:Nat)(v:Value)(Δ:List aE):Prop:=∃u:Sl,v=mv u∧Δ=[NF u (L,x)]
def oS(L:Nat)(x:Int)(v:Value)(Δ:List aE):Prop:=∃(u:Sl) (d:Bool),v=zv u d∧Δ=[ZF u d (L,x)]
def jv(x:Value)(v:Value)(Δ:List aE):Prop:=v=x∧Δ=[]
theorem abr:tb.dat 273=true:=by kernel_rfl
theorem dU.fact{I:f_}{w w':World}{s:Sl}{x L:Nat}(h:dU w' s x)(hd:bB tb I w)(hb:Below w.heap.size w w')(hl:s.n≤L):(NF s (L,x)).p (fun b=>b<w.heap.size→I b) w':=by
 obtain⟨l,g,hr⟩:=h;exact⟨⟨l,g,hr⟩,g.data abr hd hb,hl⟩
theorem aG.h0'{F:aE}{Γ:List aE}{I:f_}{w:World}(h:aG (F::Γ) I w):F.p I w:=h F (by simp)
theorem aV{F:aE}{I:f_}{w:World}(h:F.p I w):aG [F] I w:=aG.cons h (aG.nil _ _)
section
variable{Γ:List aE}{L M x y:Nat}
theorem kX{s:Sl}{b:Bool}{L':Nat}{x x':Int} [h:aZ (ZF s b) (L,x) Γ](hL:L≤L')(hx:x=x'):∀(I:f_) (w:World),bB tb I w→aG Γ I w→aG [ZF s b (L',x')] I w:=fun I w _ hh=>by
 subst hx;obtain⟨⟨h1,h2,h3⟩,h4⟩:=h.p hh;exact aV ⟨⟨h1,h2,aP h3 hL⟩,h4⟩
theorem XV(I:f_)(w:World):(NF ⟨none,0,0⟩ (0,0)).p I w:=⟨dU.nil w none 0 (by omega),fun h=>absurd h (by simp),ai 0⟩
theorem ZW(s t:Sl) [ha:aZ (NF s) (L,x) Γ] [hc:aZ (NF t) (M,y) Γ](hL:L≤1000000000000:=by omega)(hM:M≤1000000000000:=by omega):
  au tb Tryz.prog 252 [mv s,mv t] Γ (E6 (max L M+1) (x+y)):=
 ⟨⟨_,Tryz.func252,by kernel_rfl,by kernel_rfl⟩,fun I w hd hh=>by
  obtain⟨h1,h2,h3⟩:=ha.p hh;obtain⟨g1,g2,g3⟩:=hc.p hh;refine(Fc h1 g1 (aP h3 hL) (aP g3 hM)).mono ?_;rintro e w' ⟨u,rfl,hu,hn,hb⟩;exact⟨_,_,rfl,⟨u,rfl,rfl⟩,hb,aV (hu.fact hd hb (by simp only at h3 g3⊢;omega))⟩⟩
theorem OT(s t:Sl) [ha:aZ (NF s) (L,x) Γ] [hc:aZ (NF t) (M,y) Γ](hL:L≤1000000000000:=by omega)(hM:M≤1000000000000:=by omega):
  au tb Tryz.prog 247 [mv s,mv t] Γ (E6 (L+M) (x*y)):=
 ⟨⟨_,Tryz.func247,by kernel_rfl,by kernel_rfl⟩,fun I w hd hh=>by
  obtain⟨h1,h2,h3⟩:=ha.p hh;obtain⟨g1,g2,g3⟩:=hc.p hh;refine(Gu h1 g1 (aP h3 hL) (aP g3 hM)).mono ?_;rintro e w' ⟨u,rfl,hu,hn,hb⟩;exact⟨_,_,rfl,⟨u,rfl,rfl⟩,hb,aV (hu.fact hd hb (by simp only at h3 g3⊢;omega))⟩⟩
theorem Z0(s t:Sl) [ha:aZ (NF s) (L,x) Γ] [hc:aZ (NF t) (M,y) Γ](hL:L≤100000000000:=by omega)(hM:M≤100000000000:=by omega):
  au tb Tryz.prog 258 [mv s,mv t] Γ (E6 (max L M) (Nat.gcd x y)):=
 ⟨⟨_,Tryz.func258,by kernel_rfl,by kernel_rfl⟩,fun I w hd hh=>by
  obtain⟨h1,h2,h3⟩:=ha.p hh;obtain⟨g1,g2,g3⟩:=hc.p hh;refine(Nw h1 g1 (aP h3 hL) (aP g3 hM)).mono ?_;rintro e w' ⟨u,rfl,hu,hn,hb⟩;exact⟨_,_,rfl,⟨u,rfl,rfl⟩,hb,aV (hu.fact hd hb (by simp only at h3 g3⊢;omega))⟩⟩
theorem ON(s t:Sl) [ha:aZ (NF s) (L,x) Γ] [hc:aZ (NF t) (M,y) Γ](hL:L≤1000000000000:=by omega)(hM:M≤1000000000000:=by omega):
  au tb Tryz.prog 204 [mv s,mv t] Γ (jv (.int .i64 (mK x y))):=
 ⟨⟨_,Tryz.func204,by kernel_rfl,by kernel_rfl⟩,fun I w hd hh=>by
  obtain⟨h1,h2,h3⟩:=ha.p hh;obtain⟨g1,g2,g3⟩:=hc.p hh;refine(nv h1 g1 (aP h3 hL) (aP g3 hM)).mono ?_;rintro e w' ⟨rfl,hb⟩;exact⟨_,_,rfl,⟨rfl,rfl⟩,hb,aG.nil _ _⟩⟩
theorem GP(s t:Sl) [ha:aZ (NF s) (L,x) Γ] [hc:aZ (NF t) (M,y) Γ](hxy:y≤x)(hL:L≤1000000000000:=by omega)(hM:M≤1000000000000:=by omega):
  au tb Tryz.prog 253 [mv s,mv t] Γ (fun v Δ=>∃u:Sl,v=.tuple #[mv u,.int .i64 0]∧Δ=[NF u (L,x-y)]):=
 ⟨⟨_,Tryz.func253,by kernel_rfl,by kernel_rfl⟩,fun I w hd hh=>by
  obtain⟨h1,h2,h3⟩:=ha.p hh;obtain⟨g1,g2,g3⟩:=hc.p hh;refine(W5 h1 g1 (aP h3 hL) (aP g3 hM) hxy).mono ?_;rintro e w' ⟨u,rfl,hu,hn,hb⟩;exact⟨_,_,rfl,⟨u,rfl,rfl⟩,hb,aV (hu.fact hd hb (by simp only at h3⊢;omega))⟩⟩
theorem Pc(s t:Sl) [ha:aZ (NF s) (L,x) Γ] [hc:aZ (NF t) (M,y) Γ](hxy:x<y)(hL:L≤1000000000000:=by omega)(hM:M≤1000000000000:=by omega):
  au tb Tryz.prog 253 [mv s,mv t] Γ (jv (.tuple #[mv ⟨none,0,0⟩,.int .i64 4])):=
 ⟨⟨_,Tryz.func253,by kernel_rfl,by kernel_rfl⟩,fun I w hd hh=>by
  obtain⟨h1,h2,h3⟩:=ha.p hh;obtain⟨g1,g2,g3⟩:=hc.p hh;refine(W6 h1 g1 (aP h3 hL) (aP g3 hM) hxy).mono ?_;rintro e w' ⟨rfl,hb⟩;exact⟨_,_,rfl,⟨rfl,rfl⟩,hb,aG.nil _ _⟩⟩
theorem ZX(s t:Sl) [ha:aZ (NF s) (L,x) Γ] [hc:aZ (NF t) (M,y) Γ](hy:0<y)(hL:L≤100000000000:=by omega)(hM:M≤100000000000:=by omega):
  au tb Tryz.prog 199 [mv s,mv t] Γ (fun v Δ=>∃u t:Sl,v=.tuple #[mv u,mv t,.int .i64 0]∧Δ=[NF u (L,x/y),NF t (min L M,x % y)]):=
 ⟨⟨_,Tryz.func199,by kernel_rfl,by kernel_rfl⟩,fun I w hd hh=>by
  obtain⟨h1,h2,h3⟩:=ha.p hh;obtain⟨g1,g2,g3⟩:=hc.p hh;refine(AD h1 g1 (aP h3 hL) (aP g3 hM) hy).mono ?_;rintro e w' ⟨u,v,rfl,hu,hv,hn,hn1,hn2,hb⟩;exact⟨_,_,rfl,⟨u,v,rfl,rfl⟩,hb,aG.cons (hu.fact hd hb (by simp only at h3⊢;omega)) (aV (hv.fact hd hb (by simp only at h3 g3⊢;omega)))⟩⟩
theorem OK(s:Sl) [ha:aZ (NF s) (L,x) Γ](hL:L≤1000000000000:=by omega):
  au tb Tryz.prog 244 [mv s] Γ (jv (.int .i64 ((bl x:Nat):Int))):=
 ⟨⟨_,Tryz.func244,by kernel_rfl,by kernel_rfl⟩,fun I w hd hh=>by
  obtain⟨h1,h2,h3⟩:=ha.p hh;refine(CE h1 (aP h3 hL)).mono ?_;rintro e w' ⟨rfl,hb⟩;exact⟨_,_,rfl,⟨rfl,rfl⟩,hb,aG.nil _ _⟩⟩
theorem IH(s:Sl) [ha:aZ (NF s) (L,x) Γ](hx:18446744073709551616≤x)(hL:L≤1000000000000:=by omega):
  au tb Tryz.prog 202 [mv s] Γ (jv (.tuple #[.int .u64 0,.bool false])):=
 ⟨⟨_,Tryz.func202,by kernel_rfl,by kernel_rfl⟩,fun I w hd hh=>by
  obtain⟨h1,h2,h3⟩:=ha.p hh;refine(Qi h1 (aP h3 hL) hx).mono ?_;rintro e w' ⟨rfl,hb⟩;exact⟨_,_,rfl,⟨rfl,rfl⟩,hb,aG.nil _ _⟩⟩
theorem Ez(s:Sl) [ha:aZ (NF s) (L,x) Γ](hx:x<18446744073709551616)(hL:L≤1000000000000:=by omega):
  au tb Tryz.prog 202 [mv s] Γ (jv (.tuple #[.int .u64 (x:Int),.bool true])):=
 ⟨⟨_,Tryz.func202,by kernel_rfl,by kernel_rfl⟩,fun I w hd hh=>by
  obtain⟨h1,h2,h3⟩:=ha.p hh;refine(I7 h1 hx).mono ?_;rintro e w' ⟨rfl,hb⟩;exact⟨_,_,rfl,⟨rfl,rfl⟩,hb,aG.nil _ _⟩⟩
theorem Z3(s:Sl)(k:Nat) [ha:aZ (NF s) (L,x) Γ](hk:k≤65536)(hL:L≤1000000000000:=by omega):
  au tb Tryz.prog 246 [mv s,.int .i64 (k:Int)] Γ (fun v Δ=>∃u:Sl,v=.tuple #[mv u,.int .i64 0]∧Δ=[NF u (L+k/32+1,x*2^k)]):=
 ⟨⟨_,Tryz.func246,by kernel_rfl,by kernel_rfl⟩,fun I w hd hh=>by
  obtain⟨h1,h2,h3⟩:=ha.p hh;refine(z9 k h1 (aP h3 hL) hk).mono ?_;rintro e w' ⟨u,rfl,hu,hn,hb⟩;exact⟨_,_,rfl,⟨u,rfl,rfl⟩,hb,aV (hu.fact hd hb (by simp only at h3⊢;omega))⟩⟩
theorem acX(x:Nat)(hx:x<18446744073709551616):
  au tb Tryz.prog 193 [.int .u64 (x:Int)] Γ (E6 2 x):=
 ⟨⟨_,Tryz.func193,by kernel_rfl,by kernel_rfl⟩,fun I w hd hh=>by
  refine(El x w hx).mono ?_;rintro e w' ⟨u,rfl,hu,hn,hb⟩;exact⟨_,_,rfl,⟨u,rfl,rfl⟩,hb,aV (hu.fact hd hb (by omega))⟩⟩
end
open Go.RowKit Go.IntWalk
def nu(x y:Int):Int:=if x<y then-1 else if x=y then 0 else 1
theorem Ay{x y:Int}(hx:0≤x)(hy:0≤y):mK x.natAbs y.natAbs=nu x y:=by
 unfold mK nu;have e1:x.natAbs<y.natAbs↔x<y:=by omega
 have e2:x.natAbs=y.natAbs↔x=y:=by omega
 simp only[e1,e2]
theorem H8{x y:Int}(hx:x<0)(hy:y<0):mK y.natAbs x.natAbs=nu x y:=by
 unfold mK nu;have e1:y.natAbs<x.natAbs↔x<y:=by omega
 have e2:y.natAbs=x.natAbs↔x=y:=by omega
 simp only[e1,e2]
theorem MY(x y:Nat):mK x y=nu x y:=by
 have:=Ay (x:=(x:Int)) (y:=(y:Int)) (by omega) (by omega);simpa using this
theorem MQ(x:Nat):(0<bl x)↔0<x:=by
 have:=qS x 0;omega
theorem Q_(x:Nat):bl x=0↔x=0:=by
 have:=MQ x;omega
section
variable{fin:VS→List aE→Prop}{Γ:List aE}{L M:Nat}
theorem qx{T:Tb}{P:Program}{c:fM}(φ:Prop)(hm:dG c.k=false)(h:∀I w,bB T I w→aG Γ I w→φ)(hk:φ→W T P fin c Γ):W T P fin c Γ:=
 W.elim (α:=Unit) (fun _=>φ) (fun _=>[]) hm (fun I w hd hh=>⟨(),h I w hd hh,aG.nil _ _⟩) (fun _ hp=>hk hp)
theorem pJ{T:Tb}{P:Program}{f:FuncId}{args:List Value}{post:Value→List aE→Prop}(φ:Value→List aE→Prop)(h:au T P f args Γ post)(hi:∀v Δ,post v Δ→∀I w,aG Δ I w→φ v Δ):au T P f args Γ (fun v Δ=>post v Δ∧φ v Δ):=
 ⟨h.1,fun I w hd hh=>(h.2 I w hd hh).mono fun _ _ ⟨v,Δ,h1,h2,h3,h4⟩=>⟨v,Δ,h1,⟨h2,hi v Δ h2 _ _ h4⟩,h3,h4⟩⟩
theorem au.post{T:Tb}{P:Program}{f:FuncId}{args:List Value}{post post':Value→List aE→Prop}(h:au T P f args Γ post)(hp:∀v Δ,post v Δ→post' v Δ):au T P f args Γ post':=h.weak (fun _ _ _ hh=>hh) hp
theorem Ao{P:Program}{c:fM}(s:Sl)(b:Bool){x:Int} [h:aZ (ZF s b) (L,x) Γ](hm:dG c.k=false)(hk:b=decide (x<0)→W tb P fin c (NF s (L,x.natAbs)::Γ)):W tb P fin c Γ:=
 W.elim (α:=Unit) (fun _=>b=decide (x<0)) (fun _=>[NF s (L,x.natAbs)]) hm (fun I w _ hh=>⟨(),(h.p hh).2,aV (h.p hh).1⟩) (fun _ hp=>hk hp)
theorem Ts{s:Sl}{d:Bool}{L' x:Nat}{z:Int} [h:aZ (NF s) (L,x) Γ](hL:L≤L')(hz:z.natAbs=x)(hd:d=decide (z<0)):∀(I:f_) (w:World),bB tb I w→aG Γ I w→aG [ZF s d (L',z)] I w:=fun I w _ hh=>by
 subst hz;obtain⟨h1,h2,h3⟩:=h.p hh;exact aV ⟨⟨h1,h2,aP h3 hL⟩,hd⟩
theorem YC{s:Sl}{d:Bool}{L' x:Nat}{z:Int} [h:aZ (ZF s d) (L,z) Γ](hL:L≤L')(hz:z.natAbs=x):∀(I:f_) (w:World),bB tb I w→aG Γ I w→aG [NF s (L',x)] I w:=fun I w _ hh=>by
 subst hz;obtain⟨⟨h1,h2,h3⟩,_⟩:=h.p hh;exact aV ⟨h1,h2,aP h3 hL⟩
theorem lV{Δ Δ':List aE}(h:∀(I:f_) (w:World),bB tb I w→aG Γ I w→aG Δ I w)(h':∀(I:f_) (w:World),bB tb I w→aG Γ I w→aG Δ' I w):∀(I:f_) (w:World),bB tb I w→aG Γ I w→aG (Δ++Δ') I w:=fun I w hd hh=>(h I w hd hh).append (h' I w hd hh)
theorem C_(z:Int)(x:Nat)(hz:z=x)(hx:x<18446744073709551616):au tb Tryz.prog 193 [.int .u64 z] Γ (E6 2 x):=by
 subst hz;exact acX x hx
theorem J0(s:Sl)(b:Bool){x:Nat} [aZ (NF s) (L,x) Γ](hL:L≤1000000000000:=by omega):
  au tb Tryz.prog 192 [mv s,.bool b] Γ (fun v Δ=>∃(u:Sl) (d:Bool),v=zv u d∧d=(b&&decide (0<x))∧Δ=[ZF u d (L,bif b then-(x:Int)else x)]):=by
 refine au.of_W aB Tryz.func192 rfl ?_;cases b with
 |true=>
  refine aj [7] (OK s) ?_;rintro _ _ ⟨rfl,rfl⟩;have hb:=MQ x;have e:decide (((bl x:Nat):Int)>0)=decide (0<x):=by rw[rI];omega
  refine W.r [7] (zv s (decide (((bl x:Nat):Int)>0))) ⟨s,_,rfl,by rw[e];rfl,rfl⟩ (Ts (ai _) (by simp) ?_);simp only[bT];rw[rI];omega
 |false=>
  refine W.r [7] (zv s false) ⟨s,_,rfl,rfl,rfl⟩ (Ts (ai _) (by simp) ?_);simp only[cN];rw[eq_comm,aY];omega
theorem rR(s:Sl)(b:Bool){x:Nat} [aZ (NF s) (L,x) Γ](hL:L≤1000000000000:=by omega):
  au tb Tryz.prog 192 [mv s,.bool b] Γ (oS L (bif b then-(x:Int)else x)):=
 (J0 s b hL).post fun _ _ ⟨u,d,h1,_,h2⟩=>⟨u,d,h1,h2⟩
theorem vU(s:Sl){x:Nat} [aZ (NF s) (L,x) Γ](hL:L≤1000000000000:=by omega):
  au tb Tryz.prog 194 [mv s] Γ (oS L (x:Int)):=by
 refine au.of_W aB Tryz.func194 rfl ?_;refine aj [] (rR s false) ?_;rintro _ _ ⟨u,d,rfl,rfl⟩;exact W.r [] (zv u d) ⟨u,d,rfl,rfl⟩ (kX (ai _) rfl)
theorem cV(n:Int)(h1: -9223372036854775808≤n)(h2:n<9223372036854775808):au tb Tryz.prog 131 [.int .i64 n] Γ (oS 2 n):=by
 refine au.of_W aB Tryz.func131 rfl ?_;refine W.d [] 4 (decide (n<0)) (fun hn=>?_) (fun hn=>?_)
 ·have hn:=kr hn;have e:IntKind.u64.wrap (IntKind.u64.wrap (IntKind.i64.wrap (0-IntKind.i64.wrap (n+1)))+1)=((-n).toNat:Int):=by
   rw[i64_in (n+1) (by omega),i64_in (0-(n+1)) (by omega),u64_in (0-(n+1)) (by omega),u64_in _ (by omega)];omega
  refine aj [4] (C_ (IntKind.u64.wrap (IntKind.u64.wrap (IntKind.i64.wrap (0-IntKind.i64.wrap (n+1)))+1)) (-n).toNat e (by omega)) ?_;rintro _ _ ⟨u,rfl,rfl⟩;refine aj [] (rR u true) ?_;rintro _ _ ⟨t,d,rfl,rfl⟩;exact W.r [] (zv t d) ⟨t,d,rfl,rfl⟩ (kX (ai _) (by simp;omega))
 ·have hn:=eL hn;have e:IntKind.u64.wrap n=(n.toNat:Int):=by rw[u64_in _ (by omega)];omega
  refine aj [4] (C_ (IntKind.u64.wrap n) n.toNat e (by omega)) ?_;rintro _ _ ⟨u,rfl,rfl⟩;refine aj [] (rR u false) ?_;rintro _ _ ⟨t,d,rfl,rfl⟩;exact W.r [] (zv t d) ⟨t,d,rfl,rfl⟩ (kX (ai _) (by simp;omega))
theorem Br(s:Sl)(b:Bool){x:Int} [aZ (ZF s b) (L,x) Γ]:au tb Tryz.prog 257 [zv s b] Γ (fun v Δ=>v=mv s∧Δ=[NF s (L,x.natAbs)]):=by
 refine au.of_W aB Tryz.func257 rfl ?_;exact W.r [] (mv s) ⟨rfl,rfl⟩ (YC (d:=b) (ai _) rfl)
theorem nf(s:Sl)(b:Bool){x:Int} [aZ (ZF s b) (L,x) Γ](hL:L≤1000000000000:=by omega):au tb Tryz.prog 203 [zv s b] Γ (jv (.int .i64 x.sign)):=by
 refine au.of_W aB Tryz.func203 rfl ?_;refine Ao s b rfl ?_;rintro rfl;refine W.d [] 3 (decide (x<0)) (fun hn=>?_) (fun hn=>?_)
 ·have hn:=kr hn;exact W.r [3] (.int .i64 (-1)) ⟨by rw[jO hn],rfl⟩ bU
 ·have hn:=eL hn;refine aj [3] (OK s) ?_;rintro _ _ ⟨rfl,rfl⟩;have hz:=Q_ x.natAbs;refine W.d [] 6 (((bl x.natAbs:Nat):Int)==0) (fun h0=>?_) (fun h0=>?_)
  ·have h0:=eq_of_beq h0;have:x=0:=by omega
   exact W.r [6] (.int .i64 0) ⟨by rw[this];rfl,rfl⟩ bU
  ·have h0:=kn h0;exact W.r [6] (.int .i64 1) ⟨by rw[gd (by omega)],rfl⟩ bU
theorem pq(s:Sl)(b:Bool)(t:Sl)(c:Bool){x y:Int} [aZ (ZF s b) (L,x) Γ] [aZ (ZF t c) (M,y) Γ](hL:L≤1000000000000:=by omega)(hM:M≤1000000000000:=by omega):
  au tb Tryz.prog 139 [zv s b,zv t c] Γ (jv (.int .i64 (nu x y))):=by
 refine au.of_W aB Tryz.func139 rfl ?_;refine Ao s b rfl ?_;rintro rfl;refine Ao t c rfl ?_;rintro rfl;by_cases hx:x<0<;>by_cases hy:y<0
 ·refine aS [] 5 (!(decide (x<0)==decide (y<0))) (by simp[hx,hy]) ?_;refine bD [5] 13 (decide (x<0)) (by simp[hx]) ?_;refine aj [13] (ON t s) ?_;rintro _ _ ⟨rfl,rfl⟩;exact W.r [] (.int .i64 (mK y.natAbs x.natAbs)) ⟨by rw[H8 hx hy],rfl⟩ bU
 ·refine bD [] 5 (!(decide (x<0)==decide (y<0))) (by simp[hx,hy]) ?_;refine bD [5] 12 (decide (x<0)) (by simp[hx]) ?_;exact W.r [12] (.int .i64 (-1)) ⟨by unfold nu;rw[if_pos (by omega)],rfl⟩ bU
 ·refine bD [] 5 (!(decide (x<0)==decide (y<0))) (by simp[hx,hy]) ?_;refine aS [5] 12 (decide (x<0)) (by simp[hx]) ?_;exact W.r [12] (.int .i64 1) ⟨by unfold nu;rw[if_neg (by omega),if_neg (by omega)],rfl⟩ bU
 ·refine aS [] 5 (!(decide (x<0)==decide (y<0))) (by simp[hx,hy]) ?_;refine aS [5] 13 (decide (x<0)) (by simp[hx]) ?_;refine aj [13] (ON s t) ?_;rintro _ _ ⟨rfl,rfl⟩;exact W.r [] (.int .i64 (mK x.natAbs y.natAbs)) ⟨by rw[Ay (by omega) (by omega)],rfl⟩ bU
theorem rU(s:Sl)(b:Bool){x:Int} [aZ (ZF s b) (L,x) Γ](hL:L≤1000000000000:=by omega):au tb Tryz.prog 243 [zv s b] Γ (oS L (-x)):=by
 refine au.of_W aB Tryz.func243 rfl ?_;refine Ao s b rfl ?_;rintro rfl;refine aj [] (rR s (!decide (x<0))) ?_;rintro _ _ ⟨u,d,rfl,rfl⟩;refine W.r [] (zv u d) ⟨u,d,rfl,rfl⟩ (kX (ai _) ?_);by_cases hx:x<0<;>simp[hx]<;>omega
theorem l9(s:Sl)(b:Bool)(t:Sl)(c:Bool){x y:Int} [aZ (ZF s b) (L,x) Γ] [aZ (ZF t c) (M,y) Γ](hL:L≤1000000000:=by omega)(hM:M≤1000000000:=by omega):
  au tb Tryz.prog 200 [zv s b,zv t c] Γ (oS (max L M+1) (x+y)):=by
 refine au.of_W aB Tryz.func200 rfl ?_;refine Ao s b rfl ?_;rintro rfl;refine Ao t c rfl ?_;rintro rfl;refine W.d [] 13 (decide (x<0)==decide (y<0)) (fun hb=>?_) (fun hb=>?_)
 ·have hb:=eq_of_beq hb;rw[rI]at hb;refine aj [13] (ZW s t) ?_;rintro _ _ ⟨u,rfl,rfl⟩;refine aj [] (rR u (decide (x<0))) ?_;rintro _ _ ⟨u2,d2,rfl,rfl⟩;refine W.r [] (zv u2 d2) ⟨u2,d2,rfl,rfl⟩ (kX (ai _) ?_);by_cases hx:x<0<;>simp[hx]<;>omega
 ·have hb:=kn hb;rw[ne_eq,rI]at hb;rcases iV x.natAbs y.natAbs with hxy|hxy
  ·refine aj [13] (Pc s t hxy) ?_;rintro _ _ ⟨rfl,rfl⟩;refine aj [31] (GP t s (gf hxy)) ?_;rintro _ _ ⟨u,rfl,rfl⟩;refine aj [] (rR u (decide (y<0))) ?_;rintro _ _ ⟨u2,d2,rfl,rfl⟩;refine W.r [] (zv u2 d2) ⟨u2,d2,rfl,rfl⟩ (kX (by omega) ?_);by_cases hx:x<0<;>by_cases hy:y<0<;>simp[hy]<;>omega
  ·refine aj [13] (GP s t hxy) ?_;rintro _ _ ⟨u,rfl,rfl⟩;refine aj [31] (rR u (decide (x<0))) ?_;rintro _ _ ⟨u2,d2,rfl,rfl⟩;refine W.r [] (zv u2 d2) ⟨u2,d2,rfl,rfl⟩ (kX (by omega) ?_);by_cases hx:x<0<;>by_cases hy:y<0<;>simp[hx]<;>omega
theorem IJ(s:Sl)(b:Bool)(t:Sl)(c:Bool){x y:Int} [aZ (ZF s b) (L,x) Γ] [aZ (ZF t c) (M,y) Γ](hL:L≤1000000000:=by omega)(hM:M≤1000000000:=by omega):
  au tb Tryz.prog 201 [zv s b,zv t c] Γ (oS (max L M+1) (x-y)):=by
 refine au.of_W aB Tryz.func201 rfl ?_;refine aj [] (rU t c) ?_;rintro _ _ ⟨u,d,rfl,rfl⟩;refine aj [] (l9 s b u d) ?_;rintro _ _ ⟨u2,d2,rfl,rfl⟩;exact W.r [] (zv u2 d2) ⟨u2,d2,rfl,rfl⟩ (kX (ai _) (by omega))
theorem l_(s:Sl)(b:Bool)(t:Sl)(c:Bool){x y:Int} [aZ (ZF s b) (L,x) Γ] [aZ (ZF t c) (M,y) Γ](hL:L≤1000000000:=by omega)(hM:M≤1000000000:=by omega):
  au tb Tryz.prog 198 [zv s b,zv t c] Γ (oS (L+M) (x*y)):=by
 refine au.of_W aB Tryz.func198 rfl ?_;refine Ao s b rfl ?_;rintro rfl;refine Ao t c rfl ?_;rintro rfl;refine aj [] (OT s t) ?_;rintro _ _ ⟨u,rfl,rfl⟩;refine aj [] (rR u (!(decide (x<0)==decide (y<0)))) ?_;rintro _ _ ⟨u2,d2,rfl,rfl⟩;refine W.r [] (zv u2 d2) ⟨u2,d2,rfl,rfl⟩ (kX (ai _) ?_);rw[dp];by_cases hx:x<0<;>by_cases hy:y<0<;>simp only[hx,hy,decide_true,decide_false,beq_self_eq_true,Bool.not_true,cN,bT]
 ·rw[show((x.natAbs:Nat):Int)= -x by omega,show((y.natAbs:Nat):Int)= -y by omega,sW]
 ·rw[show((x.natAbs:Nat):Int)= -x by omega,show((y.natAbs:Nat):Int)=y by omega];simp[Int.neg_mul]
 ·rw[show((x.natAbs:Nat):Int)=x by omega,show((y.natAbs:Nat):Int)= -y by omega];simp[Int.mul_neg]
 ·rw[show((x.natAbs:Nat):Int)=x by omega,show((y.natAbs:Nat):Int)=y by omega]
theorem jh(s:Sl)(b:Bool)(t:Sl)(c:Bool){x y:Int} [aZ (ZF s b) (L,x) Γ] [aZ (ZF t c) (M,y) Γ](hy:y≠0)(hL:L≤1000000000:=by omega)(hM:M≤1000000000:=by omega):
  au tb Tryz.prog 135 [zv s b,zv t c] Γ (fun v Δ=>∃(u:Sl) (d:Bool) (u':Sl) (d':Bool),v=.tuple #[zv u d,zv u' d',.int .i64 0]∧Δ=[ZF u d (max L 2+1,x/y),ZF u' d' (max L M+1,x % y)]):=by
 refine au.of_W aB Tryz.func135 rfl ?_;refine Ao s b rfl ?_;rintro rfl;refine Ao t c rfl ?_;rintro rfl;refine aj [] (ZX s t (by omega)) ?_;rintro _ _ ⟨q,r,rfl,rfl⟩;refine aj [22] (rR q (!(decide (x<0)==decide (y<0)))) ?_;rintro _ _ ⟨u2,d2,rfl,rfl⟩;refine aj [] (J0 r (decide (x<0))) ?_;rintro _ _ ⟨u3,d3,rfl,hd3,rfl⟩;by_cases hx:x<0
 ·by_cases hr:x.natAbs % y.natAbs=0
  ·obtain⟨e1,e2⟩:=AI hx hy hr;refine aS [] 38 d3 (by rw[hd3];simp[hx,hr]) ?_;refine W.r [38] (.tuple #[zv u2 d2,zv u3 d3,.int .i64 0]) ⟨u2,d2,u3,d3,rfl,rfl⟩ (lV (kX (by omega) ?_) (kX (by omega) ?_))
   ·rw[e1];by_cases hyn:y<0<;>simp[hx,hyn]
   ·rw[e2];simp[hr]
  ·obtain⟨e1,e2⟩:=Cd hx hy hr;refine bD [] 38 d3 (by rw[hd3];simp[hx]<;>omega) ?_;refine aj [38] (vU t) ?_;rintro _ _ ⟨u4,d4,rfl,rfl⟩;refine aj [] (l9 u3 d3 u4 d4) ?_;rintro _ _ ⟨u5,d5,rfl,rfl⟩;by_cases hyn:y<0
   ·refine bD [] 45 (decide (y<0)) (by simp[hyn]) ?_;refine aj [45] (cV 1 (by omega) (by omega)) ?_;rintro _ _ ⟨u6,d6,rfl,rfl⟩;refine aj [] (l9 u2 d2 u6 d6) ?_;rintro _ _ ⟨u7,d7,rfl,rfl⟩;refine W.r [] (.tuple #[zv u7 d7,zv u5 d5,.int .i64 0]) ⟨u7,d7,u5,d5,rfl,rfl⟩ (lV (kX (by omega) ?_) (kX (by omega) ?_))
    ·rw[e1];simp[hx,hyn]
    ·rw[e2];simp[hx];omega
   ·refine aS [] 45 (decide (y<0)) (by simp[hyn]) ?_;refine aj [45] (cV 1 (by omega) (by omega)) ?_;rintro _ _ ⟨u6,d6,rfl,rfl⟩;refine aj [] (IJ u2 d2 u6 d6) ?_;rintro _ _ ⟨u7,d7,rfl,rfl⟩;refine W.r [] (.tuple #[zv u7 d7,zv u5 d5,.int .i64 0]) ⟨u7,d7,u5,d5,rfl,rfl⟩ (lV (kX (by omega) ?_) (kX (by omega) ?_))
    ·rw[e1];simp[hx,hyn]
    ·rw[e2];simp[hx];omega
 ·obtain⟨e1,e2⟩:=Cf (a:=x) (b:=y) (by omega) hy;refine aS [] 38 d3 (by rw[hd3];simp[hx]<;>omega) ?_;refine W.r [38] (.tuple #[zv u2 d2,zv u3 d3,.int .i64 0]) ⟨u2,d2,u3,d3,rfl,rfl⟩ (lV (kX (by omega) ?_) (kX (by omega) ?_))
  ·rw[e1];by_cases hyn:y<0<;>simp[hx,hyn]
  ·rw[e2];simp[hx]
end
section
variable{fin:VS→List aE→Prop}{Γ:List aE}{L M:Nat}
theorem zJ{L':Nat}:∀(I:f_) (w:World),bB tb I w→aG Γ I w→aG [ZF ⟨none,0,0⟩ false (L',0)] I w:=fun I w _ _=>by
 obtain⟨h1,h2,h3⟩:=XV I w;exact aV ⟨⟨h1,h2,aP h3 (aM _)⟩,rfl⟩
theorem zZ{x:Int}:x.sign<0↔x<0:=by
 rcases Int.lt_trichotomy x 0 with h|h|h
 ·rw[jO h];omega
 ·subst h;simp
 ·rw[gd h];omega
theorem yC{x:Int}:x.sign=0↔x=0:=Int.sign_eq_zero_iff_zero
end
instance digsDec(l:List Nat):Decidable (DB l):=inferInstanceAs (Decidable (∀d∈l,48≤d∧d≤57))
section
variable{fin:VS→List aE→Prop}{Γ:List aE}{L M:Nat}
end
section
variable{fin:VS→List aE→Prop}{Γ:List aE}{L M:Nat}
end
section
variable{fin:VS→List aE→Prop}{Γ:List aE}{L M:Nat}
def iy(x:Int):Bool:=decide (-9223372036854775808≤x)&&decide (x≤9223372036854775807)
theorem xr(s:Sl)(b:Bool){x:Int} [aZ (ZF s b) (L,x) Γ](hL:L≤1000000000000:=by omega):au tb Tryz.prog 136 [zv s b] Γ (jv (.tuple #[.int .i64 (if iy x=true then x else 0),.bool (iy x)])):=by
 refine au.of_W aB Tryz.func136 rfl ?_;refine Ao s b rfl ?_;rintro rfl;by_cases hw:18446744073709551616≤x.natAbs
 ·have hs:iy x=false:=by unfold iy;simp only[rq,aY];omega
  refine aj [] (IH s hw) ?_;rintro _ _ ⟨rfl,rfl⟩;exact W.r [12] (.tuple #[.int .i64 0,.bool false]) ⟨by rw[hs];rfl,rfl⟩ bU
 ·refine aj [] (Ez s (by omega)) ?_;rintro _ _ ⟨rfl,rfl⟩;by_cases hx:x<0
  ·refine bD [12] 18 (decide (x<0)) (aw hx) ?_;by_cases hb:x.natAbs≤9223372036854775808
   ·have hs:iy x=true:=by unfold iy;simp only[aK,dj];omega
    refine bD [18] 15 (decide (((x.natAbs:Nat):Int)≤9223372036854775808)) (by rw[fQ];omega) ?_;refine W.r [15] (.tuple #[.int .i64 (IntKind.i64.wrap (IntKind.i64.wrap (0-IntKind.i64.wrap (IntKind.u64.wrap (((x.natAbs:Nat):Int)-1)))-1)),.bool true]) ⟨?_,rfl⟩ bU;rw[hs,if_pos rfl,u64_in _ (by omega),i64_in (((x.natAbs:Nat):Int)-1) (by omega),i64_in (0-(((x.natAbs:Nat):Int)-1)) (by omega),i64_in _ (by omega)];rw[show(0:Int)-(((x.natAbs:Nat):Int)-1)-1=x by omega]
   ·have hs:iy x=false:=by unfold iy;simp only[rq,aY];omega
    refine aS [18] 15 (decide (((x.natAbs:Nat):Int)≤9223372036854775808)) (by rw[aY];omega) ?_;refine aS [15] 31 (!decide (x<0)) (by simp[hx]) ?_;exact W.r [27,31] (.tuple #[.int .i64 0,.bool false]) ⟨by rw[hs];rfl,rfl⟩ bU
  ·refine aS [12] 18 (decide (x<0)) (ak hx) ?_;refine bD [15,18] 31 (!decide (x<0)) (by simp[hx]) ?_;by_cases hb:x.natAbs<9223372036854775808
   ·have hs:iy x=true:=by unfold iy;simp only[aK,dj];omega
    refine bD [31] 27 (decide (((x.natAbs:Nat):Int)<9223372036854775808)) (by rw[fQ];omega) ?_;refine W.r [27] (.tuple #[.int .i64 (IntKind.i64.wrap ((x.natAbs:Nat):Int)),.bool true]) ⟨?_,rfl⟩ bU;rw[hs,if_pos rfl,i64_in _ (by omega),show((x.natAbs:Nat):Int)=x by omega]
   ·have hs:iy x=false:=by unfold iy;simp only[rq,aY];omega
    refine aS [31] 27 (decide (((x.natAbs:Nat):Int)<9223372036854775808)) (by rw[aY];omega) ?_;exact W.r [27] (.tuple #[.int .i64 0,.bool false]) ⟨by rw[hs];rfl,rfl⟩ bU
theorem DW{x y:Int}:nu x y=0↔x=y:=by unfold nu;(repeat' split)<;>omega
end
section
variable{fin:VS→List aE→Prop}{Γ:List aE}{L M:Nat}
end
open Go.ChangeShapes Go.WideShapes Go.ChangeAt Go.RowKit
theorem N9{H:Type}{enc:TypeId×Value→H}{P:Program}{f:Func}{s:ChangeSpec}{W W':World}{args:Array Value}{v:Value}{ds:List (DataW H)}{mJ:List MemPlace}
  (hW:DataW.Whole enc P f.params.toList s.vars false W args.toList ds [] mJ)(hvs:s.vars=[])
  (hres:∀(b:Nat) (sp:Nat→Bool) (hd:Bool),DataW.TrodAll enc P W' b sp hd f.resultTypes.toList (v.resultList f.resultTypes.size) (s.fn H (ds++[])).results [])
  (hargs:∀sp:Nat→Bool,(∀p∈mJ,sp p.block=true)→DataW.TrodAll enc P W' 0 sp true f.params.toList args.toList (s.fn H (ds++[])).args mJ)
  (hv0:(s.fn H (ds++[])).vars=[])(hb:Below W.heap.size W W'):
  s.post enc P f false true false false W args v W':=by
 have hin:∀p∈mJ,decide (p.block<W.heap.size)=true:=fun p hp=>aw (hW.lt p hp);have hvars:∀sp:Nat→Bool,DataW.TrodVars enc P W' sp s.vars (s.fn H (ds++[])).vars []:=fun sp=>by
  rw[hvs,hv0];rfl
 have hkeep:W.keptBut W' (fun p=>p∈mJ∧(p∈([]:List MemPlace)∨p∈mJ∨p∈([]:List MemPlace))):=
  World.keptBut_mono (fun p hp=>⟨hp,.inr (.inl hp)⟩) (hb.frame (· ∈mJ))
 refine⟨ds,[],mJ,[],mJ,[],hW,hres _ _ _,hargs _ hin,hvars _,hkeep,fun h=>absurd h (by simp)⟩
def RA(ao:Option Addr)(xs:List Value):aE where
 p I w:=xs≠ []→∃b off,ao=some ⟨b,off,none⟩∧I b∧∀(i:Nat) (v:Value),xs[i]? =some v→w.cell? ⟨b,off+i,none⟩=some v
 up:=by
  intro I I' w w' hb h1 h2 h3 hne;obtain⟨b,off,ha,hI,hr⟩:=hb hne;have hlt:b<w.heap.size:=by
   obtain⟨v,r,rfl⟩:=List.exists_cons_of_ne_nil hne;have h0:=hr 0 v rfl;unfold World.cell? at h0;split at h0
   ·rename_i cs e f hc;exact cu hc
   ·simp at h0
  refine⟨b,off,ha,h1 b hlt hI,fun i v hv=>?_⟩;have:=hr i v hv;unfold World.cell? at this⊢;simp only at this⊢;rw[h2 b hlt hI];exact this
theorem RA.nil(ao:Option Addr)(I:f_)(w:World):(RA ao []).p I w:=fun h=>absurd rfl h
theorem RA.of_row{b:Nat}{cs xs:List Value}{I:f_}{w:World}(h:(dY b cs).p I w)(hx:∀(i:Nat) (v:Value),xs[i]? =some v→cs[i]? =some v):(RA (some ⟨b,0,none⟩) xs).p I w:=by
 obtain⟨hI,e,hc⟩:=h;exact fun _=>⟨b,0,rfl,hI,fun i v hv=>by rw[ns hc,cz];exact hx i v hv⟩
theorem RA.cell{b off:Nat}{xs:List Value}{I:f_}{w:World}(h:(RA (some ⟨b,off,none⟩) xs).p I w){i:Nat}{v:Value}(hv:xs[i]? =some v):w.cell? ⟨b,off+i,none⟩=some v:=by
 obtain⟨b',off',ha,_,hr⟩:=h (by rintro rfl;simp at hv);injection ha with ha;injection ha with e1 e2 _;subst e1;subst e2;exact hr i v hv
def VS.setOwn(s:VS)(O:List (Nat×List Value)):VS:=⟨s.tmps,s.boxes,O,s.maps⟩
section
variable{T:Tb}{P:Program}{fin:VS→List aE→Prop}{c:fM}{Γ:List aE}
theorem j0(D:List Nat){α:Type}(N:List Nat)(V:α→List (Nat×Value))(X:α→List (Nat×List Value))(O:α→List (Nat×List Value))(G:α→List aE)(inv:α→Prop)(μ:α→Nat)(a0:α)
  
  
  (i0:inv a0)(f0:∀I w,bB T I w→aG Γ I w→aG (G a0) I w)
  (hr:∀(a:α) (R:VS→List aE→Prop),inv a→
   (∀(D':List Nat) (c':fM) (Γ':List aE) (a':α),qz (aJ T (bh T D' 999 c'))=some R→
    (qA (aJ T (bh T D' 999 c'))).map (jz (aJ T (bh T D 999 c)) N)=some ((((jz (aJ T (bh T D 999 c)) N (nD (aJ T (bh T D 999 c)))).puts (V a')).boxs (X a')).setOwn (O a'))→
    inv a'→μ a'<μ a→(∀I w,bB T I w→aG Γ' I w→aG (G a') I w)→W T P fin c' Γ')→
   W T P fin ⟨(((jz (aJ T (bh T D 999 c)) N (nD (aJ T (bh T D 999 c)))).puts (V a)).boxs (X a)).setOwn (O a),.code (vS (aJ T (bh T D 999 c)))::.again R::Gj (aJ T (bh T D 999 c))⟩ (G a))(h:qF (aJ T (bh T D 999 c))=true:=by kernel_rfl)(h0:jz (aJ T (bh T D 999 c)) N (nD (aJ T (bh T D 999 c)))=(((jz (aJ T (bh T D 999 c)) N (nD (aJ T (bh T D 999 c)))).puts (V a0)).boxs (X a0)).setOwn (O a0):=by kernel_rfl):W T P fin c Γ:=by
 refine eF D 999 ?_;generalize bh T D 999 c=c1 at*;generalize he:aJ T c1=e at*;cases e with
 |loop b c'=>
  generalize hst:jz (Ev.loop b c') N (nD (Ev.loop b c'))=S at*;have key:∀(m:Nat) (s:VS) (Γ':List aE),(∃a,jz (Ev.loop b c') N s=((S.puts (V a)).boxs (X a)).setOwn (O a)∧inv a∧μ a=m∧∀I w,bB T I w→aG Γ' I w→aG (G a) I w)→
    W T P fin ⟨s,.code b::.again (fun s' Γ'=>∃m',m'<m∧∃a,jz (Ev.loop b c') N s'=((S.puts (V a)).boxs (X a)).setOwn (O a)∧inv a∧μ a=m'∧∀I w,bB T I w→aG Γ' I w→aG (G a) I w)::c'.k⟩ Γ':=by
   rintro m s Γ' ⟨a,hs,hi,rfl,hf⟩;refine W.forget (jW N (km b)) (jt b) rfl ?_;rw[show s.forget (jW N (km b)) (jt b)=((S.puts (V a)).boxs (X a)).setOwn (O a)from hs];refine W.sub rfl hf ?_;refine hr a _ hi (fun D' c' Γ' a' hR hS hi' hl' hf'=>?_);refine eF D' 999 ?_;generalize bh T D' 999 c'=c2 at*;cases hv:aJ T c2<;>rw[hv]at hR hS<;>simp[qz,qA]at hR hS;subst hR;exact W.again hv ⟨μ a',hl',a',hS,hi',rfl,hf'⟩
  refine W.loop (fun m s Γ'=>∃a,jz (Ev.loop b c') N s=((S.puts (V a)).boxs (X a)).setOwn (O a)∧inv a∧μ a=m∧∀I w,bB T I w→aG Γ' I w→aG (G a) I w) (μ a0) he ⟨a0,?_,i0,rfl,f0⟩ key;rw[←h0];exact hst
 |_=>simp[qF]at h
theorem j2(D:List Nat)(n:Nat)
  (hk:W T P fin ⟨nD (aJ T (bh T D 999 c)),.rnd n (vS (aJ T (bh T D 999 c)))::Gj (aJ T (bh T D 999 c))⟩ Γ)(h:qF (aJ T (bh T D 999 c))=true:=by kernel_rfl):W T P fin c Γ:=by
 refine eF D 999 ?_;generalize bh T D 999 c=c1 at*;generalize he:aJ T c1=e at*;cases e with
 |loop b c'=>exact W.un n he hk
 |_=>simp[qF]at h
end
theorem Is{T:Tb}{P:Program}{f:FuncId}{args:List Value}{Γ:List aE}(h:au T P f args Γ (fun v Δ=>v=.bool true∧Δ=[]))(w:World)(hh:aG Γ (fun _=>True) w):Calls P f args.toArray w fun e w'=>e=.returned (.bool true)∧Below w.heap.size w w':=by
 refine(h.2 (fun _=>True) w (fun _ _ _ _ _ _=>trivial) hh).mono ?_;rintro e w' ⟨v,Δ,rfl,⟨rfl,rfl⟩,hb,_⟩;exact⟨rfl,hb⟩
section
open Go.ChangeShapes Go.WideShapes
theorem vq{H:Type}{enc:TypeId×Value→H}{P:Program}(hl:laidOutB P=true){W W':World}(hb:Below W.heap.size W W'){sp:Nat→Bool}:
  ∀{ts:List TypeId} {vs:List Value} {ds:List (DataW H)} {ps:List MemPlace},(ts.all fun t=>P.readableRec t&&decide (t<P.types.size))=true→DataW.TrodAll enc P W 0 (fun _=>true) true ts vs ds ps→
   (∀x∈ps,x.block<W.heap.size)→(∀x∈ps,sp x.block=true)→DataW.TrodAll enc P W' 0 sp true ts vs ds ps
 | [],[],[],ps,_,h,_,_=>h
 |t::ts,v::vs,d::ds,ps,hr,h,hlt,hsp=>by
  obtain⟨p,q,h1,h2,rfl⟩:=h;simp only[List.all_cons,aK,dj]at hr;refine⟨p,q,?_,vq hl hb hr.2 h2 (fun x hx=>hlt x (iF _ hx)) (fun x hx=>hsp x (iF _ hx)),rfl⟩;exact WideElems.Trod_stays hl hr.1.1 hr.1.2 h1 (fun x hx=>hb.same (hlt x (kq _ hx))) (fun x hx=>hsp x (kq _ hx))
 | [],[],_::_,_,_,h,_,_=>h.elim
 | [],_::_,_,_,_,h,_,_=>by cases ‹List (DataW H)› <;>exact h.elim
 |_::_,[],_,_,_,h,_,_=>by cases ‹List (DataW H)› <;>exact h.elim
 |_::_,_::_,[],_,_,h,_,_=>h.elim
end
structure kT(α:Type) where
 z:Nat
 cells:α→List Value
 len:∀e,(cells e).length=z
 fact:Nat→α→aE
def OL{α:Type}(R:kT α)(ao:Option Addr)(a:Nat×List α):aE where
 p I w:=(∀e∈a.2,(R.fact a.1 e).p I w)∧(RA ao (a.2.flatMap R.cells)).p I w
 up:=by
  rintro I I' w w' ⟨h,hb⟩ h1 h2 h3;exact⟨fun e he=>(R.fact a.1 e).up (h e he) h1 h2 h3,(RA ao _).up hb h1 h2 h3⟩
def OS{α:Type}(R:kT α)(a:Nat×List α):aE where
 p I w:=∀e∈a.2,(R.fact a.1 e).p I w
 up:=by
  rintro I I' w w' h h1 h2 h3;exact fun e he=>(R.fact a.1 e).up (h e he) h1 h2 h3
theorem p_{α:Type}(R:kT α):∀l:List α,(l.flatMap R.cells).length=l.length*R.z
 | []=>by simp
 |e::r=>by rw[bj,az,R.len,p_ R r,aF,ed];omega
theorem IY{α:Type}(R:kT α){l:List α}:∀{k:Nat} (h:k<l.length) (j:Nat) (v:Value),(R.cells (l[k]'h))[j]? =some v→(l.flatMap R.cells)[k*R.z+j]? =some v:=by
 induction l with
 |nil=>intro k h;simp at h
 |cons e r ih=>
  intro k h j v hv;cases k with
  |zero=>
   simp only[List.getElem_cons_zero]at hv;have hj:j<R.z:=by rw[←R.len e];exact(List.getElem?_eq_some_iff.1 hv).1
   rw[bj,dD (by rw[R.len];omega),show 0*R.z+j=j by omega];exact hv
  |succ k=>
   simp only[List.getElem_cons_succ]at hv;rw[bj,e_ (by rw[R.len,ed];omega),show(k+1)*R.z+j-(R.cells e).length=k*R.z+j by rw[R.len,ed];omega];exact ih (by simpa using h) j v hv
section
variable{T:Tb}{P:Program}{fin:VS→List aE→Prop}{c:fM}{Γ:List aE}
theorem aaQ{α:Type}(R:kT α)(ao:Option Addr){L:Nat}{l:List α} [h:aZ (OL R ao) (L,l) Γ](k:Nat)(hk:k<l.length)(hm:dG c.k=false)(hz:0<R.z)
  (hc:∀b off,ao=some ⟨b,off,none⟩→W T P fin c (R.fact L (l[k]'hk)::Γ)):W T P fin c Γ:=
 W.elim (α:=Nat×Nat) (fun b=>ao=some ⟨b.1,b.2,none⟩) (fun b=>[R.fact L (l[k]'hk)]) hm (fun I w _ hh=>by
  obtain⟨g1,g2⟩:=h.p hh;obtain⟨b,off,ha,_⟩:=g2 (by
   intro e;have:=p_ R l;simp only at e;rw[e]at this;have h2:0<l.length*R.z:=iz (by omega) hz;simp at this;omega)
  exact⟨(b,off),ha,aV (g1 _ (dW hk))⟩) (fun b hb=>hc b.1 b.2 hb)
theorem I_{α:Type}(R:kT α)(b off:Nat){L:Nat}{l:List α} [h:aZ (OL R (some ⟨b,off,none⟩)) (L,l) Γ](k:Nat)(hk:k<l.length):∀I w,bB T I w→aG Γ I w→∀j v,(R.cells (l[k]'hk))[j]? =some v→w.cell? ⟨b,off+k*R.z+j,none⟩=some v:=fun I w _ hh j v hv=>by
 obtain⟨_,g2⟩:=h.p hh;rw[ij];exact RA.cell g2 (IY R hk j v hv)
theorem Fb(ao:Option Addr){xs:List Value} [h:aZ (RA ao) xs Γ](hne:xs≠ [])(hc:∀b off,ao=some ⟨b,off,none⟩→W T P fin c Γ)(hm:dG c.k=false:=by kernel_rfl):W T P fin c Γ:=
 W.elim (α:=Nat×Nat) (fun b=>ao=some ⟨b.1,b.2,none⟩) (fun b=>[]) hm (fun I w _ hh=>by
  obtain⟨b,off,ha,_⟩:=h.p hh hne;exact⟨(b,off),ha,aG.nil _ _⟩) (fun b hb=>hc b.1 b.2 hb)
theorem bW(b:Nat){cs:List Value} [h:aZ (dY b) cs Γ](own:List (Nat×List Value))(m z:Nat)(hl:cs.length=m*z)(c:Nat):qP T Γ own (.slice (some ⟨b,0,none⟩) m c) m z cs:=
 ⟨some ⟨b,0,none⟩,c,rfl,hl,fun _=>⟨⟨b,0,none⟩,rfl,fun I w _ hh _ j u hu=>by
  rw[gp,oM (h.p hh),cz];exact hu⟩⟩
theorem G9(ao:Option Addr){xs:List Value} [h:aZ (RA ao) xs Γ](own:List (Nat×List Value))(m z c:Nat)(hl:xs.length=m*z)(ha:0<m→∃b off,ao=some ⟨b,off,none⟩):qP T Γ own (.slice ao m c) m z xs:=
 ⟨ao,c,rfl,hl,fun hm=>by
  obtain⟨b,off,rfl⟩:=ha hm;exact⟨⟨b,off,none⟩,rfl,fun I w _ hh _ j u hu=>by
   rw[gp];exact RA.cell (h.p hh) hu⟩⟩
theorem UH{s:VS}{k:List It}{z n:Nat}{O:List (Nat×List Value)}{v:Value}{xs:List Value}(hs:s.own=O)(hg:cG z O v n xs)(hm:dG k=false)
  (hk:∀ao c,v=.slice ao n c→W T P fin ⟨⟨s.tmps,s.boxes,[],s.maps⟩,k⟩ (RA ao xs::Γ)):W T P fin ⟨s,k⟩ Γ:=by
 obtain⟨hl,hg⟩:=hg;rcases hg with⟨rfl,rfl,rfl⟩|⟨g,cap,cur,rfl,rfl,hnc,hcm,hcs,htk⟩
 ·obtain rfl:xs=[]:=aL (by simpa using hl);obtain⟨tm,bx,ow⟩:=s;simp only at hs;subst hs;exact W.elim (α:=Unit) (fun _=>True) (fun _=>[RA none []]) hm (fun I w _ hh=>⟨(),trivial,aV (RA.nil _ _ _)⟩) (fun _ _=>hk none 0 rfl)
 ·refine W.pub (O1:=[]) (O2:=[]) (b:=g) (cs:=cur) hm hs ?_;refine W.elim (α:=Unit) (fun _=>True) (fun _=>[RA (some ⟨g,0,none⟩) xs]) hm (fun I w _ hh=>⟨(),trivial,aV (RA.of_row hh.h0' fun i v hv=>?_)⟩) (fun _ _=>?_)
  ·rw[←htk,di]at hv;split at hv
   ·exact hv
   ·simp at hv
  ·refine W.sub hm (fun I w _ hh=>?_) (hk _ _ rfl);exact aG.cons hh.h0' (fun F hF=>hh F (by simp[hF]))
end
end Go.Proofs.YtgaaopjagcaojaaGreat
