import Derived.Test.YtgaaopjagcaojaaGreatProg
import Derived.Test.YtgaaopjagcaojaaGreatNatU
import Derived.Test.YtgaaopjagcaojaaGreatNatV
import Derived.Test.YtgaaopjagcaojaaGreatMaths
import Derived.Deep.RegionHeld3
import Derived.Deep.QuietTactic
import Derived.BigQuiet
import Derived.BigRegion
import Derived.Deep.DeepCutAuto
import Derived.Deep.CutBlock
set_option linter.unusedSimpArgs false
set_option linter.unusedVariables false
namespace Go.Proofs.YtgaaopjagcaojaaGreat
open Go.RowKit
abbrev ig:=@Go.IntKind.wrap_u32
theorem Kc(n:Nat):4294967296^n=2^(32*n):=by rw[Nat.pow_mul]
theorem Yt{x:Nat}(h:x≠0):2^(bl x-1)≤x:=by
 apply gY;intro hh;have:=(qS x (bl x-1)).2 hh;have:bl x≠0:=by unfold bl;rw[if_neg h];omega
 omega
theorem SB{w:World}{t:Sl}{m sh:Nat}{r:List Nat}(h:dd w 273 .u32 t r)(hd:∀d∈r,d<4294967296)(hr:r.length=m+2)(ht:dg r (m+1)≠0)(hsh:sh=32-bl (dg r (m+1)))(hm:m≤100000000000):
  Calls Tryz.prog 246 #[.agg #[.slice t.ao t.n t.c],.int .i64 (sh:Int)] w fun e w'=>
   ∃(b off c:Nat) (ld:List Nat),e=.returned (.tuple #[.agg #[.slice (some ⟨b,off,none⟩) (m+2) c],.int .i64 0])∧dd w' 273 .u32 ⟨some ⟨b,off,none⟩,m+2,c⟩ ld∧(∀d∈ld,d<4294967296)∧val 4294967296 ld=val 4294967296 r*2^sh∧2147483648≤dg ld (m+1)∧Below w.heap.size w w':=by
 have hbl:=MR (j:=m+1) hd hr ht;have hb0:bl (dg r (m+1))≠0:=by unfold bl;rw[if_neg ht];omega
 have hb1:bl (dg r (m+1))≤32:=(qS _ 32).2 (je hd (by omega) (m+1));have hx0:val 4294967296 r≠0:=by
  intro h0;have:=uU (B:=4294967296) (j:=m+1) hr;have h2:0<4294967296^(m+1)*dg r (m+1):=iz (gZ (by omega)) (by omega);omega
 have hlo:=Yt hx0;have hhi:=(qS (val 4294967296 r) (bl (val 4294967296 r))).1 (ai _);have hNorm:qO r:=by
  intro hh;rw[gj,hr]at hh;simp only[show m+2-1=m+1 from rfl]at hh;rw[tx (by omega)]at ht;simp[hr]at hh;exact ht hh
 refine(z9 sh ⟨r,h,hd,hNorm,rfl⟩ (by rw[h.1];omega) (by omega)).mono ?_;rintro e w' ⟨u,rfl,⟨ld,hu1,hu2,hu3,hu4⟩,hun,hb⟩;have e1:32*(m+2)-1=(bl (val 4294967296 r)-1)+sh:=by omega
 have e2:32*(m+2)=bl (val 4294967296 r)+sh:=by omega
 have hP:0<2^sh:=gZ (by omega);have h1:2^(32*(m+2)-1)≤val 4294967296 ld:=by
  rw[hu4,e1,cR];exact bZ _ hlo
 have h2:val 4294967296 ld<2^(32*(m+2)):=by
  rw[hu4,e2,cR];exact(Nat.mul_lt_mul_right hP).2 hhi
 have hlen:ld.length=m+2:=by
  apply Nat.le_antisymm
  ·exact hu3.len_of_lt (B:=4294967296) (by omega) (by rw[Kc];exact h2)
  ·apply gY;intro hh;have h3:=mj 4294967296 ld hu2;have h4:4294967296^ld.length≤4294967296^(m+1):=cY (by omega) (by omega);rw[Kc (m+1)]at h4;have h5:2^(32*(m+1))≤2^(32*(m+2)-1):=cY (by omega) (by omega);omega
 have htop:2147483648≤dg ld (m+1):=by
  apply gY;intro hh;have h3:=uU (B:=4294967296) (j:=m+1) hlen;have h4:=xF (B:=4294967296) (by omega) hu2 (m+1);have h5:4294967296^(m+1)*(dg ld (m+1)+1)≤4294967296^(m+1)*2147483648:=cJ _ hh;rw[fD]at h5;have h6:2^(32*(m+2)-1)=4294967296^(m+1)*2147483648:=by
   rw[Kc,show 32*(m+2)-1=32*(m+1)+31 from by omega,cR]
  omega
 have hun':u.n=m+2:=by rw[hu1.1,hlen]
 obtain⟨b,off,hao,_,_⟩:=hu1.open (by omega);obtain⟨uao,un,uc⟩:=u;simp only at hao hun';subst hao;subst hun';exact⟨b,off,uc,ld,rfl,hu1,hu2,hu4,htop,hb⟩
def vx(wA:World)(g cap L gq N D U:Nat)(k:Nat)(wr:World):Prop:=∃p qs:List Nat,
 iX wr wA.heap.size 273 .u32 (.slice (some ⟨g,0,none⟩) (L+1) cap) p∧iX wr wA.heap.size 273 .u32 (.slice (some ⟨gq,0,none⟩) (N+1) (N+1)) qs∧
 p.length=L+1∧qs.length=N+1∧(∀d∈p,d<4294967296)∧(∀d∈qs,d<4294967296)∧
 val 4294967296 p+D*(4294967296^k*val 4294967296 (qs.drop k))=U∧val 4294967296 p<D*4294967296^k∧Below wA.heap.size wA wr
def Mg(D W T two:Nat)(gv lv:Value):Prop:=∃gu lf:Nat,gv=.int .u64 gu∧lv=.int .u64 lf∧Hid (W/D≤gu)∧gu≤4294967297∧Hid (gu*T+lf=two)∧lf<4294967296
def QJ(wA:World)(g cap L gq N:Nat)(qs d p0:List Nat)(i gu R nn:Nat)(bv cv kv:Value)(wr:World):Prop:=∃(k:Nat) (p:List Nat) (bo c:Nat),
 bv=.int .i64 bo∧cv=.int .u64 c∧kv=.int .i64 k∧k≤nn∧bo≤1∧c<4294967296∧
 iX wr wA.heap.size 273 .u32 (.slice (some ⟨g,0,none⟩) (L+1) cap) p∧iX wr wA.heap.size 273 .u32 (.slice (some ⟨gq,0,none⟩) (N+1) (N+1)) qs∧
 Hid (p.length=L+1)∧Hid (∀d∈p,d<4294967296)∧Hid (∀j',i+k≤j'→dg p j'=dg p0 j')∧
 Hid (val 4294967296 p+4294967296^i*(gu*val 4294967296 (d.take k))=R+4294967296^(i+k)*(c+bo))∧Below wA.heap.size wA wr
def QD(wA:World)(g cap L gq N:Nat)(qs d p0:List Nat)(i R nn:Nat)(sv kv:Value)(wr:World):Prop:=∃(k:Nat) (p:List Nat) (c:Nat),
 sv=.int .u64 c∧kv=.int .i64 k∧k≤nn∧c≤1∧
 iX wr wA.heap.size 273 .u32 (.slice (some ⟨g,0,none⟩) (L+1) cap) p∧iX wr wA.heap.size 273 .u32 (.slice (some ⟨gq,0,none⟩) (N+1) (N+1)) qs∧
 Hid (p.length=L+1)∧Hid (∀d∈p,d<4294967296)∧Hid (∀j',i+k≤j'→dg p j'=dg p0 j')∧
 Hid (val 4294967296 p+4294967296^(i+k)*c=R+4294967296^i*val 4294967296 (d.take k))∧Below wA.heap.size wA wr
theorem vx.drewN{wA:World}{g cap L gq N D U k:Nat}{wr:World}(h:vx wA g cap L gq N D U k wr)(n:Nat):vx wA g cap L gq N D U k (wr.drewN n):=by
 obtain⟨p,qs,h1,h2,h3,h4,h5,h6,h7,h8,h9⟩:=h;exact⟨p,qs,h1,h2,h3,h4,h5,h6,h7,h8,jP h9 n⟩
theorem Nd{wA w6:World}{g cap gq N m:Nat}{lu ld:List Nat}(hr6:iX w6 wA.heap.size 273 .u32 (.slice (some ⟨g,0,none⟩) (lu.length+1) cap) (lu++[0]))
  (hq6:iX w6 wA.heap.size 273 .u32 (.slice (some ⟨gq,0,none⟩) (N+1) (N+1)) (List.replicate (N+1) 0))(hu2:∀d∈lu,d<4294967296)(hN:lu.length+1=m+2+(N+1))(hld:ld.length=m+2)(ht:2147483648≤dg ld (m+1))(hb:Below wA.heap.size wA w6):
  vx wA g cap lu.length gq N (val 4294967296 ld) (val 4294967296 lu) (N+1) w6:=by
 have e:val 4294967296 (lu++[0])=val 4294967296 lu:=by rw[kH,Nat.mul_zero,fm]
 have e2:val 4294967296 (lu++[0])+val 4294967296 ld*(4294967296^(N+1)*val 4294967296 ((List.replicate (N+1) 0).drop (N+1)))=val 4294967296 lu:=by
  rw[e,bu (by rw[List.length_replicate];exact ai _),KA,Nat.mul_zero,Nat.mul_zero,fm]
 have e3:val 4294967296 (lu++[0])<val 4294967296 ld*4294967296^(N+1):=by
  rw[e];have k1:=mj 4294967296 lu hu2;have k2:lu.length=(m+1)+(N+1):=by omega
  rw[k2,cR]at k1;have k3:4294967296^(m+1)≤val 4294967296 ld:=by
   have k3:=uU (B:=4294967296) (j:=m+1) hld;have k4:4294967296^(m+1)*1≤4294967296^(m+1)*dg ld (m+1):=cJ _ (by omega);omega
  have k5:4294967296^(m+1)*4294967296^(N+1)≤val 4294967296 ld*4294967296^(N+1):=bZ _ k3;omega
 have e4:∀d∈List.replicate (N+1) 0,d<4294967296:=fun d hd=>by
  have:=(List.mem_replicate.1 hd).2;omega
 exact⟨lu++[0],List.replicate (N+1) 0,hr6,hq6,by rw[az];rfl,List.length_replicate,jT hu2 (by omega),e4,e2,e3,hb⟩
set_option maxHeartbeats 4000000 in
set_option maxRecDepth 100000 in
theorem Nh{w:World}{s:Sl}{x:Nat}(h:dU w s x)(b off m tc:Nat)(r:List Nat)(g1:dd w 273 .u32 ⟨some ⟨b,off,none⟩,m+2,tc⟩ r)(g2:∀d∈r,d<4294967296)(g3:qO r)(hn:s.n≤100000000000)(hm:m≤100000000000)(hxy:val 4294967296 r≤x):
  Calls Tryz.prog 199 #[.agg #[.slice s.ao s.n s.c],.agg #[.slice (some ⟨b,off,none⟩) (m+2) tc]] w fun e w'=>
   ∃u v:Sl,e=.returned (.tuple #[.agg #[.slice u.ao u.n u.c],.agg #[.slice v.ao v.n v.c],.int .i64 0])∧dU w' u (x/val 4294967296 r)∧dU w' v (x % val 4294967296 r)∧Below w.heap.size w w':=by
 have h':dU w ⟨some ⟨b,off,none⟩,m+2,tc⟩ (val 4294967296 r):=⟨r,g1,g2,g3,rfl⟩;have hrl:r.length=m+2:=g1.1.symm;obtain⟨b',off',hao,hbw,hcell⟩:=g1.open (by simp);simp only[aq,Addr.mk.injEq]at hao;obtain⟨rfl,rfl,_⟩:=hao;have hcd:=hcell (m+1) (by simp);have htop0:dg r (m+1)≠0:=by
  intro hh;apply g3;rw[gj,hrl];simp only[show m+2-1=m+1 from rfl];rw[tx (by omega)]at hh;simp[hrl,hh]
 have hd32:dg r (m+1)<4294967296:=je g2 (by omega) (m+1);have hb0:bl (dg r (m+1))≠0:=by unfold bl;rw[if_neg htop0];omega
 have hb1:bl (dg r (m+1))≤32:=(qS _ 32).2 (by omega);obtain⟨sh,hsh⟩:∃sh,sh=32-bl (dg r (m+1)):=⟨_,rfl⟩;have hsh1:sh≤31:=by omega
 generalize hy:val 4294967296 r=y at*;have hlt:¬mK x y<0:=by
  rcases iV y x with hh|hh
  ·rw[uD hh];omega
  ·obtain rfl:x=y:=by omega
   rw[wE];omega
 have hE:=Np w (.cells #[.slice s.ao s.n s.c] 110) (.cells #[.slice (some ⟨b,off,none⟩) (m+2) tc] 110) (.cells #[.slice none 0 0] 110) (.cells #[.slice none 0 0] 110);have hbx:Below w.heap.size w _:=((((Below.refl w.heap.size w).alloc (ai _) (.cells #[.slice s.ao s.n s.c] 110)).alloc (by simp) (.cells #[.slice (some ⟨b,off,none⟩) (m+2) tc] 110)).alloc (by simp;omega) (.cells #[.slice none 0 0] 110)).alloc (by simp;omega) (.cells #[.slice none 0 0] 110);have HE:=bk hE;have HY:=bk hy;have HS:=bk hsh;have HT:=bk htop0;have HRL:=bk hrl;have hxy':=bk hxy;clear hE hy hsh htop0 hcell hrl hxy hb0 hb1
 go_enter Tryz.func199,Tryz.ntmps199
 go_wp2_with (first
  |(go_at_call 204;refine(nv (h.up hbx) (h'.up hbx) (by omega) (by simp;omega)).mono ?_;rintro e w1 ⟨rfl,hb1⟩;have hE1:=bJ hb1 HE.out.1;have hA:=bQ hE1 0;have hE2:=bJ hb1 HE.out.2.1;have hB:=bQ hE2 0;have hE3:=bJ hb1 HE.out.2.2.1;have hE4:=bJ hb1 HE.out.2.2.2.1;have hD:=((hb1.cell (p:=⟨b,off+(m+1),none⟩) (by simp;omega)).trans (hbx.cell (p:=⟨b,off+(m+1),none⟩) hbw)).trans hcd;have hs1:=(h.up hbx).up hb1;have hg1:=(g1.up hbx).up hb1)
  |(go_at_call 249;refine(Gd _ _ hd32).mono ?_;rintro e w' ⟨rfl,rfl⟩;rw[←HS.out])
  |(go_at_call 246;(with_reducible refine(z9 sh hs1 (by omega) (by omega)).mono ?_);rintro e w2 ⟨u,rfl,hu,hun,hb2⟩;have hB2:=bQ (kJ (bJ hb2 hE2) (.cells #[.slice u.ao u.n u.c] 110)) 0;have hbu:Below w2.heap.size w2 (w2.alloc (.cells #[.slice u.ao u.n u.c] 110)):=(Below.refl _ _).alloc (ai _) _;clear hA hB hD)
  |(go_at_call 246;(with_reducible refine(SB ((hg1.up hb2).up hbu) g2 HRL.out HT.out HS.out hm).mono ?_);rintro e w3 ⟨bd,offd,dc,ld,rfl,hv1,hv2,hv3,hv4,hb3⟩;have hU:=bQ (kJ (bJ hb3 (lk w2 (.cells #[.slice u.ao u.n u.c] 110))) (.cells #[.slice (some ⟨bd,offd,none⟩) (m+2) dc] 110)) 0))
 obtain⟨lu,hu1,hu2,hu3,hu4⟩:=hu;have F3:=kJ (bJ hb3 (kJ (bJ hb2 hE3) (.cells #[.slice u.ao u.n u.c] 110))) (.cells #[.slice (some ⟨bd,offd,none⟩) (m+2) dc] 110);have F4:=kJ (bJ hb3 (kJ (bJ hb2 hE4) (.cells #[.slice u.ao u.n u.c] 110))) (.cells #[.slice (some ⟨bd,offd,none⟩) (m+2) dc] 110);have hbv:Below w3.heap.size w3 (w3.alloc (.cells #[.slice (some ⟨bd,offd,none⟩) (m+2) dc] 110)):=(Below.refl _ _).alloc (ai _) _;have hdA:=hv1.up hbv;have huA:=((hu1.up hbu).up hb3).up hbv;have hwA:Below w.heap.size w (w3.alloc (.cells #[.slice (some ⟨bd,offd,none⟩) (m+2) dc] 110)):=by
  have k1:=hbx.size;have k2:=hb1.size;have k3:=hb2.size;have k4:=hbu.size;have k5:=hb3.size;exact((((hbx.trans (hb1.mono k1)).trans (hb2.mono (by omega))).trans (hbu.mono (by omega))).trans (hb3.mono (by omega))).trans (hbv.mono (by omega))
 have hLm:m+2≤lu.length:=by
  apply gY;intro hh;have k1:=mj 4294967296 lu hu2;have k2:4294967296^lu.length≤4294967296^(m+1):=cY (by omega) (by omega);have k3:=uU (B:=4294967296) (j:=m+1) hdA.1.symm;have k4:4294967296^(m+1)*1≤4294967296^(m+1)*dg ld (m+1):=cJ _ (by omega);have k5:y*2^sh≤x*2^sh:=bZ _ hxy'.out;rw[HY.out]at hv3;omega
 have hLu:lu.length=u.n:=hu1.1.symm;obtain⟨N,hN⟩:∃N,lu.length+1=(m+2)+(N+1):=⟨lu.length-(m+2),by omega⟩;clear hb1 hs1 hg1 hE1 hE2 hE3 hE4 hb2 hu1 hb3 hv1 hU hbu hbv hB2 g1 h' hcd hbx HE;generalize(w3.alloc (.cells #[.slice (some ⟨bd,offd,none⟩) (m+2) dc] 110))=wA at*;refine(H7 huA (by omega) (by omega)).mono ?_;rintro e w4 ⟨rv,rfl,hrown,hb4⟩;have HN:=bk hN;have HLu:=bk hLu;have hLs:lu.length≤300000000000:=by omega
 clear hLm hN hLu
 go_wp2_with (at_builtin;refine fo iC _ rfl _ _ rfl wA.heap.size rv lu _ 0 rfl rfl hrown ?hz ?hl ?hm hb4.size ?_)
 case hz=>rfl
 case hl=>omega
 case hm=>unfold maxLen;omega
 intro v5 w5 hr5 hb5;obtain⟨g,cap,rfl⟩:∃g cap,v5=.slice (some ⟨g,0,none⟩) (lu.length+1) cap:=by
  rcases hr5.2 with⟨_,hh⟩|⟨g,cap,cur,hv,_⟩
  ·simp at hh
  ·exact⟨g,cap,by rw[hv];simp⟩
 have hg1:=(hr5.slot 0 (by simp)).2.2.2;have hb45:=hb4.trans hb5;clear hrown hb4 hb5
 go_wp2_with (at_make;refine B8 iC _ rfl _ _ rfl wA.heap.size _ _ _ _ (N+1) rfl rfl (by have:=HN.out;omega) (by have:=HN.out;omega) (by have:=HN.out;omega) (by unfold maxLen;have:=HN.out;omega) hb45.size ?_;intro w6 hq6 hb6 hsz6)
 obtain⟨bd',offd',hao,hbd,hcell⟩:=hdA.open (by simp);simp only[aq,Addr.mk.injEq]at hao;obtain⟨rfl,rfl,_⟩:=hao;have hr6:=hr5.below hb6 (ai _);have hb46:=hb45.trans (hb6.mono hb45.size);have hcell:=bk hcell;have hd1:w6.cell? ⟨bd,offd+(m+1),none⟩=some (.int .u32 ((dg ld (m+1):Nat):Int)):=(hb46.cell (p:=⟨bd,offd+(m+1),none⟩) hbd).trans (hcell.out (m+1) (by simp));have hd2:w6.cell? ⟨bd,offd+m,none⟩=some (.int .u32 ((dg ld m:Nat):Int)):=(hb46.cell (p:=⟨bd,offd+m,none⟩) hbd).trans (hcell.out m (by simp));have hT2:dg ld (m+1)<4294967296:=je hv2 (by omega) (m+1);have hS2:dg ld m<4294967296:=je hv2 (by omega) m;obtain⟨T,hTe⟩:∃T,T=dg ld (m+1):=⟨_,rfl⟩;obtain⟨S,hSe⟩:∃S,S=dg ld m:=⟨_,rfl⟩;rw[←hTe]at hd1 hT2 hv4;rw[←hSe]at hd2 hS2;have HTe:=bk hTe;have HSe:=bk hSe;have hNb:N≤300000000000:=by have:=HN.out;omega
 have hgq:g<w5.heap.size:=hg1;have hws6:w5.heap.size+1≤w6.heap.size:=hsz6;clear hTe hSe hr5 hb45 hb6;have hD0:val 4294967296 ld=(T*4294967296+S)*4294967296^m+val 4294967296 (ld.take m):=by
  have:=Ss (B:=4294967296) (n:=m) hdA.1.symm;rw[←HTe.out,←HSe.out]at this;exact this
 have hD2:val 4294967296 (ld.take m)<4294967296^m:=xF (by omega) hv2 m;have hDlt:val 4294967296 ld<4294967296^(m+2):=by
  have:=mj 4294967296 ld hv2;rw[←hdA.1]at this;exact this
 have hinit:vx wA g cap lu.length w5.heap.size N (val 4294967296 ld) (val 4294967296 lu) (N+1) w6:=Nd (m:=m) hr6 hq6 hu2 HN.out hdA.1.symm (by rw[←HTe.out];exact hv4) hb46;have hcellA:=bk (show ∀i,i<m+2→wA.cell? ⟨bd,offd+i,none⟩=some (.int .u32 ((dg ld i:Nat):Int))from hcell.out);have hdl:Hid (ld.length=m+2):=hdA.1.symm;have hv2':=bk hv2;have hv3':=bk hv3;have hu2':=bk hu2;have hDl:=bk hDlt;have hDe:=bk hD0;have hD2':=bk hD2;clear hr6 hq6 hcell hv2 hu2 hv3 hDlt hD0 hD2 huA
 go_quiet (fail)
 go_wp2
 clear hd1 hd2;generalize hgqe:w5.heap.size=gq at*;have hi7:vx wA g cap lu.length gq N (val 4294967296 ld) (val 4294967296 lu) (N+1) (w6.drewN nq):=hinit.drewN nq;clear hinit;generalize w6.drewN nq=w7 at*
 go_loopw [20] (fun i wr=>∃k:Nat,k≤N+1∧i=.int .i64 ((k:Int)-1)∧vx wA g cap lu.length gq N (val 4294967296 ld) (val 4294967296 lu) k wr) (fun i _=>(intOf i+1).toNat)
 case atStart=>exact⟨N+1,ai _,by simp,hi7⟩
 case round=>
  obtain⟨k,hk,rfl,hinv⟩:=hrel;by_cases hlt:0<k
  ·obtain⟨j,rfl⟩:∃j,k=j+1:=⟨k-1,by omega⟩;obtain⟨p,qs,hpo,hqo,hpl,hql,hpd,hqd,hpv,hplt,hbl⟩:=hinv;have hidx:j+(m+2)<p.length:=by rw[hpl];have:=HN.out;omega
   have hc2:=(hpo.slot (j+(m+2)) hidx).1;have hc1:=(hpo.slot (j+(m+1)) (by omega)).1;have hc0:wr.cell? ⟨g,j+(m+2)-2,none⟩=some (.int .u32 ((dg p (j+m):Nat):Int)):=by
    rw[show j+(m+2)-2=j+m from by omega];exact(hpo.slot (j+m) (by omega)).1
   have ha2:dg p (j+(m+2))<4294967296:=je hpd (by omega) _;have ha1:dg p (j+(m+1))<4294967296:=je hpd (by omega) _;have ha0:dg p (j+m)<4294967296:=je hpd (by omega) _;have hDpos:0<val 4294967296 ld:=by
    rw[hDe.out];have:0<4294967296^m:=gZ (by omega);have:0<(T*4294967296+S)*4294967296^m:=iz (by omega) this;omega
   have hab:∀j',j+(m+2)<j'→dg p j'=0:=by
    have k1:val 4294967296 ld*4294967296^(j+1)<4294967296^(m+2)*4294967296^(j+1):=(Nat.mul_lt_mul_right (gZ (by omega))).2 hDl.out;rw[←cR]at k1;intro j' hj';exact Nb (B:=4294967296) (m:=m+2+(j+1)) (by omega) (by omega) j' (by omega)
   have hwin:=Xn (B:=4294967296) (i:=j) (n:=m) (by omega) hpd hab (by omega);have hWB:val 4294967296 p/4294967296^j<4294967296*val 4294967296 ld:=by
    rw[eU (gZ (by omega))];rw[eB]at hplt;have e:val 4294967296 ld*(4294967296^j*4294967296)=4294967296*val 4294967296 ld*4294967296^j:=by grind
    omega
   have hW2:val 4294967296 ((p.drop j).take m)<4294967296^m:=xF (by omega) (fun d hd=>hpd d (mE hd)) m;have ej:((j+1:Nat):Int)-1=(j:Int):=by omega
   rw[ej];have hor:=zP (dg p (j+(m+2))) (dg p (j+(m+1))) ha2 ha1;generalize dg p (j+(m+2))=a2 at*;generalize dg p (j+(m+1))=a1 at*;generalize dg p (j+m)=a0 at*;have htwo:a2*4294967296+a1<18446744073709551616:=by omega
   obtain⟨two,htwoe⟩:∃two,two=a2*4294967296+a1:=⟨_,rfl⟩;rw[←htwoe]at hor htwo hwin;clear htwoe;obtain⟨W,hWe⟩:∃W,W=val 4294967296 p/4294967296^j:=⟨_,rfl⟩;rw[←hWe]at hwin hWB;have HWe:=bk hWe;clear hWe;have HP:=bk (And.intro hpl (And.intro hql (And.intro hpd (And.intro hqd (And.intro hpv hplt)))));have hwin':=bk hwin;have hW2':=bk hW2;have hWB':=bk hWB;have hab':=bk hab;have hidx2:j+(m+2)<lu.length+1:=by have:=HN.out;omega
   clear hpl hql hpd hqd hpv hplt hidx hab hwin hWB hW2 ej;have hTpos:(0:Int)<(T:Int):=by omega
   obtain⟨g0,hg0e⟩:∃g0,g0=two/T:=⟨_,rfl⟩;obtain⟨l0,hl0e⟩:∃l0,l0=two % T:=⟨_,rfl⟩;have hq1:IntKind.u64.wrap ((two:Int)/(T:Int))=(g0:Int):=by
    rw[hg0e,←kP];exact IntWalk.u64_in _ ⟨Int.natCast_nonneg _,by have:=Nat.div_le_self two T;omega⟩
   have hq2:(two:Int) % (T:Int)=(l0:Int):=by rw[hl0e,ry]
   have hG0:Hid (W/val 4294967296 ld≤g0):=by
    rw[hg0e];exact Nx hDe.out hwin'.out (by omega) ha0 hW2'.out
   have hG1:g0≤4294967297:=by
    rw[hg0e];exact FP hDe.out hwin'.out hS2 hD2'.out (by omega) (by omega) hWB'.out
   have hGl:Hid (g0*T+l0=two):=by
    unfold Hid;rw[hg0e,hl0e,eA];exact fU two T
   have hl0:l0<4294967296:=by
    have:l0<T:=by rw[hl0e];exact fF _ (by omega)
    omega
   clear hg0e hl0e
   go_wp2
   go_quiet (fail)
   go_wp2
   go_quiet (fail)
   have hpo8:=hpo;have hqo8:=hqo;have hbl8:=jP (jP hbl 0) 0;clear hc2 hc1
   go_upto_block 3 with fail
   go_cut [22] (fun s22 wx=>∃gu:Nat,s22=.int .u64 gu∧Hid (W/val 4294967296 ld≤gu)∧Hid (gu≤W/val 4294967296 ld+1)∧gu≤4294967296∧iX wx wA.heap.size 273 .u32 (.slice (some ⟨g,0,none⟩) (lu.length+1) cap) p∧iX wx wA.heap.size 273 .u32 (.slice (some ⟨gq,0,none⟩) (N+1) (N+1)) qs∧Below wA.heap.size wA wx)
   case first=>
    go_wp2_with fail
    go_loop [22,23] (fun gv lv=>Mg (val 4294967296 ld) W T two gv lv) (fun gv _=>(intOf gv).toNat)
    case atStart=>exact⟨g0,l0,rfl,by rw[hq2],hG0,hG1,hGl,hl0⟩
    case round=>
     clear hG0 hG1 hGl hl0 hq1 hq2;obtain⟨gu,lf,rfl,rfl,hG0,hG1,hGl,hl0⟩:=hrel;by_cases hge:4294967296≤gu
     ·obtain⟨hG0',hgp⟩:=CS hDe.out hwin'.out hW2'.out hDpos hWB'.out hG0.out hGl.out (.inl hge);have HG0':=bk hG0';clear hG0';have hGl':Hid ((gu-1)*T+(lf+T)=two):=by
       unfold Hid;obtain⟨z,rfl⟩:∃z,gu=z+1:=⟨gu-1,by omega⟩;have:=hGl.out;rw[ed]at this;rw[eI];omega
      have eG:(gu:Int)-1=((gu-1:Nat):Int):=by omega
      have hG1':gu-1≤4294967296:=by omega
      have hgI:decide ((4294967296:Int)≤(gu:Int))=true:=by simp;omega
      by_cases hbr:4294967296≤lf+T
      ·have hhi:Hid (gu-1≤W/val 4294967296 ld+1):=AK hDe.out hwin'.out hD2'.out (by omega) hDpos hGl'.out hG1' (yR hG1' hS2 hbr);have hbI:decide ((4294967296:Int)≤(lf:Int)+(T:Int))=true:=by simp;omega
       have HB1:=bk (And.intro eG hG1');clear hge hbr eG hG1'
       go_wp2
       go_meet
       exact⟨gu-1,dz (Value.int IntKind.u64) HB1.out.1,HG0',hhi,HB1.out.2,hpo8,hqo8,jP hbl _⟩
      ·have hbI:decide ((4294967296:Int)≤(lf:Int)+(T:Int))=false:=by simp;omega
       have HB1:=bk (And.intro eG (And.intro hG1' hbr));clear hge hbr eG hG1'
       go_wp2
       go_round
       case rel=>exact⟨gu-1,lf+T,dz (Value.int IntKind.u64) HB1.out.1,by go_num,HG0',by have:=HB1.out.2.1;omega,hGl',by have:=HB1.out.2.2;omega⟩
       case measure=>simp[intOf];omega
     ·by_cases hcc:lf*4294967296+a0<gu*S
      ·obtain⟨hG0',hgp⟩:=CS hDe.out hwin'.out hW2'.out hDpos hWB'.out hG0.out hGl.out (.inr hcc);have HG0':=bk hG0';clear hG0';have hGl':Hid ((gu-1)*T+(lf+T)=two):=by
        unfold Hid;obtain⟨z,rfl⟩:∃z,gu=z+1:=⟨gu-1,by omega⟩;have:=hGl.out;rw[ed]at this;rw[eI];omega
       have eG:(gu:Int)-1=((gu-1:Nat):Int):=by omega
       have hG1':gu-1≤4294967296:=by omega
       have hgI:decide ((4294967296:Int)≤(gu:Int))=false:=by simp;omega
       have hor2:=zP lf a0 hl0 ha0;obtain⟨hmx0,hmx1⟩:=zO gu S (by omega) hS2;have hccI:(((lf*4294967296+a0:Nat):Nat):Int)<(gu:Int)*(S:Int):=by rw[←dp];omega
       have hXb:lf*4294967296+a0<18446744073709551616:=by omega
       obtain⟨X,hXe⟩:∃X,X=lf*4294967296+a0:=⟨_,rfl⟩;rw[←hXe]at hor2 hccI hXb;clear hXe;by_cases hbr:4294967296≤lf+T
       ·have hhi:Hid (gu-1≤W/val 4294967296 ld+1):=AK hDe.out hwin'.out hD2'.out (by omega) hDpos hGl'.out hG1' (yR hG1' hS2 hbr);have hbI:decide ((4294967296:Int)≤(lf:Int)+(T:Int))=true:=by simp;omega
        have HB1:=bk (And.intro eG hG1');clear hge hcc hbr eG hG1'
        go_wp2
        go_meet
        exact⟨gu-1,dz (Value.int IntKind.u64) HB1.out.1,HG0',hhi,HB1.out.2,hpo8,hqo8,jP hbl _⟩
       ·have hbI:decide ((4294967296:Int)≤(lf:Int)+(T:Int))=false:=by simp;omega
        have HB1:=bk (And.intro eG (And.intro hG1' hbr));clear hge hcc hbr eG hG1'
        go_wp2
        go_round
        case rel=>exact⟨gu-1,lf+T,dz (Value.int IntKind.u64) HB1.out.1,by go_num,HG0',by have:=HB1.out.2.1;omega,hGl',by have:=HB1.out.2.2;omega⟩
        case measure=>simp[intOf];omega
      ·have hhi:Hid (gu≤W/val 4294967296 ld+1):=AK hDe.out hwin'.out hD2'.out (by omega) hDpos hGl.out (by omega) (by omega);have hgI:decide ((4294967296:Int)≤(gu:Int))=false:=by simp;omega
       have hor2:=zP lf a0 hl0 ha0;obtain⟨hmx0,hmx1⟩:=zO gu S (by omega) hS2;have hccI:¬(((lf*4294967296+a0:Nat):Nat):Int)<(gu:Int)*(S:Int):=by rw[←dp];omega
       have hXb:lf*4294967296+a0<18446744073709551616:=by omega
       obtain⟨X,hXe⟩:∃X,X=lf*4294967296+a0:=⟨_,rfl⟩;rw[←hXe]at hor2 hccI hXb;have HG1:Hid (gu≤4294967296):=by unfold Hid;omega
       clear hXe hge hcc
       go_wp2
       go_meet
       exact⟨gu,rfl,hG0,hhi,HG1.out,hpo8,hqo8,jP hbl _⟩
   case rest=>
    clear hpo hqo hbl hpo8 hqo8 hbl8 hG0 hG1 hGl hl0 hq1 hq2 hc0 hor htwo;obtain⟨gu,rfl,hlo,hhi,hgB,hpo,hqo,hbl⟩:=hcut
    go_wp2
    go_loopw [24,25,171] (fun bv cv kv wr=>QJ wA g cap lu.length gq N qs ld p j gu (val 4294967296 p) (m+2) bv cv kv wr) (fun _ _ kv _=>(m+2)-(intOf kv).toNat)
    case atStart=>exact⟨0,p,0,0,rfl,rfl,rfl,by omega,by omega,by omega,hpo,hqo,HP.out.1,HP.out.2.2.1,by unfold Hid;intro _ _;rfl,by unfold Hid;simp[val],hbl⟩
    case round=>
     clear hpo hqo hbl;obtain⟨k,p1,bo,c,rfl,rfl,rfl,hk,hbo,hc,hpo,hqo,hpl,hpd,hps,hpv,hbl⟩:=hrel;by_cases hkn:k<m+2
     ·have hdk:=(hbl.cell (p:=⟨bd,offd+k,none⟩) hbd).trans (hcellA.out k hkn);have hy:dg ld k<4294967296:=je hv2'.out (by omega) k;obtain⟨hzc,hzf,_,_⟩:=hpo.slot (j+k) (by have:=hpl.out;omega);have hz:dg p1 (j+k)<4294967296:=je hpd.out (by omega) (j+k);have hj2:j+k<lu.length+1:=by omega
      generalize hye:dg ld k=y at*;generalize hze:dg p1 (j+k)=z at*;have HYE:=bk hye;clear hye;have HZE:=bk hze;clear hze;have hgy:gu*y≤18446744069414584320:=by
       have:=aR hgB (show y≤4294967295 by omega);omega
      have hgyI:(gu:Int)*(y:Int)≤18446744069414584320∧0≤(gu:Int)*(y:Int):=by rw[←dp];omega
      obtain⟨hgy1,hgy2⟩:=hgyI;obtain⟨C,hCe⟩:∃C,C=c+gu*y:=⟨_,rfl⟩;have hCI:(c:Int)+(gu:Int)*(y:Int)=(C:Int):=by rw[hCe,Int.natCast_add,dp]
      have hCb:C<18446744073709551616:=by omega
      obtain⟨lo,hLe⟩:∃lo,lo=C % 4294967296:=⟨_,rfl⟩;obtain⟨hi,hHe⟩:∃hi,hi=C/4294967296:=⟨_,rfl⟩;have hLI:(C:Int) % 4294967296=(lo:Int):=by omega
      have hHI:(C:Int)/4294967296=(hi:Int):=by omega
      have hlo2:lo<4294967296:=by omega
      have hhi2:hi<4294967296:=by omega
      have HC:=bk (And.intro hCe (And.intro hLe hHe));clear hCe hLe hHe hgy;by_cases hneg:z<lo+bo
      ·have hstep:=C6 (B:=4294967296) (i:=j) (k:=k) (g:=gu) (c:=c) (bo:=bo) (bo':=1) (x':=(z+4294967296-(lo+bo))) (R:=val 4294967296 p) (by have:=hpl.out;omega) HZE.out HYE.out (by rw[←HC.out.1,←HC.out.2.1];omega) hpv.out;rw[←HC.out.1,←HC.out.2.2]at hstep;have HST:=bk hstep;clear hstep;have hps':Hid (∀j',j+(k+1)≤j'→dg (p1.set (j+k) (z+4294967296-(lo+bo))) j'=dg p j'):=fun j' hj'=>by rw[oH (by omega)];exact hps.out j' (by omega)
       go_wp2
       go_roundw
       case rel=>exact⟨k+1,_,1,hi,rfl,rfl,by go_num,by omega,by omega,hhi2,(hpo.store' (j+k) _ (z+4294967296-(lo+bo)) (by omega)).1,hqo.set_ne (nk hgq) _,by unfold Hid;rw[ft];exact hpl.out,pC hpd.out (by omega),hps',HST.out,hbl.trans (hpo.store' (j+k) _ (z+4294967296-(lo+bo)) (by omega)).2⟩
       case measure=>simp[intOf];omega
      ·have hstep:=C6 (B:=4294967296) (i:=j) (k:=k) (g:=gu) (c:=c) (bo:=bo) (bo':=0) (x':=(z-(lo+bo))) (R:=val 4294967296 p) (by have:=hpl.out;omega) HZE.out HYE.out (by rw[←HC.out.1,←HC.out.2.1];omega) hpv.out;rw[←HC.out.1,←HC.out.2.2]at hstep;have HST:=bk hstep;clear hstep;have hps':Hid (∀j',j+(k+1)≤j'→dg (p1.set (j+k) (z-(lo+bo))) j'=dg p j'):=fun j' hj'=>by rw[oH (by omega)];exact hps.out j' (by omega)
       go_wp2
       go_roundw
       case rel=>exact⟨k+1,_,0,hi,rfl,rfl,by go_num,by omega,by omega,hhi2,(hpo.store' (j+k) _ (z-(lo+bo)) (by omega)).1,hqo.set_ne (nk hgq) _,by unfold Hid;rw[ft];exact hpl.out,pC hpd.out (by omega),hps',HST.out,hbl.trans (hpo.store' (j+k) _ (z-(lo+bo)) (by omega)).2⟩
       case measure=>simp[intOf];omega
     ·obtain rfl:k=m+2:=by omega
      have hzc:=(hpo.slot (j+(m+2)) (by have:=hpl.out;omega)).1;have hzf:=(hpo.slot (j+(m+2)) (by have:=hpl.out;omega)).2.1;have hz:dg p1 (j+(m+2))<4294967296:=je hpd.out (by omega) (j+(m+2));have hqf:=(hqo.slot j (by have:=HP.out.2.1;omega)).2.1;have hqc:=(hqo.slot j (by have:=HP.out.2.1;omega)).1;have hval:=hpv.out;rw[eN _ ld _ (by rw[hdl.out];exact ai _)]at hval;have habp:∀j',j+(m+2)<j'→dg p1 j'=0:=fun j' hj'=>by rw[hps.out j' (by omega)];exact hab'.out j' hj'
      have hj3:j<N+1:=by omega
      obtain⟨zt,hze⟩:∃zt,zt=dg p1 (j+(m+2)):=⟨_,rfl⟩;rw[←hze]at hzc hz;have HWlt:W/val 4294967296 ld<4294967296:=by rw[eU hDpos];exact hWB'.out
      have hBj:0<4294967296^j:=gZ (by omega);by_cases hfit:c+bo≤zt
      ·have hfits:=Lp (B:=4294967296) (i:=j) (n:=m+2) (by have:=hpl.out;omega) hze.symm hfit hval;have hdone:=vJ (B:=4294967296) (i:=j) hDpos hBj (by rw[←HWe.out];exact hlo.out) hfits;have hgu32:gu<4294967296:=by rw[hdone.1,←HWe.out];exact HWlt
       have hput:=Jr (B:=4294967296) (j:=j) (g:=gu) (by rw[HP.out.2.1];omega) hfits HP.out.2.2.2.2.1;have HF:=bk (And.intro hfit (And.intro hput (And.intro hdone.2 hgu32)));have hge0:¬((zt:Int)-(c:Int)-(bo:Int)<0):=by omega
       have hgI:IntKind.u32.wrap (gu:Int)=(gu:Int):=by
        rw[ig];omega
       clear hval habp hze HWlt hfits hdone hput hfit hgu32 hlt hkn
       go_wp2
       go_roundw
       case rel=>
        refine⟨j,by omega,rfl,p1.set (j+(m+2)) (zt-(c+bo)),qs.set j gu,((hpo.store' (j+(m+2)) _ (zt-(c+bo)) (by have:=HF.out.1;omega)).1).set_ne (Nat.ne_of_lt hgq) _,((hqo.set_ne (nk hgq) _).store' j _ gu rfl).1,by rw[ft];exact hpl.out,by rw[ft];exact HP.out.2.1,pC hpd.out (by omega),pC HP.out.2.2.2.1 HF.out.2.2.2,HF.out.2.1,HF.out.2.2.1,?_⟩;exact(hbl.trans (hpo.store' (j+(m+2)) _ (zt-(c+bo)) (by have:=HF.out.1;omega)).2).trans ((hqo.set_ne (nk hgq) _).store' j _ gu rfl).2
       case measure=>simp[intOf]
      ·have hover:=Lr (B:=4294967296) (j:=j) (M:=j+(m+2)) (by omega) hpd.out hze.symm (show zt<c+bo by omega) habp hDpos hval;rw[←HWe.out]at hover;have hge1:1≤gu:=iN (aM _) hover;have hgq1:W/val 4294967296 ld=gu-1:=by have:=hhi.out;generalize W/val 4294967296 ld=qq at*;omega
       have hless:=Lq (B:=4294967296) (i:=j) (n:=m+2) (by have:=hpl.out;omega) hze.symm (show zt<c+bo by omega) (show c+bo≤zt+4294967296 by omega) hval;have hlt0:((zt:Int)-(c:Int)-(bo:Int)<0):=by omega
       have HL:=bk (And.intro hless (And.intro hgq1 hfit));have HAB:=bk habp;clear hval habp hze HWlt hover hgq1 hless hfit hkn;have hst:=hpo.store' (j+(m+2)) (((zt:Int)-(c:Int)-(bo:Int)) % 4294967296) (zt+4294967296-(c+bo)) (by have:=HL.out.2.2;omega);have hqo':=hqo.set_ne (a:=⟨g,j+(m+2),none⟩) (nk hgq) (.int .u32 (((zt:Int)-(c:Int)-(bo:Int)) % 4294967296));have hbl':=hbl.trans hst.2
       go_wp2
       clear hzc hzf hqc hqf;generalize(wr.setCell ⟨g,j+(m+2),none⟩ (.int .u32 (((zt:Int)-(c:Int)-(bo:Int)) % 4294967296)))=wq at*;have hpo2:=hst.1;clear hst hpo hqo hbl;have hpl2:Hid ((p1.set (j+(m+2)) (zt+4294967296-(c+bo))).length=lu.length+1):=by unfold Hid;rw[ft];exact hpl.out
       have hpd2:Hid (∀d∈p1.set (j+(m+2)) (zt+4294967296-(c+bo)),d<4294967296):=pC hpd.out (by have:=HL.out.2.2;omega);have hps2:Hid (∀j',j+(m+2)<j'→dg (p1.set (j+(m+2)) (zt+4294967296-(c+bo))) j'=0):=fun j' hj'=>by rw[oH (by omega)];exact HAB.out j' hj'
       generalize p1.set (j+(m+2)) (zt+4294967296-(c+bo))=p2 at*;clear hpl hpd hps hpv
       go_loopw [29,234] (fun sv kv wr=>QD wA g cap lu.length gq N qs ld p2 j (val 4294967296 p2) (m+2) sv kv wr) (fun _ kv _=>(m+2)-(intOf kv).toNat)
       case atStart=>exact⟨0,p2,0,rfl,rfl,by omega,by omega,hpo2,hqo',hpl2,hpd2,by unfold Hid;intro _ _;rfl,by unfold Hid;simp[val],hbl'⟩
       case round=>
        clear hpo2 hqo' hbl';obtain⟨k,p3,sm,rfl,rfl,hk,hsm,hpo,hqo,hpl,hpd,hps,hpv,hbl⟩:=hrel;by_cases hkn:k<m+2
        ·have hdk:=(hbl.cell (p:=⟨bd,offd+k,none⟩) hbd).trans (hcellA.out k hkn);have hy:dg ld k<4294967296:=je hv2'.out (by omega) k;have hzc:=(hpo.slot (j+k) (by have:=hpl.out;omega)).1;have hzf:=(hpo.slot (j+k) (by have:=hpl.out;omega)).2.1;have hz:dg p3 (j+k)<4294967296:=je hpd.out (by omega) (j+k);have hj2:j+k<lu.length+1:=by omega
         have hstep:=KQ (B:=4294967296) (i:=j) (k:=k) (c:=sm) (by have:=hpl.out;omega) rfl rfl hpv.out;generalize dg ld k=y at*;generalize dg p3 (j+k)=z at*;obtain⟨C,hCe⟩:∃C,C=sm+(z+y):=⟨_,rfl⟩;rw[←hCe]at hstep;have hCI:(sm:Int)+((z:Int)+(y:Int))=(C:Int):=by omega
         have hCb:C<8589934592:=by omega
         have HST:=bk hstep;clear hstep hCe;have hps':Hid (∀j',j+(k+1)≤j'→dg (p3.set (j+k) (C % 4294967296)) j'=dg p2 j'):=fun j' hj'=>by rw[oH (by omega)];exact hps.out j' (by omega)
         go_wp2
         go_quiet (fail)
         go_wp2
         have hpoD:iX (wr.drewN nq) wA.heap.size 273 .u32 (.slice (some ⟨g,0,none⟩) (lu.length+1) cap) p3:=hpo;have hqoD:iX (wr.drewN nq) wA.heap.size 273 .u32 (.slice (some ⟨gq,0,none⟩) (N+1) (N+1)) qs:=hqo
         go_roundw
         case rel=>exact⟨k+1,_,C/4294967296,rfl,by go_num,by omega,by omega,(hpoD.store' (j+k) _ (C % 4294967296) rfl).1,hqoD.set_ne (nk hgq) _,by unfold Hid;rw[ft];exact hpl.out,pC hpd.out (by omega),hps',HST.out,(jP hbl nq).trans (hpoD.store' (j+k) _ (C % 4294967296) rfl).2⟩
         case measure=>simp[intOf];omega
        ·obtain rfl:k=m+2:=by omega
         have hval:=hpv.out;rw[eN _ ld _ (by rw[hdl.out];exact ai _)]at hval;have hDM:val 4294967296 ld*4294967296^j≤4294967296^(j+(m+2)):=by
          rw[Nat.add_comm j,cR];exact bZ _ (gf hDl.out)
         obtain⟨TT,hT1,hT2',hT3⟩:=U1 (B:=4294967296) (j:=j) (M:=j+(m+2)) (g:=gu-1) (R:=val 4294967296 p) (V:=val 4294967296 p2) (by omega) hDpos hDM (by rw[←HWe.out];exact HL.out.2.1) (by rw[gT hge1];exact HL.out.1) hval;obtain⟨hz3,hfin⟩:=MK (B:=4294967296) (m:=j+(m+2)) (by omega) (by have:=hpl.out;omega) hpd.out rfl (fun j' hj'=>by rw[hps.out j' (by omega)];exact hps2.out j' hj') hT2' hT1;have hdone:=vJ (B:=4294967296) (i:=j) (g:=gu-1) (V:=TT) hDpos hBj (by rw[←HWe.out];exact Nat.le_of_eq HL.out.2.1) hT3;have hgu32:gu-1<4294967296:=by omega
         rw[←hfin]at hT3 hdone;have hput:=Jr (B:=4294967296) (j:=j) (g:=gu-1) (by rw[HP.out.2.1];omega) hT3 HP.out.2.2.2.2.1;have HF:=bk (And.intro hput (And.intro hdone.2 hgu32));have hzc:=(hpo.slot (j+(m+2)) (by have:=hpl.out;omega)).1;have hzf:=(hpo.slot (j+(m+2)) (by have:=hpl.out;omega)).2.1;have hqf:=(hqo.slot j (by have:=HP.out.2.1;omega)).2.1;have hqc:=(hqo.slot j (by have:=HP.out.2.1;omega)).1;obtain⟨z3,hz3e⟩:∃z3,z3=dg p3 (j+(m+2)):=⟨_,rfl⟩;rw[←hz3e]at hzc hz3;have hw3:IntKind.u32.wrap ((z3:Int)+(sm:Int))=0:=by rw[ig];omega
         have hw4:IntKind.u32.wrap ((gu:Int)-1)=((gu-1:Nat):Int):=by rw[ig];omega
         have hw5:((gu:Int)-1) % 4294967296=((gu-1:Nat):Int):=by omega
         have hj3:j<N+1:=by omega
         obtain⟨gm,hgm⟩:∃gm,gm=gu-1:=⟨_,rfl⟩;rw[←hgm]at HF hw4 hw5;clear hval hDM hT1 hT2' hT3 hz3 hfin hdone hgu32 hput hz3e hgm hkn hlt
         go_wp2
         go_roundw
         case rel=>
          refine⟨j,by omega,rfl,p3.set (j+(m+2)) 0,qs.set j gm,((hpo.store' (j+(m+2)) 0 0 rfl).1).set_ne (Nat.ne_of_lt hgq) _,((hqo.set_ne (nk hgq) _).store' j _ gm (by first|rfl|omega)).1,by rw[ft];exact hpl.out,by rw[ft];exact HP.out.2.1,pC hpd.out (by omega),pC HP.out.2.2.2.1 HF.out.2.2,HF.out.1,HF.out.2.1,?_⟩;exact(hbl.trans (hpo.store' (j+(m+2)) 0 0 rfl).2).trans ((hqo.set_ne (nk hgq) _).store' j _ gm (by first|rfl|omega)).2
         case measure=>simp[intOf]
  ·obtain rfl:k=0:=by omega
   obtain⟨p,qs,hpo,hqo,hpl,hql,hpd,hqd,hpv,hplt,hbl⟩:=hinv;rw[ir,Nat.pow_zero,la]at hpv;rw[Nat.pow_zero,fO]at hplt;have hv3y:=hv3'.out;rw[HY.out]at hv3y;rw[hv3y]at hpv hplt;rw[hu4]at hpv;have hy0:0<y:=by
    apply Nat.pos_of_ne_zero;intro h0;rw[h0,ln]at hplt;omega
   obtain⟨hqq,hpp⟩:=FL (gZ (by omega)) hy0 hpv hplt;have HQ:=bk (And.intro hqq hpp);have hpi:=hpo.intsAt;have hqi:=hqo.intsAt;have hpd':=bk hpd;have hqd':=bk hqd;have hwr:Below w.heap.size w wr:=hwA.trans (hbl.mono hwA.size);have G3:=bJ hbl F3;have G4:=bJ hbl F4;have hLs':lu.length+1≤1000000000000:=by omega
   have hws:=hbl.size;have hwsA:=hwA.size;have hwA4:w.heap.size+1+1+1<wA.heap.size:=rK F4;clear hqq hpp hpv hplt hpd hqd hpl hql hpo hqo hv3y hk hlt hbl
   go_wp2_with (first
    |(go_at_call 245;(with_reducible refine(kV hpi hpd'.out).mono ?_);rintro e w9 ⟨t,rfl,ht,htn,hb9⟩;have htn':t.n≤1000000000000:=aP htn hLs')
    |(go_at_call 251;(with_reducible refine(CM sh ht htn' (by omega)).mono ?_);rintro e w10 ⟨v,rfl,hv,hvn,hb10⟩))
   have hb910:=hb9.trans (hb10.mono hb9.size);have hbB:Below w10.heap.size w10 (w10.alloc (.cells #[.slice v.ao v.n v.c] 110)):=(Below.refl _ _).alloc (ai _) _;have hV31:=lk w10 (.cells #[.slice v.ao v.n v.c] 110);have hqi2:=((hqi.up hb910).up hbB);have H3:=bJ hbB (bJ hb910 G3);have H4:=bJ hbB (bJ hb910 G4);have hv2:=hv.up hbB;have hwW:Below w.heap.size w (w10.alloc (.cells #[.slice v.ao v.n v.c] 110)):=(hwr.trans (hb910.mono hwr.size)).trans (hbB.mono (by have:=hwr.size;have:=hb910.size;omega));have hsz1:=hwW.size;have hW10:w.heap.size+1+1+1<w10.heap.size:=by have:=hb9.size;have:=hb10.size;omega
   have hcell31:=bQ hV31 0;generalize hWd:w10.alloc (.cells #[.slice v.ao v.n v.c] 110)=W0 at*;clear hWd hqi hv hb9 hb10 hb910 hbB G3 G4 hwr
   go_region_held3 (fun w'=>w'.cell? ⟨w10.heap.size,0,none⟩=some (.slice v.ao v.n v.c))
    (first|exact hcell31|exact(bQ (bJ hb11 hV31) 0)|(rw[World.cell?_setCell_far _ _ _ _ (by simp;omega)];exact(bQ (bJ hb11 hV31) 0))|(rw[World.cell?_setCell_far _ _ _ _ (by simp;omega),World.cell?_setCell_far _ _ _ _ (by simp;omega)];exact(bQ (bJ hb11 hV31) 0)))
    (first|(go_at_call 245;refine(kV (w:=W0.drew) hqi2 hqd'.out).mono ?_;rintro e w11 ⟨u9,rfl,hu9,hun9,hb11'⟩;have hb11:=lT hb11';have hK3:=bJ hb11 H3;have hK4:=bJ hb11 H4;have hR3:=bQ hK3 0;have hR4:=bQ hK4 0;have hF3:=dV hK3 0;have hF4:=dV hK4 0))
   go_wp2
   refine fg (v:=.tuple #[.agg #[.slice u9.ao u9.n u9.c],.agg #[.slice v.ao v.n v.c],.int .i64 0]) (by simp[results,Tryz.results199,go_sem,hR3,hR4]) rfl ⟨u9,v,rfl,?_,?_,?_⟩
   ·rw[HQ.out.1]at hu9;exact(hu9.kp ((Kp.refl _).setCell hK3 (by decide) _)).kp ((Kp.refl _).setCell (cH hK4 (by simp) _) (by decide) _)
   ·rw[HQ.out.2]at hv2;exact((hv2.up hb11).kp ((Kp.refl _).setCell hK3 (by decide) _)).kp ((Kp.refl _).setCell (cH hK4 (by simp) _) (by decide) _)
   ·exact(((hwW.trans (hb11.mono hsz1)).setCell (by simp;omega) _).setCell (by simp;omega) _)
end Go.Proofs.YtgaaopjagcaojaaGreat
