import Derived.Test.YtgaaopjagcaojaaGreatLd
import Derived.Test.YtgaaopjagcaojaaGreatPo
import Derived.Test.YtgaaopjagcaojaaGreatRc
import Derived.Test.YtgaaopjagcaojaaGreatVk
set_option linter.unusedSimpArgs false
set_option linter.unusedVariables false
namespace Go.Proofs.YtgaaopjagcaojaaGreat
open Go.RowKit Go.IntWalk
abbrev mo:=@Go.IntKind.wrap_u8
theorem So{k:Int}{s:Qk}(h:E5 k=some s):s.part*s.most≤65528:=by
 have key:∀(c:Prop) [Decidable c] (a:Qk) (o:Option Qk),(if c then some a else o)=some s→(a.part*a.most≤65528)→(o=some s→s.part*s.most≤65528)→s.part*s.most≤65528:=by
  intro c _ a o h1 h2 h3;by_cases hc:c
  ·rw[if_pos hc]at h1;injection h1 with h1;subst h1;exact h2
  ·rw[if_neg hc]at h1;exact h3 h1
 unfold E5 at h;refine key _ _ _ h (by decide) (fun h=>?_);refine key _ _ _ h (by decide) (fun h=>?_);refine key _ _ _ h (by decide) (fun h=>?_);refine key _ _ _ h (by decide) (fun h=>?_);refine key _ _ _ h (by decide) (fun h=>?_);refine key _ _ _ h (by decide) (fun h=>?_);refine key _ _ _ h (by decide) (fun h=>?_);refine key _ _ _ h (by decide) (fun h=>?_);refine key _ _ _ h (by decide) (fun h=>?_);refine key _ _ _ h (by decide) (fun h=>?_);refine key _ _ _ h (by decide) (fun h=>?_);refine key _ _ _ h (by decide) (fun h=>?_);refine key _ _ _ h (by decide) (fun h=>?_);refine key _ _ _ h (by decide) (fun h=>?_);refine key _ _ _ h (by decide) (fun h=>?_);simp at h
theorem Dj{r:Re}(h:gh r=true):∃s,E5 r.k=some s∧r.d=s.data∧(r.b.length:Int) % s.part=0∧s.least≤(r.b.length:Int)/s.part∧(r.b.length:Int)/s.part≤s.most:=by
 cases hs:E5 r.k with
 |none=>rw[Hc hs]at h;simp at h
 |some s=>
  rw[BM hs]at h;simp only[aK,lx,dj]at h;exact⟨s,rfl,h.1,h.2.1,h.2.2.1,h.2.2.2.1⟩
theorem p9{r:Re}(h:gh r=true):r.b.length≤65528:=by
 obtain⟨s,hs,_,h1,_,h2⟩:=Dj h;have h3:=So hs;obtain⟨p1,_⟩:=PN hs;have h4:=Int.mul_ediv_add_emod (r.b.length:Int) s.part;rw[h1,qh]at h4;have h5:s.part*((r.b.length:Int)/s.part)≤s.part*s.most:=k_ h2 (by omega);omega
def qN(x:Im):Prop:=x.f≠ []∧∀r∈x.f,gh r=true
theorem kK{x:Im}{k:Int}{r:Re}(h:dK x k=some r):r∈x.f∧r.k=k:=by
 unfold dK at h;exact⟨List.mem_of_find?_eq_some h,by simpa using List.find?_some h⟩
theorem qN.short{x:Im}(h:qN x):∀r∈x.f,r.b.length≤1000000:=fun r hr=>by
 have:=p9 (h.2 r hr);omega
theorem qN.len{x:Im}(h:qN x){k:Int}{r:Re}(hf:dK x k=some r){s:Qk}(hs:E5 k=some s):r.d=s.data∧(r.b.length:Int) % s.part=0∧s.least≤(r.b.length:Int)/s.part∧(r.b.length:Int)/s.part≤s.most:=by
 obtain⟨hm,hk⟩:=kK hf;obtain⟨s',hs',h1,h2,h3,h4⟩:=Dj (h.2 r hm);rw[hk,hs]at hs';injection hs' with hs';subst hs';exact⟨h1,h2,h3,h4⟩
def XX(k:Int):Prop:=E5 k=some ⟨2,2,1,1⟩∨E5 k=some ⟨1,2,1,1⟩∨E5 k=some ⟨3,4,1,1⟩
theorem qN.num{x:Im}(h:qN x){k:Int}{r:Re}(hf:dK x k=some r)(hk:XX k):r.b.length=2∨(r.d=3∧r.b.length=4):=by
 rcases hk with hk|hk|hk<;>obtain⟨h1,h2,h3,h4⟩:=h.len hf hk<;>simp only at h1 h2 h3 h4<;>omega
def cD(x:Im)(k w:Int):Int:=match dK x k with
 |none=>w
 |some r=>if r.d=2∨r.b.length % 4≠0 then(dM r.b).headD 0 else(fe r.b).headD 0
def jD:List Int→List Dp
 |a::b::r=>⟨a,b⟩::jD r
 |_=>[]
def a_(x:Im):List Dp:=match dK x 16 with
 |some r=>jD (fe r.b)
 |none=>[]
def cC(x:Im):Int:=(x.f.headD default).k
def aT(x:Im):Int×Int:=match dK x 19 with
 |none=>(1,1)
 |some r=>((dM r.b).headD 0,(dM r.b).getD 1 0)
def iB(x:Im):Option (List Int):=(dK x 18).map fun r=>ib r.b
theorem yq:∀l:List Int,(jD l).length=l.length/2
 | []=>by simp[jD]
 | [_]=>by simp[jD]
 |a::b::r=>by
  have:=yq r;simp only[jD,aF];omega
theorem GQ:∀(l:List Int) (k:Nat) (a b:Int),l[2*k]? =some a→l[2*k+1]? =some b→(jD l)[k]? =some ⟨a,b⟩
 | [],k,a,b,h,_=>by simp at h
 | [x],k,a,b,_,h=>by
  have:=(List.getElem?_eq_some_iff.1 h).1;simp at this
 |x::y::r,0,a,b,h1,h2=>by
  simp at h1 h2;subst h1 h2;rfl
 |x::y::r,k+1,a,b,h1,h2=>by
  simp only[jD,fL];exact GQ r k a b (by simpa [fD]using h1) (by simpa [fD]using h2)
def zw(s:Sl)(l:List Dp):aE where
 p I w:=s.n=l.length∧(s.n≤s.c∧s.c≤maxLen)∧(RA s.ao (l.flatMap d_)).p I w
 up:=by
  rintro I I' w w' ⟨h1,h2,h⟩ g1 g2 g3;exact⟨h1,h2,(RA s.ao _).up h g1 g2 g3⟩
section
variable{T:Tb}{P:Program}{fin:VS→List aE→Prop}{c:fM}{Γ:List aE}
theorem Mx(s:Sl){l:List Int} [h:aZ (NL s) l Γ](hm:dG c.k=false)(hc:s.n=l.length→s.n≤s.c∧s.c≤9223372036854775807→(l≠ []→∃bb off,s.ao=some ⟨bb,off,none⟩)→W T P fin c Γ):W T P fin c Γ:=
 qx (s.n=l.length∧(s.n≤s.c∧s.c≤9223372036854775807)∧(l≠ []→∃bb off,s.ao=some ⟨bb,off,none⟩)) hm (fun I w _ hh=>by
  obtain⟨h1,h2,h4⟩:=h.p hh;refine⟨h1,h2,fun hne=>?_⟩;obtain⟨bb,off,ha,_⟩:=h4 (by simpa using hne);exact⟨bb,off,ha⟩) (fun hq=>hc hq.1 hq.2.1 hq.2.2)
theorem sG(bb off n c:Nat){l:List Int} [h:aZ (NL ⟨some ⟨bb,off,none⟩,n,c⟩) l Γ]{i:Nat}{z:Int}(hz:l[i]? =some z):∀I w,bB T I w→aG Γ I w→w.cell? ⟨bb,off+i*1,none⟩=some (.int .i64 z):=fun I w _ hh=>by
 rw[fO];exact RA.cell (h.p hh).2.2 (by rw[bN,hz];rfl)
theorem Je(s:Sl){l:List Dp} [h:aZ (zw s) l Γ](hm:dG c.k=false)(hc:s.n=l.length→s.n≤s.c∧s.c≤9223372036854775807→(l≠ []→∃bb off,s.ao=some ⟨bb,off,none⟩)→W T P fin c Γ):W T P fin c Γ:=
 qx (s.n=l.length∧(s.n≤s.c∧s.c≤9223372036854775807)∧(l≠ []→∃bb off,s.ao=some ⟨bb,off,none⟩)) hm (fun I w _ hh=>by
  obtain⟨h1,h2,h4⟩:=h.p hh;refine⟨h1,h2,fun hne=>?_⟩;obtain⟨bb,off,ha,_⟩:=h4 (by cases l with|nil=>exact absurd rfl hne|cons a r=>simp[d_]);exact⟨bb,off,ha⟩) (fun hq=>hc hq.1 hq.2.1 hq.2.2)
theorem oh(bb off n c:Nat){l:List Dp} [h:aZ (zw ⟨some ⟨bb,off,none⟩,n,c⟩) l Γ]{i:Nat}{d:Dp}(hd:l[i]? =some d):∀I w,bB T I w→aG Γ I w→∀j v,(d_ d)[j]? =some v→w.cell? ⟨bb,off+i*2+j,none⟩=some v:=fun I w _ hh j v hv=>by
 rw[ij];exact RA.cell (h.p hh).2.2 (ek hd j v hv)
theorem mX(u:Sl){r:Re} [h:aZ (xR u) r Γ]:∀(I:f_) (w:World),bB T I w→aG Γ I w→aG [BF u r.b] I w:=fun I w _ hh=>aV (h.p hh).2.2
end
section
variable{Γ:List aE}{L M:Nat}
def XW(u:Sl)(l:List Int):Prop:=u.n=l.length∧(u.n≤u.c∧u.c≤9223372036854775807)∧(l≠ []→∃bb off,u.ao=some ⟨bb,off,none⟩)
theorem JL{u:Sl}{l:List Int}{I:f_}{w:World}(h:(NL u l).p I w):XW u l:=by
 obtain⟨h1,h2,h4⟩:=h;refine⟨h1,h2,fun hne=>?_⟩;obtain⟨bb,off,ha,_⟩:=h4 (by simpa using hne);exact⟨bb,off,ha⟩
theorem Bi(s:Sl){b:List Int} [h:aZ (BF s) b Γ](hl:b.length≤1000000)(h4:b.length % 4=0):au tb Tryz.prog 126 [bz s] Γ (fun v Δ=>∃u:Sl,XW u (fe b)∧v=.tuple #[bz u,.int .i64 0]∧Δ=[NL u (fe b)]):=by
 have:=JZ (Γ:=Γ) s hl;rw[show(b.length % 4==0)=true by simpa using h4]at this;refine(pJ (fun v Δ=>∃u:Sl,XW u (fe b)∧v=.tuple #[bz u,.int .i64 0]∧Δ=[NL u (fe b)]) this ?_).post (fun _ _ h=>h.2);rintro v Δ ⟨u,rfl,rfl⟩ I w hh;exact⟨u,JL hh.h0',rfl,rfl⟩
theorem OR(s:Sl){b:List Int} [h:aZ (BF s) b Γ](hl:b.length≤1000000)(h4:¬b.length % 4=0):au tb Tryz.prog 126 [bz s] Γ (jv (.tuple #[.slice none 0 0,.int .i64 3])):=by
 have:=JZ (Γ:=Γ) s hl;rw[show(b.length % 4==0)=false by simpa using h4]at this;exact this
theorem yi(s:Sl){b:List Int} [h:aZ (BF s) b Γ](hl:b.length≤1000000)(h4:b.length % 2=0):au tb Tryz.prog 129 [bz s] Γ (fun v Δ=>∃u:Sl,XW u (dM b)∧v=.tuple #[bz u,.int .i64 0]∧Δ=[NL u (dM b)]):=by
 have:=O_ (Γ:=Γ) s hl;rw[show(b.length % 2==0)=true by simpa using h4]at this;refine(pJ (fun v Δ=>∃u:Sl,XW u (dM b)∧v=.tuple #[bz u,.int .i64 0]∧Δ=[NL u (dM b)]) this ?_).post (fun _ _ h=>h.2);rintro v Δ ⟨u,rfl,rfl⟩ I w hh;exact⟨u,JL hh.h0',rfl,rfl⟩
theorem iQ(f p:Sl){x:Im} [h:aZ (mr f p) x Γ](k w:Int)(hx:qN x)(hk:XX k):
  au tb Tryz.prog 127 [mq f p,.int .u8 k,.int .i64 w] Γ (jv (.int .i64 (cD x k w))):=by
 refine au.of_W aB Tryz.func127 rfl ?_;cases ho:dK x k with
 |none=>
  have e:cD x k w=w:=by unfold cD;rw[ho]
  refine aj [] (j3 f p (x:=x) k hx.short ho) ?_;rintro _ _ ⟨rfl,rfl⟩;refine bD [] 18 (!false) rfl ?_;exact W.r [18] (.int .i64 w) ⟨by rw[e],rfl⟩ bU
 |some r=>
  have e:cD x k w=if r.d=2∨r.b.length % 4≠0 then(dM r.b).headD 0 else(fe r.b).headD 0:=by unfold cD;rw[ho]
  have hln:=hx.num ho hk;have hsh:=hx.short r (kK ho).1;have JF:(dM r.b)[0]? =some ((dM r.b).headD 0):=by
   have:=r_ r.b;cases hq:dM r.b with
   |nil=>rw[hq]at this;simp at this;omega
   |cons a l=>rfl
  have hs1:dM r.b≠ []:=by intro e;rw[e]at JF;simp at JF
  refine aj [] (j4 f p (x:=x) k hx.short ho) ?_;rintro _ _ ⟨u,rfl,rfl⟩;refine aS [] 18 (!true) rfl ?_;refine W.more (Δ:=[BF u r.b]) (by kernel_rfl) (mX u) ?_;by_cases h4:r.b.length % 4=0
  ·have hl0:(fe r.b)[0]? =some ((fe r.b).headD 0):=by
    have:=qY r.b;cases hq:fe r.b with
    |nil=>rw[hq]at this;simp at this;omega
    |cons a l=>rfl
   have hl1:fe r.b≠ []:=by intro e;rw[e]at hl0;simp at hl0
   refine aj [18] (Bi u (b:=r.b) hsh h4) ?_;rintro _ _ ⟨u2,⟨g1,g2,g3⟩,rfl,rfl⟩;have hd:r.d=3:=by omega
   rw[if_neg (by omega)]at e;refine aS [] 29 (r.d==2) (by rw[hd];decide) ?_;refine aS [29] 32 ((0:Int) != 0) (by decide) ?_;obtain⟨bb,off,ha⟩:=g3 hl1;obtain⟨ua,un,uc⟩:=u2;simp only at g1 g2 ha;subst ha;refine cA [32] 1 bb off un uc .i64 0 0 rfl aB (by have:=(List.getElem?_eq_some_iff.1 hl0).1;omega) ?_;refine eg [] 1 bb (off+0*1) (.int .i64 ((fe r.b).headD 0)) aB (sG bb off un uc hl0) ?_;exact W.r [] (.int .i64 ((fe r.b).headD 0)) ⟨by rw[e],rfl⟩ bU
  ·rw[if_pos (.inr h4)]at e;have h2:r.b.length % 2=0:=by omega
   refine aj [18] (OR u (b:=r.b) hsh h4) ?_;rintro _ _ ⟨rfl,rfl⟩;refine W.d [] 29 (r.d==2) (fun _=>?_) (fun _=>?_)
   ·refine aj [32,29] (yi u (b:=r.b) hsh h2) ?_;rintro _ _ ⟨u2,⟨g1,g2,g3⟩,rfl,rfl⟩;obtain⟨bb,off,ha⟩:=g3 hs1;obtain⟨ua,un,uc⟩:=u2;simp only at g1 g2 ha;subst ha;refine cA [] 1 bb off un uc .i64 0 0 rfl aB (by have:=(List.getElem?_eq_some_iff.1 JF).1;omega) ?_;refine eg [] 1 bb (off+0*1) (.int .i64 ((dM r.b).headD 0)) aB (sG bb off un uc JF) ?_;exact W.r [] (.int .i64 ((dM r.b).headD 0)) ⟨by rw[e],rfl⟩ bU
   ·refine bD [29] 32 ((3:Int) != 0) (by decide) ?_;refine aj [32] (yi u (b:=r.b) hsh h2) ?_;rintro _ _ ⟨u2,⟨g1,g2,g3⟩,rfl,rfl⟩;obtain⟨bb,off,ha⟩:=g3 hs1;obtain⟨ua,un,uc⟩:=u2;simp only at g1 g2 ha;subst ha;refine cA [] 1 bb off un uc .i64 0 0 rfl aB (by have:=(List.getElem?_eq_some_iff.1 JF).1;omega) ?_;refine eg [] 1 bb (off+0*1) (.int .i64 ((dM r.b).headD 0)) aB (sG bb off un uc JF) ?_;exact W.r [] (.int .i64 ((dM r.b).headD 0)) ⟨by rw[e],rfl⟩ bU
theorem gP(f p:Sl){x:Im} [h:aZ (mr f p) x Γ](hx:qN x):au tb Tryz.prog 81 [mq f p] Γ (jv (.int .u8 (cC x))):=by
 obtain⟨fa,fn,fc⟩:=f;refine au.of_W aB Tryz.func81 rfl ?_;refine W.more (Δ:=[nX ⟨fa,fn,fc⟩ x.f]) rfl (fun I w _ hh=>aV (h.p hh).1) ?_;refine W.len dw dJ.r ⟨fa,fn,fc⟩ rfl (fun h1 h2 h3=>?_);simp only at h1 h2 h3;have hr:x.f[0]? =some (x.f.headD default):=by
  have:=hx.1;cases hq:x.f with
  |nil=>exact absurd hq this
  |cons a l=>rfl
 refine Cv ⟨fa,fn,fc⟩ hr (fun b off u ha=>?_);simp only at ha;subst ha;refine cA [] 3 b off fn fc .i64 0 0 rfl aB (by have:=(List.getElem?_eq_some_iff.1 hr).1;omega) ?_;refine cr [] 0 b (off+0*3) aB ?_;refine eg [] 1 b (off+0*3+0) (.int .u8 (cC x)) aB (fun I w hd hh=>dL b (off+0*3) I w hd hh 0 _ rfl) ?_;exact W.r [] (.int .u8 (cC x)) ⟨rfl,rfl⟩ bU
theorem xg(f p:Sl){x:Im} [h:aZ (mr f p) x Γ](hx:qN x):au tb Tryz.prog 79 [mq f p] Γ (jv (.tuple #[.string (strOfNums ((iB x).getD [])),.bool (iB x).isSome])):=by
 refine au.of_W aB Tryz.func79 rfl ?_;unfold iB;cases ho:dK x 18 with
 |none=>
  refine aj [] (j3 f p (x:=x) 18 hx.short ho) ?_;rintro _ _ ⟨rfl,rfl⟩;refine gI [] (Γ':=[BF ⟨none,0,0⟩ []]) (fun I w _ _=>aV (qB _ _ _)) (nd ⟨none,0,0⟩ (b:=[])) ?_;rintro _ _ ⟨rfl,rfl⟩;exact W.r [] (.tuple #[.string (iS []),.bool false]) ⟨rfl,rfl⟩ bU
 |some r=>
  refine aj [] (j4 f p (x:=x) 18 hx.short ho) ?_;rintro _ _ ⟨u,rfl,rfl⟩;refine gI [] (mX u) (nd u (b:=r.b)) ?_;rintro _ _ ⟨rfl,rfl⟩;exact W.r [] (.tuple #[.string (iS r.b),.bool true]) ⟨rfl,rfl⟩ bU
theorem tR(f p:Sl){x:Im} [h:aZ (mr f p) x Γ](hx:qN x):au tb Tryz.prog 83 [mq f p] Γ (jv (.tuple #[.int .i64 (aT x).1,.int .i64 (aT x).2])):=by
 refine au.of_W aB Tryz.func83 rfl ?_;cases ho:dK x 19 with
 |none=>
  have e:aT x=(1,1):=by unfold aT;rw[ho]
  refine aj [] (j3 f p (x:=x) 19 hx.short ho) ?_;rintro _ _ ⟨rfl,rfl⟩;refine bD [] 14 (!false) rfl ?_;exact W.r [14] (.tuple #[.int .i64 1,.int .i64 1]) ⟨by rw[e],rfl⟩ bU
 |some r=>
  have hsh:=hx.short r (kK ho).1;obtain⟨_,l1,l2,l3⟩:=hx.len ho (s:=⟨2,4,1,1⟩) rfl;simp only at l1 l2 l3;have hs:(dM r.b).length=2:=by rw[r_];omega
  obtain⟨a,b,hab⟩:∃a b,dM r.b=[a,b]:=by
   match hq:dM r.b,hs with
   | [a,b],_=>exact⟨a,b,rfl⟩
  have e:aT x=(a,b):=by unfold aT;rw[ho];simp[hab]
  refine aj [] (j4 f p (x:=x) 19 hx.short ho) ?_;rintro _ _ ⟨u,rfl,rfl⟩;refine aS [] 14 (!true) rfl ?_;refine W.more (Δ:=[BF u r.b]) (by kernel_rfl) (mX u) ?_;refine aj [14] (yi u (b:=r.b) hsh (by omega)) ?_;rintro _ _ ⟨u2,⟨g1,g2,g3⟩,rfl,rfl⟩;rw[hab]at g1 g3⊢;obtain⟨bb,off,ha⟩:=g3 (by simp);obtain⟨ua,un,uc⟩:=u2;simp only[aF,bE]at g1 g2 ha;subst ha;refine cA [] 1 bb off un uc .i64 0 0 rfl aB (by omega) ?_;refine eg [] 1 bb (off+0*1) (.int .i64 a) aB (sG bb off un uc (l:=[a,b]) rfl) ?_;refine cA [] 1 bb off un uc .i64 1 1 rfl aB (by omega) ?_;refine eg [] 1 bb (off+1*1) (.int .i64 b) aB (sG bb off un uc (l:=[a,b]) rfl) ?_;exact W.r [] (.tuple #[.int .i64 a,.int .i64 b]) ⟨by rw[e],rfl⟩ bU
theorem O7(f p:Sl){x:Im} [h:aZ (mr f p) x Γ](hx:qN x):au tb Tryz.prog 80 [mq f p] Γ (fun v Δ=>∃u:Sl,v=bz u∧Δ=[zw u (a_ x)]):=by
 refine au.of_W aB Tryz.func80 rfl ?_;cases ho:dK x 16 with
 |none=>
  have e:a_ x=[]:=by unfold a_;rw[ho]
  rw[e];refine aj [] (j3 f p (x:=x) 16 hx.short ho) ?_;rintro _ _ ⟨rfl,rfl⟩;refine gI [] (Γ':=[BF ⟨none,0,0⟩ []]) (fun I w _ _=>aV (qB _ _ _)) (Bi ⟨none,0,0⟩ (b:=[]) (by decide) (by decide)) ?_;rintro _ _ ⟨u2,⟨g1,g2,g3⟩,rfl,rfl⟩;have hu0:u2.n=0:=g1;refine j2 [] 1 ?_;refine aS [] 24 (decide (IntKind.i64.wrap (0+1)<(u2.n:Int))) (by rw[hu0];decide) ?_;exact W.r [24] (.slice none 0 0) ⟨⟨none,0,0⟩,rfl,rfl⟩ (fun I w _ _=>aV ⟨rfl,⟨ai _,aM _⟩,RA.nil _ _ _⟩)
 |some r=>
  have hsh:=p9 (hx.2 r (kK ho).1);obtain⟨_,l1,l2,l3⟩:=hx.len ho (s:=⟨3,8,1,8191⟩) rfl;simp only at l1 l2 l3;have hln:=qY r.b;refine aj [] (j4 f p (x:=x) 16 hx.short ho) ?_;rintro _ _ ⟨u,rfl,rfl⟩;refine gI [] (mX u) (Bi u (b:=r.b) (by omega) (by omega)) ?_;rintro _ _ ⟨u2,⟨g1,g2,g3⟩,rfl,rfl⟩;obtain⟨l,hl⟩:∃l,fe r.b=l:=⟨_,rfl⟩;have e:a_ x=jD l:=by unfold a_;rw[ho,←hl]
  rw[hl]at hln g1 g3⊢;rw[e];have hpl:=yq l;refine j0 [] [7,8] (fun a:SO=>[(7,a.v),(8,.int .i64 a.z)]) (fun _=>[]) (fun a=>a.O) (fun _=>[NL u2 l]) (fun a=>a.z=2*(a.i:Int)∧2*a.i≤l.length∧cG 2 a.O a.v a.i (((jD l).take a.i).flatMap d_)) (fun a=>l.length-2*a.i) ⟨0,0,.slice none 0 0,[]⟩ ⟨rfl,aM _,cG.nil 2⟩ (eC eK eE) ?_;rintro⟨i,z,v,O⟩ K ⟨hz,hi,hg⟩ close;simp only at hz hi hg;by_cases hlt:2*i+1<l.length
  ·obtain⟨a,ha⟩:∃x,l[2*i]? =some x:=⟨_,ar (by omega)⟩;obtain⟨b,hb⟩:∃x,l[2*i+1]? =some x:=⟨_,ar hlt⟩;obtain⟨bb,off,hao⟩:=g3 (by rintro rfl;simp at hlt);obtain⟨ua,un,uc⟩:=u2;simp only at g1 g2 hao;subst hao;refine bD [] 24 (decide (IntKind.i64.wrap (z+1)<(un:Int))) (aw (by rw[ah];omega)) ?_;refine cA [24] 1 bb off un uc .i64 (2*i) z (by omega) aB (by omega) ?_;refine eg [] 1 bb (off+2*i*1) (.int .i64 a) aB (sG bb off un uc ha) ?_;refine cA [] 1 bb off un uc .i64 (2*i+1) (IntKind.i64.wrap (z+1)) (by rw[ah];omega) aB (by omega) ?_;refine eg [] 1 bb (off+(2*i+1)*1) (.int .i64 b) aB (sG bb off un uc hb) ?_;refine cI [] 1 (d_ ⟨a,b⟩) aB (fun B=>?_);refine W.app [] O [] O [] 2 16 i 1 v (.slice (some ⟨B,0,none⟩) 1 1) (((jD l).take i).flatMap d_) (d_ ⟨a,b⟩) aB (by simp) hg (bW B O 1 2 rfl 1) (qD _) (by omega) (by decide) (fun v' O' hg'=>?_);refine close [] _ _ ⟨i+1,IntKind.i64.wrap (z+2),v',O'⟩ (by kernel_rfl) (by simp only[aA,af];kernel_rfl) ⟨by simp only[ah];omega,by simp only;omega,cG.cast ?_ rfl hg'⟩ (by simp only;omega) (eC eK eE);rw[lH (GQ l i a b ha hb),bA];simp
  ·refine aS [] 24 (decide (IntKind.i64.wrap (z+1)<(u2.n:Int))) (ak (by rw[ah];omega)) ?_;have hi2:i=(jD l).length:=by omega
   rw[aW (by omega)]at hg;refine lQ (by simp only[aA,af];kernel_rfl) hg (fun ao c' hv hc'=>?_);subst hv;have hcm:c'≤maxLen:=oZ hg;refine W.r [24] (.slice ao i c') ⟨⟨ao,i,c'⟩,rfl,rfl⟩ (fun I w _ hh=>aV (show(zw ⟨ao,i,c'⟩ (jD l)).p I w from⟨hi2,⟨hc',hcm⟩,aZ.p (k:=RA ao) (a:=(jD l).flatMap d_) inferInstance hh⟩))
end
abbrev PO(pb:Nat)(sl:Sl)(cM:Nat):List (Nat×List Value):=[(pb,[bz sl,.int .i64 cM])]
abbrev fp(b:Nat):Value:=.pointer (some ⟨b,0,none⟩)
abbrev yH:Value:=.iface 149 (.agg #[])
abbrev si(B:Prop):Tb:=tbM [122,123,121,183,124,182,73] B yH
theorem aQ(B:Prop):(si B).Ok Tryz.prog:=aag _ B yH
def WY(ks:List Int)(l:List Re):Bool:=match l with
 |r::_=>ks.contains r.k
 | []=>false
theorem uQ(k:Int)(l:List Re):WY [k] l=dR k l:=by
 cases l with
 |nil=>rfl
 |cons r m=>
  by_cases h:r.k=k<;>simp[WY,dR,h]
section
variable{T:Tb}{P:Program}{fin:VS→List aE→Prop}{c:fM}{Γ:List aE}
theorem W.pan(D:List Nat)(n:Nat)(v:Value)(hp:T.pan [{v,recovered:=false}])(hh:ND T (bh T D n c))(h:xt T (bh T D n c)=some v:=by kernel_rfl):W T P fin c Γ:=
 eF D n (.panic v h hp hh)
end
theorem BC{k:Int}{rs:List Re}{i:Nat}{r:Re}(h:rs[i]? =some r):gQ k (rs.drop i)=if r.k=k∧gh r=true then some (r,rs.drop (i+1))else none:=by
 rw[show rs.drop i=r::rs.drop (i+1)from by
  have:=(List.getElem?_eq_some_iff.1 h);obtain⟨h1,h2⟩:=this;rw[bI h1,h2]]
 rfl
theorem He{ks:List Int}{rs:List Re}{i:Nat}{r:Re}(h:rs[i]? =some r):WY ks (rs.drop i)=ks.contains r.k:=by
 rw[show rs.drop i=r::rs.drop (i+1)from by
  have:=(List.getElem?_eq_some_iff.1 h);obtain⟨h1,h2⟩:=this;rw[bI h1,h2]]
 rfl
section
variable{Γ:List aE}
theorem OJ(b n:Nat){ks:List Int}(k:Int) [h:aZ (dY b) (ks.map (Value.int .u8)) Γ](hn:n=ks.length)(hn2:n≤8191):
  au tb Tryz.prog 228 [.slice (some ⟨b,0,none⟩) n n,.int .u8 k] Γ (fun v Δ=>∃z:Int,v=.int .i64 z∧Δ=[]∧decide (z≥0)=ks.contains k):=by
 refine au.of_W aB Tryz.func228 rfl ?_;refine xT [] [8] (fun a:Nat×Int=>[(8,.int .i64 a.2)]) (fun _=>[]) (fun _=>[dY b (ks.map (Value.int .u8))]) (fun a=>a.2=a.1∧a.1≤n∧∀i (h:i<ks.length),i<a.1→ks[i]'h≠k) (fun a=>n-a.1) (0,0) ⟨rfl,aM _,fun i _ h=>by omega⟩ (eC eK eE) ?_;rintro⟨i,z⟩ K ⟨hz,hi,hall⟩ close;simp only at hz hi hall;by_cases hlt:i<n
 ·have hil:i<ks.length:=by omega
  refine bD [] 9 (decide (z<(n:Int))) (aw (by omega)) ?_;refine cA [9] 1 b 0 n n .i64 i z hz aB hlt ?_;refine eg [] 1 b (0+i*1) (.int .u8 (ks[i]'hil)) aB (fun I w _ hh=>by
   have:=aZ.p (k:=dY b) (a:=ks.map (Value.int .u8)) inferInstance hh;exact RA.cell (RA.of_row this (fun _ _ q=>q)) (by rw[fO,bN,ar hil];rfl)) ?_
  refine W.d [] 16 (k==ks[i]'hil) (fun hb=>?_) (fun hb=>?_)
  ·refine W.r [16] (.int .i64 z) ⟨z,rfl,rfl,?_⟩ bU;rw[aw (by omega),eq_of_beq hb];exact(List.contains_iff_mem.2 (dW hil)).symm
  ·refine close [16] _ _ (i+1,IntKind.i64.wrap (z+1)) (by kernel_rfl) (by kernel_rfl) ⟨by simp only[ah];omega,hlt,fun j hj zL=>?_⟩ (by simp only;omega) (eC eK eE);by_cases hj2:j<i
   ·exact hall j hj hj2
   ·obtain rfl:j=i:=by simp only at zL;omega
    exact fun e=>kn hb e.symm
 ·refine aS [] 9 (decide (z<(n:Int))) (ak (by omega)) ?_;refine W.r [9] (.int .i64 (-1)) ⟨-1,rfl,rfl,?_⟩ bU;cases hc:ks.contains k with
  |false=>rfl
  |true=>
   obtain⟨j,hj,he⟩:=List.getElem_of_mem (List.contains_iff_mem.1 hc);exact absurd he (hall j hj (by omega))
theorem GK(b n:Nat){ks:List Int}(k:Int) [h:aZ (dY b) (ks.map (Value.int .u8)) Γ](hn:n=ks.length)(hn2:n≤8191):
  au tb Tryz.prog 179 [.slice (some ⟨b,0,none⟩) n n,.int .u8 k] Γ (jv (.bool (ks.contains k))):=by
 refine au.of_W aB Tryz.func179 rfl ?_;refine aj [] (OJ b n (ks:=ks) k hn hn2) ?_;rintro _ _ ⟨z,rfl,rfl,hz⟩;exact W.r [] (.bool (decide (z≥0))) ⟨by rw[hz],rfl⟩ bU
theorem rT(B:Prop)(pb:Nat)(sl:Sl)(cM kb n:Nat){rs:List Re}{ks:List Int} [h:aZ (nX sl) rs Γ] [h2:aZ (dY kb) (ks.map (Value.int .u8)) Γ](hn:n=ks.length)(hn2:n≤8191):
  dC (si B) Tryz.prog 122 [fp pb,.slice (some ⟨kb,0,none⟩) n n] (PO pb sl cM) [] Γ (fun v O M Δ=>v=.bool (WY ks (rs.drop cM))∧O=PO pb sl cM∧M=[]∧Δ=[]):=by
 refine dC.of_W (aQ B) Tryz.func122 rfl ?_;obtain⟨sa,sn,sc⟩:=sl;refine W.len dw dJ.r ⟨sa,sn,sc⟩ rfl (fun h1 h2 h3=>?_);simp only at h1 h2 h3;by_cases hlt:cM<sn
 ·obtain⟨r,hr⟩:∃r,rs[cM]? =some r:=⟨_,ar (by omega)⟩;refine Cv ⟨sa,sn,sc⟩ hr (fun b off u ha=>?_);simp only at ha;subst ha;refine cr [] 1 pb 0 (aQ B) ?_;refine dQ [] (PO pb ⟨some ⟨b,off,none⟩,sn,sc⟩ cM) pb (0+1) 1 [.slice (some ⟨b,off,none⟩) sn sc,.int .i64 cM] (.int .i64 cM) (aQ B) (.head _) rfl ?_;refine cr [] 0 pb 0 (aQ B) ?_;refine dQ [] (PO pb ⟨some ⟨b,off,none⟩,sn,sc⟩ cM) pb (0+0) 1 [.slice (some ⟨b,off,none⟩) sn sc,.int .i64 cM] (.slice (some ⟨b,off,none⟩) sn sc) (aQ B) (.head _) rfl ?_;refine bD [] 15 (decide ((cM:Int)<(sn:Int))) (aw (by omega)) ?_;refine cr [15] 0 pb 0 (aQ B) ?_;refine dQ [15] (PO pb ⟨some ⟨b,off,none⟩,sn,sc⟩ cM) pb (0+0) 1 [.slice (some ⟨b,off,none⟩) sn sc,.int .i64 cM] (.slice (some ⟨b,off,none⟩) sn sc) (aQ B) (.head _) rfl ?_;refine cr [15] 1 pb 0 (aQ B) ?_;refine dQ [15] (PO pb ⟨some ⟨b,off,none⟩,sn,sc⟩ cM) pb (0+1) 1 [.slice (some ⟨b,off,none⟩) sn sc,.int .i64 cM] (.int .i64 cM) (aQ B) (.head _) rfl ?_;refine cA [15] 3 b off sn sc .i64 cM cM rfl (aQ B) hlt ?_;refine cr [15] 0 b (off+cM*3) (aQ B) ?_;refine eg [15] 1 b (off+cM*3+0) (.int .u8 r.k) (aQ B) (fun I w hd hh=>dL (T:=si B) b (off+cM*3) I w hd hh 0 _ rfl) ?_;refine aj [15] (GK kb n (ks:=ks) r.k hn hn2).m ?_;rintro _ _ ⟨rfl,rfl⟩;exact j1 [15] (.bool (ks.contains r.k)) (PO pb ⟨some ⟨b,off,none⟩,sn,sc⟩ cM) [] ⟨by rw[He hr],rfl,rfl,rfl⟩ bU
 ·refine cr [] 1 pb 0 (aQ B) ?_;refine dQ [] (PO pb ⟨sa,sn,sc⟩ cM) pb (0+1) 1 [.slice sa sn sc,.int .i64 cM] (.int .i64 cM) (aQ B) (.head _) rfl ?_;refine cr [] 0 pb 0 (aQ B) ?_;refine dQ [] (PO pb ⟨sa,sn,sc⟩ cM) pb (0+0) 1 [.slice sa sn sc,.int .i64 cM] (.slice sa sn sc) (aQ B) (.head _) rfl ?_;refine aS [] 15 (decide ((cM:Int)<(sn:Int))) (ak (by omega)) ?_;exact j1 [15] (.bool false) (PO pb ⟨sa,sn,sc⟩ cM) [] ⟨by rw[bu (by omega)];rfl,rfl,rfl,rfl⟩ bU
def Ux(k:Int)(pb:Nat)(sl:Sl)(cM:Nat)(rs:List Re)(v:Value)(O:List (Nat×List Value))(M:List (Nat×List (Value×Value)))(Δ:List aE):Prop:=
 ∃(r:Re) (u:Sl),gQ k (rs.drop cM)=some (r,rs.drop (cM+1))∧v=rev r u∧O=PO pb sl (cM+1)∧M=[]∧Δ=[xR u r]
theorem l7(B:Prop)(pb:Nat)(sl:Sl)(cM:Nat)(k:Int){rs:List Re} [h:aZ (nX sl) rs Γ](hB:gQ k (rs.drop cM)=none→B):
  dC (si B) Tryz.prog 123 [fp pb,.int .u8 k] (PO pb sl cM) [] Γ (Ux k pb sl cM rs):=by
 refine dC.of_W (aQ B) Tryz.func123 rfl ?_;obtain⟨sa,sn,sc⟩:=sl;refine W.len dw dJ.r ⟨sa,sn,sc⟩ rfl (fun h1 h2 h3=>?_);simp only at h1 h2 h3;by_cases hlt:cM<sn
 ·obtain⟨r,hr⟩:∃r,rs[cM]? =some r:=⟨_,ar (by omega)⟩;rw[BC hr]at hB;refine Cv ⟨sa,sn,sc⟩ hr (fun b off u ha=>?_);simp only at ha;subst ha;refine cI [] 1 [.int .u8 k] (aQ B) (fun kb=>?_);refine c_ [] [] (PO pb ⟨some ⟨b,off,none⟩,sn,sc⟩ cM) [] [] [] [] ⟨rfl,by rfl,trivial⟩ (rT B pb ⟨some ⟨b,off,none⟩,sn,sc⟩ cM kb 1 (rs:=rs) (ks:=[k]) rfl (by decide)) ?_;rintro _ _ _ _ ⟨rfl,rfl,rfl,rfl⟩;rw[He hr];by_cases hk:r.k=k
  ·refine aS [] 11 (![k].contains r.k) (by simp[hk]) ?_;refine cr [11] 0 pb 0 (aQ B) ?_;refine dQ [11] (PO pb ⟨some ⟨b,off,none⟩,sn,sc⟩ cM) pb (0+0) 1 [.slice (some ⟨b,off,none⟩) sn sc,.int .i64 cM] (.slice (some ⟨b,off,none⟩) sn sc) (aQ B) (.head _) rfl ?_;refine cr [11] 1 pb 0 (aQ B) ?_;refine dQ [11] (PO pb ⟨some ⟨b,off,none⟩,sn,sc⟩ cM) pb (0+1) 1 [.slice (some ⟨b,off,none⟩) sn sc,.int .i64 cM] (.int .i64 cM) (aQ B) (.head _) rfl ?_;refine cA [11] 3 b off sn sc .i64 cM cM rfl (aQ B) hlt ?_;refine de [11] b (off+cM*3) [.int .u8 r.k,.int .u8 r.d,bz u] (aQ B) (dL b (off+cM*3)) ?_;refine aj [11] (O9 u r).m ?_;rintro _ _ ⟨rfl,rfl⟩;by_cases hg:gh r=true
   ·refine aS [11] 24 (!gh r) (by rw[hg];rfl) ?_;have hsh:=p9 hg;have hw:IntKind.i64.wrap ((cM:Int)+1)=((cM+1:Nat):Int):=by rw[ah];omega
    refine cr [24] 1 pb 0 (aQ B) ?_;refine dQ [] (PO pb ⟨some ⟨b,off,none⟩,sn,sc⟩ cM) pb (0+1) 1 [.slice (some ⟨b,off,none⟩) sn sc,.int .i64 cM] (.int .i64 cM) (aQ B) (.head _) rfl ?_;refine cr [] 1 pb 0 (aQ B) ?_;refine nY [] (PO pb ⟨some ⟨b,off,none⟩,sn,sc⟩ cM) [] [] 1 pb (0+1) [.slice (some ⟨b,off,none⟩) sn sc,.int .i64 cM] (.int .i64 (IntKind.i64.wrap ((cM:Int)+1))) [.slice (some ⟨b,off,none⟩) sn sc,.int .i64 ((cM+1:Nat):Int)] (aQ B) rfl rfl (JR _ _) (ai _) (by rw[hw];rfl) ?_;refine cr [] 0 pb 0 (aQ B) ?_;refine dQ [] (PO pb ⟨some ⟨b,off,none⟩,sn,sc⟩ (cM+1)) pb (0+0) 1 [.slice (some ⟨b,off,none⟩) sn sc,.int .i64 ((cM+1:Nat):Int)] (.slice (some ⟨b,off,none⟩) sn sc) (aQ B) (.head _) rfl ?_;refine cr [] 1 pb 0 (aQ B) ?_;refine dQ [] (PO pb ⟨some ⟨b,off,none⟩,sn,sc⟩ (cM+1)) pb (0+1) 1 [.slice (some ⟨b,off,none⟩) sn sc,.int .i64 ((cM+1:Nat):Int)] (.int .i64 ((cM+1:Nat):Int)) (aQ B) (.head _) rfl ?_;refine cA [] 3 b off sn sc .i64 cM (IntKind.i64.wrap (((cM+1:Nat):Int)-1)) (by rw[ah];omega) (aQ B) hlt ?_;refine de [] b (off+cM*3) [.int .u8 r.k,.int .u8 r.d,bz u] (aQ B) (dL b (off+cM*3)) ?_;refine gI [] (mX u (r:=r)) (JW u (b:=r.b) (by omega)).m ?_;rintro _ _ ⟨u2,rfl,rfl⟩;refine j1 [] (rev r u2) (PO pb ⟨some ⟨b,off,none⟩,sn,sc⟩ (cM+1)) [] ⟨r,u2,by rw[BC hr,if_pos ⟨hk,hg⟩],rfl,rfl,rfl,rfl⟩ (fun I w _ hh=>?_)
    have g:=aZ.p (k:=xR u) (a:=r) inferInstance hh;exact aV ⟨g.1,g.2.1,aZ.p (k:=BF u2) (a:=r.b) inferInstance hh⟩
   ·refine bD [11] 24 (!gh r) (by simpa using hg) ?_;exact W.pan [24] 1 yH ⟨hB (by rw[if_neg (fun q=>hg q.2)]),rfl⟩ ⟨[],trivial,fun x hx=>by simp at hx⟩
  ·refine bD [] 11 (![k].contains r.k) (by simp[hk]) ?_;refine bD [11] 24 true rfl ?_;exact W.pan [24] 1 yH ⟨hB (by rw[if_neg (fun q=>hk q.1)]),rfl⟩ ⟨[],trivial,fun x hx=>by simp at hx⟩
 ·have hd:rs.drop cM=[]:=bu (by omega);refine cI [] 1 [.int .u8 k] (aQ B) (fun kb=>?_);refine c_ [] [] (PO pb ⟨sa,sn,sc⟩ cM) [] [] [] [] ⟨rfl,by rfl,trivial⟩ (rT B pb ⟨sa,sn,sc⟩ cM kb 1 (rs:=rs) (ks:=[k]) rfl (by decide)) ?_;rintro _ _ _ _ ⟨rfl,rfl,rfl,rfl⟩;rw[hd];refine bD [] 11 (!WY [k] []) rfl ?_;refine bD [11] 24 true rfl ?_;exact W.pan [24] 1 yH ⟨hB (by rw[hd];rfl),rfl⟩ ⟨[],trivial,fun x hx=>by simp at hx⟩
end
def iY(v:Value)(es:List dJ):aE where
 p I w:=(OS dw (0,es)).p I w
 up:=(OS dw (0,es)).up
def Ja(p:nR (List Re))(N:Nat)(pb:Nat)(sl:Sl)(cM:Nat)(rs:List Re)(v:Value)(O:List (Nat×List Value))(M:List (Nat×List (Value×Value)))(Δ:List aE):Prop:=
 ∃(es:List dJ) (yL:Nat) (Or:List (Nat×List Value)),p (rs.drop cM)=some (es.map dJ.r,rs.drop yL)∧cM≤yL∧es.length≤N∧O=PO pb sl yL++Or∧cG 3 Or v es.length (es.flatMap dw.cells)∧M=[]∧Δ=[iY v es]
structure RSt where
 i:Nat
 z:Int
 v:Value
 O:List (Nat×List Value)
 a:Nat
 es:List dJ
theorem Sd(es:List dJ):(es.flatMap dw.cells).length=es.length*3:=p_ dw es
theorem BG{k:Int}{ks:List Int}{l:List Re}(h:k<256∨dR (k % 256) l=true):dk (k::ks) l=match gQ (k % 256) l with
  |some (r,m)=>(match dk ks m with
   |some (rs,m')=>some (r::rs,m')
   |none=>none)
  |none=>none:=by
 rw[dk,if_pos h];rfl
theorem LJ{k:Int}{ks:List Int}{l:List Re}(h:¬(k<256∨dR (k % 256) l=true)):dk (k::ks) l=dk ks l:=by
 rw[dk,if_neg h]
theorem iH{α:Type}{l:List α}{i:Nat}{a:α}(h:l[i]? =some a):l.drop i=a::l.drop (i+1):=by
 obtain⟨h1,h2⟩:=List.getElem?_eq_some_iff.1 h;rw[bI h1,h2]
section
variable{T:Tb}{Γ:List aE}
theorem OC:∀(I:f_) (w:World),bB T I w→aG Γ I w→(OS dw (0,[])).p I w:=fun I w _ _ e he=>by simp at he
theorem JV{es:List dJ}(u:Sl){r:Re} [h1:aZ (OS dw) (0,es) Γ] [h2:aZ (xR u) r Γ]:∀(I:f_) (w:World),bB T I w→aG Γ I w→(OS dw (0,es++[⟨u,r⟩])).p I w:=fun I w _ hh e he=>by
 rcases List.mem_append.1 he with he|he
 ·exact h1.p hh e he
 ·simp only[aD,aC,bp]at he;subst he;exact h2.p hh
end
section
variable{Γ:List aE}
set_option maxHeartbeats 1000000 in
theorem l8(B:Prop)(pb:Nat)(sl:Sl)(cM kb n:Nat){rs:List Re}{ks:List Int} [h:aZ (nX sl) rs Γ] [h2:aZ (dY kb) (ks.map (Value.int .i64)) Γ](hn:n=ks.length)(hn2:n≤1000)(hB:dk ks (rs.drop cM)=none→B):
  dC (si B) Tryz.prog 121 [fp pb,.slice (some ⟨kb,0,none⟩) n n] (PO pb sl cM) [] Γ (Ja (dk ks) n pb sl cM rs):=by
 refine dC.of_W (aQ B) Tryz.func121 rfl ?_;refine j0 [] [5,10] (fun a:RSt=>[(5,a.v),(10,.int .i64 a.z)]) (fun _=>[]) (fun a=>PO pb sl a.a++a.O) (fun a=>[nX sl rs,dY kb (ks.map (Value.int .i64)),OS dw (0,a.es)]) (fun a=>a.z=a.i∧a.i≤n∧cM≤a.a∧a.es.length≤a.i∧cG 3 a.O a.v a.es.length (a.es.flatMap dw.cells)∧dk ks (rs.drop cM)=(match dk (ks.drop a.i) (rs.drop a.a)with
   |some (x,m)=>some (a.es.map dJ.r++x,m)
   |none=>none)) (fun a=>n-a.i) ⟨0,0,.slice none 0 0,[],cM,[]⟩ ⟨rfl,aM _,ai _,aM _,cG.nil 3,by
    simp only[ir,cZ,aA];cases dk ks (rs.drop cM)<;>rfl⟩ (eC eK (eC eK (eC OC eE))) ?_
 rintro⟨i,z,v,O,a,es⟩ K ⟨hz,hi,ha,hes,hg,hp⟩ close;simp only at hz hi ha hes hg hp;by_cases hlt:i<n
 ·obtain⟨k,hk⟩:∃k,ks[i]? =some k:=⟨_,ar (by omega)⟩;rw[iH hk]at hp;have hw:IntKind.u8.wrap k=k % 256:=mo k;refine bD [] 11 (decide (z<(n:Int))) (aw (by omega)) ?_;refine cA [11] 1 kb 0 n n .i64 i z hz (aQ B) hlt ?_;refine eg [] 1 kb (0+i*1) (.int .i64 k) (aQ B) (fun I w _ hh=>by
   have:=aZ.p (k:=dY kb) (a:=ks.map (Value.int .i64)) inferInstance hh;exact RA.cell (RA.of_row this (fun _ _ q=>q)) (by rw[fO,bN,hk];rfl)) ?_
  have vm:(k<256∨dR (k % 256) (rs.drop a)=true)→∀(D:List Nat) (c:fM),True:=fun _ _ _=>trivial;by_cases Rl:k<256
  ·have Ij:=BG (ks:=ks.drop (i+1)) (l:=rs.drop a) (k:=k) (.inl Rl);refine bD [] 16 (decide (k<256)) (aw Rl) ?_;refine cr [24,16] 0 pb 0 (aQ B) ?_;refine c_ [] [] (PO pb sl a) O [] [] [] ⟨rfl,by rfl,trivial⟩ (l7 B pb sl a (IntKind.u8.wrap k) (rs:=rs) (fun hno=>hB (by rw[hw]at hno;rw[hp,Ij,hno]))) ?_;rintro _ _ _ _ ⟨r,u,hm,rfl,rfl,rfl,rfl⟩;rw[hw]at hm;rw[Ij,hm]at hp;refine cI [] 1 [.int .u8 r.k,.int .u8 r.d,bz u] (aQ B) (fun b5=>?_);refine W.app [] (PO pb sl (a+1)++O) (PO pb sl (a+1)) O [] 3 32 es.length 1 v (.slice (some ⟨b5,0,none⟩) 1 1) (es.flatMap dw.cells) [.int .u8 r.k,.int .u8 r.d,bz u] (aQ B) (by simp) hg (bW b5 _ 1 3 rfl 1) (by simp[Value.oneCell']) (by omega) (by decide) (fun v' O' hg'=>?_);refine close [] _ _ ⟨i+1,IntKind.i64.wrap (z+1),v',O',a+1,es++[⟨u,r⟩]⟩ (by kernel_rfl) (by simp only[af];kernel_rfl) ⟨by simp only[ah];omega,hlt,by simp only;omega,by simp only[az,aF,bE];omega,cG.cast (by simp[dw]) (by simp) hg',?_⟩ (by simp only;omega) (eC eK (eC eK (eC (JV u) eE)));rw[hp];simp only;cases dk (ks.drop (i+1)) (rs.drop (a+1))with
   |none=>rfl
   |some q=>simp
  ·refine aS [] 16 (decide (k<256)) (ak Rl) ?_;refine cr [16] 0 pb 0 (aQ B) ?_;refine cI [16] 1 [.int .u8 (IntKind.u8.wrap k)] (aQ B) (fun b7=>?_);refine c_ [16] [] (PO pb sl a) O [] [] [] ⟨rfl,by rfl,trivial⟩ (rT B pb sl a b7 1 (rs:=rs) (ks:=[IntKind.u8.wrap k]) rfl (by decide)) ?_;rintro _ _ _ _ ⟨rfl,rfl,rfl,rfl⟩;rw[uQ,hw];by_cases hs:dR (k % 256) (rs.drop a)=true
   ·have Ij:=BG (ks:=ks.drop (i+1)) (l:=rs.drop a) (k:=k) (.inr hs);refine bD [16] 24 (dR (k % 256) (rs.drop a)) hs ?_;refine cr [24] 0 pb 0 (aQ B) ?_;refine c_ [] [] (PO pb sl a) O [] [] [] ⟨rfl,by rfl,trivial⟩ (l7 B pb sl a (IntKind.u8.wrap k) (rs:=rs) (fun hno=>hB (by rw[hw]at hno;rw[hp,Ij,hno]))) ?_;rintro _ _ _ _ ⟨r,u,hm,rfl,rfl,rfl,rfl⟩;rw[hw]at hm;rw[Ij,hm]at hp;refine cI [] 1 [.int .u8 r.k,.int .u8 r.d,bz u] (aQ B) (fun b5=>?_);refine W.app [] (PO pb sl (a+1)++O) (PO pb sl (a+1)) O [] 3 32 es.length 1 v (.slice (some ⟨b5,0,none⟩) 1 1) (es.flatMap dw.cells) [.int .u8 r.k,.int .u8 r.d,bz u] (aQ B) (by simp) hg (bW b5 _ 1 3 rfl 1) (by simp[Value.oneCell']) (by omega) (by decide) (fun v' O' hg'=>?_);refine close [] _ _ ⟨i+1,IntKind.i64.wrap (z+1),v',O',a+1,es++[⟨u,r⟩]⟩ (by kernel_rfl) (by simp only[af];kernel_rfl) ⟨by simp only[ah];omega,hlt,by simp only;omega,by simp only[az,aF,bE];omega,cG.cast (by simp[dw]) (by simp) hg',?_⟩ (by simp only;omega) (eC eK (eC eK (eC (JV u) eE)));rw[hp];simp only;cases dk (ks.drop (i+1)) (rs.drop (a+1))with
    |none=>rfl
    |some q=>simp
   ·have Zp:=LJ (ks:=ks.drop (i+1)) (l:=rs.drop a) (k:=k) (fun q=>q.elim Rl hs);refine aS [16] 24 (dR (k % 256) (rs.drop a)) (by simpa using hs) ?_;refine close [24] _ _ ⟨i+1,IntKind.i64.wrap (z+1),v,O,a,es⟩ (by kernel_rfl) (by kernel_rfl) ⟨by simp only[ah];omega,hlt,ha,by simp only;omega,hg,by rw[hp,Zp]⟩ (by simp only;omega) (eC eK (eC eK (eC eK eE)))
 ·refine aS [] 11 (decide (z<(n:Int))) (ak (by omega)) ?_;refine j1 [11] v (PO pb sl a++O) [] ⟨es,a,O,?_,ha,by omega,rfl,hg,rfl,rfl⟩ (eC (fun I w hd hh=>eK (k:=OS dw) (a:=(0,es)) I w hd hh) eE);rw[hp,bu (by omega)];simp[dk]
theorem Ey(B:Prop)(pb:Nat)(sl:Sl)(cM:Nat){rs:List Re} [h:aZ (nX sl) rs Γ](hB:j_ (rs.drop cM)=none→B):
  dC (si B) Tryz.prog 183 [fp pb] (PO pb sl cM) [] Γ (Ja j_ 3 pb sl cM rs):=by
 refine dC.of_W (aQ B) Tryz.func183 rfl ?_;refine cr [] 0 pb 0 (aQ B) ?_;refine cI [] 1 [.int .u8 26] (aQ B) (fun b1=>?_);refine c_ [] [] (PO pb sl cM) [] [] [] [] ⟨rfl,by rfl,trivial⟩ (rT B pb sl cM b1 1 (rs:=rs) (ks:=[26]) rfl (by decide)) ?_;rintro _ _ _ _ ⟨rfl,rfl,rfl,rfl⟩;rw[uQ];by_cases hs:dR 26 (rs.drop cM)=true
 ·have ht:j_ (rs.drop cM)=dk [26,283,284] (rs.drop cM):=by unfold j_;rw[if_pos hs]
  rw[ht]at hB;refine aS [] 8 (!dR 26 (rs.drop cM)) (by rw[hs];rfl) ?_;refine cI [8] 3 [.int .i64 26,.int .i64 283,.int .i64 284] (aQ B) (fun b3=>?_);refine c_ [] [] (PO pb sl cM) [] [] [] [] ⟨rfl,by rfl,trivial⟩ (l8 B pb sl cM b3 3 (rs:=rs) (ks:=[26,283,284]) rfl (by decide) hB) ?_;rintro v _ _ _ ⟨es,a,O,hp,ha,hl,rfl,hg,rfl,rfl⟩;exact j1 [] v (PO pb sl a++O) [] (ho:=(by simp only[aA,af];kernel_rfl)) ⟨es,a,O,by rw[ht];exact hp,ha,hl,rfl,hg,rfl,rfl⟩ (eC eK eE)
 ·refine bD [] 8 (!dR 26 (rs.drop cM)) (by simpa using hs) ?_;exact j1 [8] (.slice none 0 0) (PO pb sl cM) [] ⟨[],cM,[],by unfold j_;rw[if_neg hs];rfl,ai _,aM _,by rw[af],cG.nil 3,rfl,rfl⟩ (eC OC eE)
end
theorem kY{z:Nat}{O:List (Nat×List Value)}{v:Value}{n:Nat}{xs:List Value}(h:cG z O v n xs):v.cells.size=1∧v.cells.toList=[v]∧v.oneCell'=true:=by
 rcases h.2 with⟨rfl,_,_⟩|⟨g,cap,cur,rfl,_⟩<;>exact⟨rfl,rfl,rfl⟩
section
variable{T:Tb}{P:Program}{fin:VS→List aE→Prop}{c:fM}{Γ:List aE}
theorem iv{own O:List (Nat×List Value)}{l:Value}{k z:Nat}{xs:List Value}(hg:cG z O l k xs)(hs:∀x∈O,x∈own):qP T Γ own l k z xs:=by
 obtain⟨hl,h⟩:=hg;rcases h with⟨rfl,rfl,rfl⟩|⟨g,cap,cur,rfl,rfl,h1,h2,h3,h4⟩
 ·exact⟨none,0,rfl,hl,fun h=>absurd h (Nat.lt_irrefl _)⟩
 ·refine⟨some ⟨g,0,none⟩,cap,rfl,hl,fun _=>⟨⟨g,0,none⟩,rfl,fun I w _ _ ho j u hu=>?_⟩⟩;obtain⟨e,_,hb⟩:=ho g cur (hs _ (by simp));rw[gp,ns hb,cz];rw[←h4,di]at hu;split at hu
  ·exact hu
  ·simp at hu
theorem E9(A C:List (Nat×List Value)){k:List It}(hm:dG k=false):∀(O2:List (Nat×List Value)) (s:VS) (Γ:List aE),s.own=A++(O2++C)→W T P fin ⟨s.setOwn (A++C),k⟩ Γ→W T P fin ⟨s,k⟩ Γ
 | [],s,Γ,hs,h=>by
  rw[aA]at hs;rw[←hs]at h;exact h
 |(b,cs)::O2,s,Γ,hs,h=>by
  refine W.pub (O1:=A) (O2:=O2++C) (b:=b) (cs:=cs) hm hs ?_;refine W.sub hm (fun I w _ hh F hF=>hh F (by simp[hF])) (E9 A C hm O2 _ Γ rfl h)
theorem rF(A O2 C:List (Nat×List Value))(ho:(dN T 999 c).s.own=A++(O2++C))(hk:W T P fin ⟨(dN T 999 c).s.setOwn (A++C),(dN T 999 c).k⟩ Γ)(hm:dG (dN T 999 c).k=false:=by kernel_rfl):W T P fin c Γ:=
 W.code 999 (E9 A C hm O2 _ Γ ho hk)
end
section
variable{Γ:List aE}
theorem mU(B:Prop)(xb:Nat)(v pv l:Value)(m k:Nat)(xs news:List Value)(A Or SS:List (Nat×List Value))(hg:cG 3 Or v m xs)(hr:qP (si B) Γ ((xb,[v,pv])::(A++(SS++Or))) l k 3 news)(h1:∀u∈news,u.oneCell'=true)(hn:m+k≤1000000):
  dC (si B) Tryz.prog 182 [l,fp xb] ((xb,[v,pv])::(A++(SS++Or))) [] Γ (fun u O M Δ=>u=.tuple #[]∧(∃v' O',O=(xb,[v',pv])::(A++O')∧cG 3 O' v' (m+k) (xs++news))∧M=[]∧Δ=[]):=by
 refine dC.of_W (aQ B) Tryz.func182 rfl ?_;refine cr [] 0 xb 0 (aQ B) ?_;refine dQ [] ((xb,[v,pv])::(A++(SS++Or))) xb (0+0) 1 [v,pv] v (aQ B) (.head _) rfl ?_;refine W.app [] ((xb,[v,pv])::(A++(SS++Or))) ((xb,[v,pv])::(A++SS)) Or [] 3 32 m k v l xs news (aQ B) (by simp) hg hr h1 hn (by decide) (fun v' O' hg'=>?_);obtain⟨hs,hc,ho⟩:=kY hg';refine cr [] 0 xb 0 (aQ B) ?_;refine nY [] (((xb,[v,pv])::(A++SS))++O'++[]) [] ((A++SS)++O'++[]) 1 xb (0+0) [v,pv] v' [v',pv] (aQ B) rfl hs (by rw[hc];intro u hu;simp at hu;subst hu;exact ho) (pF 1) (by rw[hc];rfl) ?_;refine rF ((xb,[v',pv])::A) SS O' (by simp only[aA,af,dO,aU];kernel_rfl) ?_;exact j1 [] (.tuple #[]) ((xb,[v',pv])::(A++O')) [] ⟨rfl,⟨v',O',rfl,hg'⟩,rfl,rfl⟩ bU
end
end Go.Proofs.YtgaaopjagcaojaaGreat
