import Derived.Test.YtgaaopjagcaojaaGreatLd
import Derived.Test.YtgaaopjagcaojaaGreatPo
import Derived.Test.YtgaaopjagcaojaaGreatSy
import Derived.Test.YtgaaopjagcaojaaGreatVk
set_option linter.unusedSimpArgs false
set_option linter.unusedVariables false
namespace Go.Proofs.YtgaaopjagcaojaaGreat
open Go.RowKit Go.IntWalk
abbrev l9:=@Go.IntKind.wrap_u8
theorem SN{k:Int}{s:QA}(h:EK k=some s):s.part*s.most≤65528:=by
 have key:∀(c:Prop) [Decidable c] (a:QA) (o:Option QA),(if c then some a else o)=some s→(a.part*a.most≤65528)→(o=some s→s.part*s.most≤65528)→s.part*s.most≤65528:=by
  intro c _ a o h1 h2 h3;by_cases hc:c
  ·rw[if_pos hc]at h1;injection h1 with h1;subst h1;exact h2
  ·rw[if_neg hc]at h1;exact h3 h1
 unfold EK at h;refine key _ _ _ h (by decide) (fun h=>?_);refine key _ _ _ h (by decide) (fun h=>?_);refine key _ _ _ h (by decide) (fun h=>?_);refine key _ _ _ h (by decide) (fun h=>?_);refine key _ _ _ h (by decide) (fun h=>?_);refine key _ _ _ h (by decide) (fun h=>?_);refine key _ _ _ h (by decide) (fun h=>?_);refine key _ _ _ h (by decide) (fun h=>?_);refine key _ _ _ h (by decide) (fun h=>?_);refine key _ _ _ h (by decide) (fun h=>?_);refine key _ _ _ h (by decide) (fun h=>?_);refine key _ _ _ h (by decide) (fun h=>?_);refine key _ _ _ h (by decide) (fun h=>?_);refine key _ _ _ h (by decide) (fun h=>?_);refine key _ _ _ h (by decide) (fun h=>?_);simp at h
theorem C3{r:Re}(h:gp r=true):∃s,EK r.k=some s∧r.d=s.data∧(r.b.length:Int) % s.part=0∧s.least≤(r.b.length:Int)/s.part∧(r.b.length:Int)/s.part≤s.most:=by
 cases hs:EK r.k with
 |none=>rw[GY hs]at h;simp at h
 |some s=>
  rw[GX hs]at h;simp only[aL,mu,dG]at h;exact⟨s,rfl,h.1,h.2.1,h.2.2.1,h.2.2.2.1⟩
theorem pR{r:Re}(h:gp r=true):r.b.length≤65528:=by
 obtain⟨s,hs,_,h1,_,h2⟩:=C3 h;have h3:=SN hs;obtain⟨p1,_⟩:=P8 hs;have h4:=Int.mul_ediv_add_emod (r.b.length:Int) s.part;rw[h1,uK]at h4;have h5:s.part*((r.b.length:Int)/s.part)≤s.part*s.most:=kT h2 (by omega);omega
def qx(x:Im):Prop:=x.f≠ []∧∀r∈x.f,gp r=true
theorem kA{x:Im}{k:Int}{r:Re}(h:dT x k=some r):r∈x.f∧r.k=k:=by
 unfold dT at h;exact⟨List.mem_of_find?_eq_some h,by simpa using List.find?_some h⟩
theorem qx.short{x:Im}(h:qx x):∀r∈x.f,r.b.length≤1000000:=fun r hr=>by
 have:=pR (h.2 r hr);omega
theorem qx.len{x:Im}(h:qx x){k:Int}{r:Re}(hf:dT x k=some r){s:QA}(hs:EK k=some s):r.d=s.data∧(r.b.length:Int) % s.part=0∧s.least≤(r.b.length:Int)/s.part∧(r.b.length:Int)/s.part≤s.most:=by
 obtain⟨hm,hk⟩:=kA hf;obtain⟨s',hs',h1,h2,h3,h4⟩:=C3 (h.2 r hm);rw[hk,hs]at hs';injection hs' with hs';subst hs';exact⟨h1,h2,h3,h4⟩
def YD(k:Int):Prop:=EK k=some ⟨2,2,1,1⟩∨EK k=some ⟨1,2,1,1⟩∨EK k=some ⟨3,4,1,1⟩
theorem qx.num{x:Im}(h:qx x){k:Int}{r:Re}(hf:dT x k=some r)(hk:YD k):r.b.length=2∨(r.d=3∧r.b.length=4):=by
 rcases hk with hk|hk|hk<;>obtain⟨h1,h2,h3,h4⟩:=h.len hf hk<;>simp only at h1 h2 h3 h4<;>omega
def cz(x:Im)(k w:Int):Int:=match dT x k with
 |none=>w
 |some r=>if r.d=2∨r.b.length % 4≠0 then(dM r.b).headD 0 else(fe r.b).headD 0
def jZ:List Int→List Dp
 |a::b::r=>⟨a,b⟩::jZ r
 |_=>[]
def bH(x:Im):List Dp:=match dT x 16 with
 |some r=>jZ (fe r.b)
 |none=>[]
def cE(x:Im):Int:=(x.f.headD default).k
def bI(x:Im):Int×Int:=match dT x 19 with
 |none=>(1,1)
 |some r=>((dM r.b).headD 0,(dM r.b).getD 1 0)
def kn(x:Im):Option (List Int):=(dT x 18).map fun r=>gK r.b
theorem xZ:∀l:List Int,(jZ l).length=l.length/2
 | []=>by simp[jZ]
 | [_]=>by simp[jZ]
 |a::b::r=>by
  have:=xZ r;simp only[jZ,aD];omega
theorem GF:∀(l:List Int) (k:Nat) (a b:Int),l[2*k]? =some a→l[2*k+1]? =some b→(jZ l)[k]? =some ⟨a,b⟩
 | [],k,a,b,h,_=>by simp at h
 | [x],k,a,b,_,h=>by
  have:=(List.getElem?_eq_some_iff.1 h).1;simp at this
 |x::y::r,0,a,b,h1,h2=>by
  simp at h1 h2;subst h1 h2;rfl
 |x::y::r,k+1,a,b,h1,h2=>by
  simp only[jZ,eS];exact GF r k a b (by simpa [fu]using h1) (by simpa [fu]using h2)
def zb(s:Sl)(l:List Dp):aC where
 p I w:=s.n=l.length∧(s.n≤s.c∧s.c≤maxLen)∧(RA s.ao (l.flatMap dY)).p I w
 up:=by
  rintro I I' w w' ⟨h1,h2,h⟩ g1 g2 g3;exact⟨h1,h2,(RA s.ao _).up h g1 g2 g3⟩
section
variable{T:Tb}{P:Program}{fin:VS→List aC→Prop}{c:fC}{Γ:List aC}
theorem MB(s:Sl){l:List Int} [h:aY (NL s) l Γ](hm:dz c.k=false)(hc:s.n=l.length→s.n≤s.c∧s.c≤9223372036854775807→(l≠ []→∃bb off,s.ao=some ⟨bb,off,none⟩)→W T P fin c Γ):W T P fin c Γ:=
 p6 (s.n=l.length∧(s.n≤s.c∧s.c≤9223372036854775807)∧(l≠ []→∃bb off,s.ao=some ⟨bb,off,none⟩)) hm (fun I w _ hh=>by
  obtain⟨h1,h2,h4⟩:=h.p hh;refine⟨h1,h2,fun hne=>?_⟩;obtain⟨bb,off,ha,_⟩:=h4 (by simpa using hne);exact⟨bb,off,ha⟩) (fun hq=>hc hq.1 hq.2.1 hq.2.2)
theorem r_(bb off n c:Nat){l:List Int} [h:aY (NL ⟨some ⟨bb,off,none⟩,n,c⟩) l Γ]{i:Nat}{z:Int}(hz:l[i]? =some z):∀I w,br T I w→aE Γ I w→w.cell? ⟨bb,off+i*1,none⟩=some (.int .i64 z):=fun I w _ hh=>by
 rw[fE];exact RA.cell (h.p hh).2.2 (by rw[bM,hz];rfl)
theorem I7(s:Sl){l:List Dp} [h:aY (zb s) l Γ](hm:dz c.k=false)(hc:s.n=l.length→s.n≤s.c∧s.c≤9223372036854775807→(l≠ []→∃bb off,s.ao=some ⟨bb,off,none⟩)→W T P fin c Γ):W T P fin c Γ:=
 p6 (s.n=l.length∧(s.n≤s.c∧s.c≤9223372036854775807)∧(l≠ []→∃bb off,s.ao=some ⟨bb,off,none⟩)) hm (fun I w _ hh=>by
  obtain⟨h1,h2,h4⟩:=h.p hh;refine⟨h1,h2,fun hne=>?_⟩;obtain⟨bb,off,ha,_⟩:=h4 (by cases l with|nil=>exact absurd rfl hne|cons a r=>simp[dY]);exact⟨bb,off,ha⟩) (fun hq=>hc hq.1 hq.2.1 hq.2.2)
theorem nL(bb off n c:Nat){l:List Dp} [h:aY (zb ⟨some ⟨bb,off,none⟩,n,c⟩) l Γ]{i:Nat}{d:Dp}(hd:l[i]? =some d):∀I w,br T I w→aE Γ I w→∀j v,(dY d)[j]? =some v→w.cell? ⟨bb,off+i*2+j,none⟩=some v:=fun I w _ hh j v hv=>by
 rw[gN];exact RA.cell (h.p hh).2.2 (eu hd j v hv)
theorem mI(u:Sl){r:Re} [h:aY (xu u) r Γ]:∀(I:fN) (w:World),br T I w→aE Γ I w→aE [BF u r.b] I w:=fun I w _ hh=>aU (h.p hh).2.2
end
section
variable{Γ:List aC}{L M:Nat}
def YC(u:Sl)(l:List Int):Prop:=u.n=l.length∧(u.n≤u.c∧u.c≤9223372036854775807)∧(l≠ []→∃bb off,u.ao=some ⟨bb,off,none⟩)
theorem JG{u:Sl}{l:List Int}{I:fN}{w:World}(h:(NL u l).p I w):YC u l:=by
 obtain⟨h1,h2,h4⟩:=h;refine⟨h1,h2,fun hne=>?_⟩;obtain⟨bb,off,ha,_⟩:=h4 (by simpa using hne);exact⟨bb,off,ha⟩
theorem A0(s:Sl){b:List Int} [h:aY (BF s) b Γ](hl:b.length≤1000000)(h4:b.length % 4=0):aw tb Tryz.prog 126 [a_ s] Γ (fun v Δ=>∃u:Sl,YC u (fe b)∧v=.tuple #[a_ u,.int .i64 0]∧Δ=[NL u (fe b)]):=by
 have:=JU (Γ:=Γ) s hl;rw[show(b.length % 4==0)=true by simpa using h4]at this;refine(pz (fun v Δ=>∃u:Sl,YC u (fe b)∧v=.tuple #[a_ u,.int .i64 0]∧Δ=[NL u (fe b)]) this ?_).post (fun _ _ h=>h.2);rintro v Δ ⟨u,rfl,rfl⟩ I w hh;exact⟨u,JG hh.h0',rfl,rfl⟩
theorem Pc(s:Sl){b:List Int} [h:aY (BF s) b Γ](hl:b.length≤1000000)(h4:¬b.length % 4=0):aw tb Tryz.prog 126 [a_ s] Γ (jf (.tuple #[.slice none 0 0,.int .i64 3])):=by
 have:=JU (Γ:=Γ) s hl;rw[show(b.length % 4==0)=false by simpa using h4]at this;exact this
theorem xV(s:Sl){b:List Int} [h:aY (BF s) b Γ](hl:b.length≤1000000)(h4:b.length % 2=0):aw tb Tryz.prog 129 [a_ s] Γ (fun v Δ=>∃u:Sl,YC u (dM b)∧v=.tuple #[a_ u,.int .i64 0]∧Δ=[NL u (dM b)]):=by
 have:=Pp (Γ:=Γ) s hl;rw[show(b.length % 2==0)=true by simpa using h4]at this;refine(pz (fun v Δ=>∃u:Sl,YC u (dM b)∧v=.tuple #[a_ u,.int .i64 0]∧Δ=[NL u (dM b)]) this ?_).post (fun _ _ h=>h.2);rintro v Δ ⟨u,rfl,rfl⟩ I w hh;exact⟨u,JG hh.h0',rfl,rfl⟩
theorem iy(f p:Sl){x:Im} [h:aY (mK f p) x Γ](k w:Int)(hx:qx x)(hk:YD k):
  aw tb Tryz.prog 127 [lO f p,.int .u8 k,.int .i64 w] Γ (jf (.int .i64 (cz x k w))):=by
 refine aw.of_W az Tryz.func127 rfl ?_;cases ho:dT x k with
 |none=>
  have e:cz x k w=w:=by unfold cz;rw[ho]
  refine aq [] (jR f p (x:=x) k hx.short ho) ?_;rintro _ _ ⟨rfl,rfl⟩;refine bk [] 18 (!false) rfl ?_;exact W.r [18] (.int .i64 w) ⟨by rw[e],rfl⟩ bR
 |some r=>
  have e:cz x k w=if r.d=2∨r.b.length % 4≠0 then(dM r.b).headD 0 else(fe r.b).headD 0:=by unfold cz;rw[ho]
  have hln:=hx.num ho hk;have hsh:=hx.short r (kA ho).1;have JB:(dM r.b)[0]? =some ((dM r.b).headD 0):=by
   have:=rL r.b;cases hq:dM r.b with
   |nil=>rw[hq]at this;simp at this;omega
   |cons a l=>rfl
  have hs1:dM r.b≠ []:=by intro e;rw[e]at JB;simp at JB
  refine aq [] (jS f p (x:=x) k hx.short ho) ?_;rintro _ _ ⟨u,rfl,rfl⟩;refine aR [] 18 (!true) rfl ?_;refine W.more (Δ:=[BF u r.b]) (by kernel_rfl) (mI u) ?_;by_cases h4:r.b.length % 4=0
  ·have hl0:(fe r.b)[0]? =some ((fe r.b).headD 0):=by
    have:=qI r.b;cases hq:fe r.b with
    |nil=>rw[hq]at this;simp at this;omega
    |cons a l=>rfl
   have hl1:fe r.b≠ []:=by intro e;rw[e]at hl0;simp at hl0
   refine aq [18] (A0 u (b:=r.b) hsh h4) ?_;rintro _ _ ⟨u2,⟨g1,g2,g3⟩,rfl,rfl⟩;have hd:r.d=3:=by omega
   rw[if_neg (by omega)]at e;refine aR [] 29 (r.d==2) (by rw[hd];decide) ?_;refine aR [29] 32 ((0:Int) != 0) (by decide) ?_;obtain⟨bb,off,ha⟩:=g3 hl1;obtain⟨ua,un,uc⟩:=u2;simp only at g1 g2 ha;subst ha;refine bY [32] 1 bb off un uc .i64 0 0 rfl az (by have:=(List.getElem?_eq_some_iff.1 hl0).1;omega) ?_;refine dB [] 1 bb (off+0*1) (.int .i64 ((fe r.b).headD 0)) az (r_ bb off un uc hl0) ?_;exact W.r [] (.int .i64 ((fe r.b).headD 0)) ⟨by rw[e],rfl⟩ bR
  ·rw[if_pos (.inr h4)]at e;have h2:r.b.length % 2=0:=by omega
   refine aq [18] (Pc u (b:=r.b) hsh h4) ?_;rintro _ _ ⟨rfl,rfl⟩;refine W.d [] 29 (r.d==2) (fun _=>?_) (fun _=>?_)
   ·refine aq [32,29] (xV u (b:=r.b) hsh h2) ?_;rintro _ _ ⟨u2,⟨g1,g2,g3⟩,rfl,rfl⟩;obtain⟨bb,off,ha⟩:=g3 hs1;obtain⟨ua,un,uc⟩:=u2;simp only at g1 g2 ha;subst ha;refine bY [] 1 bb off un uc .i64 0 0 rfl az (by have:=(List.getElem?_eq_some_iff.1 JB).1;omega) ?_;refine dB [] 1 bb (off+0*1) (.int .i64 ((dM r.b).headD 0)) az (r_ bb off un uc JB) ?_;exact W.r [] (.int .i64 ((dM r.b).headD 0)) ⟨by rw[e],rfl⟩ bR
   ·refine bk [29] 32 ((3:Int) != 0) (by decide) ?_;refine aq [32] (xV u (b:=r.b) hsh h2) ?_;rintro _ _ ⟨u2,⟨g1,g2,g3⟩,rfl,rfl⟩;obtain⟨bb,off,ha⟩:=g3 hs1;obtain⟨ua,un,uc⟩:=u2;simp only at g1 g2 ha;subst ha;refine bY [] 1 bb off un uc .i64 0 0 rfl az (by have:=(List.getElem?_eq_some_iff.1 JB).1;omega) ?_;refine dB [] 1 bb (off+0*1) (.int .i64 ((dM r.b).headD 0)) az (r_ bb off un uc JB) ?_;exact W.r [] (.int .i64 ((dM r.b).headD 0)) ⟨by rw[e],rfl⟩ bR
theorem gy(f p:Sl){x:Im} [h:aY (mK f p) x Γ](hx:qx x):aw tb Tryz.prog 81 [lO f p] Γ (jf (.int .u8 (cE x))):=by
 obtain⟨fa,fn,fc⟩:=f;refine aw.of_W az Tryz.func81 rfl ?_;refine W.more (Δ:=[kH ⟨fa,fn,fc⟩ x.f]) rfl (fun I w _ hh=>aU (h.p hh).1) ?_;refine W.len c_ dp.r ⟨fa,fn,fc⟩ rfl (fun h1 h2 h3=>?_);simp only at h1 h2 h3;have hr:x.f[0]? =some (x.f.headD default):=by
  have:=hx.1;cases hq:x.f with
  |nil=>exact absurd hq this
  |cons a l=>rfl
 refine pA ⟨fa,fn,fc⟩ hr (fun b off u ha=>?_);simp only at ha;subst ha;refine bY [] 3 b off fn fc .i64 0 0 rfl az (by have:=(List.getElem?_eq_some_iff.1 hr).1;omega) ?_;refine bW [] 0 b (off+0*3) az ?_;refine dB [] 1 b (off+0*3+0) (.int .u8 (cE x)) az (fun I w hd hh=>cB b (off+0*3) I w hd hh 0 _ rfl) ?_;exact W.r [] (.int .u8 (cE x)) ⟨rfl,rfl⟩ bR
theorem wO(f p:Sl){x:Im} [h:aY (mK f p) x Γ](hx:qx x):aw tb Tryz.prog 79 [lO f p] Γ (jf (.tuple #[.string (strOfNums ((kn x).getD [])),.bool (kn x).isSome])):=by
 refine aw.of_W az Tryz.func79 rfl ?_;unfold kn;cases ho:dT x 18 with
 |none=>
  refine aq [] (jR f p (x:=x) 18 hx.short ho) ?_;rintro _ _ ⟨rfl,rfl⟩;refine gX [] (Γ':=[BF ⟨none,0,0⟩ []]) (fun I w _ _=>aU (sQ _ _ _)) (mN ⟨none,0,0⟩ (b:=[])) ?_;rintro _ _ ⟨rfl,rfl⟩;exact W.r [] (.tuple #[.string (iA []),.bool false]) ⟨rfl,rfl⟩ bR
 |some r=>
  refine aq [] (jS f p (x:=x) 18 hx.short ho) ?_;rintro _ _ ⟨u,rfl,rfl⟩;refine gX [] (mI u) (mN u (b:=r.b)) ?_;rintro _ _ ⟨rfl,rfl⟩;exact W.r [] (.tuple #[.string (iA r.b),.bool true]) ⟨rfl,rfl⟩ bR
theorem tC(f p:Sl){x:Im} [h:aY (mK f p) x Γ](hx:qx x):aw tb Tryz.prog 83 [lO f p] Γ (jf (.tuple #[.int .i64 (bI x).1,.int .i64 (bI x).2])):=by
 refine aw.of_W az Tryz.func83 rfl ?_;cases ho:dT x 19 with
 |none=>
  have e:bI x=(1,1):=by unfold bI;rw[ho]
  refine aq [] (jR f p (x:=x) 19 hx.short ho) ?_;rintro _ _ ⟨rfl,rfl⟩;refine bk [] 14 (!false) rfl ?_;exact W.r [14] (.tuple #[.int .i64 1,.int .i64 1]) ⟨by rw[e],rfl⟩ bR
 |some r=>
  have hsh:=hx.short r (kA ho).1;obtain⟨_,l1,l2,l3⟩:=hx.len ho (s:=⟨2,4,1,1⟩) rfl;simp only at l1 l2 l3;have hs:(dM r.b).length=2:=by rw[rL];omega
  obtain⟨a,b,hab⟩:∃a b,dM r.b=[a,b]:=by
   match hq:dM r.b,hs with
   | [a,b],_=>exact⟨a,b,rfl⟩
  have e:bI x=(a,b):=by unfold bI;rw[ho];simp[hab]
  refine aq [] (jS f p (x:=x) 19 hx.short ho) ?_;rintro _ _ ⟨u,rfl,rfl⟩;refine aR [] 14 (!true) rfl ?_;refine W.more (Δ:=[BF u r.b]) (by kernel_rfl) (mI u) ?_;refine aq [14] (xV u (b:=r.b) hsh (by omega)) ?_;rintro _ _ ⟨u2,⟨g1,g2,g3⟩,rfl,rfl⟩;rw[hab]at g1 g3⊢;obtain⟨bb,off,ha⟩:=g3 (by simp);obtain⟨ua,un,uc⟩:=u2;simp only[aD,bh]at g1 g2 ha;subst ha;refine bY [] 1 bb off un uc .i64 0 0 rfl az (by omega) ?_;refine dB [] 1 bb (off+0*1) (.int .i64 a) az (r_ bb off un uc (l:=[a,b]) rfl) ?_;refine bY [] 1 bb off un uc .i64 1 1 rfl az (by omega) ?_;refine dB [] 1 bb (off+1*1) (.int .i64 b) az (r_ bb off un uc (l:=[a,b]) rfl) ?_;exact W.r [] (.tuple #[.int .i64 a,.int .i64 b]) ⟨by rw[e],rfl⟩ bR
theorem Pm(f p:Sl){x:Im} [h:aY (mK f p) x Γ](hx:qx x):aw tb Tryz.prog 80 [lO f p] Γ (fun v Δ=>∃u:Sl,v=a_ u∧Δ=[zb u (bH x)]):=by
 refine aw.of_W az Tryz.func80 rfl ?_;cases ho:dT x 16 with
 |none=>
  have e:bH x=[]:=by unfold bH;rw[ho]
  rw[e];refine aq [] (jR f p (x:=x) 16 hx.short ho) ?_;rintro _ _ ⟨rfl,rfl⟩;refine gX [] (Γ':=[BF ⟨none,0,0⟩ []]) (fun I w _ _=>aU (sQ _ _ _)) (A0 ⟨none,0,0⟩ (b:=[]) (by decide) (by decide)) ?_;rintro _ _ ⟨u2,⟨g1,g2,g3⟩,rfl,rfl⟩;have hu0:u2.n=0:=g1;refine jP [] 1 ?_;refine aR [] 24 (decide (IntKind.i64.wrap (0+1)<(u2.n:Int))) (by rw[hu0];decide) ?_;exact W.r [24] (.slice none 0 0) ⟨⟨none,0,0⟩,rfl,rfl⟩ (fun I w _ _=>aU ⟨rfl,⟨aj _,aJ _⟩,RA.nil _ _ _⟩)
 |some r=>
  have hsh:=pR (hx.2 r (kA ho).1);obtain⟨_,l1,l2,l3⟩:=hx.len ho (s:=⟨3,8,1,8191⟩) rfl;simp only at l1 l2 l3;have hln:=qI r.b;refine aq [] (jS f p (x:=x) 16 hx.short ho) ?_;rintro _ _ ⟨u,rfl,rfl⟩;refine gX [] (mI u) (A0 u (b:=r.b) (by omega) (by omega)) ?_;rintro _ _ ⟨u2,⟨g1,g2,g3⟩,rfl,rfl⟩;obtain⟨l,hl⟩:∃l,fe r.b=l:=⟨_,rfl⟩;have e:bH x=jZ l:=by unfold bH;rw[ho,←hl]
  rw[hl]at hln g1 g3⊢;rw[e];have hpl:=xZ l;refine gO [] [7,8] (fun a:Ta=>[(7,a.v),(8,.int .i64 a.z)]) (fun _=>[]) (fun a=>a.O) (fun _=>[NL u2 l]) (fun a=>a.z=2*(a.i:Int)∧2*a.i≤l.length∧cH 2 a.O a.v a.i (((jZ l).take a.i).flatMap dY)) (fun a=>l.length-2*a.i) ⟨0,0,.slice none 0 0,[]⟩ ⟨rfl,aJ _,cH.nil 2⟩ (eC eK eE) ?_;rintro⟨i,z,v,O⟩ K ⟨hz,hi,hg⟩ close;simp only at hz hi hg;by_cases hlt:2*i+1<l.length
  ·obtain⟨a,ha⟩:∃x,l[2*i]? =some x:=⟨_,ak (by omega)⟩;obtain⟨b,hb⟩:∃x,l[2*i+1]? =some x:=⟨_,ak hlt⟩;obtain⟨bb,off,hao⟩:=g3 (by rintro rfl;simp at hlt);obtain⟨ua,un,uc⟩:=u2;simp only at g1 g2 hao;subst hao;refine bk [] 24 (decide (IntKind.i64.wrap (z+1)<(un:Int))) (ar (by rw[af];omega)) ?_;refine bY [24] 1 bb off un uc .i64 (2*i) z (by omega) az (by omega) ?_;refine dB [] 1 bb (off+2*i*1) (.int .i64 a) az (r_ bb off un uc ha) ?_;refine bY [] 1 bb off un uc .i64 (2*i+1) (IntKind.i64.wrap (z+1)) (by rw[af];omega) az (by omega) ?_;refine dB [] 1 bb (off+(2*i+1)*1) (.int .i64 b) az (r_ bb off un uc hb) ?_;refine cQ [] 1 (dY ⟨a,b⟩) az (fun B=>?_);refine W.app [] O [] O [] 2 16 i 1 v (.slice (some ⟨B,0,none⟩) 1 1) (((jZ l).take i).flatMap dY) (dY ⟨a,b⟩) az (by simp) hg (b_ B O 1 2 rfl 1) (p9 _) (by omega) (by decide) (fun v' O' hg'=>?_);refine close [] _ _ ⟨i+1,IntKind.i64.wrap (z+2),v',O'⟩ (by kernel_rfl) (by simp only[aB,ah];kernel_rfl) ⟨by simp only[af];omega,by simp only;omega,cH.cast ?_ rfl hg'⟩ (by simp only;omega) (eC eK eE);rw[lq (GF l i a b ha hb),bB];simp
  ·refine aR [] 24 (decide (IntKind.i64.wrap (z+1)<(u2.n:Int))) (ai (by rw[af];omega)) ?_;have hi2:i=(jZ l).length:=by omega
   rw[aS (by omega)]at hg;refine lJ (by simp only[aB,ah];kernel_rfl) hg (fun ao c' hv hc'=>?_);subst hv;have hcm:c'≤maxLen:=oM hg;refine W.r [24] (.slice ao i c') ⟨⟨ao,i,c'⟩,rfl,rfl⟩ (fun I w _ hh=>aU (show(zb ⟨ao,i,c'⟩ (jZ l)).p I w from⟨hi2,⟨hc',hcm⟩,aY.p (k:=RA ao) (a:=(jZ l).flatMap dY) inferInstance hh⟩))
end
abbrev PO(pb:Nat)(sl:Sl)(cI:Nat):List (Nat×List Value):=[(pb,[a_ sl,.int .i64 cI])]
abbrev fg(b:Nat):Value:=.pointer (some ⟨b,0,none⟩)
abbrev yg:Value:=.iface 149 (.agg #[])
abbrev rN(B:Prop):Tb:=tbM [122,123,121,183,124,182,73] B yg
theorem aQ(B:Prop):(rN B).Ok Tryz.prog:=aaP _ B yg
def Xq(ks:List Int)(l:List Re):Bool:=match l with
 |r::_=>ks.contains r.k
 | []=>false
theorem uD(k:Int)(l:List Re):Xq [k] l=dN k l:=by
 cases l with
 |nil=>rfl
 |cons r m=>
  by_cases h:r.k=k<;>simp[Xq,dN,h]
section
variable{T:Tb}{P:Program}{fin:VS→List aC→Prop}{c:fC}{Γ:List aC}
theorem W.pan(D:List Nat)(n:Nat)(v:Value)(hp:T.pan [{v,recovered:=false}])(hh:NI T (aZ T D n c))(h:wW T (aZ T D n c)=some v:=by kernel_rfl):W T P fin c Γ:=
 eg D n (.panic v h hp hh)
end
theorem Bj{k:Int}{rs:List Re}{i:Nat}{r:Re}(h:rs[i]? =some r):gY k (rs.drop i)=if r.k=k∧gp r=true then some (r,rs.drop (i+1))else none:=by
 rw[show rs.drop i=r::rs.drop (i+1)from by
  have:=(List.getElem?_eq_some_iff.1 h);obtain⟨h1,h2⟩:=this;rw[bz h1,h2]]
 rfl
theorem G0{ks:List Int}{rs:List Re}{i:Nat}{r:Re}(h:rs[i]? =some r):Xq ks (rs.drop i)=ks.contains r.k:=by
 rw[show rs.drop i=r::rs.drop (i+1)from by
  have:=(List.getElem?_eq_some_iff.1 h);obtain⟨h1,h2⟩:=this;rw[bz h1,h2]]
 rfl
section
variable{Γ:List aC}
theorem OX(b n:Nat){ks:List Int}(k:Int) [h:aY (d_ b) (ks.map (Value.int .u8)) Γ](hn:n=ks.length)(hn2:n≤8191):
  aw tb Tryz.prog 228 [.slice (some ⟨b,0,none⟩) n n,.int .u8 k] Γ (fun v Δ=>∃z:Int,v=.int .i64 z∧Δ=[]∧decide (z≥0)=ks.contains k):=by
 refine aw.of_W az Tryz.func228 rfl ?_;refine yZ [] [8] (fun a:Nat×Int=>[(8,.int .i64 a.2)]) (fun _=>[]) (fun _=>[d_ b (ks.map (Value.int .u8))]) (fun a=>a.2=a.1∧a.1≤n∧∀i (h:i<ks.length),i<a.1→ks[i]'h≠k) (fun a=>n-a.1) (0,0) ⟨rfl,aJ _,fun i _ h=>by omega⟩ (eC eK eE) ?_;rintro⟨i,z⟩ K ⟨hz,hi,fI⟩ close;simp only at hz hi fI;by_cases hlt:i<n
 ·have hil:i<ks.length:=by omega
  refine bk [] 9 (decide (z<(n:Int))) (ar (by omega)) ?_;refine bY [9] 1 b 0 n n .i64 i z hz az hlt ?_;refine dB [] 1 b (0+i*1) (.int .u8 (ks[i]'hil)) az (fun I w _ hh=>by
   have:=aY.p (k:=d_ b) (a:=ks.map (Value.int .u8)) inferInstance hh;exact RA.cell (RA.of_row this (fun _ _ q=>q)) (by rw[fE,bM,ak hil];rfl)) ?_
  refine W.d [] 16 (k==ks[i]'hil) (fun hb=>?_) (fun hb=>?_)
  ·refine W.r [16] (.int .i64 z) ⟨z,rfl,rfl,?_⟩ bR;rw[ar (by omega),eq_of_beq hb];exact(List.contains_iff_mem.2 (dS hil)).symm
  ·refine close [16] _ _ (i+1,IntKind.i64.wrap (z+1)) (by kernel_rfl) (by kernel_rfl) ⟨by simp only[af];omega,hlt,fun j hj zp=>?_⟩ (by simp only;omega) (eC eK eE);by_cases hj2:j<i
   ·exact fI j hj hj2
   ·obtain rfl:j=i:=by simp only at zp;omega
    exact fun e=>j_ hb e.symm
 ·refine aR [] 9 (decide (z<(n:Int))) (ai (by omega)) ?_;refine W.r [9] (.int .i64 (-1)) ⟨-1,rfl,rfl,?_⟩ bR;cases hc:ks.contains k with
  |false=>rfl
  |true=>
   obtain⟨j,hj,he⟩:=List.getElem_of_mem (List.contains_iff_mem.1 hc);exact absurd he (fI j hj (by omega))
theorem Gy(b n:Nat){ks:List Int}(k:Int) [h:aY (d_ b) (ks.map (Value.int .u8)) Γ](hn:n=ks.length)(hn2:n≤8191):
  aw tb Tryz.prog 179 [.slice (some ⟨b,0,none⟩) n n,.int .u8 k] Γ (jf (.bool (ks.contains k))):=by
 refine aw.of_W az Tryz.func179 rfl ?_;refine aq [] (OX b n (ks:=ks) k hn hn2) ?_;rintro _ _ ⟨z,rfl,rfl,hz⟩;exact W.r [] (.bool (decide (z≥0))) ⟨by rw[hz],rfl⟩ bR
theorem rD(B:Prop)(pb:Nat)(sl:Sl)(cI kb n:Nat){rs:List Re}{ks:List Int} [h:aY (kH sl) rs Γ] [h2:aY (d_ kb) (ks.map (Value.int .u8)) Γ](hn:n=ks.length)(hn2:n≤8191):
  dj (rN B) Tryz.prog 122 [fg pb,.slice (some ⟨kb,0,none⟩) n n] (PO pb sl cI) [] Γ (fun v O M Δ=>v=.bool (Xq ks (rs.drop cI))∧O=PO pb sl cI∧M=[]∧Δ=[]):=by
 refine dj.of_W (aQ B) Tryz.func122 rfl ?_;obtain⟨sa,sn,sc⟩:=sl;refine W.len c_ dp.r ⟨sa,sn,sc⟩ rfl (fun h1 h2 h3=>?_);simp only at h1 h2 h3;by_cases hlt:cI<sn
 ·obtain⟨r,hr⟩:∃r,rs[cI]? =some r:=⟨_,ak (by omega)⟩;refine pA ⟨sa,sn,sc⟩ hr (fun b off u ha=>?_);simp only at ha;subst ha;refine bW [] 1 pb 0 (aQ B) ?_;refine dK [] (PO pb ⟨some ⟨b,off,none⟩,sn,sc⟩ cI) pb (0+1) 1 [.slice (some ⟨b,off,none⟩) sn sc,.int .i64 cI] (.int .i64 cI) (aQ B) (.head _) rfl ?_;refine bW [] 0 pb 0 (aQ B) ?_;refine dK [] (PO pb ⟨some ⟨b,off,none⟩,sn,sc⟩ cI) pb (0+0) 1 [.slice (some ⟨b,off,none⟩) sn sc,.int .i64 cI] (.slice (some ⟨b,off,none⟩) sn sc) (aQ B) (.head _) rfl ?_;refine bk [] 15 (decide ((cI:Int)<(sn:Int))) (ar (by omega)) ?_;refine bW [15] 0 pb 0 (aQ B) ?_;refine dK [15] (PO pb ⟨some ⟨b,off,none⟩,sn,sc⟩ cI) pb (0+0) 1 [.slice (some ⟨b,off,none⟩) sn sc,.int .i64 cI] (.slice (some ⟨b,off,none⟩) sn sc) (aQ B) (.head _) rfl ?_;refine bW [15] 1 pb 0 (aQ B) ?_;refine dK [15] (PO pb ⟨some ⟨b,off,none⟩,sn,sc⟩ cI) pb (0+1) 1 [.slice (some ⟨b,off,none⟩) sn sc,.int .i64 cI] (.int .i64 cI) (aQ B) (.head _) rfl ?_;refine bY [15] 3 b off sn sc .i64 cI cI rfl (aQ B) hlt ?_;refine bW [15] 0 b (off+cI*3) (aQ B) ?_;refine dB [15] 1 b (off+cI*3+0) (.int .u8 r.k) (aQ B) (fun I w hd hh=>cB (T:=rN B) b (off+cI*3) I w hd hh 0 _ rfl) ?_;refine aq [15] (Gy kb n (ks:=ks) r.k hn hn2).m ?_;rintro _ _ ⟨rfl,rfl⟩;exact jO [15] (.bool (ks.contains r.k)) (PO pb ⟨some ⟨b,off,none⟩,sn,sc⟩ cI) [] ⟨by rw[G0 hr],rfl,rfl,rfl⟩ bR
 ·refine bW [] 1 pb 0 (aQ B) ?_;refine dK [] (PO pb ⟨sa,sn,sc⟩ cI) pb (0+1) 1 [.slice sa sn sc,.int .i64 cI] (.int .i64 cI) (aQ B) (.head _) rfl ?_;refine bW [] 0 pb 0 (aQ B) ?_;refine dK [] (PO pb ⟨sa,sn,sc⟩ cI) pb (0+0) 1 [.slice sa sn sc,.int .i64 cI] (.slice sa sn sc) (aQ B) (.head _) rfl ?_;refine aR [] 15 (decide ((cI:Int)<(sn:Int))) (ai (by omega)) ?_;exact jO [15] (.bool false) (PO pb ⟨sa,sn,sc⟩ cI) [] ⟨by rw[bp (by omega)];rfl,rfl,rfl,rfl⟩ bR
def UO(k:Int)(pb:Nat)(sl:Sl)(cI:Nat)(rs:List Re)(v:Value)(O:List (Nat×List Value))(M:List (Nat×List (Value×Value)))(Δ:List aC):Prop:=
 ∃(r:Re) (u:Sl),gY k (rs.drop cI)=some (r,rs.drop (cI+1))∧v=rev r u∧O=PO pb sl (cI+1)∧M=[]∧Δ=[xu u r]
theorem lS(B:Prop)(pb:Nat)(sl:Sl)(cI:Nat)(k:Int){rs:List Re} [h:aY (kH sl) rs Γ](hB:gY k (rs.drop cI)=none→B):
  dj (rN B) Tryz.prog 123 [fg pb,.int .u8 k] (PO pb sl cI) [] Γ (UO k pb sl cI rs):=by
 refine dj.of_W (aQ B) Tryz.func123 rfl ?_;obtain⟨sa,sn,sc⟩:=sl;refine W.len c_ dp.r ⟨sa,sn,sc⟩ rfl (fun h1 h2 h3=>?_);simp only at h1 h2 h3;by_cases hlt:cI<sn
 ·obtain⟨r,hr⟩:∃r,rs[cI]? =some r:=⟨_,ak (by omega)⟩;rw[Bj hr]at hB;refine pA ⟨sa,sn,sc⟩ hr (fun b off u ha=>?_);simp only at ha;subst ha;refine cQ [] 1 [.int .u8 k] (aQ B) (fun kb=>?_);refine cX [] [] (PO pb ⟨some ⟨b,off,none⟩,sn,sc⟩ cI) [] [] [] [] ⟨rfl,by rfl,trivial⟩ (rD B pb ⟨some ⟨b,off,none⟩,sn,sc⟩ cI kb 1 (rs:=rs) (ks:=[k]) rfl (by decide)) ?_;rintro _ _ _ _ ⟨rfl,rfl,rfl,rfl⟩;rw[G0 hr];by_cases hk:r.k=k
  ·refine aR [] 11 (![k].contains r.k) (by simp[hk]) ?_;refine bW [11] 0 pb 0 (aQ B) ?_;refine dK [11] (PO pb ⟨some ⟨b,off,none⟩,sn,sc⟩ cI) pb (0+0) 1 [.slice (some ⟨b,off,none⟩) sn sc,.int .i64 cI] (.slice (some ⟨b,off,none⟩) sn sc) (aQ B) (.head _) rfl ?_;refine bW [11] 1 pb 0 (aQ B) ?_;refine dK [11] (PO pb ⟨some ⟨b,off,none⟩,sn,sc⟩ cI) pb (0+1) 1 [.slice (some ⟨b,off,none⟩) sn sc,.int .i64 cI] (.int .i64 cI) (aQ B) (.head _) rfl ?_;refine bY [11] 3 b off sn sc .i64 cI cI rfl (aQ B) hlt ?_;refine cY [11] b (off+cI*3) [.int .u8 r.k,.int .u8 r.d,a_ u] (aQ B) (cB b (off+cI*3)) ?_;refine aq [11] (Po u r).m ?_;rintro _ _ ⟨rfl,rfl⟩;by_cases hg:gp r=true
   ·refine aR [11] 24 (!gp r) (by rw[hg];rfl) ?_;have hsh:=pR hg;have hw:IntKind.i64.wrap ((cI:Int)+1)=((cI+1:Nat):Int):=by rw[af];omega
    refine bW [24] 1 pb 0 (aQ B) ?_;refine dK [] (PO pb ⟨some ⟨b,off,none⟩,sn,sc⟩ cI) pb (0+1) 1 [.slice (some ⟨b,off,none⟩) sn sc,.int .i64 cI] (.int .i64 cI) (aQ B) (.head _) rfl ?_;refine bW [] 1 pb 0 (aQ B) ?_;refine nE [] (PO pb ⟨some ⟨b,off,none⟩,sn,sc⟩ cI) [] [] 1 pb (0+1) [.slice (some ⟨b,off,none⟩) sn sc,.int .i64 cI] (.int .i64 (IntKind.i64.wrap ((cI:Int)+1))) [.slice (some ⟨b,off,none⟩) sn sc,.int .i64 ((cI+1:Nat):Int)] (aQ B) rfl rfl (JM _ _) (aj _) (by rw[hw];rfl) ?_;refine bW [] 0 pb 0 (aQ B) ?_;refine dK [] (PO pb ⟨some ⟨b,off,none⟩,sn,sc⟩ (cI+1)) pb (0+0) 1 [.slice (some ⟨b,off,none⟩) sn sc,.int .i64 ((cI+1:Nat):Int)] (.slice (some ⟨b,off,none⟩) sn sc) (aQ B) (.head _) rfl ?_;refine bW [] 1 pb 0 (aQ B) ?_;refine dK [] (PO pb ⟨some ⟨b,off,none⟩,sn,sc⟩ (cI+1)) pb (0+1) 1 [.slice (some ⟨b,off,none⟩) sn sc,.int .i64 ((cI+1:Nat):Int)] (.int .i64 ((cI+1:Nat):Int)) (aQ B) (.head _) rfl ?_;refine bY [] 3 b off sn sc .i64 cI (IntKind.i64.wrap (((cI+1:Nat):Int)-1)) (by rw[af];omega) (aQ B) hlt ?_;refine cY [] b (off+cI*3) [.int .u8 r.k,.int .u8 r.d,a_ u] (aQ B) (cB b (off+cI*3)) ?_;refine gX [] (mI u (r:=r)) (JR u (b:=r.b) (by omega)).m ?_;rintro _ _ ⟨u2,rfl,rfl⟩;refine jO [] (rev r u2) (PO pb ⟨some ⟨b,off,none⟩,sn,sc⟩ (cI+1)) [] ⟨r,u2,by rw[Bj hr,if_pos ⟨hk,hg⟩],rfl,rfl,rfl,rfl⟩ (fun I w _ hh=>?_)
    have g:=aY.p (k:=xu u) (a:=r) inferInstance hh;exact aU ⟨g.1,g.2.1,aY.p (k:=BF u2) (a:=r.b) inferInstance hh⟩
   ·refine bk [11] 24 (!gp r) (by simpa using hg) ?_;exact W.pan [24] 1 yg ⟨hB (by rw[if_neg (fun q=>hg q.2)]),rfl⟩ ⟨[],trivial,fun x hx=>by simp at hx⟩
  ·refine bk [] 11 (![k].contains r.k) (by simp[hk]) ?_;refine bk [11] 24 true rfl ?_;exact W.pan [24] 1 yg ⟨hB (by rw[if_neg (fun q=>hk q.1)]),rfl⟩ ⟨[],trivial,fun x hx=>by simp at hx⟩
 ·have hd:rs.drop cI=[]:=bp (by omega);refine cQ [] 1 [.int .u8 k] (aQ B) (fun kb=>?_);refine cX [] [] (PO pb ⟨sa,sn,sc⟩ cI) [] [] [] [] ⟨rfl,by rfl,trivial⟩ (rD B pb ⟨sa,sn,sc⟩ cI kb 1 (rs:=rs) (ks:=[k]) rfl (by decide)) ?_;rintro _ _ _ _ ⟨rfl,rfl,rfl,rfl⟩;rw[hd];refine bk [] 11 (!Xq [k] []) rfl ?_;refine bk [11] 24 true rfl ?_;exact W.pan [24] 1 yg ⟨hB (by rw[hd];rfl),rfl⟩ ⟨[],trivial,fun x hx=>by simp at hx⟩
end
def iG(v:Value)(es:List dp):aC where
 p I w:=(OS c_ (0,es)).p I w
 up:=(OS c_ (0,es)).up
def I3(p:nu (List Re))(N:Nat)(pb:Nat)(sl:Sl)(cI:Nat)(rs:List Re)(v:Value)(O:List (Nat×List Value))(M:List (Nat×List (Value×Value)))(Δ:List aC):Prop:=
 ∃(es:List dp) (yl:Nat) (Or:List (Nat×List Value)),p (rs.drop cI)=some (es.map dp.r,rs.drop yl)∧cI≤yl∧es.length≤N∧O=PO pb sl yl++Or∧cH 3 Or v es.length (es.flatMap c_.cells)∧M=[]∧Δ=[iG v es]
structure RSt where
 i:Nat
 z:Int
 v:Value
 O:List (Nat×List Value)
 a:Nat
 es:List dp
theorem SJ(es:List dp):(es.flatMap c_.cells).length=es.length*3:=pS c_ es
theorem Bm{k:Int}{ks:List Int}{l:List Re}(h:k<256∨dN (k % 256) l=true):dC (k::ks) l=match gY (k % 256) l with
  |some (r,m)=>(match dC ks m with
   |some (rs,m')=>some (r::rs,m')
   |none=>none)
  |none=>none:=by
 rw[dC,if_pos h];rfl
theorem LJ{k:Int}{ks:List Int}{l:List Re}(h:¬(k<256∨dN (k % 256) l=true)):dC (k::ks) l=dC ks l:=by
 rw[dC,if_neg h]
theorem ib{α:Type}{l:List α}{i:Nat}{a:α}(h:l[i]? =some a):l.drop i=a::l.drop (i+1):=by
 obtain⟨h1,h2⟩:=List.getElem?_eq_some_iff.1 h;rw[bz h1,h2]
section
variable{T:Tb}{Γ:List aC}
theorem OQ:∀(I:fN) (w:World),br T I w→aE Γ I w→(OS c_ (0,[])).p I w:=fun I w _ _ e he=>by simp at he
theorem JQ{es:List dp}(u:Sl){r:Re} [h1:aY (OS c_) (0,es) Γ] [h2:aY (xu u) r Γ]:∀(I:fN) (w:World),br T I w→aE Γ I w→(OS c_ (0,es++[⟨u,r⟩])).p I w:=fun I w _ hh e he=>by
 rcases List.mem_append.1 he with he|he
 ·exact h1.p hh e he
 ·simp only[aH,aI,bU]at he;subst he;exact h2.p hh
end
section
variable{Γ:List aC}
set_option maxHeartbeats 1000000 in
theorem lT(B:Prop)(pb:Nat)(sl:Sl)(cI kb n:Nat){rs:List Re}{ks:List Int} [h:aY (kH sl) rs Γ] [h2:aY (d_ kb) (ks.map (Value.int .i64)) Γ](hn:n=ks.length)(hn2:n≤1000)(hB:dC ks (rs.drop cI)=none→B):
  dj (rN B) Tryz.prog 121 [fg pb,.slice (some ⟨kb,0,none⟩) n n] (PO pb sl cI) [] Γ (I3 (dC ks) n pb sl cI rs):=by
 refine dj.of_W (aQ B) Tryz.func121 rfl ?_;refine gO [] [5,10] (fun a:RSt=>[(5,a.v),(10,.int .i64 a.z)]) (fun _=>[]) (fun a=>PO pb sl a.a++a.O) (fun a=>[kH sl rs,d_ kb (ks.map (Value.int .i64)),OS c_ (0,a.es)]) (fun a=>a.z=a.i∧a.i≤n∧cI≤a.a∧a.es.length≤a.i∧cH 3 a.O a.v a.es.length (a.es.flatMap c_.cells)∧dC ks (rs.drop cI)=(match dC (ks.drop a.i) (rs.drop a.a)with
   |some (x,m)=>some (a.es.map dp.r++x,m)
   |none=>none)) (fun a=>n-a.i) ⟨0,0,.slice none 0 0,[],cI,[]⟩ ⟨rfl,aJ _,aj _,aJ _,cH.nil 3,by
    simp only[gT,dA,aB];cases dC ks (rs.drop cI)<;>rfl⟩ (eC eK (eC eK (eC OQ eE))) ?_
 rintro⟨i,z,v,O,a,es⟩ K ⟨hz,hi,ha,hes,hg,hp⟩ close;simp only at hz hi ha hes hg hp;by_cases hlt:i<n
 ·obtain⟨k,hk⟩:∃k,ks[i]? =some k:=⟨_,ak (by omega)⟩;rw[ib hk]at hp;have hw:IntKind.u8.wrap k=k % 256:=l9 k;refine bk [] 11 (decide (z<(n:Int))) (ar (by omega)) ?_;refine bY [11] 1 kb 0 n n .i64 i z hz (aQ B) hlt ?_;refine dB [] 1 kb (0+i*1) (.int .i64 k) (aQ B) (fun I w _ hh=>by
   have:=aY.p (k:=d_ kb) (a:=ks.map (Value.int .i64)) inferInstance hh;exact RA.cell (RA.of_row this (fun _ _ q=>q)) (by rw[fE,bM,hk];rfl)) ?_
  have uZ:(k<256∨dN (k % 256) (rs.drop a)=true)→∀(D:List Nat) (c:fC),True:=fun _ _ _=>trivial;by_cases RG:k<256
  ·have Ib:=Bm (ks:=ks.drop (i+1)) (l:=rs.drop a) (k:=k) (.inl RG);refine bk [] 16 (decide (k<256)) (ar RG) ?_;refine bW [24,16] 0 pb 0 (aQ B) ?_;refine cX [] [] (PO pb sl a) O [] [] [] ⟨rfl,by rfl,trivial⟩ (lS B pb sl a (IntKind.u8.wrap k) (rs:=rs) (fun p_=>hB (by rw[hw]at p_;rw[hp,Ib,p_]))) ?_;rintro _ _ _ _ ⟨r,u,hm,rfl,rfl,rfl,rfl⟩;rw[hw]at hm;rw[Ib,hm]at hp;refine cQ [] 1 [.int .u8 r.k,.int .u8 r.d,a_ u] (aQ B) (fun b5=>?_);refine W.app [] (PO pb sl (a+1)++O) (PO pb sl (a+1)) O [] 3 32 es.length 1 v (.slice (some ⟨b5,0,none⟩) 1 1) (es.flatMap c_.cells) [.int .u8 r.k,.int .u8 r.d,a_ u] (aQ B) (by simp) hg (b_ b5 _ 1 3 rfl 1) (by simp[Value.oneCell']) (by omega) (by decide) (fun v' O' hg'=>?_);refine close [] _ _ ⟨i+1,IntKind.i64.wrap (z+1),v',O',a+1,es++[⟨u,r⟩]⟩ (by kernel_rfl) (by simp only[ah];kernel_rfl) ⟨by simp only[af];omega,hlt,by simp only;omega,by simp only[aA,aD,bh];omega,cH.cast (by simp[c_]) (by simp) hg',?_⟩ (by simp only;omega) (eC eK (eC eK (eC (JQ u) eE)));rw[hp];simp only;cases dC (ks.drop (i+1)) (rs.drop (a+1))with
   |none=>rfl
   |some q=>simp
  ·refine aR [] 16 (decide (k<256)) (ai RG) ?_;refine bW [16] 0 pb 0 (aQ B) ?_;refine cQ [16] 1 [.int .u8 (IntKind.u8.wrap k)] (aQ B) (fun b7=>?_);refine cX [16] [] (PO pb sl a) O [] [] [] ⟨rfl,by rfl,trivial⟩ (rD B pb sl a b7 1 (rs:=rs) (ks:=[IntKind.u8.wrap k]) rfl (by decide)) ?_;rintro _ _ _ _ ⟨rfl,rfl,rfl,rfl⟩;rw[uD,hw];by_cases hs:dN (k % 256) (rs.drop a)=true
   ·have Ib:=Bm (ks:=ks.drop (i+1)) (l:=rs.drop a) (k:=k) (.inr hs);refine bk [16] 24 (dN (k % 256) (rs.drop a)) hs ?_;refine bW [24] 0 pb 0 (aQ B) ?_;refine cX [] [] (PO pb sl a) O [] [] [] ⟨rfl,by rfl,trivial⟩ (lS B pb sl a (IntKind.u8.wrap k) (rs:=rs) (fun p_=>hB (by rw[hw]at p_;rw[hp,Ib,p_]))) ?_;rintro _ _ _ _ ⟨r,u,hm,rfl,rfl,rfl,rfl⟩;rw[hw]at hm;rw[Ib,hm]at hp;refine cQ [] 1 [.int .u8 r.k,.int .u8 r.d,a_ u] (aQ B) (fun b5=>?_);refine W.app [] (PO pb sl (a+1)++O) (PO pb sl (a+1)) O [] 3 32 es.length 1 v (.slice (some ⟨b5,0,none⟩) 1 1) (es.flatMap c_.cells) [.int .u8 r.k,.int .u8 r.d,a_ u] (aQ B) (by simp) hg (b_ b5 _ 1 3 rfl 1) (by simp[Value.oneCell']) (by omega) (by decide) (fun v' O' hg'=>?_);refine close [] _ _ ⟨i+1,IntKind.i64.wrap (z+1),v',O',a+1,es++[⟨u,r⟩]⟩ (by kernel_rfl) (by simp only[ah];kernel_rfl) ⟨by simp only[af];omega,hlt,by simp only;omega,by simp only[aA,aD,bh];omega,cH.cast (by simp[c_]) (by simp) hg',?_⟩ (by simp only;omega) (eC eK (eC eK (eC (JQ u) eE)));rw[hp];simp only;cases dC (ks.drop (i+1)) (rs.drop (a+1))with
    |none=>rfl
    |some q=>simp
   ·have Z2:=LJ (ks:=ks.drop (i+1)) (l:=rs.drop a) (k:=k) (fun q=>q.elim RG hs);refine aR [16] 24 (dN (k % 256) (rs.drop a)) (by simpa using hs) ?_;refine close [24] _ _ ⟨i+1,IntKind.i64.wrap (z+1),v,O,a,es⟩ (by kernel_rfl) (by kernel_rfl) ⟨by simp only[af];omega,hlt,ha,by simp only;omega,hg,by rw[hp,Z2]⟩ (by simp only;omega) (eC eK (eC eK (eC eK eE)))
 ·refine aR [] 11 (decide (z<(n:Int))) (ai (by omega)) ?_;refine jO [11] v (PO pb sl a++O) [] ⟨es,a,O,?_,ha,by omega,rfl,hg,rfl,rfl⟩ (eC (fun I w hd hh=>eK (k:=OS c_) (a:=(0,es)) I w hd hh) eE);rw[hp,bp (by omega)];simp[dC]
theorem Eg(B:Prop)(pb:Nat)(sl:Sl)(cI:Nat){rs:List Re} [h:aY (kH sl) rs Γ](hB:j0 (rs.drop cI)=none→B):
  dj (rN B) Tryz.prog 183 [fg pb] (PO pb sl cI) [] Γ (I3 j0 3 pb sl cI rs):=by
 refine dj.of_W (aQ B) Tryz.func183 rfl ?_;refine bW [] 0 pb 0 (aQ B) ?_;refine cQ [] 1 [.int .u8 26] (aQ B) (fun b1=>?_);refine cX [] [] (PO pb sl cI) [] [] [] [] ⟨rfl,by rfl,trivial⟩ (rD B pb sl cI b1 1 (rs:=rs) (ks:=[26]) rfl (by decide)) ?_;rintro _ _ _ _ ⟨rfl,rfl,rfl,rfl⟩;rw[uD];by_cases hs:dN 26 (rs.drop cI)=true
 ·have ht:j0 (rs.drop cI)=dC [26,283,284] (rs.drop cI):=by unfold j0;rw[if_pos hs]
  rw[ht]at hB;refine aR [] 8 (!dN 26 (rs.drop cI)) (by rw[hs];rfl) ?_;refine cQ [8] 3 [.int .i64 26,.int .i64 283,.int .i64 284] (aQ B) (fun b3=>?_);refine cX [] [] (PO pb sl cI) [] [] [] [] ⟨rfl,by rfl,trivial⟩ (lT B pb sl cI b3 3 (rs:=rs) (ks:=[26,283,284]) rfl (by decide) hB) ?_;rintro v _ _ _ ⟨es,a,O,hp,ha,hl,rfl,hg,rfl,rfl⟩;exact jO [] v (PO pb sl a++O) [] (ho:=(by simp only[aB,ah];kernel_rfl)) ⟨es,a,O,by rw[ht];exact hp,ha,hl,rfl,hg,rfl,rfl⟩ (eC eK eE)
 ·refine bk [] 8 (!dN 26 (rs.drop cI)) (by simpa using hs) ?_;exact jO [8] (.slice none 0 0) (PO pb sl cI) [] ⟨[],cI,[],by unfold j0;rw[if_neg hs];rfl,aj _,aJ _,by rw[ah],cH.nil 3,rfl,rfl⟩ (eC OQ eE)
end
theorem kP{z:Nat}{O:List (Nat×List Value)}{v:Value}{n:Nat}{xs:List Value}(h:cH z O v n xs):v.cells.size=1∧v.cells.toList=[v]∧v.oneCell'=true:=by
 rcases h.2 with⟨rfl,_,_⟩|⟨g,cap,cur,rfl,_⟩<;>exact⟨rfl,rfl,rfl⟩
section
variable{T:Tb}{P:Program}{fin:VS→List aC→Prop}{c:fC}{Γ:List aC}
theorem gV{own O:List (Nat×List Value)}{l:Value}{k z:Nat}{xs:List Value}(hg:cH z O l k xs)(hs:∀x∈O,x∈own):qA T Γ own l k z xs:=by
 obtain⟨hl,h⟩:=hg;rcases h with⟨rfl,rfl,rfl⟩|⟨g,cap,cur,rfl,rfl,h1,h2,h3,h4⟩
 ·exact⟨none,0,rfl,hl,fun h=>absurd h (Nat.lt_irrefl _)⟩
 ·refine⟨some ⟨g,0,none⟩,cap,rfl,hl,fun _=>⟨⟨g,0,none⟩,rfl,fun I w _ _ ho j u hu=>?_⟩⟩;obtain⟨e,_,hb⟩:=ho g cur (hs _ (by simp));rw[gI,mW hb,cu];rw[←h4,dw]at hu;split at hu
  ·exact hu
  ·simp at hu
theorem EO(A C:List (Nat×List Value)){k:List It}(hm:dz k=false):∀(O2:List (Nat×List Value)) (s:VS) (Γ:List aC),s.own=A++(O2++C)→W T P fin ⟨s.setOwn (A++C),k⟩ Γ→W T P fin ⟨s,k⟩ Γ
 | [],s,Γ,hs,h=>by
  rw[aB]at hs;rw[←hs]at h;exact h
 |(b,cs)::O2,s,Γ,hs,h=>by
  refine W.pub (O1:=A) (O2:=O2++C) (b:=b) (cs:=cs) hm hs ?_;refine W.sub hm (fun I w _ hh F hF=>hh F (by simp[hF])) (EO A C hm O2 _ Γ rfl h)
theorem qZ(A O2 C:List (Nat×List Value))(ho:(dD T 999 c).s.own=A++(O2++C))(hk:W T P fin ⟨(dD T 999 c).s.setOwn (A++C),(dD T 999 c).k⟩ Γ)(hm:dz (dD T 999 c).k=false:=by kernel_rfl):W T P fin c Γ:=
 W.code 999 (EO A C hm O2 _ Γ ho hk)
end
section
variable{Γ:List aC}
theorem mG(B:Prop)(xb:Nat)(v pv l:Value)(m k:Nat)(xs news:List Value)(A Or Tf:List (Nat×List Value))(hg:cH 3 Or v m xs)(hr:qA (rN B) Γ ((xb,[v,pv])::(A++(Tf++Or))) l k 3 news)(h1:∀u∈news,u.oneCell'=true)(hn:m+k≤1000000):
  dj (rN B) Tryz.prog 182 [l,fg xb] ((xb,[v,pv])::(A++(Tf++Or))) [] Γ (fun u O M Δ=>u=.tuple #[]∧(∃v' O',O=(xb,[v',pv])::(A++O')∧cH 3 O' v' (m+k) (xs++news))∧M=[]∧Δ=[]):=by
 refine dj.of_W (aQ B) Tryz.func182 rfl ?_;refine bW [] 0 xb 0 (aQ B) ?_;refine dK [] ((xb,[v,pv])::(A++(Tf++Or))) xb (0+0) 1 [v,pv] v (aQ B) (.head _) rfl ?_;refine W.app [] ((xb,[v,pv])::(A++(Tf++Or))) ((xb,[v,pv])::(A++Tf)) Or [] 3 32 m k v l xs news (aQ B) (by simp) hg hr h1 hn (by decide) (fun v' O' hg'=>?_);obtain⟨hs,hc,ho⟩:=kP hg';refine bW [] 0 xb 0 (aQ B) ?_;refine nE [] (((xb,[v,pv])::(A++Tf))++O'++[]) [] ((A++Tf)++O'++[]) 1 xb (0+0) [v,pv] v' [v',pv] (aQ B) rfl hs (by rw[hc];intro u hu;simp at hu;subst hu;exact ho) (o_ 1) (by rw[hc];rfl) ?_;refine qZ ((xb,[v',pv])::A) Tf O' (by simp only[aB,ah,dR,aT];kernel_rfl) ?_;exact jO [] (.tuple #[]) ((xb,[v',pv])::(A++O')) [] ⟨rfl,⟨v',O',rfl,hg'⟩,rfl,rfl⟩ bR
end
end Go.Proofs.YtgaaopjagcaojaaGreat
