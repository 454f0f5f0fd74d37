import Derived.Test.YtgaaopjagcaojaaGreatLe
import Derived.Lib.EndianBits
set_option linter.unusedSimpArgs false
set_option linter.unusedVariables false
namespace Go.Proofs.YtgaaopjagcaojaaGreat
open Go.RowKit Go.IntWalk
section
variable{T:Tb}{P:Program}{fin:VS→List aE→Prop}{c:fM}{Γ:List aE}
theorem Cv(s:Sl){l:List Re} [h:aZ (nX s) l Γ]{k:Nat}{r:Re}(hk:l[k]? =some r)
  (hc:∀b off u,s.ao=some ⟨b,off,none⟩→W T P fin c (xR u r::RA (some ⟨b,off+k*3,none⟩) [.int .u8 r.k,.int .u8 r.d,bz u]::Γ))(hm:dG c.k=false:=by kernel_rfl):W T P fin c Γ:=
 Mu dw dJ.r s hk hm (by decide) (fun b off e ha he=>by
  obtain⟨u,q⟩:=e;have he:q=r:=he;subst he;exact hc b off u ha)
theorem Al(s:Sl){l:List Im} [h:aZ (uv s) l Γ]{k:Nat}{x:Im}(hk:l[k]? =some x)
  (hc:∀b off f p,s.ao=some ⟨b,off,none⟩→W T P fin c (mr f p x::RA (some ⟨b,off+k*2,none⟩) [bz f,bz p]::Γ))(hm:dG c.k=false:=by kernel_rfl):W T P fin c Γ:=
 Mu lJ nj.x s hk hm (by decide) (fun b off e ha he=>by
  obtain⟨f,p,q⟩:=e;have he:q=x:=he;subst he;exact hc b off f p ha)
theorem wj(s:Sl){l:List Ce} [h:aZ (pE s) l Γ]{k:Nat}{x:Ce}(hk:l[k]? =some x)
  (hc:∀b off f p,s.ao=some ⟨b,off,none⟩→W T P fin c (xL f p x::RA (some ⟨b,off+k*2,none⟩) [bz f,bz p]::Γ))(hm:dG c.k=false:=by kernel_rfl):W T P fin c Γ:=
 Mu pG qg.x s hk hm (by decide) (fun b off e ha he=>by
  obtain⟨f,p,q⟩:=e;have he:q=x:=he;subst he;exact hc b off f p ha)
theorem dL(b o:Nat){cs:List Value} [h:aZ (RA (some ⟨b,o,none⟩)) cs Γ]:∀I w,bB T I w→aG Γ I w→∀j v,cs[j]? =some v→w.cell? ⟨b,o+j,none⟩=some v:=fun I w _ hh j v hv=>RA.cell (h.p hh) hv
end
def dK(x:Im)(k:Int):Option Re:=x.f.find? (fun r=>r.k==k)
def Jo(c:Ce):List Int:=match c.h.find? (fun r=>r.k==6)with
 |some r=>ib r.b
 |none=>[]
theorem Jw{l:List Re}{k:Int}{i:Nat}{r:Re}(hr:l[i]? =some r)(hk:r.k=k)(hb:∀(j:Nat) (q:Re),j<i→l[j]? =some q→q.k≠k):l.find? (fun r=>r.k==k)=some r:=by
 induction l generalizing i with
 |nil=>simp at hr
 |cons x l ih=>
  cases i with
  |zero=>
   simp at hr;subst hr;simp[hk]
  |succ i=>
   have:=hb 0 x (Nat.succ_pos i) rfl;rw[List.find?_cons_of_neg (by simpa using this)];exact ih (by simpa using hr) (fun j q hj hq=>hb (j+1) q (by omega) (by simpa using hq))
theorem Jx{l:List Re}{k:Int}(hb:∀(j:Nat) (q:Re),l[j]? =some q→q.k≠k):l.find? (fun r=>r.k==k)=none:=by
 rw[List.find?_eq_none];intro q hq;obtain⟨j,hj⟩:=mD hq;simpa using hb j q hj
def Ol:Value:=.agg #[.int .u8 0,.int .u8 0,.slice none 0 0]
def Ut(o:Option Re)(v:Value)(Δ:List aE):Prop:=match o with
 |some r=>∃u:Sl,v=.tuple #[rev r u,.bool true]∧Δ=[xR u r]
 |none=>v=.tuple #[Ol,.bool false]∧Δ=[]
section
variable{Γ:List aE}
theorem JY(f p:Sl){x:Im} [h:aZ (mr f p) x Γ](k:Int)(hb:∀r∈x.f,r.b.length≤1000000):
  au tb Tryz.prog 125 [mq f p,.int .u8 k] Γ (Ut (dK x k)):=by
 obtain⟨fa,fn,fc⟩:=f;refine au.of_W aB Tryz.func125 rfl ?_;refine W.more (Δ:=[nX ⟨fa,fn,fc⟩ x.f]) rfl (fun I w _ hh=>aV (h.p hh).1) ?_;refine W.len dw dJ.r ⟨fa,fn,fc⟩ rfl (fun h1 h2 h3=>?_);simp only at h1 h2 h3;refine xT [] [5,11] (fun a:Nat×Int=>[(5,.bool false),(11,.int .i64 a.2)]) (fun _=>[]) (fun _=>[nX ⟨fa,fn,fc⟩ x.f]) (fun a=>a.2=a.1∧a.1≤fn∧∀(j:Nat) (q:Re),j<a.1→x.f[j]? =some q→q.k≠k) (fun a=>fn-a.1) (0,0) ⟨rfl,aM _,fun j q hj=>absurd hj (jl _)⟩ (eC eK eE) ?_;rintro⟨i,z⟩ K ⟨hz,hi,hall⟩ close;simp only at hz hi hall;by_cases hlt:i<fn
 ·obtain⟨r,hr⟩:∃r,x.f[i]? =some r:=⟨_,ar (by omega)⟩;refine Cv ⟨fa,fn,fc⟩ hr (fun b off u ha=>?_);simp only at ha;subst ha;refine bD [] 12 (decide (z<(fn:Int))) (aw (by omega)) ?_;refine cA [12] 3 b off fn fc .i64 i z hz aB hlt ?_;refine de [] b (off+i*3) [.int .u8 r.k,.int .u8 r.d,bz u] aB (dL b (off+i*3)) ?_;refine W.d [] 18 (r.k==k) (fun hk=>?_) (fun hk=>?_)
  ·have hk:=eq_of_beq hk;refine W.more (Δ:=[BF u r.b]) (by kernel_rfl) (fun I w _ hh=>aV (aZ.p (k:=xR u) (a:=r) inferInstance hh).2.2) ?_;refine aj [18] (JW u (b:=r.b) (hb r (aO hr))) ?_;rintro _ _ ⟨u2,rfl,rfl⟩;refine W.r [] (.tuple #[rev r u2,.bool true]) ?_ (fun I w _ hh=>?_) (Δ:=[xR u2 r])
   ·rw[show dK x k=some r from Jw hr hk hall];exact⟨u2,rfl,rfl⟩
   ·have g:=aZ.p (k:=xR u) (a:=r) inferInstance hh;exact aV ⟨g.1,g.2.1,aZ.p (k:=BF u2) (a:=r.b) inferInstance hh⟩
  ·refine close [18] _ _ (i+1,IntKind.i64.wrap (z+1)) (by kernel_rfl) (by kernel_rfl) ⟨by simp only[ah];omega,hlt,fun j q hj hq=>?_⟩ (by simp only;omega) (eC eK eE);by_cases zL:j<i
   ·exact hall j q zL hq
   ·obtain rfl:j=i:=by simp only at hj;omega
    rw[hr]at hq;injection hq with hq;subst hq;exact kn hk
 ·refine aS [] 12 (decide (z<(fn:Int))) (ak (by omega)) ?_;refine W.r [12] (.tuple #[Ol,.bool false]) ?_ bU;rw[show dK x k=none from Jx (fun j q hq=>hall j q (by have:=(List.getElem?_eq_some_iff.1 hq).1;omega) hq)];exact⟨rfl,rfl⟩
theorem j4(f p:Sl){x:Im} [h:aZ (mr f p) x Γ](k:Int)(hb:∀r∈x.f,r.b.length≤1000000){r:Re}(ho:dK x k=some r):
  au tb Tryz.prog 125 [mq f p,.int .u8 k] Γ (fun v Δ=>∃u:Sl,v=.tuple #[rev r u,.bool true]∧Δ=[xR u r]):=by
 have:=JY (Γ:=Γ) f p (x:=x) k hb;rw[ho]at this;exact this
theorem j3(f p:Sl){x:Im} [h:aZ (mr f p) x Γ](k:Int)(hb:∀r∈x.f,r.b.length≤1000000)(ho:dK x k=none):
  au tb Tryz.prog 125 [mq f p,.int .u8 k] Γ (jv (.tuple #[Ol,.bool false])):=by
 have:=JY (Γ:=Γ) f p (x:=x) k hb;rw[ho]at this;exact this
theorem Er(f p:Sl){x:Ce} [h:aZ (xL f p) x Γ]:
  au tb Tryz.prog 17 [mq f p] Γ (jv (.string (strOfNums (Jo x)))):=by
 obtain⟨fa,fn,fc⟩:=f;refine au.of_W aB Tryz.func17 rfl ?_;refine W.more (Δ:=[nX ⟨fa,fn,fc⟩ x.h]) rfl (fun I w _ hh=>aV (h.p hh).1) ?_;refine W.len dw dJ.r ⟨fa,fn,fc⟩ rfl (fun h1 h2 h3=>?_);simp only at h1 h2 h3;refine xT [] [2,8] (fun a:Nat×Int=>[(2,.string ⟨#[]⟩),(8,.int .i64 a.2)]) (fun _=>[]) (fun _=>[nX ⟨fa,fn,fc⟩ x.h]) (fun a=>a.2=a.1∧a.1≤fn∧∀(j:Nat) (q:Re),j<a.1→x.h[j]? =some q→q.k≠6) (fun a=>fn-a.1) (0,0) ⟨rfl,aM _,fun j q hj=>absurd hj (jl _)⟩ (eC eK eE) ?_;rintro⟨i,z⟩ K ⟨hz,hi,hall⟩ close;simp only at hz hi hall;by_cases hlt:i<fn
 ·obtain⟨r,hr⟩:∃r,x.h[i]? =some r:=⟨_,ar (by omega)⟩;refine Cv ⟨fa,fn,fc⟩ hr (fun b off u ha=>?_);simp only at ha;subst ha;refine bD [] 9 (decide (z<(fn:Int))) (aw (by omega)) ?_;refine cA [9] 3 b off fn fc .i64 i z hz aB hlt ?_;refine de [] b (off+i*3) [.int .u8 r.k,.int .u8 r.d,bz u] aB (dL b (off+i*3)) ?_;refine W.d [] 14 (r.k==6) (fun hk=>?_) (fun hk=>?_)
  ·have hk:=eq_of_beq hk;refine W.more (Δ:=[BF u r.b]) (by kernel_rfl) (fun I w _ hh=>aV (aZ.p (k:=xR u) (a:=r) inferInstance hh).2.2) ?_;refine aj [14] (nd u (b:=r.b)) ?_;rintro _ _ ⟨rfl,rfl⟩;refine W.r [] (.string (iS r.b)) ⟨?_,rfl⟩ bU;unfold Jo;rw[Jw hr hk hall];rfl
  ·refine close [14] _ _ (i+1,IntKind.i64.wrap (z+1)) (by kernel_rfl) (by kernel_rfl) ⟨by simp only[ah];omega,hlt,fun j q hj hq=>?_⟩ (by simp only;omega) (eC eK eE);by_cases zL:j<i
   ·exact hall j q zL hq
   ·obtain rfl:j=i:=by simp only at hj;omega
    rw[hr]at hq;injection hq with hq;subst hq;exact kn hk
 ·refine aS [] 9 (decide (z<(fn:Int))) (ak (by omega)) ?_;refine W.r [9] (.string ⟨#[]⟩) ⟨?_,rfl⟩ bU;unfold Jo;rw[Jx (fun j q hq=>hall j q (by have:=(List.getElem?_eq_some_iff.1 hq).1;omega) hq)];rfl
end
def j7(fn:Func):Code:=fn.body.getD .skip
def Cn(k:Int):Value:=match E5 k with
 |some s=>.tuple #[.agg #[.int .u8 s.data,.int .i64 s.part,.int .i64 s.least,.int .i64 s.most],.bool true]
 |none=>.tuple #[.agg #[.int .u8 0,.int .i64 0,.int .i64 0,.int .i64 0],.bool false]
theorem ZK:(List.range' 0 16).map (fun n:Nat=>(jj (aJ tb (bh tb [5,18,22,25,28,41,47,50,54,57,63,70,74,77,80] 999 (fj Tryz.f229 (j7 Tryz.f229) [.int .u8 (n:Int)])))).bind (fun s=>nL tb s Tryz.f229.results.toList))=(List.range' 0 16).map (fun n:Nat=>some (Cn (n:Int))):=by kernel_rfl
theorem ZL:(List.range' 16 16).map (fun n:Nat=>(jj (aJ tb (bh tb [5,18,22,25,28,41,47,50,54,57,63,70,74,77,80] 999 (fj Tryz.f229 (j7 Tryz.f229) [.int .u8 (n:Int)])))).bind (fun s=>nL tb s Tryz.f229.results.toList))=(List.range' 16 16).map (fun n:Nat=>some (Cn (n:Int))):=by kernel_rfl
theorem ZM:(List.range' 32 16).map (fun n:Nat=>(jj (aJ tb (bh tb [5,18,22,25,28,41,47,50,54,57,63,70,74,77,80] 999 (fj Tryz.f229 (j7 Tryz.f229) [.int .u8 (n:Int)])))).bind (fun s=>nL tb s Tryz.f229.results.toList))=(List.range' 32 16).map (fun n:Nat=>some (Cn (n:Int))):=by kernel_rfl
theorem ZN:(List.range' 48 16).map (fun n:Nat=>(jj (aJ tb (bh tb [5,18,22,25,28,41,47,50,54,57,63,70,74,77,80] 999 (fj Tryz.f229 (j7 Tryz.f229) [.int .u8 (n:Int)])))).bind (fun s=>nL tb s Tryz.f229.results.toList))=(List.range' 48 16).map (fun n:Nat=>some (Cn (n:Int))):=by kernel_rfl
theorem ZO:(List.range' 64 16).map (fun n:Nat=>(jj (aJ tb (bh tb [5,18,22,25,28,41,47,50,54,57,63,70,74,77,80] 999 (fj Tryz.f229 (j7 Tryz.f229) [.int .u8 (n:Int)])))).bind (fun s=>nL tb s Tryz.f229.results.toList))=(List.range' 64 16).map (fun n:Nat=>some (Cn (n:Int))):=by kernel_rfl
theorem ZP:(List.range' 80 16).map (fun n:Nat=>(jj (aJ tb (bh tb [5,18,22,25,28,41,47,50,54,57,63,70,74,77,80] 999 (fj Tryz.f229 (j7 Tryz.f229) [.int .u8 (n:Int)])))).bind (fun s=>nL tb s Tryz.f229.results.toList))=(List.range' 80 16).map (fun n:Nat=>some (Cn (n:Int))):=by kernel_rfl
theorem ZQ:(List.range' 96 16).map (fun n:Nat=>(jj (aJ tb (bh tb [5,18,22,25,28,41,47,50,54,57,63,70,74,77,80] 999 (fj Tryz.f229 (j7 Tryz.f229) [.int .u8 (n:Int)])))).bind (fun s=>nL tb s Tryz.f229.results.toList))=(List.range' 96 16).map (fun n:Nat=>some (Cn (n:Int))):=by kernel_rfl
theorem ZS:(List.range' 112 16).map (fun n:Nat=>(jj (aJ tb (bh tb [5,18,22,25,28,41,47,50,54,57,63,70,74,77,80] 999 (fj Tryz.f229 (j7 Tryz.f229) [.int .u8 (n:Int)])))).bind (fun s=>nL tb s Tryz.f229.results.toList))=(List.range' 112 16).map (fun n:Nat=>some (Cn (n:Int))):=by kernel_rfl
theorem ZT:(List.range' 128 16).map (fun n:Nat=>(jj (aJ tb (bh tb [5,18,22,25,28,41,47,50,54,57,63,70,74,77,80] 999 (fj Tryz.f229 (j7 Tryz.f229) [.int .u8 (n:Int)])))).bind (fun s=>nL tb s Tryz.f229.results.toList))=(List.range' 128 16).map (fun n:Nat=>some (Cn (n:Int))):=by kernel_rfl
theorem ZU:(List.range' 144 16).map (fun n:Nat=>(jj (aJ tb (bh tb [5,18,22,25,28,41,47,50,54,57,63,70,74,77,80] 999 (fj Tryz.f229 (j7 Tryz.f229) [.int .u8 (n:Int)])))).bind (fun s=>nL tb s Tryz.f229.results.toList))=(List.range' 144 16).map (fun n:Nat=>some (Cn (n:Int))):=by kernel_rfl
theorem Wh:(List.range' 160 16).map (fun n:Nat=>(jj (aJ tb (bh tb [5,18,22,25,28,41,47,50,54,57,63,70,74,77,80] 999 (fj Tryz.f229 (j7 Tryz.f229) [.int .u8 (n:Int)])))).bind (fun s=>nL tb s Tryz.f229.results.toList))=(List.range' 160 16).map (fun n:Nat=>some (Cn (n:Int))):=by kernel_rfl
theorem Wi:(List.range' 176 16).map (fun n:Nat=>(jj (aJ tb (bh tb [5,18,22,25,28,41,47,50,54,57,63,70,74,77,80] 999 (fj Tryz.f229 (j7 Tryz.f229) [.int .u8 (n:Int)])))).bind (fun s=>nL tb s Tryz.f229.results.toList))=(List.range' 176 16).map (fun n:Nat=>some (Cn (n:Int))):=by kernel_rfl
theorem Wj:(List.range' 192 16).map (fun n:Nat=>(jj (aJ tb (bh tb [5,18,22,25,28,41,47,50,54,57,63,70,74,77,80] 999 (fj Tryz.f229 (j7 Tryz.f229) [.int .u8 (n:Int)])))).bind (fun s=>nL tb s Tryz.f229.results.toList))=(List.range' 192 16).map (fun n:Nat=>some (Cn (n:Int))):=by kernel_rfl
theorem Wk:(List.range' 208 16).map (fun n:Nat=>(jj (aJ tb (bh tb [5,18,22,25,28,41,47,50,54,57,63,70,74,77,80] 999 (fj Tryz.f229 (j7 Tryz.f229) [.int .u8 (n:Int)])))).bind (fun s=>nL tb s Tryz.f229.results.toList))=(List.range' 208 16).map (fun n:Nat=>some (Cn (n:Int))):=by kernel_rfl
theorem Wl:(List.range' 224 16).map (fun n:Nat=>(jj (aJ tb (bh tb [5,18,22,25,28,41,47,50,54,57,63,70,74,77,80] 999 (fj Tryz.f229 (j7 Tryz.f229) [.int .u8 (n:Int)])))).bind (fun s=>nL tb s Tryz.f229.results.toList))=(List.range' 224 16).map (fun n:Nat=>some (Cn (n:Int))):=by kernel_rfl
theorem Wm:(List.range' 240 16).map (fun n:Nat=>(jj (aJ tb (bh tb [5,18,22,25,28,41,47,50,54,57,63,70,74,77,80] 999 (fj Tryz.f229 (j7 Tryz.f229) [.int .u8 (n:Int)])))).bind (fun s=>nL tb s Tryz.f229.results.toList))=(List.range' 240 16).map (fun n:Nat=>some (Cn (n:Int))):=by kernel_rfl
theorem Wg{n:Nat}(hn:n<256):(jj (aJ tb (bh tb [5,18,22,25,28,41,47,50,54,57,63,70,74,77,80] 999 (fj Tryz.f229 (j7 Tryz.f229) [.int .u8 (n:Int)])))).bind (fun s=>nL tb s Tryz.f229.results.toList)=some (Cn (n:Int)):=by
 by_cases h0:n<16
 ·exact List.map_inj_left.1 ZK n (List.mem_range'_1.2 ⟨by omega,by omega⟩)
 by_cases h1:n<32
 ·exact List.map_inj_left.1 ZL n (List.mem_range'_1.2 ⟨by omega,by omega⟩)
 by_cases h2:n<48
 ·exact List.map_inj_left.1 ZM n (List.mem_range'_1.2 ⟨by omega,by omega⟩)
 by_cases h3:n<64
 ·exact List.map_inj_left.1 ZN n (List.mem_range'_1.2 ⟨by omega,by omega⟩)
 by_cases h4:n<80
 ·exact List.map_inj_left.1 ZO n (List.mem_range'_1.2 ⟨by omega,by omega⟩)
 by_cases h5:n<96
 ·exact List.map_inj_left.1 ZP n (List.mem_range'_1.2 ⟨by omega,by omega⟩)
 by_cases h6:n<112
 ·exact List.map_inj_left.1 ZQ n (List.mem_range'_1.2 ⟨by omega,by omega⟩)
 by_cases h7:n<128
 ·exact List.map_inj_left.1 ZS n (List.mem_range'_1.2 ⟨by omega,by omega⟩)
 by_cases h8:n<144
 ·exact List.map_inj_left.1 ZT n (List.mem_range'_1.2 ⟨by omega,by omega⟩)
 by_cases h9:n<160
 ·exact List.map_inj_left.1 ZU n (List.mem_range'_1.2 ⟨by omega,by omega⟩)
 by_cases h10:n<176
 ·exact List.map_inj_left.1 Wh n (List.mem_range'_1.2 ⟨by omega,by omega⟩)
 by_cases h11:n<192
 ·exact List.map_inj_left.1 Wi n (List.mem_range'_1.2 ⟨by omega,by omega⟩)
 by_cases h12:n<208
 ·exact List.map_inj_left.1 Wj n (List.mem_range'_1.2 ⟨by omega,by omega⟩)
 by_cases h13:n<224
 ·exact List.map_inj_left.1 Wk n (List.mem_range'_1.2 ⟨by omega,by omega⟩)
 by_cases h14:n<240
 ·exact List.map_inj_left.1 Wl n (List.mem_range'_1.2 ⟨by omega,by omega⟩)
 exact List.map_inj_left.1 Wm n (List.mem_range'_1.2 ⟨by omega,by omega⟩)
section
variable{Γ:List aE}
theorem Ua(k:Int)(hk:yX k):au tb Tryz.prog 229 [.int .u8 k] Γ (jv (Cn k)):=by
 obtain⟨n,rfl⟩:∃n:Nat,k=n:=⟨k.toNat,by have:=hk.1;omega⟩;refine au.of_W (c:=j7 Tryz.f229) aB Tryz.func229 (by kernel_rfl) ?_;exact W.r [5,18,22,25,28,41,47,50,54,57,63,70,74,77,80] (Cn (n:Int)) (h:=(Wg (by have:=hk.2;omega))) ⟨rfl,rfl⟩ bU
theorem WD(k:Int)(hk:yX k)(s:Qk)(hs:E5 k=some s):au tb Tryz.prog 229 [.int .u8 k] Γ (jv (.tuple #[.agg #[.int .u8 s.data,.int .i64 s.part,.int .i64 s.least,.int .i64 s.most],.bool true])):=by
 have:=Ua (Γ:=Γ) k hk;unfold Cn at this;rw[hs]at this;exact this
theorem WC(k:Int)(hk:yX k)(hs:E5 k=none):au tb Tryz.prog 229 [.int .u8 k] Γ (jv (.tuple #[.agg #[.int .u8 0,.int .i64 0,.int .i64 0,.int .i64 0],.bool false])):=by
 have:=Ua (Γ:=Γ) k hk;unfold Cn at this;rw[hs]at this;exact this
end
theorem PN{k:Int}{s:Qk}(h:E5 k=some s):1≤s.part∧s.part≤176∧0≤s.least∧s.most≤8191:=by
 have key:∀(c:Prop) [Decidable c] (a:Qk) (o:Option Qk),(if c then some a else o)=some s→(1≤a.part∧a.part≤176∧0≤a.least∧a.most≤8191)→(o=some s→1≤s.part∧s.part≤176∧0≤s.least∧s.most≤8191)→1≤s.part∧s.part≤176∧0≤s.least∧s.most≤8191:=by
  intro c _ a o h1 h2 h3;by_cases hc:c
  ·rw[if_pos hc]at h1;injection h1 with h1;subst h1;exact h2
  ·rw[if_neg hc]at h1;exact h3 h1
 unfold E5 at h;refine key _ _ _ h (by decide) (fun h=>?_);refine key _ _ _ h (by decide) (fun h=>?_);refine key _ _ _ h (by decide) (fun h=>?_);refine key _ _ _ h (by decide) (fun h=>?_);refine key _ _ _ h (by decide) (fun h=>?_);refine key _ _ _ h (by decide) (fun h=>?_);refine key _ _ _ h (by decide) (fun h=>?_);refine key _ _ _ h (by decide) (fun h=>?_);refine key _ _ _ h (by decide) (fun h=>?_);refine key _ _ _ h (by decide) (fun h=>?_);refine key _ _ _ h (by decide) (fun h=>?_);refine key _ _ _ h (by decide) (fun h=>?_);refine key _ _ _ h (by decide) (fun h=>?_);refine key _ _ _ h (by decide) (fun h=>?_);refine key _ _ _ h (by decide) (fun h=>?_);simp at h
def stp(T:Tb)(c:fM):fM:=match aJ T c with
 | .next c'=>c'
 |_=>c
theorem W.stp{T:Tb}{P:Program}{fin:VS→List aE→Prop}{c:fM}{Γ:List aE}(h:W T P fin (YtgaaopjagcaojaaGreat.stp T c) Γ):W T P fin c Γ:=by
 unfold YtgaaopjagcaojaaGreat.stp at h;split at h
 ·rename_i c' he;exact W.next he h
 ·exact h
section
variable{Γ:List aE}
theorem OZ(d a l e:Int):au tb Tryz.prog 230 [.agg #[.int .u8 d,.int .i64 a,.int .i64 l,.int .i64 e]] Γ (jv (.int .i64 (max a 1))):=by
 refine au.of_W aB Tryz.func230 rfl ?_;refine Mv [] .i64 a 1 (max a 1) rfl ?_;exact W.r [] (.int .i64 (max a 1)) ⟨rfl,rfl⟩ bU
theorem PT:∀n:_root_.Fin 256,([95,63,36]:List UInt8).contains (n.val.toUInt8)=(decide (n.val=95)||decide (n.val=63)||decide (n.val=36)):=by decide+kernel
theorem zY{k:Int}(hk:yX k):decide (Lib.indexByte (⟨#[95,63,36]⟩:ByteArray).data.toList k.toNat.toUInt8≥0)=(k==95||k==63||k==36):=by
 obtain⟨n,rfl⟩:∃n:Nat,k=n:=⟨k.toNat,by have:=hk.1;omega⟩;have hn:n<256:=by have:=hk.2;omega
 rw[qE];have:=PT ⟨n,hn⟩;simp only[gB]at this⊢;rw[this];congr 1
 ·congr 1
  ·rw[sT];simp;omega
  ·rw[sT];simp;omega
 ·rw[sT];simp;omega
theorem x9{k:Int}(h:(65≤k∧k≤90)∨(97≤k∧k≤122)∨(48≤k∧k≤57)):kE k=true:=by
 unfold kE;simp only[eu,aK,dj];omega
theorem rO{k:Int}(h1:¬(65≤k∧k≤90))(h2:¬(97≤k∧k≤122))(h3:¬(48≤k∧k≤57)):kE k=(k==95||k==63||k==36):=by
 unfold kE;rw[←Bool.decide_and,←Bool.decide_and,←Bool.decide_and,ak h1,ak h2,ak h3];rfl
theorem GO(k:Int)(hk:yX k):au tb Tryz.prog 232 [.int .u8 k] Γ (jv (.bool (kE k))):=by
 refine au.of_W aB Tryz.func232 rfl ?_;by_cases h0:65≤k∧k≤90
 ·refine bD [] 5 (decide (k≥65)) (aw (by omega)) ?_;refine bD [5] 9 (decide (k≤90)) (aw (by omega)) ?_;exact W.r [25,20,17,12,9] (.bool true) ⟨by rw[x9 (by omega)],rfl⟩ bU
 by_cases h1:97≤k∧k≤122
 ·refine bD [] 5 (decide (k≥65)) (aw (by omega)) ?_;refine aS [5] 9 (decide (k≤90)) (ak (by omega)) ?_;refine bD [9] 12 (decide (k≥97)) (aw (by omega)) ?_;refine bD [9,12] 17 (decide (k≤122)) (aw (by omega)) ?_;exact W.r [25,20,17] (.bool true) ⟨by rw[x9 (by omega)],rfl⟩ bU
 by_cases h2:48≤k∧k≤57
 ·refine aS [] 5 (decide (k≥65)) (ak (by omega)) ?_;refine aS [9,5] 12 (decide (k≥97)) (ak (by omega)) ?_;refine bD [17,9,12] 20 (decide (k≥48)) (aw (by omega)) ?_;refine bD [17,20] 25 (decide (k≤57)) (aw (by omega)) ?_;exact W.r [25] (.bool true) ⟨by rw[x9 (by omega)],rfl⟩ bU
 by_cases h3:k<48
 ·refine aS [] 5 (decide (k≥65)) (ak (by omega)) ?_;refine aS [9,5] 12 (decide (k≥97)) (ak (by omega)) ?_;refine aS [17,9,12] 20 (decide (k≥48)) (ak (by omega)) ?_;refine aj [25,17,20] (J8 ⟨#[95,63,36]⟩ k) ?_;rintro _ _ ⟨rfl,rfl⟩;exact W.r [25] (.bool (decide (Lib.indexByte (⟨#[95,63,36]⟩:ByteArray).data.toList k.toNat.toUInt8≥0))) ⟨by rw[zY hk,rO (by omega) (by omega) (by omega)],rfl⟩ bU
 by_cases h4:k<65
 ·refine aS [] 5 (decide (k≥65)) (ak (by omega)) ?_;refine aS [9,5] 12 (decide (k≥97)) (ak (by omega)) ?_;refine bD [17,9,12] 20 (decide (k≥48)) (aw (by omega)) ?_;refine aS [17,20] 25 (decide (k≤57)) (ak (by omega)) ?_;refine aj [25] (J8 ⟨#[95,63,36]⟩ k) ?_;rintro _ _ ⟨rfl,rfl⟩;exact W.r [25] (.bool (decide (Lib.indexByte (⟨#[95,63,36]⟩:ByteArray).data.toList k.toNat.toUInt8≥0))) ⟨by rw[zY hk,rO (by omega) (by omega) (by omega)],rfl⟩ bU
 by_cases h5:k<97
 ·refine bD [] 5 (decide (k≥65)) (aw (by omega)) ?_;refine aS [5] 9 (decide (k≤90)) (ak (by omega)) ?_;refine aS [9] 12 (decide (k≥97)) (ak (by omega)) ?_;refine bD [17,9,12] 20 (decide (k≥48)) (aw (by omega)) ?_;refine aS [17,20] 25 (decide (k≤57)) (ak (by omega)) ?_;refine aj [25] (J8 ⟨#[95,63,36]⟩ k) ?_;rintro _ _ ⟨rfl,rfl⟩;exact W.r [25] (.bool (decide (Lib.indexByte (⟨#[95,63,36]⟩:ByteArray).data.toList k.toNat.toUInt8≥0))) ⟨by rw[zY hk,rO (by omega) (by omega) (by omega)],rfl⟩ bU
 refine bD [] 5 (decide (k≥65)) (aw (by omega)) ?_;refine aS [5] 9 (decide (k≤90)) (ak (by omega)) ?_;refine bD [9] 12 (decide (k≥97)) (aw (by omega)) ?_;refine aS [9,12] 17 (decide (k≤122)) (ak (by omega)) ?_;refine bD [17] 20 (decide (k≥48)) (aw (by omega)) ?_;refine aS [17,20] 25 (decide (k≤57)) (ak (by omega)) ?_;refine aj [25] (J8 ⟨#[95,63,36]⟩ k) ?_;rintro _ _ ⟨rfl,rfl⟩;exact W.r [25] (.bool (decide (Lib.indexByte (⟨#[95,63,36]⟩:ByteArray).data.toList k.toNat.toUInt8≥0))) ⟨by rw[zY hk,rO (by omega) (by omega) (by omega)],rfl⟩ bU
theorem mZ{b:List Int}(hb:ke b):jc (iS b)=ib b:=MS (fun z hz=>by
 unfold ib at hz;split at hz
 ·exact hb z (List.dropLast_subset _ hz)
 ·exact hb z hz)
theorem kG{b:List Int}(hb:ke b):ke (ib b):=fun z hz=>by
 unfold ib at hz;split at hz
 ·exact hb z (List.dropLast_subset _ hz)
 ·exact hb z hz
theorem LP(b:List Int):(ib b).length≤b.length:=by
 unfold ib;split
 ·simp
 ·exact ai _
theorem yz(b:List Int):(iS b).size=(ib b).length:=strOfNums_size _
theorem xc{l:List Int}(hl:ke l):decide (Lib.indexByte (Lib.bytesOf l) (0:Int).toNat.toUInt8<0)= !l.contains 0:=by
 have h:=qE (Lib.bytesOf l) (0:Int).toNat.toUInt8;have e:(Lib.bytesOf l).contains (0:Int).toNat.toUInt8=l.contains 0:=by
  rw[sT,List.contains_iff_mem,List.contains_iff_mem];unfold Lib.bytesOf;rw[Af];constructor
  ·rintro⟨z,hz,e⟩;have:=hl z hz;have e2:=dz UInt8.toNat e;have e3:(UInt8.ofNat z.toNat).toNat=z.toNat % 256:=rfl;have e4:z.toNat % 256=0:=by
    rw[←e3];exact e2
   have:z=0:=by omega
   subst this;exact hz
  ·intro hz;exact⟨0,hz,rfl⟩
 rw[←e,←h];rw[sT];simp
theorem Hc{r:Re}(h:E5 r.k=none):gh r=false:=by
 unfold gh;rw[h]
theorem BM{r:Re}{s:Qk}(h:E5 r.k=some s):gh r=(r.d==s.data&&((r.b.length:Int) % s.part==0&&(decide (s.least≤(r.b.length:Int)/s.part)&&(decide ((r.b.length:Int)/s.part≤s.most)&&
   (if AW r.k then !(ib r.b).contains 0 else if AV r.k then(ib r.b).all kE else true))))):=by
 unfold gh;rw[h]
set_option maxHeartbeats 1000000 in
theorem O9(s:Sl)(r:Re) [h:aZ (xR s) r Γ]:au tb Tryz.prog 180 [rev r s] Γ (jv (.bool (gh r))):=by
 obtain⟨k,d,b⟩:=r;refine au.of_W aB Tryz.func180 rfl ?_;refine qx (yX k) rfl (fun I w _ hh=>(h.p hh).1) (fun hk=>?_);refine W.more (Δ:=[BF s b]) rfl (fun I w _ hh=>aV (h.p hh).2.2) ?_;refine xS s (hm:=rfl) (fun h1 h2 h3 h4=>?_);cases hsh:E5 k with
 |none=>
  have hno:gh ⟨k,d,b⟩=false:=Hc hsh;refine aj [] (WC k hk hsh) ?_;rintro _ _ ⟨rfl,rfl⟩;refine aj [] (OZ 0 0 0 0) ?_;rintro _ _ ⟨rfl,rfl⟩;refine W.quo [] (s.n:Int) (max 0 1) (IntKind.i64.wrap ((s.n:Int).tdiv 1)) (by decide) rfl ?_;refine bD [] 22 (!false) rfl ?_;exact W.r [29,38,44,49,22] (.bool false) ⟨by rw[hno],rfl⟩ bU
 |some sh=>
  have qW:gh ⟨k,d,b⟩=_:=BM hsh;simp only at qW;obtain⟨sD,yT,TH,hp4⟩:=PN hsh;have VI:max sh.part 1=sh.part:=by omega
  have hq:(s.n:Int).tdiv (max sh.part 1)=(b.length:Int)/sh.part:=by rw[VI,h1,Int.tdiv_eq_ediv_of_nonneg (by omega)]
  have hm:(s.n:Int).tmod (max sh.part 1)=(b.length:Int) % sh.part:=by rw[VI,h1,fN (by omega)]
  refine aj [] (WD k hk sh hsh) ?_;rintro _ _ ⟨rfl,rfl⟩;refine aj [] (OZ sh.data sh.part sh.least sh.most) ?_;rintro _ _ ⟨rfl,rfl⟩;obtain⟨q,hqq⟩:∃q,(b.length:Int)/sh.part=q:=⟨_,rfl⟩;obtain⟨m,XD⟩:∃m,(b.length:Int) % sh.part=m:=⟨_,rfl⟩;have hq0:0≤q:=by rw[←hqq];exact Int.ediv_nonneg (by omega) (by omega)
  have hq1:q≤b.length:=by rw[←hqq];exact Int.ediv_le_self _ (by omega)
  rw[hqq]at hq qW;rw[XD]at hm qW;refine W.quo [] (s.n:Int) (max sh.part 1) q (by omega) (by rw[hq,ah];omega) ?_;refine aS [] 22 (!true) rfl ?_;by_cases hd:sh.data=d
  rotate_left
  ·refine bD [22] 29 (sh.data != d) (by simpa using hd) ?_;exact W.r [38,44,49,29] (.bool false) ⟨by rw[qW,show(d==sh.data)=false by rw[fE];exact fun e=>hd e.symm];rfl,rfl⟩ bU
  subst hd;rw[show(sh.data==sh.data)=true by simp,dP]at qW;refine aS [22] 29 (sh.data != sh.data) (by simp) ?_;refine aj [29] (OZ sh.data sh.part sh.least sh.most) ?_;rintro _ _ ⟨rfl,rfl⟩;refine mH [29] .i64 (s.n:Int) (max sh.part 1) m (by omega) hm ?_;by_cases hm0:m=0
  rotate_left
  ·refine bD [29] 38 (m != 0) (by simpa using hm0) ?_;exact W.r [44,49,38] (.bool false) ⟨by rw[qW,show(m==0)=false by rw[fE];exact hm0];rfl,rfl⟩ bU
  subst hm0;rw[show((0:Int)==0)=true by decide,dP]at qW;refine aS [29] 38 ((0:Int) != 0) (by decide) ?_;by_cases hlt:q<sh.least
  ·refine bD [38] 44 (decide (q<sh.least)) (aw hlt) ?_;exact W.r [49,44] (.bool false) ⟨by rw[qW,ak (by omega)];rfl,rfl⟩ bU
  rw[aw (show sh.least≤q by omega),dP]at qW;refine aS [38] 44 (decide (q<sh.least)) (ak hlt) ?_;by_cases hgt:q>sh.most
  ·refine bD [44] 49 (decide (q>sh.most)) (aw hgt) ?_;exact W.r [49] (.bool false) ⟨by rw[qW,ak (by omega)];rfl,rfl⟩ bU
  rw[aw (show q≤sh.most by omega),dP]at qW;refine aS [44] 49 (decide (q>sh.most)) (ak hgt) ?_;have hz:(iS b).size≤9223372036854775807:=by
   have:=LP b;rw[yz];omega
  by_cases k2:k=2
  ·subst k2;refine aj [49,52] (nd s (b:=b)) ?_;rintro _ _ ⟨rfl,rfl⟩;refine An [] 9 28 5 (iS b) Tryz.underlying9 Tryz.underlying28 Tryz.underlying5 hz (fun B cap hcap=>?_);refine aj [] (GL B 0 (iS b).size cap (jc (iS b)) 0) ?_;rintro _ _ ⟨rfl,rfl⟩;refine W.r [] (.bool (decide (Lib.indexByte (Lib.bytesOf (jc (iS b))) (0:Int).toNat.toUInt8<0))) ⟨?_,rfl⟩ bU;rw[qW,mZ h3,xc (kG h3)];rfl
  by_cases k25:k=25
  ·subst k25;refine aj [49,52] (nd s (b:=b)) ?_;rintro _ _ ⟨rfl,rfl⟩;refine An [] 9 28 5 (iS b) Tryz.underlying9 Tryz.underlying28 Tryz.underlying5 hz (fun B cap hcap=>?_);refine aj [] (GL B 0 (iS b).size cap (jc (iS b)) 0) ?_;rintro _ _ ⟨rfl,rfl⟩;refine W.r [] (.bool (decide (Lib.indexByte (Lib.bytesOf (jc (iS b))) (0:Int).toNat.toUInt8<0))) ⟨?_,rfl⟩ bU;rw[qW,mZ h3,xc (kG h3)];rfl
  by_cases k44:k=44
  ·subst k44;refine aj [49,52] (nd s (b:=b)) ?_;rintro _ _ ⟨rfl,rfl⟩;refine An [] 9 28 5 (iS b) Tryz.underlying9 Tryz.underlying28 Tryz.underlying5 hz (fun B cap hcap=>?_);refine aj [] (GL B 0 (iS b).size cap (jc (iS b)) 0) ?_;rintro _ _ ⟨rfl,rfl⟩;refine W.r [] (.bool (decide (Lib.indexByte (Lib.bytesOf (jc (iS b))) (0:Int).toNat.toUInt8<0))) ⟨?_,rfl⟩ bU;rw[qW,mZ h3,xc (kG h3)];rfl
  by_cases k55:k=55
  ·subst k55;refine aj [49,52] (nd s (b:=b)) ?_;rintro _ _ ⟨rfl,rfl⟩;refine An [] 9 28 5 (iS b) Tryz.underlying9 Tryz.underlying28 Tryz.underlying5 hz (fun B cap hcap=>?_);refine aj [] (GL B 0 (iS b).size cap (jc (iS b)) 0) ?_;rintro _ _ ⟨rfl,rfl⟩;refine W.r [] (.bool (decide (Lib.indexByte (Lib.bytesOf (jc (iS b))) (0:Int).toNat.toUInt8<0))) ⟨?_,rfl⟩ bU;rw[qW,mZ h3,xc (kG h3)];rfl
  by_cases k58:k=58
  ·subst k58;refine aj [49,52] (nd s (b:=b)) ?_;rintro _ _ ⟨rfl,rfl⟩;refine An [] 9 28 5 (iS b) Tryz.underlying9 Tryz.underlying28 Tryz.underlying5 hz (fun B cap hcap=>?_);refine aj [] (GL B 0 (iS b).size cap (jc (iS b)) 0) ?_;rintro _ _ ⟨rfl,rfl⟩;refine W.r [] (.bool (decide (Lib.indexByte (Lib.bytesOf (jc (iS b))) (0:Int).toNat.toUInt8<0))) ⟨?_,rfl⟩ bU;rw[qW,mZ h3,xc (kG h3)];rfl
  by_cases k6:k=6
  ·subst k6;have FZ:gh ⟨6,sh.data,b⟩=(ib b).all kE:=qW;refine aj [49,52,64] (nd s (b:=b)) ?_;rintro _ _ ⟨rfl,rfl⟩;refine An [] 9 28 5 (iS b) Tryz.underlying9 Tryz.underlying28 Tryz.underlying5 hz (fun B cap hcap=>?_);have hlen:(ib b).length=(iS b).size:=(yz b).symm;refine xT [] [72] (fun a:Nat×Int=>[(72,.int .i64 a.2)]) (fun _=>[]) (fun _=>[BF ⟨some ⟨B,0,none⟩,(iS b).size,cap⟩ (jc (iS b))]) (fun a=>a.2=a.1∧a.1≤(ib b).length∧∀(j:Nat) (z:Int),j<a.1→(ib b)[j]? =some z→kE z=true) (fun a=>(ib b).length-a.1) (0,0) ⟨rfl,aM _,fun j z hj=>absurd hj (jl _)⟩ (eC eK eE) ?_;rintro⟨i,z⟩ R ⟨Zt,hi,hall⟩ close;simp only at Zt hi hall;by_cases hil:i<(ib b).length
   ·obtain⟨y,hy⟩:∃y,(ib b)[i]? =some y:=⟨_,ar hil⟩;have hyb:yX y:=kG h3 y (aO hy);refine bD [] 73 (decide (z<((iS b).size:Int))) (aw (by omega)) ?_;refine cA [73] 1 B 0 (iS b).size cap .i64 i z Zt aB (by omega) ?_;refine eg [] 1 B (0+i*1) (.int .u8 y) aB (fun I w _ hh=>?_) ?_
    ·have hb:=(aZ.p (k:=BF ⟨some ⟨B,0,none⟩,(iS b).size,cap⟩) (a:=jc (iS b)) inferInstance hh).2.2.2;rw[fO];exact RA.cell hb (by rw[mZ h3,bN,hy];rfl)
    refine aj [] (GO y hyb) ?_;rintro _ _ ⟨rfl,rfl⟩;cases Zg:kE y with
    |false=>
     refine bD [] 78 (!false) rfl ?_;refine W.r [78] (.bool false) ⟨?_,rfl⟩ bU;rw[FZ,show(ib b).all kE=false from List.all_eq_false.2 ⟨y,aO hy,by rw[Zg];decide⟩]
    |true=>
     refine aS [] 78 (!true) rfl ?_;refine close [78] _ _ (i+1,IntKind.i64.wrap (z+1)) (by kernel_rfl) (by kernel_rfl) ⟨by simp only[ah];omega,hil,fun j x hj hx=>?_⟩ (by simp only;omega) (eC eK eE);by_cases zL:j<i
     ·exact hall j x zL hx
     ·have:j=i:=by simp only at hj;omega
      subst this;rw[hy]at hx;injection hx with hx;subst hx;exact Zg
   ·refine aS [] 73 (decide (z<((iS b).size:Int))) (ak (by omega)) ?_;refine W.r [73] (.bool true) ⟨?_,rfl⟩ bU;rw[FZ,show(ib b).all kE=true from List.all_eq_true.2 (fun y hy=>by
     obtain⟨j,hj⟩:=mD hy;exact hall j y (by have:=(List.getElem?_eq_some_iff.1 hj).1;omega) hj)]
  by_cases k18:k=18
  ·subst k18;have FZ:gh ⟨18,sh.data,b⟩=(ib b).all kE:=qW;refine aj [49,52,64] (nd s (b:=b)) ?_;rintro _ _ ⟨rfl,rfl⟩;refine An [] 9 28 5 (iS b) Tryz.underlying9 Tryz.underlying28 Tryz.underlying5 hz (fun B cap hcap=>?_);have hlen:(ib b).length=(iS b).size:=(yz b).symm;refine xT [] [72] (fun a:Nat×Int=>[(72,.int .i64 a.2)]) (fun _=>[]) (fun _=>[BF ⟨some ⟨B,0,none⟩,(iS b).size,cap⟩ (jc (iS b))]) (fun a=>a.2=a.1∧a.1≤(ib b).length∧∀(j:Nat) (z:Int),j<a.1→(ib b)[j]? =some z→kE z=true) (fun a=>(ib b).length-a.1) (0,0) ⟨rfl,aM _,fun j z hj=>absurd hj (jl _)⟩ (eC eK eE) ?_;rintro⟨i,z⟩ R ⟨Zt,hi,hall⟩ close;simp only at Zt hi hall;by_cases hil:i<(ib b).length
   ·obtain⟨y,hy⟩:∃y,(ib b)[i]? =some y:=⟨_,ar hil⟩;have hyb:yX y:=kG h3 y (aO hy);refine bD [] 73 (decide (z<((iS b).size:Int))) (aw (by omega)) ?_;refine cA [73] 1 B 0 (iS b).size cap .i64 i z Zt aB (by omega) ?_;refine eg [] 1 B (0+i*1) (.int .u8 y) aB (fun I w _ hh=>?_) ?_
    ·have hb:=(aZ.p (k:=BF ⟨some ⟨B,0,none⟩,(iS b).size,cap⟩) (a:=jc (iS b)) inferInstance hh).2.2.2;rw[fO];exact RA.cell hb (by rw[mZ h3,bN,hy];rfl)
    refine aj [] (GO y hyb) ?_;rintro _ _ ⟨rfl,rfl⟩;cases Zg:kE y with
    |false=>
     refine bD [] 78 (!false) rfl ?_;refine W.r [78] (.bool false) ⟨?_,rfl⟩ bU;rw[FZ,show(ib b).all kE=false from List.all_eq_false.2 ⟨y,aO hy,by rw[Zg];decide⟩]
    |true=>
     refine aS [] 78 (!true) rfl ?_;refine close [78] _ _ (i+1,IntKind.i64.wrap (z+1)) (by kernel_rfl) (by kernel_rfl) ⟨by simp only[ah];omega,hil,fun j x hj hx=>?_⟩ (by simp only;omega) (eC eK eE);by_cases zL:j<i
     ·exact hall j x zL hx
     ·have:j=i:=by simp only at hj;omega
      subst this;rw[hy]at hx;injection hx with hx;subst hx;exact Zg
   ·refine aS [] 73 (decide (z<((iS b).size:Int))) (ak (by omega)) ?_;refine W.r [73] (.bool true) ⟨?_,rfl⟩ bU;rw[FZ,show(ib b).all kE=true from List.all_eq_true.2 (fun y hy=>by
     obtain⟨j,hj⟩:=mD hy;exact hall j y (by have:=(List.getElem?_eq_some_iff.1 hj).1;omega) hj)]
  have Qp:AW k=false:=by simp[AW,k2,k25,k44,k55,k58]
  have hnn:AV k=false:=by simp[AV,k6,k18]
  rw[Qp,hnn]at qW;refine aS [49] 52 (k==2) (beq_eq_false_iff_ne.2 k2) ?_;refine W.stp ?_;refine aS [] 52 (k==25) (beq_eq_false_iff_ne.2 k25) ?_;refine W.stp ?_;refine aS [] 52 (k==44) (beq_eq_false_iff_ne.2 k44) ?_;refine W.stp ?_;refine aS [] 52 (k==55) (beq_eq_false_iff_ne.2 k55) ?_;refine W.stp ?_;refine aS [] 52 (k==58) (beq_eq_false_iff_ne.2 k58) ?_;refine W.stp ?_;refine aS [52] 64 (k==6) (beq_eq_false_iff_ne.2 k6) ?_;refine W.stp ?_;refine aS [52] 64 (k==18) (beq_eq_false_iff_ne.2 k18) ?_;refine W.stp ?_;exact W.r [64] (.bool true) ⟨by rw[qW];rfl,rfl⟩ bU
end
end Go.Proofs.YtgaaopjagcaojaaGreat
