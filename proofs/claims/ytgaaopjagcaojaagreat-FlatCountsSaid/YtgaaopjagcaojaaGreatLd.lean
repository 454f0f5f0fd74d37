import Derived.Test.YtgaaopjagcaojaaGreatLe
import Derived.Lib.EndianBits
set_option linter.unusedSimpArgs false
set_option linter.unusedVariables false
namespace Go.Proofs.YtgaaopjagcaojaaGreat
open Go.RowKit Go.IntWalk
section
variable{T:Tb}{P:Program}{fin:VS→List aC→Prop}{c:fC}{Γ:List aC}
theorem pA(s:Sl){l:List Re} [h:aY (kH s) l Γ]{k:Nat}{r:Re}(hk:l[k]? =some r)
  (hc:∀b off u,s.ao=some ⟨b,off,none⟩→W T P fin c (xu u r::RA (some ⟨b,off+k*3,none⟩) [.int .u8 r.k,.int .u8 r.d,a_ u]::Γ))(hm:dz c.k=false:=by kernel_rfl):W T P fin c Γ:=
 My c_ dp.r s hk hm (by decide) (fun b off e ha he=>by
  obtain⟨u,q⟩:=e;have he:q=r:=he;subst he;exact hc b off u ha)
theorem vV(s:Sl){l:List Im} [h:aY (qy s) l Γ]{k:Nat}{x:Im}(hk:l[k]? =some x)
  (hc:∀b off f p,s.ao=some ⟨b,off,none⟩→W T P fin c (mK f p x::RA (some ⟨b,off+k*2,none⟩) [a_ f,a_ p]::Γ))(hm:dz c.k=false:=by kernel_rfl):W T P fin c Γ:=
 My pX ph.x s hk hm (by decide) (fun b off e ha he=>by
  obtain⟨f,p,q⟩:=e;have he:q=x:=he;subst he;exact hc b off f p ha)
theorem uR(s:Sl){l:List Ce} [h:aY (lC s) l Γ]{k:Nat}{x:Ce}(hk:l[k]? =some x)
  (hc:∀b off f p,s.ao=some ⟨b,off,none⟩→W T P fin c (za f p x::RA (some ⟨b,off+k*2,none⟩) [a_ f,a_ p]::Γ))(hm:dz c.k=false:=by kernel_rfl):W T P fin c Γ:=
 My lF pd.x s hk hm (by decide) (fun b off e ha he=>by
  obtain⟨f,p,q⟩:=e;have he:q=x:=he;subst he;exact hc b off f p ha)
theorem cB(b o:Nat){cs:List Value} [h:aY (RA (some ⟨b,o,none⟩)) cs Γ]:∀I w,br T I w→aE Γ I w→∀j v,cs[j]? =some v→w.cell? ⟨b,o+j,none⟩=some v:=fun I w _ hh j v hv=>RA.cell (h.p hh) hv
end
def dT(x:Im)(k:Int):Option Re:=x.f.find? (fun r=>r.k==k)
def Jg(c:Ce):List Int:=match c.h.find? (fun r=>r.k==6)with
 |some r=>gK r.b
 |none=>[]
theorem Jp{l:List Re}{k:Int}{i:Nat}{r:Re}(hr:l[i]? =some r)(hk:r.k=k)(hb:∀(j:Nat) (q:Re),j<i→l[j]? =some q→q.k≠k):l.find? (fun r=>r.k==k)=some r:=by
 induction l generalizing i with
 |nil=>simp at hr
 |cons x l ih=>
  cases i with
  |zero=>
   simp at hr;subst hr;simp[hk]
  |succ i=>
   have:=hb 0 x (Nat.succ_pos i) rfl;rw[List.find?_cons_of_neg (by simpa using this)];exact ih (by simpa using hr) (fun j q hj hq=>hb (j+1) q (by omega) (by simpa using hq))
theorem Jq{l:List Re}{k:Int}(hb:∀(j:Nat) (q:Re),l[j]? =some q→q.k≠k):l.find? (fun r=>r.k==k)=none:=by
 rw[List.find?_eq_none];intro q hq;obtain⟨j,hj⟩:=mi hq;simpa using hb j q hj
def OE:Value:=.agg #[.int .u8 0,.int .u8 0,.slice none 0 0]
def UK(o:Option Re)(v:Value)(Δ:List aC):Prop:=match o with
 |some r=>∃u:Sl,v=.tuple #[rev r u,.bool true]∧Δ=[xu u r]
 |none=>v=.tuple #[OE,.bool false]∧Δ=[]
section
variable{Γ:List aC}
theorem JT(f p:Sl){x:Im} [h:aY (mK f p) x Γ](k:Int)(hb:∀r∈x.f,r.b.length≤1000000):
  aw tb Tryz.prog 125 [lO f p,.int .u8 k] Γ (UK (dT x k)):=by
 obtain⟨fa,fn,fc⟩:=f;refine aw.of_W az Tryz.func125 rfl ?_;refine W.more (Δ:=[kH ⟨fa,fn,fc⟩ x.f]) rfl (fun I w _ hh=>aU (h.p hh).1) ?_;refine W.len c_ dp.r ⟨fa,fn,fc⟩ rfl (fun h1 h2 h3=>?_);simp only at h1 h2 h3;refine yZ [] [5,11] (fun a:Nat×Int=>[(5,.bool false),(11,.int .i64 a.2)]) (fun _=>[]) (fun _=>[kH ⟨fa,fn,fc⟩ x.f]) (fun a=>a.2=a.1∧a.1≤fn∧∀(j:Nat) (q:Re),j<a.1→x.f[j]? =some q→q.k≠k) (fun a=>fn-a.1) (0,0) ⟨rfl,aJ _,fun j q hj=>absurd hj (iY _)⟩ (eC eK eE) ?_;rintro⟨i,z⟩ K ⟨hz,hi,fI⟩ close;simp only at hz hi fI;by_cases hlt:i<fn
 ·obtain⟨r,hr⟩:∃r,x.f[i]? =some r:=⟨_,ak (by omega)⟩;refine pA ⟨fa,fn,fc⟩ hr (fun b off u ha=>?_);simp only at ha;subst ha;refine bk [] 12 (decide (z<(fn:Int))) (ar (by omega)) ?_;refine bY [12] 3 b off fn fc .i64 i z hz az hlt ?_;refine cY [] b (off+i*3) [.int .u8 r.k,.int .u8 r.d,a_ u] az (cB b (off+i*3)) ?_;refine W.d [] 18 (r.k==k) (fun hk=>?_) (fun hk=>?_)
  ·have hk:=eq_of_beq hk;refine W.more (Δ:=[BF u r.b]) (by kernel_rfl) (fun I w _ hh=>aU (aY.p (k:=xu u) (a:=r) inferInstance hh).2.2) ?_;refine aq [18] (JR u (b:=r.b) (hb r (aN hr))) ?_;rintro _ _ ⟨u2,rfl,rfl⟩;refine W.r [] (.tuple #[rev r u2,.bool true]) ?_ (fun I w _ hh=>?_) (Δ:=[xu u2 r])
   ·rw[show dT x k=some r from Jp hr hk fI];exact⟨u2,rfl,rfl⟩
   ·have g:=aY.p (k:=xu u) (a:=r) inferInstance hh;exact aU ⟨g.1,g.2.1,aY.p (k:=BF u2) (a:=r.b) inferInstance hh⟩
  ·refine close [18] _ _ (i+1,IntKind.i64.wrap (z+1)) (by kernel_rfl) (by kernel_rfl) ⟨by simp only[af];omega,hlt,fun j q hj hq=>?_⟩ (by simp only;omega) (eC eK eE);by_cases zp:j<i
   ·exact fI j q zp hq
   ·obtain rfl:j=i:=by simp only at hj;omega
    rw[hr]at hq;injection hq with hq;subst hq;exact j_ hk
 ·refine aR [] 12 (decide (z<(fn:Int))) (ai (by omega)) ?_;refine W.r [12] (.tuple #[OE,.bool false]) ?_ bR;rw[show dT x k=none from Jq (fun j q hq=>fI j q (by have:=(List.getElem?_eq_some_iff.1 hq).1;omega) hq)];exact⟨rfl,rfl⟩
theorem jS(f p:Sl){x:Im} [h:aY (mK f p) x Γ](k:Int)(hb:∀r∈x.f,r.b.length≤1000000){r:Re}(ho:dT x k=some r):
  aw tb Tryz.prog 125 [lO f p,.int .u8 k] Γ (fun v Δ=>∃u:Sl,v=.tuple #[rev r u,.bool true]∧Δ=[xu u r]):=by
 have:=JT (Γ:=Γ) f p (x:=x) k hb;rw[ho]at this;exact this
theorem jR(f p:Sl){x:Im} [h:aY (mK f p) x Γ](k:Int)(hb:∀r∈x.f,r.b.length≤1000000)(ho:dT x k=none):
  aw tb Tryz.prog 125 [lO f p,.int .u8 k] Γ (jf (.tuple #[OE,.bool false])):=by
 have:=JT (Γ:=Γ) f p (x:=x) k hb;rw[ho]at this;exact this
theorem D_(f p:Sl){x:Ce} [h:aY (za f p) x Γ]:
  aw tb Tryz.prog 17 [lO f p] Γ (jf (.string (strOfNums (Jg x)))):=by
 obtain⟨fa,fn,fc⟩:=f;refine aw.of_W az Tryz.func17 rfl ?_;refine W.more (Δ:=[kH ⟨fa,fn,fc⟩ x.h]) rfl (fun I w _ hh=>aU (h.p hh).1) ?_;refine W.len c_ dp.r ⟨fa,fn,fc⟩ rfl (fun h1 h2 h3=>?_);simp only at h1 h2 h3;refine yZ [] [2,8] (fun a:Nat×Int=>[(2,.string ⟨#[]⟩),(8,.int .i64 a.2)]) (fun _=>[]) (fun _=>[kH ⟨fa,fn,fc⟩ x.h]) (fun a=>a.2=a.1∧a.1≤fn∧∀(j:Nat) (q:Re),j<a.1→x.h[j]? =some q→q.k≠6) (fun a=>fn-a.1) (0,0) ⟨rfl,aJ _,fun j q hj=>absurd hj (iY _)⟩ (eC eK eE) ?_;rintro⟨i,z⟩ K ⟨hz,hi,fI⟩ close;simp only at hz hi fI;by_cases hlt:i<fn
 ·obtain⟨r,hr⟩:∃r,x.h[i]? =some r:=⟨_,ak (by omega)⟩;refine pA ⟨fa,fn,fc⟩ hr (fun b off u ha=>?_);simp only at ha;subst ha;refine bk [] 9 (decide (z<(fn:Int))) (ar (by omega)) ?_;refine bY [9] 3 b off fn fc .i64 i z hz az hlt ?_;refine cY [] b (off+i*3) [.int .u8 r.k,.int .u8 r.d,a_ u] az (cB b (off+i*3)) ?_;refine W.d [] 14 (r.k==6) (fun hk=>?_) (fun hk=>?_)
  ·have hk:=eq_of_beq hk;refine W.more (Δ:=[BF u r.b]) (by kernel_rfl) (fun I w _ hh=>aU (aY.p (k:=xu u) (a:=r) inferInstance hh).2.2) ?_;refine aq [14] (mN u (b:=r.b)) ?_;rintro _ _ ⟨rfl,rfl⟩;refine W.r [] (.string (iA r.b)) ⟨?_,rfl⟩ bR;unfold Jg;rw[Jp hr hk fI];rfl
  ·refine close [14] _ _ (i+1,IntKind.i64.wrap (z+1)) (by kernel_rfl) (by kernel_rfl) ⟨by simp only[af];omega,hlt,fun j q hj hq=>?_⟩ (by simp only;omega) (eC eK eE);by_cases zp:j<i
   ·exact fI j q zp hq
   ·obtain rfl:j=i:=by simp only at hj;omega
    rw[hr]at hq;injection hq with hq;subst hq;exact j_ hk
 ·refine aR [] 9 (decide (z<(fn:Int))) (ai (by omega)) ?_;refine W.r [9] (.string ⟨#[]⟩) ⟨?_,rfl⟩ bR;unfold Jg;rw[Jq (fun j q hq=>fI j q (by have:=(List.getElem?_eq_some_iff.1 hq).1;omega) hq)];rfl
end
def jW(fn:Func):Code:=fn.body.getD .skip
def BY(k:Int):Value:=match EK k with
 |some s=>.tuple #[.agg #[.int .u8 s.data,.int .i64 s.part,.int .i64 s.least,.int .i64 s.most],.bool true]
 |none=>.tuple #[.agg #[.int .u8 0,.int .i64 0,.int .i64 0,.int .i64 0],.bool false]
theorem aai:(List.range' 0 16).map (fun n:Nat=>(iT (aK tb (aZ tb [5,18,22,25,28,41,47,50,54,57,63,70,74,77,80] 999 (eW Tryz.f229 (jW Tryz.f229) [.int .u8 (n:Int)])))).bind (fun s=>np tb s Tryz.f229.results.toList))=(List.range' 0 16).map (fun n:Nat=>some (BY (n:Int))):=by kernel_rfl
theorem aaj:(List.range' 16 16).map (fun n:Nat=>(iT (aK tb (aZ tb [5,18,22,25,28,41,47,50,54,57,63,70,74,77,80] 999 (eW Tryz.f229 (jW Tryz.f229) [.int .u8 (n:Int)])))).bind (fun s=>np tb s Tryz.f229.results.toList))=(List.range' 16 16).map (fun n:Nat=>some (BY (n:Int))):=by kernel_rfl
theorem aak:(List.range' 32 16).map (fun n:Nat=>(iT (aK tb (aZ tb [5,18,22,25,28,41,47,50,54,57,63,70,74,77,80] 999 (eW Tryz.f229 (jW Tryz.f229) [.int .u8 (n:Int)])))).bind (fun s=>np tb s Tryz.f229.results.toList))=(List.range' 32 16).map (fun n:Nat=>some (BY (n:Int))):=by kernel_rfl
theorem aal:(List.range' 48 16).map (fun n:Nat=>(iT (aK tb (aZ tb [5,18,22,25,28,41,47,50,54,57,63,70,74,77,80] 999 (eW Tryz.f229 (jW Tryz.f229) [.int .u8 (n:Int)])))).bind (fun s=>np tb s Tryz.f229.results.toList))=(List.range' 48 16).map (fun n:Nat=>some (BY (n:Int))):=by kernel_rfl
theorem aam:(List.range' 64 16).map (fun n:Nat=>(iT (aK tb (aZ tb [5,18,22,25,28,41,47,50,54,57,63,70,74,77,80] 999 (eW Tryz.f229 (jW Tryz.f229) [.int .u8 (n:Int)])))).bind (fun s=>np tb s Tryz.f229.results.toList))=(List.range' 64 16).map (fun n:Nat=>some (BY (n:Int))):=by kernel_rfl
theorem aan:(List.range' 80 16).map (fun n:Nat=>(iT (aK tb (aZ tb [5,18,22,25,28,41,47,50,54,57,63,70,74,77,80] 999 (eW Tryz.f229 (jW Tryz.f229) [.int .u8 (n:Int)])))).bind (fun s=>np tb s Tryz.f229.results.toList))=(List.range' 80 16).map (fun n:Nat=>some (BY (n:Int))):=by kernel_rfl
theorem aao:(List.range' 96 16).map (fun n:Nat=>(iT (aK tb (aZ tb [5,18,22,25,28,41,47,50,54,57,63,70,74,77,80] 999 (eW Tryz.f229 (jW Tryz.f229) [.int .u8 (n:Int)])))).bind (fun s=>np tb s Tryz.f229.results.toList))=(List.range' 96 16).map (fun n:Nat=>some (BY (n:Int))):=by kernel_rfl
theorem aap:(List.range' 112 16).map (fun n:Nat=>(iT (aK tb (aZ tb [5,18,22,25,28,41,47,50,54,57,63,70,74,77,80] 999 (eW Tryz.f229 (jW Tryz.f229) [.int .u8 (n:Int)])))).bind (fun s=>np tb s Tryz.f229.results.toList))=(List.range' 112 16).map (fun n:Nat=>some (BY (n:Int))):=by kernel_rfl
theorem aaq:(List.range' 128 16).map (fun n:Nat=>(iT (aK tb (aZ tb [5,18,22,25,28,41,47,50,54,57,63,70,74,77,80] 999 (eW Tryz.f229 (jW Tryz.f229) [.int .u8 (n:Int)])))).bind (fun s=>np tb s Tryz.f229.results.toList))=(List.range' 128 16).map (fun n:Nat=>some (BY (n:Int))):=by kernel_rfl
theorem aar:(List.range' 144 16).map (fun n:Nat=>(iT (aK tb (aZ tb [5,18,22,25,28,41,47,50,54,57,63,70,74,77,80] 999 (eW Tryz.f229 (jW Tryz.f229) [.int .u8 (n:Int)])))).bind (fun s=>np tb s Tryz.f229.results.toList))=(List.range' 144 16).map (fun n:Nat=>some (BY (n:Int))):=by kernel_rfl
theorem WD:(List.range' 160 16).map (fun n:Nat=>(iT (aK tb (aZ tb [5,18,22,25,28,41,47,50,54,57,63,70,74,77,80] 999 (eW Tryz.f229 (jW Tryz.f229) [.int .u8 (n:Int)])))).bind (fun s=>np tb s Tryz.f229.results.toList))=(List.range' 160 16).map (fun n:Nat=>some (BY (n:Int))):=by kernel_rfl
theorem WE:(List.range' 176 16).map (fun n:Nat=>(iT (aK tb (aZ tb [5,18,22,25,28,41,47,50,54,57,63,70,74,77,80] 999 (eW Tryz.f229 (jW Tryz.f229) [.int .u8 (n:Int)])))).bind (fun s=>np tb s Tryz.f229.results.toList))=(List.range' 176 16).map (fun n:Nat=>some (BY (n:Int))):=by kernel_rfl
theorem WG:(List.range' 192 16).map (fun n:Nat=>(iT (aK tb (aZ tb [5,18,22,25,28,41,47,50,54,57,63,70,74,77,80] 999 (eW Tryz.f229 (jW Tryz.f229) [.int .u8 (n:Int)])))).bind (fun s=>np tb s Tryz.f229.results.toList))=(List.range' 192 16).map (fun n:Nat=>some (BY (n:Int))):=by kernel_rfl
theorem WH:(List.range' 208 16).map (fun n:Nat=>(iT (aK tb (aZ tb [5,18,22,25,28,41,47,50,54,57,63,70,74,77,80] 999 (eW Tryz.f229 (jW Tryz.f229) [.int .u8 (n:Int)])))).bind (fun s=>np tb s Tryz.f229.results.toList))=(List.range' 208 16).map (fun n:Nat=>some (BY (n:Int))):=by kernel_rfl
theorem WI:(List.range' 224 16).map (fun n:Nat=>(iT (aK tb (aZ tb [5,18,22,25,28,41,47,50,54,57,63,70,74,77,80] 999 (eW Tryz.f229 (jW Tryz.f229) [.int .u8 (n:Int)])))).bind (fun s=>np tb s Tryz.f229.results.toList))=(List.range' 224 16).map (fun n:Nat=>some (BY (n:Int))):=by kernel_rfl
theorem WJ:(List.range' 240 16).map (fun n:Nat=>(iT (aK tb (aZ tb [5,18,22,25,28,41,47,50,54,57,63,70,74,77,80] 999 (eW Tryz.f229 (jW Tryz.f229) [.int .u8 (n:Int)])))).bind (fun s=>np tb s Tryz.f229.results.toList))=(List.range' 240 16).map (fun n:Nat=>some (BY (n:Int))):=by kernel_rfl
theorem WC{n:Nat}(hn:n<256):(iT (aK tb (aZ tb [5,18,22,25,28,41,47,50,54,57,63,70,74,77,80] 999 (eW Tryz.f229 (jW Tryz.f229) [.int .u8 (n:Int)])))).bind (fun s=>np tb s Tryz.f229.results.toList)=some (BY (n:Int)):=by
 by_cases h0:n<16
 ·exact List.map_inj_left.1 aai n (List.mem_range'_1.2 ⟨by omega,by omega⟩)
 by_cases h1:n<32
 ·exact List.map_inj_left.1 aaj n (List.mem_range'_1.2 ⟨by omega,by omega⟩)
 by_cases h2:n<48
 ·exact List.map_inj_left.1 aak n (List.mem_range'_1.2 ⟨by omega,by omega⟩)
 by_cases h3:n<64
 ·exact List.map_inj_left.1 aal n (List.mem_range'_1.2 ⟨by omega,by omega⟩)
 by_cases h4:n<80
 ·exact List.map_inj_left.1 aam n (List.mem_range'_1.2 ⟨by omega,by omega⟩)
 by_cases h5:n<96
 ·exact List.map_inj_left.1 aan n (List.mem_range'_1.2 ⟨by omega,by omega⟩)
 by_cases h6:n<112
 ·exact List.map_inj_left.1 aao n (List.mem_range'_1.2 ⟨by omega,by omega⟩)
 by_cases h7:n<128
 ·exact List.map_inj_left.1 aap n (List.mem_range'_1.2 ⟨by omega,by omega⟩)
 by_cases h8:n<144
 ·exact List.map_inj_left.1 aaq n (List.mem_range'_1.2 ⟨by omega,by omega⟩)
 by_cases h9:n<160
 ·exact List.map_inj_left.1 aar n (List.mem_range'_1.2 ⟨by omega,by omega⟩)
 by_cases h10:n<176
 ·exact List.map_inj_left.1 WD n (List.mem_range'_1.2 ⟨by omega,by omega⟩)
 by_cases h11:n<192
 ·exact List.map_inj_left.1 WE n (List.mem_range'_1.2 ⟨by omega,by omega⟩)
 by_cases h12:n<208
 ·exact List.map_inj_left.1 WG n (List.mem_range'_1.2 ⟨by omega,by omega⟩)
 by_cases h13:n<224
 ·exact List.map_inj_left.1 WH n (List.mem_range'_1.2 ⟨by omega,by omega⟩)
 by_cases h14:n<240
 ·exact List.map_inj_left.1 WI n (List.mem_range'_1.2 ⟨by omega,by omega⟩)
 exact List.map_inj_left.1 WJ n (List.mem_range'_1.2 ⟨by omega,by omega⟩)
section
variable{Γ:List aC}
theorem Ur(k:Int)(hk:yE k):aw tb Tryz.prog 229 [.int .u8 k] Γ (jf (BY k)):=by
 obtain⟨n,rfl⟩:∃n:Nat,k=n:=⟨k.toNat,by have:=hk.1;omega⟩;refine aw.of_W (c:=jW Tryz.f229) az Tryz.func229 (by kernel_rfl) ?_;exact W.r [5,18,22,25,28,41,47,50,54,57,63,70,74,77,80] (BY (n:Int)) (h:=(WC (by have:=hk.2;omega))) ⟨rfl,rfl⟩ bR
theorem W4(k:Int)(hk:yE k)(s:QA)(hs:EK k=some s):aw tb Tryz.prog 229 [.int .u8 k] Γ (jf (.tuple #[.agg #[.int .u8 s.data,.int .i64 s.part,.int .i64 s.least,.int .i64 s.most],.bool true])):=by
 have:=Ur (Γ:=Γ) k hk;unfold BY at this;rw[hs]at this;exact this
theorem WZ(k:Int)(hk:yE k)(hs:EK k=none):aw tb Tryz.prog 229 [.int .u8 k] Γ (jf (.tuple #[.agg #[.int .u8 0,.int .i64 0,.int .i64 0,.int .i64 0],.bool false])):=by
 have:=Ur (Γ:=Γ) k hk;unfold BY at this;rw[hs]at this;exact this
end
theorem P8{k:Int}{s:QA}(h:EK k=some s):1≤s.part∧s.part≤176∧0≤s.least∧s.most≤8191:=by
 have key:∀(c:Prop) [Decidable c] (a:QA) (o:Option QA),(if c then some a else o)=some s→(1≤a.part∧a.part≤176∧0≤a.least∧a.most≤8191)→(o=some s→1≤s.part∧s.part≤176∧0≤s.least∧s.most≤8191)→1≤s.part∧s.part≤176∧0≤s.least∧s.most≤8191:=by
  intro c _ a o h1 h2 h3;by_cases hc:c
  ·rw[if_pos hc]at h1;injection h1 with h1;subst h1;exact h2
  ·rw[if_neg hc]at h1;exact h3 h1
 unfold EK at h;refine key _ _ _ h (by decide) (fun h=>?_);refine key _ _ _ h (by decide) (fun h=>?_);refine key _ _ _ h (by decide) (fun h=>?_);refine key _ _ _ h (by decide) (fun h=>?_);refine key _ _ _ h (by decide) (fun h=>?_);refine key _ _ _ h (by decide) (fun h=>?_);refine key _ _ _ h (by decide) (fun h=>?_);refine key _ _ _ h (by decide) (fun h=>?_);refine key _ _ _ h (by decide) (fun h=>?_);refine key _ _ _ h (by decide) (fun h=>?_);refine key _ _ _ h (by decide) (fun h=>?_);refine key _ _ _ h (by decide) (fun h=>?_);refine key _ _ _ h (by decide) (fun h=>?_);refine key _ _ _ h (by decide) (fun h=>?_);refine key _ _ _ h (by decide) (fun h=>?_);simp at h
def stp(T:Tb)(c:fC):fC:=match aK T c with
 | .next c'=>c'
 |_=>c
theorem W.stp{T:Tb}{P:Program}{fin:VS→List aC→Prop}{c:fC}{Γ:List aC}(h:W T P fin (YtgaaopjagcaojaaGreat.stp T c) Γ):W T P fin c Γ:=by
 unfold YtgaaopjagcaojaaGreat.stp at h;split at h
 ·rename_i c' he;exact W.next he h
 ·exact h
section
variable{Γ:List aC}
theorem Pk(d a l e:Int):aw tb Tryz.prog 230 [.agg #[.int .u8 d,.int .i64 a,.int .i64 l,.int .i64 e]] Γ (jf (.int .i64 (max a 1))):=by
 refine aw.of_W az Tryz.func230 rfl ?_;refine Mz [] .i64 a 1 (max a 1) rfl ?_;exact W.r [] (.int .i64 (max a 1)) ⟨rfl,rfl⟩ bR
theorem Qa:∀n:_root_.Fin 256,([95,63,36]:List UInt8).contains (n.val.toUInt8)=(decide (n.val=95)||decide (n.val=63)||decide (n.val=36)):=by decide+kernel
theorem zE{k:Int}(hk:yE k):decide (Lib.indexByte (⟨#[95,63,36]⟩:ByteArray).data.toList k.toNat.toUInt8≥0)=(k==95||k==63||k==36):=by
 obtain⟨n,rfl⟩:∃n:Nat,k=n:=⟨k.toNat,by have:=hk.1;omega⟩;have hn:n<256:=by have:=hk.2;omega
 rw[qe];have:=Qa ⟨n,hn⟩;simp only[iU]at this⊢;rw[this];congr 1
 ·congr 1
  ·rw[sF];simp;omega
  ·rw[sF];simp;omega
 ·rw[sF];simp;omega
theorem xL{k:Int}(h:(65≤k∧k≤90)∨(97≤k∧k≤122)∨(48≤k∧k≤57)):km k=true:=by
 unfold km;simp only[dZ,aL,dG];omega
theorem rp{k:Int}(h1:¬(65≤k∧k≤90))(h2:¬(97≤k∧k≤122))(h3:¬(48≤k∧k≤57)):km k=(k==95||k==63||k==36):=by
 unfold km;rw[←Bool.decide_and,←Bool.decide_and,←Bool.decide_and,ai h1,ai h2,ai h3];rfl
theorem GB(k:Int)(hk:yE k):aw tb Tryz.prog 232 [.int .u8 k] Γ (jf (.bool (km k))):=by
 refine aw.of_W az Tryz.func232 rfl ?_;by_cases h0:65≤k∧k≤90
 ·refine bk [] 5 (decide (k≥65)) (ar (by omega)) ?_;refine bk [5] 9 (decide (k≤90)) (ar (by omega)) ?_;exact W.r [25,20,17,12,9] (.bool true) ⟨by rw[xL (by omega)],rfl⟩ bR
 by_cases h1:97≤k∧k≤122
 ·refine bk [] 5 (decide (k≥65)) (ar (by omega)) ?_;refine aR [5] 9 (decide (k≤90)) (ai (by omega)) ?_;refine bk [9] 12 (decide (k≥97)) (ar (by omega)) ?_;refine bk [9,12] 17 (decide (k≤122)) (ar (by omega)) ?_;exact W.r [25,20,17] (.bool true) ⟨by rw[xL (by omega)],rfl⟩ bR
 by_cases h2:48≤k∧k≤57
 ·refine aR [] 5 (decide (k≥65)) (ai (by omega)) ?_;refine aR [9,5] 12 (decide (k≥97)) (ai (by omega)) ?_;refine bk [17,9,12] 20 (decide (k≥48)) (ar (by omega)) ?_;refine bk [17,20] 25 (decide (k≤57)) (ar (by omega)) ?_;exact W.r [25] (.bool true) ⟨by rw[xL (by omega)],rfl⟩ bR
 by_cases h3:k<48
 ·refine aR [] 5 (decide (k≥65)) (ai (by omega)) ?_;refine aR [9,5] 12 (decide (k≥97)) (ai (by omega)) ?_;refine aR [17,9,12] 20 (decide (k≥48)) (ai (by omega)) ?_;refine aq [25,17,20] (JZ ⟨#[95,63,36]⟩ k) ?_;rintro _ _ ⟨rfl,rfl⟩;exact W.r [25] (.bool (decide (Lib.indexByte (⟨#[95,63,36]⟩:ByteArray).data.toList k.toNat.toUInt8≥0))) ⟨by rw[zE hk,rp (by omega) (by omega) (by omega)],rfl⟩ bR
 by_cases h4:k<65
 ·refine aR [] 5 (decide (k≥65)) (ai (by omega)) ?_;refine aR [9,5] 12 (decide (k≥97)) (ai (by omega)) ?_;refine bk [17,9,12] 20 (decide (k≥48)) (ar (by omega)) ?_;refine aR [17,20] 25 (decide (k≤57)) (ai (by omega)) ?_;refine aq [25] (JZ ⟨#[95,63,36]⟩ k) ?_;rintro _ _ ⟨rfl,rfl⟩;exact W.r [25] (.bool (decide (Lib.indexByte (⟨#[95,63,36]⟩:ByteArray).data.toList k.toNat.toUInt8≥0))) ⟨by rw[zE hk,rp (by omega) (by omega) (by omega)],rfl⟩ bR
 by_cases h5:k<97
 ·refine bk [] 5 (decide (k≥65)) (ar (by omega)) ?_;refine aR [5] 9 (decide (k≤90)) (ai (by omega)) ?_;refine aR [9] 12 (decide (k≥97)) (ai (by omega)) ?_;refine bk [17,9,12] 20 (decide (k≥48)) (ar (by omega)) ?_;refine aR [17,20] 25 (decide (k≤57)) (ai (by omega)) ?_;refine aq [25] (JZ ⟨#[95,63,36]⟩ k) ?_;rintro _ _ ⟨rfl,rfl⟩;exact W.r [25] (.bool (decide (Lib.indexByte (⟨#[95,63,36]⟩:ByteArray).data.toList k.toNat.toUInt8≥0))) ⟨by rw[zE hk,rp (by omega) (by omega) (by omega)],rfl⟩ bR
 refine bk [] 5 (decide (k≥65)) (ar (by omega)) ?_;refine aR [5] 9 (decide (k≤90)) (ai (by omega)) ?_;refine bk [9] 12 (decide (k≥97)) (ar (by omega)) ?_;refine aR [9,12] 17 (decide (k≤122)) (ai (by omega)) ?_;refine bk [17] 20 (decide (k≥48)) (ar (by omega)) ?_;refine aR [17,20] 25 (decide (k≤57)) (ai (by omega)) ?_;refine aq [25] (JZ ⟨#[95,63,36]⟩ k) ?_;rintro _ _ ⟨rfl,rfl⟩;exact W.r [25] (.bool (decide (Lib.indexByte (⟨#[95,63,36]⟩:ByteArray).data.toList k.toNat.toUInt8≥0))) ⟨by rw[zE hk,rp (by omega) (by omega) (by omega)],rfl⟩ bR
theorem mJ{b:List Int}(hb:kJ b):iM (iA b)=gK b:=MT (fun z hz=>by
 unfold gK at hz;split at hz
 ·exact hb z (List.dropLast_subset _ hz)
 ·exact hb z hz)
theorem kq{b:List Int}(hb:kJ b):kJ (gK b):=fun z hz=>by
 unfold gK at hz;split at hz
 ·exact hb z (List.dropLast_subset _ hz)
 ·exact hb z hz
theorem LO(b:List Int):(gK b).length≤b.length:=by
 unfold gK;split
 ·simp
 ·exact aj _
theorem x8(b:List Int):(iA b).size=(gK b).length:=strOfNums_size _
theorem wM{l:List Int}(hl:kJ l):decide (Lib.indexByte (Lib.bytesOf l) (0:Int).toNat.toUInt8<0)= !l.contains 0:=by
 have h:=qe (Lib.bytesOf l) (0:Int).toNat.toUInt8;have e:(Lib.bytesOf l).contains (0:Int).toNat.toUInt8=l.contains 0:=by
  rw[sF,List.contains_iff_mem,List.contains_iff_mem];unfold Lib.bytesOf;rw[zR];constructor
  ·rintro⟨z,hz,e⟩;have:=hl z hz;have e2:=dF UInt8.toNat e;have e3:(UInt8.ofNat z.toNat).toNat=z.toNat % 256:=rfl;have e4:z.toNat % 256=0:=by
    rw[←e3];exact e2
   have:z=0:=by omega
   subst this;exact hz
  ·intro hz;exact⟨0,hz,rfl⟩
 rw[←e,←h];rw[sF];simp
theorem GY{r:Re}(h:EK r.k=none):gp r=false:=by
 unfold gp;rw[h]
theorem GX{r:Re}{s:QA}(h:EK r.k=some s):gp r=(r.d==s.data&&((r.b.length:Int) % s.part==0&&(decide (s.least≤(r.b.length:Int)/s.part)&&(decide ((r.b.length:Int)/s.part≤s.most)&&
   (if DT r.k then !(gK r.b).contains 0 else if DS r.k then(gK r.b).all km else true))))):=by
 unfold gp;rw[h]
set_option maxHeartbeats 1000000 in
theorem Po(s:Sl)(r:Re) [h:aY (xu s) r Γ]:aw tb Tryz.prog 180 [rev r s] Γ (jf (.bool (gp r))):=by
 obtain⟨k,d,b⟩:=r;refine aw.of_W az Tryz.func180 rfl ?_;refine p6 (yE k) rfl (fun I w _ hh=>(h.p hh).1) (fun hk=>?_);refine W.more (Δ:=[BF s b]) rfl (fun I w _ hh=>aU (h.p hh).2.2) ?_;refine xw s (hm:=rfl) (fun h1 h2 h3 h4=>?_);cases hsh:EK k with
 |none=>
  have p_:gp ⟨k,d,b⟩=false:=GY hsh;refine aq [] (WZ k hk hsh) ?_;rintro _ _ ⟨rfl,rfl⟩;refine aq [] (Pk 0 0 0 0) ?_;rintro _ _ ⟨rfl,rfl⟩;refine W.quo [] (s.n:Int) (max 0 1) (IntKind.i64.wrap ((s.n:Int).tdiv 1)) (by decide) rfl ?_;refine bk [] 22 (!false) rfl ?_;exact W.r [29,38,44,49,22] (.bool false) ⟨by rw[p_],rfl⟩ bR
 |some sh=>
  have qG:gp ⟨k,d,b⟩=_:=GX hsh;simp only at qG;obtain⟨rY,yC,TY,hp4⟩:=P8 hsh;have V7:max sh.part 1=sh.part:=by omega
  have hq:(s.n:Int).tdiv (max sh.part 1)=(b.length:Int)/sh.part:=by rw[V7,h1,Int.tdiv_eq_ediv_of_nonneg (by omega)]
  have hm:(s.n:Int).tmod (max sh.part 1)=(b.length:Int) % sh.part:=by rw[V7,h1,gS (by omega)]
  refine aq [] (W4 k hk sh hsh) ?_;rintro _ _ ⟨rfl,rfl⟩;refine aq [] (Pk sh.data sh.part sh.least sh.most) ?_;rintro _ _ ⟨rfl,rfl⟩;obtain⟨q,hqq⟩:∃q,(b.length:Int)/sh.part=q:=⟨_,rfl⟩;obtain⟨m,Ye⟩:∃m,(b.length:Int) % sh.part=m:=⟨_,rfl⟩;have hq0:0≤q:=by rw[←hqq];exact Int.ediv_nonneg (by omega) (by omega)
  have hq1:q≤b.length:=by rw[←hqq];exact Int.ediv_le_self _ (by omega)
  rw[hqq]at hq qG;rw[Ye]at hm qG;refine W.quo [] (s.n:Int) (max sh.part 1) q (by omega) (by rw[hq,af];omega) ?_;refine aR [] 22 (!true) rfl ?_;by_cases hd:sh.data=d
  rotate_left
  ·refine bk [22] 29 (sh.data != d) (by simpa using hd) ?_;exact W.r [38,44,49,29] (.bool false) ⟨by rw[qG,show(d==sh.data)=false by rw[eL];exact fun e=>hd e.symm];rfl,rfl⟩ bR
  subst hd;rw[show(sh.data==sh.data)=true by simp,dH]at qG;refine aR [22] 29 (sh.data != sh.data) (by simp) ?_;refine aq [29] (Pk sh.data sh.part sh.least sh.most) ?_;rintro _ _ ⟨rfl,rfl⟩;refine zY [29] .i64 (s.n:Int) (max sh.part 1) m (by omega) hm ?_;by_cases hm0:m=0
  rotate_left
  ·refine bk [29] 38 (m != 0) (by simpa using hm0) ?_;exact W.r [44,49,38] (.bool false) ⟨by rw[qG,show(m==0)=false by rw[eL];exact hm0];rfl,rfl⟩ bR
  subst hm0;rw[show((0:Int)==0)=true by decide,dH]at qG;refine aR [29] 38 ((0:Int) != 0) (by decide) ?_;by_cases hlt:q<sh.least
  ·refine bk [38] 44 (decide (q<sh.least)) (ar hlt) ?_;exact W.r [49,44] (.bool false) ⟨by rw[qG,ai (by omega)];rfl,rfl⟩ bR
  rw[ar (show sh.least≤q by omega),dH]at qG;refine aR [38] 44 (decide (q<sh.least)) (ai hlt) ?_;by_cases hgt:q>sh.most
  ·refine bk [44] 49 (decide (q>sh.most)) (ar hgt) ?_;exact W.r [49] (.bool false) ⟨by rw[qG,ai (by omega)];rfl,rfl⟩ bR
  rw[ar (show q≤sh.most by omega),dH]at qG;refine aR [44] 49 (decide (q>sh.most)) (ai hgt) ?_;have hz:(iA b).size≤9223372036854775807:=by
   have:=LO b;rw[x8];omega
  by_cases k2:k=2
  ·subst k2;refine aq [49,52] (mN s (b:=b)) ?_;rintro _ _ ⟨rfl,rfl⟩;refine zZ [] 9 28 5 (iA b) Tryz.underlying9 Tryz.underlying28 Tryz.underlying5 hz (fun B cap hcap=>?_);refine aq [] (Gz B 0 (iA b).size cap (iM (iA b)) 0) ?_;rintro _ _ ⟨rfl,rfl⟩;refine W.r [] (.bool (decide (Lib.indexByte (Lib.bytesOf (iM (iA b))) (0:Int).toNat.toUInt8<0))) ⟨?_,rfl⟩ bR;rw[qG,mJ h3,wM (kq h3)];rfl
  by_cases k25:k=25
  ·subst k25;refine aq [49,52] (mN s (b:=b)) ?_;rintro _ _ ⟨rfl,rfl⟩;refine zZ [] 9 28 5 (iA b) Tryz.underlying9 Tryz.underlying28 Tryz.underlying5 hz (fun B cap hcap=>?_);refine aq [] (Gz B 0 (iA b).size cap (iM (iA b)) 0) ?_;rintro _ _ ⟨rfl,rfl⟩;refine W.r [] (.bool (decide (Lib.indexByte (Lib.bytesOf (iM (iA b))) (0:Int).toNat.toUInt8<0))) ⟨?_,rfl⟩ bR;rw[qG,mJ h3,wM (kq h3)];rfl
  by_cases k44:k=44
  ·subst k44;refine aq [49,52] (mN s (b:=b)) ?_;rintro _ _ ⟨rfl,rfl⟩;refine zZ [] 9 28 5 (iA b) Tryz.underlying9 Tryz.underlying28 Tryz.underlying5 hz (fun B cap hcap=>?_);refine aq [] (Gz B 0 (iA b).size cap (iM (iA b)) 0) ?_;rintro _ _ ⟨rfl,rfl⟩;refine W.r [] (.bool (decide (Lib.indexByte (Lib.bytesOf (iM (iA b))) (0:Int).toNat.toUInt8<0))) ⟨?_,rfl⟩ bR;rw[qG,mJ h3,wM (kq h3)];rfl
  by_cases k55:k=55
  ·subst k55;refine aq [49,52] (mN s (b:=b)) ?_;rintro _ _ ⟨rfl,rfl⟩;refine zZ [] 9 28 5 (iA b) Tryz.underlying9 Tryz.underlying28 Tryz.underlying5 hz (fun B cap hcap=>?_);refine aq [] (Gz B 0 (iA b).size cap (iM (iA b)) 0) ?_;rintro _ _ ⟨rfl,rfl⟩;refine W.r [] (.bool (decide (Lib.indexByte (Lib.bytesOf (iM (iA b))) (0:Int).toNat.toUInt8<0))) ⟨?_,rfl⟩ bR;rw[qG,mJ h3,wM (kq h3)];rfl
  by_cases k58:k=58
  ·subst k58;refine aq [49,52] (mN s (b:=b)) ?_;rintro _ _ ⟨rfl,rfl⟩;refine zZ [] 9 28 5 (iA b) Tryz.underlying9 Tryz.underlying28 Tryz.underlying5 hz (fun B cap hcap=>?_);refine aq [] (Gz B 0 (iA b).size cap (iM (iA b)) 0) ?_;rintro _ _ ⟨rfl,rfl⟩;refine W.r [] (.bool (decide (Lib.indexByte (Lib.bytesOf (iM (iA b))) (0:Int).toNat.toUInt8<0))) ⟨?_,rfl⟩ bR;rw[qG,mJ h3,wM (kq h3)];rfl
  by_cases k6:k=6
  ·subst k6;have FL:gp ⟨6,sh.data,b⟩=(gK b).all km:=qG;refine aq [49,52,64] (mN s (b:=b)) ?_;rintro _ _ ⟨rfl,rfl⟩;refine zZ [] 9 28 5 (iA b) Tryz.underlying9 Tryz.underlying28 Tryz.underlying5 hz (fun B cap hcap=>?_);have hlen:(gK b).length=(iA b).size:=(x8 b).symm;refine yZ [] [72] (fun a:Nat×Int=>[(72,.int .i64 a.2)]) (fun _=>[]) (fun _=>[BF ⟨some ⟨B,0,none⟩,(iA b).size,cap⟩ (iM (iA b))]) (fun a=>a.2=a.1∧a.1≤(gK b).length∧∀(j:Nat) (z:Int),j<a.1→(gK b)[j]? =some z→km z=true) (fun a=>(gK b).length-a.1) (0,0) ⟨rfl,aJ _,fun j z hj=>absurd hj (iY _)⟩ (eC eK eE) ?_;rintro⟨i,z⟩ R ⟨Z8,hi,fI⟩ close;simp only at Z8 hi fI;by_cases hil:i<(gK b).length
   ·obtain⟨y,hy⟩:∃y,(gK b)[i]? =some y:=⟨_,ak hil⟩;have hyb:yE y:=kq h3 y (aN hy);refine bk [] 73 (decide (z<((iA b).size:Int))) (ar (by omega)) ?_;refine bY [73] 1 B 0 (iA b).size cap .i64 i z Z8 az (by omega) ?_;refine dB [] 1 B (0+i*1) (.int .u8 y) az (fun I w _ hh=>?_) ?_
    ·have hb:=(aY.p (k:=BF ⟨some ⟨B,0,none⟩,(iA b).size,cap⟩) (a:=iM (iA b)) inferInstance hh).2.2.2;rw[fE];exact RA.cell hb (by rw[mJ h3,bM,hy];rfl)
    refine aq [] (GB y hyb) ?_;rintro _ _ ⟨rfl,rfl⟩;cases ZU:km y with
    |false=>
     refine bk [] 78 (!false) rfl ?_;refine W.r [78] (.bool false) ⟨?_,rfl⟩ bR;rw[FL,show(gK b).all km=false from List.all_eq_false.2 ⟨y,aN hy,by rw[ZU];decide⟩]
    |true=>
     refine aR [] 78 (!true) rfl ?_;refine close [78] _ _ (i+1,IntKind.i64.wrap (z+1)) (by kernel_rfl) (by kernel_rfl) ⟨by simp only[af];omega,hil,fun j x hj hx=>?_⟩ (by simp only;omega) (eC eK eE);by_cases zp:j<i
     ·exact fI j x zp hx
     ·have:j=i:=by simp only at hj;omega
      subst this;rw[hy]at hx;injection hx with hx;subst hx;exact ZU
   ·refine aR [] 73 (decide (z<((iA b).size:Int))) (ai (by omega)) ?_;refine W.r [73] (.bool true) ⟨?_,rfl⟩ bR;rw[FL,show(gK b).all km=true from List.all_eq_true.2 (fun y hy=>by
     obtain⟨j,hj⟩:=mi hy;exact fI j y (by have:=(List.getElem?_eq_some_iff.1 hj).1;omega) hj)]
  by_cases k18:k=18
  ·subst k18;have FL:gp ⟨18,sh.data,b⟩=(gK b).all km:=qG;refine aq [49,52,64] (mN s (b:=b)) ?_;rintro _ _ ⟨rfl,rfl⟩;refine zZ [] 9 28 5 (iA b) Tryz.underlying9 Tryz.underlying28 Tryz.underlying5 hz (fun B cap hcap=>?_);have hlen:(gK b).length=(iA b).size:=(x8 b).symm;refine yZ [] [72] (fun a:Nat×Int=>[(72,.int .i64 a.2)]) (fun _=>[]) (fun _=>[BF ⟨some ⟨B,0,none⟩,(iA b).size,cap⟩ (iM (iA b))]) (fun a=>a.2=a.1∧a.1≤(gK b).length∧∀(j:Nat) (z:Int),j<a.1→(gK b)[j]? =some z→km z=true) (fun a=>(gK b).length-a.1) (0,0) ⟨rfl,aJ _,fun j z hj=>absurd hj (iY _)⟩ (eC eK eE) ?_;rintro⟨i,z⟩ R ⟨Z8,hi,fI⟩ close;simp only at Z8 hi fI;by_cases hil:i<(gK b).length
   ·obtain⟨y,hy⟩:∃y,(gK b)[i]? =some y:=⟨_,ak hil⟩;have hyb:yE y:=kq h3 y (aN hy);refine bk [] 73 (decide (z<((iA b).size:Int))) (ar (by omega)) ?_;refine bY [73] 1 B 0 (iA b).size cap .i64 i z Z8 az (by omega) ?_;refine dB [] 1 B (0+i*1) (.int .u8 y) az (fun I w _ hh=>?_) ?_
    ·have hb:=(aY.p (k:=BF ⟨some ⟨B,0,none⟩,(iA b).size,cap⟩) (a:=iM (iA b)) inferInstance hh).2.2.2;rw[fE];exact RA.cell hb (by rw[mJ h3,bM,hy];rfl)
    refine aq [] (GB y hyb) ?_;rintro _ _ ⟨rfl,rfl⟩;cases ZU:km y with
    |false=>
     refine bk [] 78 (!false) rfl ?_;refine W.r [78] (.bool false) ⟨?_,rfl⟩ bR;rw[FL,show(gK b).all km=false from List.all_eq_false.2 ⟨y,aN hy,by rw[ZU];decide⟩]
    |true=>
     refine aR [] 78 (!true) rfl ?_;refine close [78] _ _ (i+1,IntKind.i64.wrap (z+1)) (by kernel_rfl) (by kernel_rfl) ⟨by simp only[af];omega,hil,fun j x hj hx=>?_⟩ (by simp only;omega) (eC eK eE);by_cases zp:j<i
     ·exact fI j x zp hx
     ·have:j=i:=by simp only at hj;omega
      subst this;rw[hy]at hx;injection hx with hx;subst hx;exact ZU
   ·refine aR [] 73 (decide (z<((iA b).size:Int))) (ai (by omega)) ?_;refine W.r [73] (.bool true) ⟨?_,rfl⟩ bR;rw[FL,show(gK b).all km=true from List.all_eq_true.2 (fun y hy=>by
     obtain⟨j,hj⟩:=mi hy;exact fI j y (by have:=(List.getElem?_eq_some_iff.1 hj).1;omega) hj)]
  have QL:DT k=false:=by simp[DT,k2,k25,k44,k55,k58]
  have hnn:DS k=false:=by simp[DS,k6,k18]
  rw[QL,hnn]at qG;refine aR [49] 52 (k==2) (beq_eq_false_iff_ne.2 k2) ?_;refine W.stp ?_;refine aR [] 52 (k==25) (beq_eq_false_iff_ne.2 k25) ?_;refine W.stp ?_;refine aR [] 52 (k==44) (beq_eq_false_iff_ne.2 k44) ?_;refine W.stp ?_;refine aR [] 52 (k==55) (beq_eq_false_iff_ne.2 k55) ?_;refine W.stp ?_;refine aR [] 52 (k==58) (beq_eq_false_iff_ne.2 k58) ?_;refine W.stp ?_;refine aR [52] 64 (k==6) (beq_eq_false_iff_ne.2 k6) ?_;refine W.stp ?_;refine aR [52] 64 (k==18) (beq_eq_false_iff_ne.2 k18) ?_;refine W.stp ?_;exact W.r [64] (.bool true) ⟨by rw[qG];rfl,rfl⟩ bR
end
end Go.Proofs.YtgaaopjagcaojaaGreat
