import Derived.Test.YtgaaopjagcaojaaGreatMc
set_option linter.unusedSimpArgs false
set_option linter.unusedVariables false
set_option maxHeartbeats 2000000
namespace Go.Proofs.YtgaaopjagcaojaaGreat
open Go.RowKit Go.IntWalk
structure S6(t:List Ce):Prop where
 ok:∀c∈t,∀x∈c.i,jw x
 len:∀c∈t,c.i.length≤100000
 tl:t.length≤100000
 by':∀c∈t,Xt c
structure EU(t:List Ce):Prop where
 lost:lost t=false
 right:∀c∈t,∀x∈c.i,kN x=true
 deep:∀i,i<t.length→∃d,dep t 64 i=some d
theorem S6.ce{t:List Ce}(h:S6 t):∀c∈t,Ux c:=fun c hc x hx=>(h.ok c hc x hx).im
theorem pt{t:List Ce}{i:Nat}{x:Ce}(hx:t[i]? =some x):lG t i=x.i:=by
 unfold lG;rw[dL,hx];rfl
theorem CM{t:List Ce}{i:Nat}{x:Im}(h:x∈lG t i):∃c∈t,x∈c.i:=by
 unfold lG at h;rw[dL]at h;cases hg:t[i]? with
 |none=>rw[hg]at h;simp at h
 |some c=>
  rw[hg]at h;exact⟨c,aK hg,h⟩
theorem zl{t:List Ce}{g:Nat→Int}(hg:∀k,0≤g k){x:Im}(hr:kN x=true):0≤ka t g x:=by
 unfold ka;split
 ·omega
 ·split
  ·split<;>omega
  ·split
   ·rename_i hk;obtain⟨_,h1,h2,_⟩:=rj hr hk;split
    ·exact eT (eT (hg _) (by omega)) (by omega)
    ·omega
   ·omega
theorem BD:∀{l:List Int},(∀z∈l,0≤z)→0≤l.sum
 | [],_=>by simp
 |z::l,h=>by
  have:=h z (by simp);have:=BD (l:=l) fun y hy=>h y (by simp[hy]);simp only[ec];omega
theorem EU.cnt_nn{t:List Ce}(h:EU t):∀n c,0≤k9 t n c
 |0,c=>by simp[k9]
 |n+1,c=>by
  unfold k9;refine BD fun z hz=>?_;obtain⟨x,hx,rfl⟩:=List.mem_map.1 hz;obtain⟨c',hc',hx'⟩:=CM hx;exact zl (h.cnt_nn n) (h.right c' hc' x hx')
theorem EU.cnt64{t:List Ce}(h:EU t){i:Nat}(hi:i<t.length):k9 t 64 i=((lG t i).map (ka t (k9 t 64))).sum:=by
 obtain⟨d,hd⟩:=h.deep i hi;rw[←Am hd];rfl
theorem EU.kid{t:List Ce}(h:EU t){i:Nat}{x:Ce}(hx:t[i]? =some x){y:Im}(hy:y∈x.i){s:List Int}(hs:jj y=some s):∃k,om t y=some k∧kJ t (strOfNums s)=some k∧k∈fy t i:=by
 have h1:=h.lost;unfold YtgaaopjagcaojaaGreat.lost at h1;rw[jd]at h1;have h2:=h1 x (aK hx);unfold qp at h2;simp only[Bool.not_eq_true]at h2;rw[jd]at h2;have h3:=h2 y hy;have e:om t y=kJ t (strOfNums s):=by unfold om;rw[hs];rfl
 cases hk:om t y with
 |none=>rw[hs,hk]at h3;simp at h3
 |some k=>exact⟨k,rfl,by rw[←e,hk],List.mem_filterMap.2 ⟨y,by rw[pt hx];exact hy,hk⟩⟩
theorem AY{t:List Ce}{s:List Int}{k:Nat}(h:kJ t (strOfNums s)=some k):gw (strOfNums s) (cg (cw t))=some (.int .i64 (k:Int)):=by
 rw[mT,vL,h];rfl
theorem Ry{S a a' m:Int}(h0:0≤S)(hm:0≤m)(ha:0≤a')(h:a'=a∨(m≤a'∧m≤a)):min (min S m+a') m=min (S+a) m:=by omega
theorem Ea{k c:Int}(h:0≤k)(hc:1≤c):k≤k*c:=by
 have:=lA hc h;omega
theorem Jt{k c r m:Int}(hk:0≤k)(hm:0≤m)(hc:1≤c)(hr:1≤r):0≤min k m*c*r∧(min k m*c*r=k*c*r∨(m≤min k m*c*r∧m≤k*c*r)):=by
 have h1:0≤min k m:=by omega
 refine⟨eT (eT h1 (by omega)) (by omega),?_⟩;by_cases h:k≤m
 ·exact .inl (by rw[Int.min_eq_left h])
 ·rw[Int.min_eq_right (by omega)];have a1:=Ea hm hc;have a2:=Ea (k:=m*c) (by omega) hr;have b1:=Ea hk hc;have b2:=Ea (k:=k*c) (by omega) hr;exact .inr ⟨by omega,by omega⟩
theorem Hl{k c r z:Int}(hk:0≤k∧k≤100001)(hc:1≤c∧c≤32767)(hr:1≤r∧r≤32767)(hz:0≤z∧z≤100001):IntKind.i64.wrap (z+IntKind.i64.wrap (IntKind.i64.wrap (k*c)*r))=z+k*c*r:=by
 have a0:0≤k*c:=eT hk.1 (by omega);have a1:k*c≤100001*32767:=qB hk.2 hc.2 (by omega) (by omega);have b0:0≤k*c*r:=eT a0 (by omega);have b1:k*c*r≤(100001*32767)*32767:=qB a1 hr.2 (by omega) (by omega);rw[i64_in (k*c) (by omega),i64_in (k*c*r) (by omega),i64_in (z+k*c*r) (by omega)]
def wi(t:List Ce)(most:Int)(cm:List (Int×Int)):Prop:=∀k v,gw k cm=some v→∃j:Nat,k=j∧v=min (k9 t 64 j) (most+1)
theorem wi.set{t:List Ce}{most:Int}{cm:List (Int×Int)}(h:wi t most cm){c:Int}{i:Nat}(hc:c=i){v:Int}(hv:v=min (k9 t 64 i) (most+1)):wi t most (lk c v cm):=fun k u hk=>by
 rw[iq]at hk;split at hk
 ·injection hk with hk;exact⟨i,by omega,by omega⟩
 ·exact h k u hk
def Uy(t:List Ce)(most:Int)(i:Nat)(FO':List (Nat×List Value))(b1 b2:Nat×List (Value×Value))(cn:Nat)(v:Value)(O:List (Nat×List Value))(M:List (Nat×List (Value×Value)))(Δ:List aD):Prop:=
 ∃o6:List (Int×Int),wi t most o6∧v=.int .i64 (min (k9 t 64 i) (most+1))∧O=FO'∧M=[b1,b2,(cn,bM dw (cg o6))]∧Δ=[]
structure aaA where
 j:Nat
 z:Int
 n:Int
 cm:List (Int×Int)
def ctU(fb:Nat)(c:Int)(u:Sl):aaA→List (Nat×SV):=fun a=>[(0,.val (fo fb)),(1,.val (.int .i64 c)),(4,.val (.int .i64 0)),(34,.val (aZ u)),(35,.val (.int .i64 u.n)),(7,.val (.int .i64 a.n)),(36,.val (.int .i64 a.z))]
section
theorem J9(fb bn cn dn:Nat)(ca:Option Addr)(o6 cc:Nat)(most:Int)(sh:Value)(dm:List (Value×Value)){t:List Ce}(hF:S6 t)(hD:EU t)(tJ:0≤most∧most≤100000):
  ∀(n:Nat) (Γ:List aD) [aW (lH ⟨ca,o6,cc⟩) t Γ] (c:Int) (i:Nat),c=i→i<t.length→(∃d,dep t n i=some d)→∀cm:List (Int×Int),wi t most cm→
  dB KG Tryz.prog 47 [fo fb,.int .i64 c] (FO fb ⟨ca,o6,cc⟩ bn cn dn most sh) [(bn,bM dU (cg (cw t))),(dn,dm),(cn,bM dw (cg cm))] Γ (Uy t most i (FO fb ⟨ca,o6,cc⟩ bn cn dn most sh) (bn,bM dU (cg (cw t))) (dn,dm) cn):=by
 intro n
 induction n with
 |zero=>
  intro Γ hcs c i hc hi ⟨d,hd⟩;simp[dep]at hd
 |succ n ih=>
 intro Γ hcs c i hc hi sU cm hcm;obtain⟨x,hx⟩:∃x,t[i]? =some x:=⟨_,ai hi⟩;have hxm:=aK hx;have DZ:=pt hx;have NV:=hD.cnt64 hi;rw[DZ]at NV;refine dB.of_W bH Tryz.func47 rfl ?_;refine W.len g8 lj.x ⟨ca,o6,cc⟩ rfl (fun h1 h2 h3=>?_);simp only at h1 h2 h3;have hil:i<o6:=by rw[h1];exact hi
 refine sI ⟨ca,o6,cc⟩ hx (fun b off fh fi ha=>?_);simp only at ha;subst ha;refine W.more (Δ:=[pS fi x.i]) rfl (fun I w _ hh=>aS (aW.p (k:=yz fh fi) (a:=x) inferInstance hh).2) ?_;obtain⟨ia,im,ic⟩:=fi;refine W.len lZ mN.x ⟨ia,im,ic⟩ rfl (fun i1 i2 i3=>?_);simp only at i1 i2 i3;refine bZ [] 2 fb 0 bH ?_;refine dR [] (FO fb ⟨some ⟨b,off,none⟩,o6,cc⟩ bn cn dn most sh) fb (0+2) 1 [.slice (some ⟨b,off,none⟩) o6 cc,.map (some bn),.map (some cn),.map (some dn),.int .i64 most,sh] (.map (some cn)) bH (.head _) rfl ?_;refine vm [] dw 70 3 3 true (FO fb ⟨some ⟨b,off,none⟩,o6,cc⟩ bn cn dn most sh) [(bn,bM dU (cg (cw t))),(dn,dm),(cn,bM dw (cg cm))] cn c (cg cm) (.int .i64 0) bH (.tail _ (.tail _ (.head _))) ?_;rw[mT];cases hg:gw c cm with
 |some d=>
  refine bj [] 25 true rfl ?_;obtain⟨j,hj,hv⟩:=hcm c d hg;obtain rfl:j=i:=by omega
  exact j1 [25] (.int .i64 d) (FO fb ⟨some ⟨b,off,none⟩,o6,cc⟩ bn cn dn most sh) [(bn,bM dU (cg (cw t))),(dn,dm),(cn,bM dw (cg cm))] ⟨cm,hcm,by rw[hv],rfl,rfl,rfl⟩ bT
 |none=>
  refine aQ [] 25 false rfl ?_;refine bZ [25] 0 fb 0 bH ?_;refine dR [] (FO fb ⟨some ⟨b,off,none⟩,o6,cc⟩ bn cn dn most sh) fb (0+0) 1 [.slice (some ⟨b,off,none⟩) o6 cc,.map (some bn),.map (some cn),.map (some dn),.int .i64 most,sh] (.slice (some ⟨b,off,none⟩) o6 cc) bH (.head _) rfl ?_;refine bW [] 2 b off o6 cc .i64 i c hc bH hil ?_;refine bZ [] 1 b (off+i*2) bH ?_;refine dJ [] 1 b (off+i*2+1) (.slice ia im ic) bH (fun I w hd hh=>cA (T:=KG) b (off+i*2) I w hd hh 1 _ rfl) ?_;refine j0 [] Tryz.f47 0 101 101 [0,1,4,34,35,7,36] [] (ctU fb c ⟨ia,im,ic⟩) (fun _=>[]) (fun _=>FO fb ⟨some ⟨b,off,none⟩,o6,cc⟩ bn cn dn most sh) (fun a=>[(bn,bM dU (cg (cw t))),(dn,dm),(cn,bM dw (cg a.cm))]) (fun a=>[pS ⟨ia,im,ic⟩ x.i,lH ⟨some ⟨b,off,none⟩,o6,cc⟩ t]) (fun a=>a.z=a.j∧a.j≤im∧a.n=min (((x.i.take a.j).map (ka t (k9 t 64))).sum) (most+1)∧wi t most a.cm) (fun a=>im-a.j) ⟨0,0,0,cm⟩ ⟨rfl,aJ _,by simp only[mQ,dk,List.sum_nil];omega,hcm⟩ (eC eK (eC eK eE)) ?_;rintro⟨j,z,N,em⟩ K ⟨hz,hj,hN,JJ⟩ close;simp only at hz hj hN JJ;obtain⟨S,hS⟩:∃S,((x.i.take j).map (ka t (k9 t 64))).sum=S:=⟨_,rfl⟩;have hS0:0≤S:=by
   rw[←hS];refine BD fun q hq=>?_;obtain⟨y,hy,rfl⟩:=List.mem_map.1 hq;exact zl (hD.cnt_nn 64) (hD.right x hxm y (fe hy))
  rw[hS]at hN;have hN0:0≤N∧N≤100001:=by omega
  have hm1:IntKind.i64.wrap (most+1)=most+1:=by rw[af];omega
  by_cases hlt:j<im
  ·obtain⟨y,hy⟩:∃y,x.i[j]? =some y:=⟨_,ai (by omega)⟩;have Mo:=aK hy;have VM:=hF.ok x hxm y Mo;have lV:=VM.im;have VN:=hD.right x hxm y Mo;have next:∀a':Int,0≤a'→(a'=ka t (k9 t 64) y∨(most+1≤a'∧most+1≤ka t (k9 t 64) y))→min (N+a') (most+1)=min (((x.i.take (j+1)).map (ka t (k9 t 64))).sum) (most+1):=fun a' h0 h=>by
    rw[fw hy,aT,kq,hS];simp only[bY,dk,ec,List.sum_nil,vd];rw[hN];exact Ry hS0 (by omega) h0 h
   refine wm ⟨ia,im,ic⟩ hy (fun b2 pD yf yp ha=>?_);simp only at ha;subst ha;refine bj [] 37 (decide (z<(im:Int))) (au (by omega)) ?_;refine bW [37] 2 b2 pD im ic .i64 j z hz bH hlt ?_;refine cV [] b2 (pD+j*2) [aZ yf,aZ yp] bH (cA b2 (pD+j*2)) ?_;rcases VM.kind with hk|hk|hk|hk|hk|hk|hk
   ·have pk:∀(Γ':List aD) [aW (mI yf yp) y Γ'],aw tb Tryz.prog 81 [lY yf yp] Γ' (jq (.int .u8 8)):=fun Γ' _=>by rw[←hk];exact gC yf yp lV
    refine aq [] (pk _).mF ?_;rintro _ _ ⟨rfl,rfl⟩;refine bZ [42] 4 fb 0 bH ?_;refine dR [] (FO fb ⟨some ⟨b,off,none⟩,o6,cc⟩ bn cn dn most sh) fb (0+4) 1 [.slice (some ⟨b,off,none⟩) o6 cc,.map (some bn),.map (some cn),.map (some dn),.int .i64 most,sh] (.int .i64 most) bH (.head _) rfl ?_;refine pW [] .i64 (IntKind.i64.wrap (N+1)) (IntKind.i64.wrap (most+1)) (min (N+1) (most+1)) (by rw[hm1,show IntKind.i64.wrap (N+1)=N+1 by rw[af];omega]) ?_;exact close [] _ _ ⟨j+1,IntKind.i64.wrap (z+1),min (N+1) (most+1),em⟩ (by kernel_rfl) (by kernel_rfl) ⟨by simp only[af];omega,hlt,next 1 (by decide) (.inl (by unfold ka;rw[if_pos (.inl hk)])),JJ⟩ (by simp only;omega) (eC eK (eC eK eE))
   ·have pk:∀(Γ':List aD) [aW (mI yf yp) y Γ'],aw tb Tryz.prog 81 [lY yf yp] Γ' (jq (.int .u8 9)):=fun Γ' _=>by rw[←hk];exact gC yf yp lV
    refine aq [] (pk _).mF ?_;rintro _ _ ⟨rfl,rfl⟩;refine aq [47,42] (IM yf yp (x:=y) lV).mF ?_;rintro _ _ ⟨ao,pc,l,rfl,Oe,hl,rfl⟩;by_cases hl0:0<l.length
    ·have hne:ja y≠ []:=by rw[←hl];intro e;rw[List.map_eq_nil_iff]at e;rw[e]at hl0;simp at hl0
     refine bj [] 56 (decide ((l.length:Int)>0)) (au (by omega)) ?_;refine bZ [56] 4 fb 0 bH ?_;refine dR [] (FO fb ⟨some ⟨b,off,none⟩,o6,cc⟩ bn cn dn most sh) fb (0+4) 1 [.slice (some ⟨b,off,none⟩) o6 cc,.map (some bn),.map (some cn),.map (some dn),.int .i64 most,sh] (.int .i64 most) bH (.head _) rfl ?_;refine pW [] .i64 (IntKind.i64.wrap (N+1)) (IntKind.i64.wrap (most+1)) (min (N+1) (most+1)) (by rw[hm1,show IntKind.i64.wrap (N+1)=N+1 by rw[af];omega]) ?_;exact close [] _ _ ⟨j+1,IntKind.i64.wrap (z+1),min (N+1) (most+1),em⟩ (by kernel_rfl) (by kernel_rfl) ⟨by simp only[af];omega,hlt,next 1 (by decide) (.inl (by unfold ka;simp[hk,hne])),JJ⟩ (by simp only;omega) (eC eK (eC eK eE))
    ·have hne:ja y=[]:=by rw[←hl,aN (by omega:l.length=0)];rfl
     refine aQ [] 56 (decide ((l.length:Int)>0)) (aj (by omega)) ?_;refine bZ [56] 4 fb 0 bH ?_;refine dR [] (FO fb ⟨some ⟨b,off,none⟩,o6,cc⟩ bn cn dn most sh) fb (0+4) 1 [.slice (some ⟨b,off,none⟩) o6 cc,.map (some bn),.map (some cn),.map (some dn),.int .i64 most,sh] (.int .i64 most) bH (.head _) rfl ?_;refine pW [] .i64 (N) (IntKind.i64.wrap (most+1)) (min (N+0) (most+1)) (by rw[hm1,vd]) ?_;exact close [] _ _ ⟨j+1,IntKind.i64.wrap (z+1),min (N+0) (most+1),em⟩ (by kernel_rfl) (by kernel_rfl) ⟨by simp only[af];omega,hlt,next 0 (Int.le_refl _) (.inl (by unfold ka;simp[hk,hne])),JJ⟩ (by simp only;omega) (eC eK (eC eK eE))
   ·have pk:∀(Γ':List aD) [aW (mI yf yp) y Γ'],aw tb Tryz.prog 81 [lY yf yp] Γ' (jq (.int .u8 10)):=fun Γ' _=>by rw[←hk];exact gC yf yp lV
    refine aq [] (pk _).mF ?_;rintro _ _ ⟨rfl,rfl⟩;obtain⟨s,hs⟩:=VM.ref (.inl hk);obtain⟨k,hkn,Y8,hkm⟩:=hD.kid hx Mo hs;obtain⟨_,hg1,hg2,_⟩:=rj VN (.inl hk);have YV:=wN (hF.by' x hxm y Mo);have pn:∀(Γ':List aD) [aW (mI yf yp) y Γ'],aw tb Tryz.prog 79 [lY yf yp] Γ' (jq (.tuple #[.string (strOfNums s),.bool true])):=fun Γ' _=>by
     have:=w_ (Γ:=Γ') yf yp lV;rw[hs]at this;exact this
    refine aq [59,47,42] (pn _).mF ?_;rintro _ _ ⟨rfl,rfl⟩;refine aq [] (tS yf yp (x:=y) lV).mF ?_;rintro _ _ ⟨rfl,rfl⟩;refine bZ [] 1 fb 0 bH ?_;refine dR [] (FO fb ⟨some ⟨b,off,none⟩,o6,cc⟩ bn cn dn most sh) fb (0+1) 1 [.slice (some ⟨b,off,none⟩) o6 cc,.map (some bn),.map (some cn),.map (some dn),.int .i64 most,sh] (.map (some bn)) bH (.head _) rfl ?_;refine vm [] dU 69 9 3 false (FO fb ⟨some ⟨b,off,none⟩,o6,cc⟩ bn cn dn most sh) [(bn,bM dU (cg (cw t))),(dn,dm),(cn,bM dw (cg em))] bn (strOfNums s) (cg (cw t)) (.int .i64 0) bH (.head _) ?_;rw[AY Y8];have hkd:∃d,dep t n k=some d:=by
     obtain⟨d,hd⟩:=sU;unfold dep at hd;cases hq:jE (dep t n) (fy t i) 0 with
     |none=>rw[hq]at hd;simp at hd
     |some r=>
      obtain⟨e,he,_⟩:=(mg hq).2 k hkm;exact⟨e,he⟩
    refine cZ [] [] (FO fb ⟨some ⟨b,off,none⟩,o6,cc⟩ bn cn dn most sh) [] [] [(bn,bM dU (cg (cw t))),(dn,dm),(cn,bM dw (cg em))] [] ⟨rfl,by rfl,trivial⟩ (ih _ (k:Int) k rfl (wU hkm) hkd em JJ) ?_;rintro _ _ _ _ ⟨em2,Vz,rfl,rfl,rfl,rfl⟩;have hk0:=hD.cnt_nn 64 k;have TM:ka t (k9 t 64) y=k9 t 64 k*(bN y).1*(bN y).2:=by unfold ka;simp[hk,hkn]
    obtain⟨q,hq⟩:∃q,k9 t 64 k=q:=⟨_,rfl⟩;rw[hq]at hk0 TM⊢;have hcap:=Jt (k:=q) (c:=(bN y).1) (r:=(bN y).2) (m:=most+1) hk0 (by omega) (by omega) (by omega);have hwm:=Hl (k:=min q (most+1)) (c:=(bN y).1) (r:=(bN y).2) (z:=N) (by omega) (by omega) (by omega) hN0;refine bZ [] 4 fb 0 bH ?_;refine dR [] (FO fb ⟨some ⟨b,off,none⟩,o6,cc⟩ bn cn dn most sh) fb (0+4) 1 [.slice (some ⟨b,off,none⟩) o6 cc,.map (some bn),.map (some cn),.map (some dn),.int .i64 most,sh] (.int .i64 most) bH (.head _) rfl ?_;refine pW [] .i64 (IntKind.i64.wrap (N+IntKind.i64.wrap (IntKind.i64.wrap (min q (most+1)*(bN y).1)*(bN y).2))) (IntKind.i64.wrap (most+1)) (min (N+(min q (most+1)*(bN y).1*(bN y).2)) (most+1)) (by rw[hm1,hwm]) ?_;exact close [] _ _ ⟨j+1,IntKind.i64.wrap (z+1),min (N+(min q (most+1)*(bN y).1*(bN y).2)) (most+1),em2⟩ (by kernel_rfl) (by kernel_rfl) ⟨by simp only[af];omega,hlt,next (min q (most+1)*(bN y).1*(bN y).2) hcap.1 (by rw[TM];exact hcap.2),Vz⟩ (by simp only;omega) (eC eK (eC eK eE))
   ·have pk:∀(Γ':List aD) [aW (mI yf yp) y Γ'],aw tb Tryz.prog 81 [lY yf yp] Γ' (jq (.int .u8 11)):=fun Γ' _=>by rw[←hk];exact gC yf yp lV
    refine aq [] (pk _).mF ?_;rintro _ _ ⟨rfl,rfl⟩;obtain⟨s,hs⟩:=VM.ref (.inr hk);obtain⟨k,hkn,Y8,hkm⟩:=hD.kid hx Mo hs;obtain⟨_,hg1,hg2,_⟩:=rj VN (.inr hk);have YV:=wN (hF.by' x hxm y Mo);have pn:∀(Γ':List aD) [aW (mI yf yp) y Γ'],aw tb Tryz.prog 79 [lY yf yp] Γ' (jq (.tuple #[.string (strOfNums s),.bool true])):=fun Γ' _=>by
     have:=w_ (Γ:=Γ') yf yp lV;rw[hs]at this;exact this
    refine aq [59,47,42] (pn _).mF ?_;rintro _ _ ⟨rfl,rfl⟩;refine aq [] (tS yf yp (x:=y) lV).mF ?_;rintro _ _ ⟨rfl,rfl⟩;refine bZ [] 1 fb 0 bH ?_;refine dR [] (FO fb ⟨some ⟨b,off,none⟩,o6,cc⟩ bn cn dn most sh) fb (0+1) 1 [.slice (some ⟨b,off,none⟩) o6 cc,.map (some bn),.map (some cn),.map (some dn),.int .i64 most,sh] (.map (some bn)) bH (.head _) rfl ?_;refine vm [] dU 69 9 3 false (FO fb ⟨some ⟨b,off,none⟩,o6,cc⟩ bn cn dn most sh) [(bn,bM dU (cg (cw t))),(dn,dm),(cn,bM dw (cg em))] bn (strOfNums s) (cg (cw t)) (.int .i64 0) bH (.head _) ?_;rw[AY Y8];have hkd:∃d,dep t n k=some d:=by
     obtain⟨d,hd⟩:=sU;unfold dep at hd;cases hq:jE (dep t n) (fy t i) 0 with
     |none=>rw[hq]at hd;simp at hd
     |some r=>
      obtain⟨e,he,_⟩:=(mg hq).2 k hkm;exact⟨e,he⟩
    refine cZ [] [] (FO fb ⟨some ⟨b,off,none⟩,o6,cc⟩ bn cn dn most sh) [] [] [(bn,bM dU (cg (cw t))),(dn,dm),(cn,bM dw (cg em))] [] ⟨rfl,by rfl,trivial⟩ (ih _ (k:Int) k rfl (wU hkm) hkd em JJ) ?_;rintro _ _ _ _ ⟨em2,Vz,rfl,rfl,rfl,rfl⟩;have hk0:=hD.cnt_nn 64 k;have TM:ka t (k9 t 64) y=k9 t 64 k*(bN y).1*(bN y).2:=by unfold ka;simp[hk,hkn]
    obtain⟨q,hq⟩:∃q,k9 t 64 k=q:=⟨_,rfl⟩;rw[hq]at hk0 TM⊢;have hcap:=Jt (k:=q) (c:=(bN y).1) (r:=(bN y).2) (m:=most+1) hk0 (by omega) (by omega) (by omega);have hwm:=Hl (k:=min q (most+1)) (c:=(bN y).1) (r:=(bN y).2) (z:=N) (by omega) (by omega) (by omega) hN0;refine bZ [] 4 fb 0 bH ?_;refine dR [] (FO fb ⟨some ⟨b,off,none⟩,o6,cc⟩ bn cn dn most sh) fb (0+4) 1 [.slice (some ⟨b,off,none⟩) o6 cc,.map (some bn),.map (some cn),.map (some dn),.int .i64 most,sh] (.int .i64 most) bH (.head _) rfl ?_;refine pW [] .i64 (IntKind.i64.wrap (N+IntKind.i64.wrap (IntKind.i64.wrap (min q (most+1)*(bN y).1)*(bN y).2))) (IntKind.i64.wrap (most+1)) (min (N+(min q (most+1)*(bN y).1*(bN y).2)) (most+1)) (by rw[hm1,hwm]) ?_;exact close [] _ _ ⟨j+1,IntKind.i64.wrap (z+1),min (N+(min q (most+1)*(bN y).1*(bN y).2)) (most+1),em2⟩ (by kernel_rfl) (by kernel_rfl) ⟨by simp only[af];omega,hlt,next (min q (most+1)*(bN y).1*(bN y).2) hcap.1 (by rw[TM];exact hcap.2),Vz⟩ (by simp only;omega) (eC eK (eC eK eE))
   ·have pk:∀(Γ':List aD) [aW (mI yf yp) y Γ'],aw tb Tryz.prog 81 [lY yf yp] Γ' (jq (.int .u8 12)):=fun Γ' _=>by rw[←hk];exact gC yf yp lV
    refine aq [] (pk _).mF ?_;rintro _ _ ⟨rfl,rfl⟩;refine bZ [59,47,42] 4 fb 0 bH ?_;refine dR [] (FO fb ⟨some ⟨b,off,none⟩,o6,cc⟩ bn cn dn most sh) fb (0+4) 1 [.slice (some ⟨b,off,none⟩) o6 cc,.map (some bn),.map (some cn),.map (some dn),.int .i64 most,sh] (.int .i64 most) bH (.head _) rfl ?_;refine pW [] .i64 (N) (IntKind.i64.wrap (most+1)) (min (N+0) (most+1)) (by rw[hm1,vd]) ?_;exact close [] _ _ ⟨j+1,IntKind.i64.wrap (z+1),min (N+0) (most+1),em⟩ (by kernel_rfl) (by kernel_rfl) ⟨by simp only[af];omega,hlt,next 0 (Int.le_refl _) (.inl (by unfold ka;simp[hk])),JJ⟩ (by simp only;omega) (eC eK (eC eK eE))
   ·have pk:∀(Γ':List aD) [aW (mI yf yp) y Γ'],aw tb Tryz.prog 81 [lY yf yp] Γ' (jq (.int .u8 21)):=fun Γ' _=>by rw[←hk];exact gC yf yp lV
    refine aq [] (pk _).mF ?_;rintro _ _ ⟨rfl,rfl⟩;refine bZ [59,47,42] 4 fb 0 bH ?_;refine dR [] (FO fb ⟨some ⟨b,off,none⟩,o6,cc⟩ bn cn dn most sh) fb (0+4) 1 [.slice (some ⟨b,off,none⟩) o6 cc,.map (some bn),.map (some cn),.map (some dn),.int .i64 most,sh] (.int .i64 most) bH (.head _) rfl ?_;refine pW [] .i64 (N) (IntKind.i64.wrap (most+1)) (min (N+0) (most+1)) (by rw[hm1,vd]) ?_;exact close [] _ _ ⟨j+1,IntKind.i64.wrap (z+1),min (N+0) (most+1),em⟩ (by kernel_rfl) (by kernel_rfl) ⟨by simp only[af];omega,hlt,next 0 (Int.le_refl _) (.inl (by unfold ka;simp[hk])),JJ⟩ (by simp only;omega) (eC eK (eC eK eE))
   ·have pk:∀(Γ':List aD) [aW (mI yf yp) y Γ'],aw tb Tryz.prog 81 [lY yf yp] Γ' (jq (.int .u8 45)):=fun Γ' _=>by rw[←hk];exact gC yf yp lV
    refine aq [] (pk _).mF ?_;rintro _ _ ⟨rfl,rfl⟩;refine bZ [42] 4 fb 0 bH ?_;refine dR [] (FO fb ⟨some ⟨b,off,none⟩,o6,cc⟩ bn cn dn most sh) fb (0+4) 1 [.slice (some ⟨b,off,none⟩) o6 cc,.map (some bn),.map (some cn),.map (some dn),.int .i64 most,sh] (.int .i64 most) bH (.head _) rfl ?_;refine pW [] .i64 (IntKind.i64.wrap (N+1)) (IntKind.i64.wrap (most+1)) (min (N+1) (most+1)) (by rw[hm1,show IntKind.i64.wrap (N+1)=N+1 by rw[af];omega]) ?_;exact close [] _ _ ⟨j+1,IntKind.i64.wrap (z+1),min (N+1) (most+1),em⟩ (by kernel_rfl) (by kernel_rfl) ⟨by simp only[af];omega,hlt,next 1 (by decide) (.inl (by unfold ka;rw[if_pos (.inr hk)])),JJ⟩ (by simp only;omega) (eC eK (eC eK eE))
  ·have htk:x.i.take j=x.i:=aU (by omega);rw[htk,←NV]at hS;refine aQ [] 37 (decide (z<(im:Int))) (aj (by omega)) ?_;refine bZ [37] 2 fb 0 bH ?_;refine dR [] (FO fb ⟨some ⟨b,off,none⟩,o6,cc⟩ bn cn dn most sh) fb (0+2) 1 [.slice (some ⟨b,off,none⟩) o6 cc,.map (some bn),.map (some cn),.map (some dn),.int .i64 most,sh] (.map (some cn)) bH (.head _) rfl ?_;refine Cf [] dw 70 3 3 (FO fb ⟨some ⟨b,off,none⟩,o6,cc⟩ bn cn dn most sh) [(bn,bM dU (cg (cw t))),(dn,dm)] [] cn c (.int .i64 N) (cg em) ?_;rw[qU];exact j1 [] (.int .i64 N) (FO fb ⟨some ⟨b,off,none⟩,o6,cc⟩ bn cn dn most sh) [(bn,bM dU (cg (cw t))),(dn,dm),(cn,bM dw (cg (lk c N em)))] ⟨lk c N em,JJ.set hc (by rw[hN,hS]),by rw[hN,hS],rfl,rfl,rfl⟩ bT
end
def Jz{α:Type}:Except Int α→Int
 | .ok _=>0
 | .error e=>e
def UI(l:List (Sn×Sn)):Prop:=∀p∈l,(0≤p.1.m∧0≤p.1.n)∧0≤p.2.m∧0≤p.2.n
theorem vQ{l:List (Sn×Sn)}{j:Nat}{p:Sn×Sn}(h:l[j]? =some p):jn (l.drop j)=if AK p.1.nr∧AK p.2.nr then(match jn (l.drop (j+1))with
   | .ok l=>.ok (⟨p.1.nr,p.2.nr⟩::l)
   | .error e=>.error e)else .error 26:=by
 obtain⟨h1,h2⟩:=List.getElem?_eq_some_iff.1 h;rw[bC h1,h2];rfl
theorem Ec{l:List jF}{j:Nat}{e:jF}(h:l[j]? =some e):(l.map jF.num)[j]? =some (e.X,e.Y):=by
 rw[bK,h];rfl
structure qS where
 s:Sl
 x:Sh
def pU:kG qS where
 z:=3
 cells e:=[.int .i64 e.x.a,.int .i64 e.x.k,aZ e.s]
 len _:=rfl
 fact _ e:=zi e.s e.x.p
def mB(x:Im):Int:=if cJ x=45 then cB x 46 0 else cB x 14 0
def Dz(r:LR)(FB:Value→List (Nat×List Value))(es:List qS)(v:Value)(O:List (Nat×List Value))(Δ:List aD):Prop:=
 ∃(v':Sl) (O2:List (Nat×List Value)) (es2:List qS),(∀s,r=.ok s→es2.map qS.x=s)∧v=.int .i64 (Jz r)∧O=FB (aZ v')++O2∧cF 3 O2 (aZ v') (es++es2).length ((es++es2).flatMap pU.cells)∧Δ=[mS pU (aZ v') (es++es2)]
def UL(r:LR)(FB:Value→List (Nat×List Value))(es:List qS)(v:Value)(O:List (Nat×List Value))(M:List (Nat×List (Value×Value)))(Δ:List aD):Prop:=M=[]∧Dz r FB es v O Δ
structure XY where
 j:Nat
 z:Int
 a:List Dp
 s:Sl
 O:List (Nat×List Value)
def shU(fb:Nat)(ao:Option Addr)(n c:Nat):XY→List (Nat×SV):=fun a=>[(0,.val (fo fb)),(7,.ptr 7 0),(23,.val (.slice ao n c)),(24,.val (.int .i64 n)),(6,.val (.int .i64 0)),(25,.val (.int .i64 a.z))]
def shX(A K:Int):XY→List (Nat×List Value):=fun a=>[(7,[.int .i64 A,.int .i64 K,aZ a.s])]
section
variable{T:Tb}{P:Program}{fin:VS→List aD→Prop}{c:fG}{Γ:List aD}{L:Nat}
theorem Rm(ao:Option Addr){l:List jF} [h:aW (OL gi ao) (L,l) Γ]{j:Nat}{e:jF}(he:l[j]? =some e)(hm:dD c.k=false)
  (hc:∀b off,ao=some ⟨b,off,none⟩→W T P fin c (SF e.x (L,e.X)::SF e.y (L,e.Y)::Γ)):W T P fin c Γ:=by
 obtain⟨h1,h2⟩:=List.getElem?_eq_some_iff.1 he;refine aaG gi ao j h1 hm (by decide) (fun b off ha=>?_);refine W.sub hm (fun I w _ hh=>?_) (hc b off ha);have g:=hh.h0';rw[h2]at g;exact aG.cons g.1 (aG.cons g.2 (fun F hF=>hh F (by simp[hF])))
theorem zH(b off:Nat){l:List jF} [h:aW (OL gi (some ⟨b,off,none⟩)) (L,l) Γ]{j:Nat}{e:jF}(he:l[j]? =some e):∀I w,br T I w→aG Γ I w→∀k v,(gi.cells e)[k]? =some v→w.cell? ⟨b,off+j*40+k,none⟩=some v:=by
 obtain⟨h1,h2⟩:=List.getElem?_eq_some_iff.1 he;subst h2;exact fun I w hd hh k v hv=>Je gi b off j h1 I w hd hh k v hv
end
section
variable{Γ:List aD}{L M:Nat}
theorem Pt(x y:Sw){X Y:Sn} [aW (SF x) (L,X) Γ] [aW (SF y) (M,Y) Γ](hm:0≤X.m)(hn:0≤X.n)(hm':0≤Y.m)(Ob:0≤Y.n)(hL:L≤280:=by omega)(hM:M≤280:=by omega):
  aw tb Tryz.prog 144 [Bn x y] Γ (jq (if AK X.nr∧AK Y.nr then .tuple #[.agg #[.int .i64 X.nr,.int .i64 Y.nr],.int .i64 0]else .tuple #[.agg #[.int .i64 0,.int .i64 0],.int .i64 26])):=by
 by_cases h:AK X.nr∧AK Y.nr
 ·rw[if_pos h];exact Wy x y hm hn hm' Ob h.1 h.2 hL hM
 ·rw[if_neg h];exact Wx x y hm hn hm' Ob h hL hM
theorem Sm(fb:Nat)(ao:Option Addr)(c:Nat)(l:List jF) [h:aW (OL gi ao) (L,l) Γ](hok:UI (l.map jF.num))(hL:L≤280)(hl:l.length≤1000000):aw tb Tryz.prog 89 [fo fb,.slice ao l.length c] Γ (jq (.int .i64 (Jz (jn (l.map jF.num))))):=by
 refine aw.of_W aB Tryz.func89 rfl ?_;refine zd [] [4,11] (fun a:Nat×Int=>[(4,.int .i64 0),(11,.int .i64 a.2)]) (fun _=>[]) (fun _=>[OL gi ao (L,l)]) (fun a=>a.2=a.1∧a.1≤l.length∧Jz (jn (l.map jF.num))=Jz (jn ((l.map jF.num).drop a.1))) (fun a=>l.length-a.1) (0,0) ⟨rfl,aJ _,by rw[gX]⟩ (eC eK eE) ?_;rintro⟨j,z⟩ K ⟨hz,hj,he⟩ close;simp only at hz hj he;by_cases hlt:j<l.length
 ·obtain⟨e,hq⟩:∃e,l[j]? =some e:=⟨_,ai hlt⟩;have JH:=Ec hq;have hp:=hok _ (aK JH);rw[vQ JH]at he;refine Rm ao hq rfl (fun b off ha=>?_);subst ha;refine bj [] 12 (decide (z<(l.length:Int))) (au (by omega)) ?_;refine bW [12] 40 b off l.length c .i64 j z hz aB hlt ?_;refine cV [] b (off+j*40) (gi.cells e) aB (zH b off hq) ?_;refine aq [] (Pt e.x e.y hp.1.1 hp.1.2 hp.2.1 hp.2.2 hL hL) ?_;rintro _ _ ⟨rfl,rfl⟩;by_cases hin:AK e.X.nr∧AK e.Y.nr
  ·rw[if_pos hin]at he⊢;refine aQ [] 21 ((0:Int) != 0) rfl ?_;refine close [21] _ _ (j+1,IntKind.i64.wrap (z+1)) (by kernel_rfl) (by kernel_rfl) ⟨by simp only[af];omega,hlt,?_⟩ (by simp only;omega) (eC eK eE);rw[he];cases jn ((l.map jF.num).drop (j+1))<;>rfl
  ·rw[if_neg hin]at he⊢;refine bj [] 21 ((26:Int) != 0) rfl ?_;exact W.r [21] (.int .i64 26) ⟨by rw[he];rfl,rfl⟩ bT
 ·rw[bu (by rw[bI];omega)]at he;refine aQ [] 12 (decide (z<(l.length:Int))) (aj (by omega)) ?_;exact W.r [12] (.int .i64 0) ⟨by rw[he];rfl,rfl⟩ bT
theorem Ep(fb bn cn dn:Nat)(cs:Sl)(most:Int)(s0 xf xp:Sl)(O:List (Nat×List Value))(es:List qS)(ao:Option Addr)(c:Nat)(l:List jF){x:Im} [hx:aW (mI xf xp) x Γ] [hs:aW (mS pU (aZ s0)) es Γ] [h:aW (OL gi ao) (L,l) Γ]
  (TW:qQ x)(hok:UI (l.map jF.num))(hL:L≤280)(hl:l.length≤900000)(hel:es.length≤900000)(hg:cF 3 O (aZ s0) es.length (es.flatMap pU.cells)):
  dB KG Tryz.prog 87 [fo fb,lY xf xp,.slice ao l.length c] (FO fb cs bn cn dn most (aZ s0)++O) [] Γ (UL (iT x (l.map jF.num)) (fun v=>FO fb cs bn cn dn most v) es):=by
 refine dB.of_W bH Tryz.func87 rfl ?_;refine aq [] (iE xf xp (x:=x) 13 0 TW (.inl rfl)).mF ?_;rintro _ _ ⟨rfl,rfl⟩;refine aq [] (iE xf xp (x:=x) 14 0 TW (.inl rfl)).mF ?_;rintro _ _ ⟨rfl,rfl⟩;refine aq [] (gC xf xp (x:=x) TW).mF ?_;rintro _ _ ⟨rfl,rfl⟩;by_cases h45:cJ x=45
 ·have hK:mB x=cB x 46 0:=by unfold mB;rw[if_pos h45]
  refine bj [] 19 (cJ x==45) (by rw[h45];rfl) ?_;refine aq [19] (iE xf xp (x:=x) 46 0 TW (.inl rfl)).mF ?_;rintro _ _ ⟨rfl,rfl⟩;rw[←hK];refine j0 [] Tryz.f87 0 54 54 [0,7,23,24,6,25] [7] (shU fb ao l.length c) (shX (cB x 13 0) (mB x)) (fun a=>(FO fb cs bn cn dn most (aZ s0)++O)++a.O) (fun _=>[]) (fun a=>[OL gi ao (L,l),mS pU (aZ s0) es]) (fun a=>a.z=a.j∧a.j≤l.length∧a.a.length=a.j∧cF 2 a.O (aZ a.s) a.a.length (a.a.flatMap eg)∧jn (l.map jF.num)=(match jn ((l.map jF.num).drop a.j)with
   | .ok r=>.ok (a.a++r)
   | .error e=>.error e)) (fun a=>l.length-a.j) ⟨0,0,[],⟨none,0,0⟩,[]⟩ (h0:=(by simp only[ah];kernel_rfl)) ⟨rfl,aJ _,rfl,cF.nil 2,by simp only[gX,az];cases jn (l.map jF.num)<;>rfl⟩ (eC eK (eC eK eE)) ?_
  rintro⟨j,z,acc,s,O2⟩ K ⟨hz,hj,BV,Mm,he⟩ close;simp only at hz hj BV Mm he;by_cases hlt:j<l.length
  ·obtain⟨e,hq⟩:∃e,l[j]? =some e:=⟨_,ai hlt⟩;have JH:=Ec hq;have hp:=hok _ (aK JH);rw[vQ JH]at he;refine Rm ao hq rfl (fun b off ha=>?_);subst ha;refine bj [] 26 (decide (z<(l.length:Int))) (au (by omega)) ?_;refine bW [26] 40 b off l.length c .i64 j z hz bH hlt ?_;refine cV [] b (off+j*40) (gi.cells e) bH (zH b off hq) ?_;refine aq [] (Pt e.x e.y hp.1.1 hp.1.2 hp.2.1 hp.2.2 hL hL).mF ?_;rintro _ _ ⟨rfl,rfl⟩;by_cases hin:AK e.X.nr∧AK e.Y.nr
   ·rw[if_pos hin]at he⊢;refine aQ [] 35 ((0:Int) != 0) rfl ?_;refine cH [35] 1 [.int .i64 e.X.nr,.int .i64 e.Y.nr] bH (fun b8=>?_);refine W.app [] ((FO fb cs bn cn dn most (aZ s0)++O)++O2) (FO fb cs bn cn dn most (aZ s0)++O) O2 [] 2 16 acc.length 1 (aZ s) (.slice (some ⟨b8,0,none⟩) 1 1) (acc.flatMap eg) [.int .i64 e.X.nr,.int .i64 e.Y.nr] bH (by simp) Mm (bX b8 _ 1 2 rfl 1) (by simp[Value.oneCell']) (by omega) (by decide) (fun v' O' hg'=>?_);obtain⟨s',rfl⟩:=h_ hg';rw[ah];refine close [] _ _ ⟨j+1,IntKind.i64.wrap (z+1),acc++[⟨e.X.nr,e.Y.nr⟩],s',O'⟩ (by kernel_rfl) (by kernel_rfl) ⟨by simp only[af];omega,hlt,by simp[BV],?_,?_⟩ (by simp only;omega) (eC eK (eC eK eE))
    ·rw[bp,aA];exact hg'
    ·rw[he];cases jn ((l.map jF.num).drop (j+1))<;>simp
   ·rw[if_neg hin]at he⊢;refine bj [] 35 ((26:Int) != 0) rfl ?_;refine rE (FO fb cs bn cn dn most (aZ s0)++O) O2 [] (by rw[ah];kernel_rfl) ?_;refine qE (FO fb cs bn cn dn most (aZ s0)++O) ?_;have hsp:iT x (l.map jF.num)=.error 26:=by unfold iT;rw[he]
    exact j1 [35] (.int .i64 26) (FO fb cs bn cn dn most (aZ s0)++O) [] ⟨rfl,s0,O,[],fun s h=>by rw[hsp]at h;simp at h,by rw[hsp];rfl,rfl,by rw[ah];exact hg,rfl⟩ (eC (by rw[ah];exact eK) eE)
  ·rw[bu (by rw[bI];omega)]at he;simp only[jn,ah]at he;refine aQ [] 26 (decide (z<(l.length:Int))) (aj (by omega)) ?_;refine k8 (FO fb cs bn cn dn most (aZ s0)++O) O2 [] (by rw[ah];kernel_rfl) Mm (fun g5 g1 g2=>?_);refine qE (FO fb cs bn cn dn most (aZ s0)++O) ?_;refine bZ [26] 5 fb 0 bH ?_;refine dR [] (FO fb cs bn cn dn most (aZ s0)++O) fb (0+5) 1 [aZ cs,.map (some bn),.map (some cn),.map (some dn),.int .i64 most,aZ s0] (aZ s0) bH (.head _) rfl ?_;refine cH [] 1 [.int .i64 (cB x 13 0),.int .i64 (mB x),aZ s] bH (fun b9=>?_);refine W.app [] (FO fb cs bn cn dn most (aZ s0)++O) (FO fb cs bn cn dn most (aZ s0)) O [] 3 40 es.length 1 (aZ s0) (.slice (some ⟨b9,0,none⟩) 1 1) (es.flatMap pU.cells) [.int .i64 (cB x 13 0),.int .i64 (mB x),aZ s] bH (by simp) hg (bX b9 _ 1 3 rfl 1) (by simp[Value.oneCell']) (by omega) (by decide) (fun v' O' hg'=>?_);obtain⟨s',rfl⟩:=h_ hg';rw[ah (FO fb cs bn cn dn most (aZ s0)++O')];refine bZ [] 5 fb 0 bH ?_;refine nD [] (FO fb cs bn cn dn most (aZ s0)++O') [] O' 1 fb (0+5) [aZ cs,.map (some bn),.map (some cn),.map (some dn),.int .i64 most,aZ s0] (aZ s') [aZ cs,.map (some bn),.map (some cn),.map (some dn),.int .i64 most,aZ s'] bH rfl rfl (by simp[Value.cells,Value.oneCell']) (ak _) rfl ?_;have hsp:iT x (l.map jF.num)=.ok [⟨cB x 13 0,mB x,acc⟩]:=by unfold iT;rw[he];rfl
   refine j1 [] (.int .i64 0) (FO fb cs bn cn dn most (aZ s')++O') [] ⟨rfl,s',O',[⟨s,⟨cB x 13 0,mB x,acc⟩⟩],fun q h=>by rw[hsp]at h;injection h,by rw[hsp];rfl,rfl,?_,rfl⟩ (fun I w _ hh=>?_)
   ·rw[bp,aA];exact hg'
   ·have g:=aW.p (k:=mS pU (aZ s0)) (a:=es) inferInstance hh;have ga:=aW.p (k:=RA s.ao) (a:=acc.flatMap eg) inferInstance hh;exact aS (mS.snoc (v:=aZ s0) g ⟨g5,⟨g1,g2⟩,ga⟩)
 ·have hK:mB x=cB x 14 0:=by unfold mB;rw[if_neg h45]
  refine aQ [] 19 (cJ x==45) (by simpa using h45) ?_;rw[←hK];refine j0 [19] Tryz.f87 0 54 54 [0,7,23,24,6,25] [7] (shU fb ao l.length c) (shX (cB x 13 0) (mB x)) (fun a=>(FO fb cs bn cn dn most (aZ s0)++O)++a.O) (fun _=>[]) (fun a=>[OL gi ao (L,l),mS pU (aZ s0) es]) (fun a=>a.z=a.j∧a.j≤l.length∧a.a.length=a.j∧cF 2 a.O (aZ a.s) a.a.length (a.a.flatMap eg)∧jn (l.map jF.num)=(match jn ((l.map jF.num).drop a.j)with
   | .ok r=>.ok (a.a++r)
   | .error e=>.error e)) (fun a=>l.length-a.j) ⟨0,0,[],⟨none,0,0⟩,[]⟩ (h0:=(by simp only[ah];kernel_rfl)) ⟨rfl,aJ _,rfl,cF.nil 2,by simp only[gX,az];cases jn (l.map jF.num)<;>rfl⟩ (eC eK (eC eK eE)) ?_
  rintro⟨j,z,acc,s,O2⟩ K ⟨hz,hj,BV,Mm,he⟩ close;simp only at hz hj BV Mm he;by_cases hlt:j<l.length
  ·obtain⟨e,hq⟩:∃e,l[j]? =some e:=⟨_,ai hlt⟩;have JH:=Ec hq;have hp:=hok _ (aK JH);rw[vQ JH]at he;refine Rm ao hq rfl (fun b off ha=>?_);subst ha;refine bj [] 26 (decide (z<(l.length:Int))) (au (by omega)) ?_;refine bW [26] 40 b off l.length c .i64 j z hz bH hlt ?_;refine cV [] b (off+j*40) (gi.cells e) bH (zH b off hq) ?_;refine aq [] (Pt e.x e.y hp.1.1 hp.1.2 hp.2.1 hp.2.2 hL hL).mF ?_;rintro _ _ ⟨rfl,rfl⟩;by_cases hin:AK e.X.nr∧AK e.Y.nr
   ·rw[if_pos hin]at he⊢;refine aQ [] 35 ((0:Int) != 0) rfl ?_;refine cH [35] 1 [.int .i64 e.X.nr,.int .i64 e.Y.nr] bH (fun b8=>?_);refine W.app [] ((FO fb cs bn cn dn most (aZ s0)++O)++O2) (FO fb cs bn cn dn most (aZ s0)++O) O2 [] 2 16 acc.length 1 (aZ s) (.slice (some ⟨b8,0,none⟩) 1 1) (acc.flatMap eg) [.int .i64 e.X.nr,.int .i64 e.Y.nr] bH (by simp) Mm (bX b8 _ 1 2 rfl 1) (by simp[Value.oneCell']) (by omega) (by decide) (fun v' O' hg'=>?_);obtain⟨s',rfl⟩:=h_ hg';rw[ah];refine close [] _ _ ⟨j+1,IntKind.i64.wrap (z+1),acc++[⟨e.X.nr,e.Y.nr⟩],s',O'⟩ (by kernel_rfl) (by kernel_rfl) ⟨by simp only[af];omega,hlt,by simp[BV],?_,?_⟩ (by simp only;omega) (eC eK (eC eK eE))
    ·rw[bp,aA];exact hg'
    ·rw[he];cases jn ((l.map jF.num).drop (j+1))<;>simp
   ·rw[if_neg hin]at he⊢;refine bj [] 35 ((26:Int) != 0) rfl ?_;refine rE (FO fb cs bn cn dn most (aZ s0)++O) O2 [] (by rw[ah];kernel_rfl) ?_;refine qE (FO fb cs bn cn dn most (aZ s0)++O) ?_;have hsp:iT x (l.map jF.num)=.error 26:=by unfold iT;rw[he]
    exact j1 [35] (.int .i64 26) (FO fb cs bn cn dn most (aZ s0)++O) [] ⟨rfl,s0,O,[],fun s h=>by rw[hsp]at h;simp at h,by rw[hsp];rfl,rfl,by rw[ah];exact hg,rfl⟩ (eC (by rw[ah];exact eK) eE)
  ·rw[bu (by rw[bI];omega)]at he;simp only[jn,ah]at he;refine aQ [] 26 (decide (z<(l.length:Int))) (aj (by omega)) ?_;refine k8 (FO fb cs bn cn dn most (aZ s0)++O) O2 [] (by rw[ah];kernel_rfl) Mm (fun g5 g1 g2=>?_);refine qE (FO fb cs bn cn dn most (aZ s0)++O) ?_;refine bZ [26] 5 fb 0 bH ?_;refine dR [] (FO fb cs bn cn dn most (aZ s0)++O) fb (0+5) 1 [aZ cs,.map (some bn),.map (some cn),.map (some dn),.int .i64 most,aZ s0] (aZ s0) bH (.head _) rfl ?_;refine cH [] 1 [.int .i64 (cB x 13 0),.int .i64 (mB x),aZ s] bH (fun b9=>?_);refine W.app [] (FO fb cs bn cn dn most (aZ s0)++O) (FO fb cs bn cn dn most (aZ s0)) O [] 3 40 es.length 1 (aZ s0) (.slice (some ⟨b9,0,none⟩) 1 1) (es.flatMap pU.cells) [.int .i64 (cB x 13 0),.int .i64 (mB x),aZ s] bH (by simp) hg (bX b9 _ 1 3 rfl 1) (by simp[Value.oneCell']) (by omega) (by decide) (fun v' O' hg'=>?_);obtain⟨s',rfl⟩:=h_ hg';rw[ah (FO fb cs bn cn dn most (aZ s0)++O')];refine bZ [] 5 fb 0 bH ?_;refine nD [] (FO fb cs bn cn dn most (aZ s0)++O') [] O' 1 fb (0+5) [aZ cs,.map (some bn),.map (some cn),.map (some dn),.int .i64 most,aZ s0] (aZ s') [aZ cs,.map (some bn),.map (some cn),.map (some dn),.int .i64 most,aZ s'] bH rfl rfl (by simp[Value.cells,Value.oneCell']) (ak _) rfl ?_;have hsp:iT x (l.map jF.num)=.ok [⟨cB x 13 0,mB x,acc⟩]:=by unfold iT;rw[he];rfl
   refine j1 [] (.int .i64 0) (FO fb cs bn cn dn most (aZ s')++O') [] ⟨rfl,s',O',[⟨s,⟨cB x 13 0,mB x,acc⟩⟩],fun q h=>by rw[hsp]at h;injection h,by rw[hsp];rfl,rfl,?_,rfl⟩ (fun I w _ hh=>?_)
   ·rw[bp,aA];exact hg'
   ·have g:=aW.p (k:=mS pU (aZ s0)) (a:=es) inferInstance hh;have ga:=aW.p (k:=RA s.ao) (a:=acc.flatMap eg) inferInstance hh;exact aS (mS.snoc (v:=aZ s0) g ⟨g5,⟨g1,g2⟩,ga⟩)
end
theorem pL:∀{ks:List Int} {l x m:List Re},dj ks l=some (x,m)→∀r∈x,∃k∈ks,r.k=k % 256
 | [],l,x,m,h,r,hr=>by
  simp only[dj,ar,aH]at h;rw[←h.1]at hr;simp at hr
 |k::ks,l,x,m,h,r,hr=>by
  unfold dj at h;split at h
  ·split at h
   ·rename_i r1 m1 h1;split at h
    ·rename_i rs m2 h2;simp only[ar,aH]at h;obtain⟨rfl,rfl⟩:=h;simp only[aF]at hr;rcases hr with rfl|hr
     ·exact⟨k,by simp,(fE h1).2.1⟩
     ·obtain⟨k',h3,h4⟩:=pL h2 r hr;exact⟨k',by simp[h3],h4⟩
    ·simp at h
   ·simp at h
  ·obtain⟨k',h3,h4⟩:=pL h r hr;exact⟨k',by simp[h3],h4⟩
theorem ON{x:Im}(h:jw x)(hk:cJ x=10∨cJ x=11)(XD:dW x 27≠none):5≤x.f.length:=by
 obtain⟨r,f,m,hf,_,hp⟩:=h.fields;have hr:r.k=cJ x:=by unfold cJ;rw[hf];rfl
 obtain⟨q,hq⟩:∃q,dW x 27=some q:=by
  cases hfo:dW x 27 with
  |none=>exact absurd hfo XD
  |some q=>exact⟨q,rfl⟩
 obtain⟨qm,qk⟩:=kS hq;obtain⟨a,b,m1,h1,h2,hx⟩:=lL hp;have hrk:0≤r.k∧r.k<256:=by omega
 obtain⟨ra,a',rfl,_,_⟩:=nf hrk h1;have na:q∉ra::a':=fun hm=>by
  obtain⟨k,hk',e⟩:=pL h1 q hm;simp only[aF,aE,bL]at hk';rcases hk' with rfl|rfl|rfl<;>omega
 have key:∀ks:List Int,(∀k∈ks,k % 256≠27)→(∃k ks',ks=k::ks'∧0≤k∧k<256)→fF (dj [18]) (fF jA (dj ks)) m1=some (b,m)→5≤x.f.length:=by
  intro ks hks ⟨k0,ks',hk0,hk1⟩ hh;obtain⟨b1,c,m2,g1,g2,rfl⟩:=lL hh;obtain⟨b2,b3,m3,g3,g4,rfl⟩:=lL g2;obtain⟨r1,b1',rfl,_,_⟩:=nf (by decide) g1;rw[hk0]at g4 hks;obtain⟨r3,b3',rfl,_,_⟩:=nf hk1 g4;have n1:q∉r1::b1':=fun hm=>by
   obtain⟨k,hk',e⟩:=pL g1 q hm;simp only[aF,aE,bL]at hk';omega
  have n3:q∉r3::b3':=fun hm=>by
   obtain⟨k,hk',e⟩:=pL g4 q hm;exact hks k hk' (by omega)
  rw[hx]at qm;simp only[dI]at qm;have q2:q∈b2:=by
   rcases qm with Hp|Hp|Hp|Hp
   ·exact absurd Hp na
   ·exact absurd Hp n1
   ·exact Hp
   ·exact absurd Hp n3
  unfold jA at g3;split at g3
  ·obtain⟨r2,b2',rfl,hk2,_⟩:=nf (by decide) g3;simp only[aF]at q2;rcases q2 with rfl|q2
   ·omega
   ·have:0<b2'.length:=List.length_pos_of_mem q2;rw[hx];simp only[aA,aC];omega
  ·simp only[ar,aH]at g3;rw[←g3.1]at q2;simp at q2
 rcases hk with hk|hk<;>rw[hr,hk]at h2
 ·exact key [16] (by decide) ⟨16,[],rfl,by decide⟩ h2
 ·exact key [19,16] (by decide) ⟨19,[16],rfl,by decide⟩ h2
def wI(x:Im):Nat:=4+x.f.length
def wC(t:List Ce)(c:Nat):Nat:=((lG t c).map wI).foldl max 0
theorem Ll{l:List Nat}:∀{a:Nat},a≤l.foldl max a∧∀x∈l,x≤l.foldl max a:=by
 induction l with
 |nil=>intro a;exact⟨ak _,fun x hx=>by simp at hx⟩
 |cons y l ih=>
  intro a;simp only[oM];obtain⟨h1,h2⟩:=ih (a:=max a y);refine⟨by omega,fun x hx=>?_⟩;simp only[aF]at hx;rcases hx with rfl|hx
  ·omega
  ·exact h2 x hx
theorem Z4{t:List Ce}{c:Nat}{x:Im}(h:x∈lG t c):wI x≤wC t c:=Ll.2 _ (List.mem_map.2 ⟨x,h,rfl⟩)
theorem Pc{x:Im}(ho:jw x)(h:∀r∈x.f,ME r)(hk:cJ x=10∨cJ x=11)(hc:0<(bN x).1)(hr:0<(bN x).2){i k:Int}(hi:0≤i∧i<(bN x).1)(hk':0≤k∧k<(bN x).2):∃e,sG e (x7 x i k)∧e+4≤45*wI x:=by
 unfold wI;cases XD:dW x 27 with
 |none=>exact⟨64,LS h XD hc hr hi hk',by omega⟩
 |some r=>
  have:=ON ho hk (by rw[XD];simp);exact⟨376,Pd rfl h hc hr hi hk',by omega⟩
open Classical in
noncomputable def SQ (t:List Ce) (d:Nat):Nat:=((List.range t.length).map fun j=>if ∃e,d<e∧sY t j e then wC t j else 0).sum
theorem Qz{t:List Ce}{i d d':Nat}(hi:i<t.length)(h:sY t i d)(hd:d'<d):SQ t d+wC t i≤SQ t d':=by
 unfold SQ;refine ss (c:=i) (by simpa using hi) (fun j _=>?_) ?_
 ·by_cases hj:∃e,d<e∧sY t j e
  ·obtain⟨e,h1,h2⟩:=hj;rw[if_pos ⟨e,h1,h2⟩,if_pos ⟨e,by omega,h2⟩];exact ak _
  ·rw[if_neg hj];exact aJ _
 ·have hno:¬ ∃e,d<e∧sY t i e:=fun⟨e,h1,h2⟩=>by
   have:=h.uniq h2;omega
  rw[if_neg hno,if_pos ⟨d,hd,h⟩];omega
def xw(t:List Ce):Nat:=((List.range t.length).map (wC t)).sum
theorem Qy{t:List Ce}{d:Nat}:SQ t d≤xw t:=by
 unfold SQ xw;generalize List.range t.length=l
 induction l with
 |nil=>exact ak _
 |cons a l ih=>
  simp only[bY,ec];split<;>omega
theorem so{α:Type}{f g:α→LR}:∀{l:List α},(∀a∈l,f a=g a)→nX f l=nX g l
 | [],_=>rfl
 |a::l,h=>by
  unfold nX;rw[h a (by simp),so (fun b hb=>h b (by simp[hb]))]
theorem Ga{t:List Ce}:∀{n c d:Nat},dep t n c=some d→∀V,gH t (n+1) c V=gH t n c V
 |0,c,d,h,V=>by simp[dep]at h
 |n+1,c,d,h,V=>by
  have hr:∃r,jE (dep t n) (fy t c) 0=some r:=by
   unfold dep at h;cases hq:jE (dep t n) (fy t c) 0 with
   |none=>rw[hq]at h;simp at h
   |some r=>exact⟨r,rfl⟩
  obtain⟨r,hr⟩:=hr;unfold gH;refine so fun x hx=>?_;unfold j5 pO;cases hk:om t x with
  |none=>rfl
  |some k=>
   have hkm:k∈fy t c:=List.mem_filterMap.2 ⟨x,hx,hk⟩;obtain⟨e,he,_⟩:=(mg hr).2 k hkm;simp only;rw[Am he];have hg:∀V',gH t (n+1) k V'=gH t n k V':=Ga he;split
   ·rfl
   ·split
    ·rfl
    ·split
     ·split
      ·rfl
      ·exact so fun a _=>so fun b _=>hg _
     ·rfl
theorem EU.lay64{t:List Ce}(h:EU t){i:Nat}(hi:i<t.length)(V:On):gH t 64 i V=nX (j5 t 64 (gH t 64) V) (lG t i):=by
 obtain⟨d,hd⟩:=h.deep i hi;rw[←Ga hd V];rfl
section
variable{T:Tb}{Γ:List aD}
theorem gF(b:Nat){row:List Value} [h:aW (ek b) row Γ]{i:Nat}{v:Value}(hv:row[i]? =some v):∀I w,br T I w→aG Γ I w→w.cell? ⟨b,i,none⟩=some v:=fun I w _ hh=>by
 have:=RA.cell (RA.of_row (h.p hh) (fun _ _ q=>q)) hv
 rwa [bQ]at this
end
section
variable{Γ:List aD}
theorem Bc(a b:Int):aw tb Tryz.prog 157 [.agg #[.int .i64 a,.int .i64 b]] Γ (jq (.int .i64 a)):=by
 refine aw.of_W aB Tryz.func157 rfl ?_;exact W.r [] (.int .i64 a) ⟨rfl,rfl⟩ bT
theorem WA(b1 b2 b3:Nat)(i k eW rows:Int)(u:Sl){p:List Dp} [aW (ek b1) [aZ u] Γ] [aW (ek b2) [.int .i64 eW] Γ] [aW (ek b3) [.int .i64 rows] Γ] [aW (zi u) p Γ](hp:p.length=1∨p.length=3)
  (hin:∀d∈p,(-2147483648≤d.x∧d.x≤2147483647)∧ -2147483648≤d.y∧d.y≤2147483647)(hi:0≤i∧i≤32767)(hk:0≤k∧k≤32767)(hc:1≤eW∧eW≤32767)(hr:1≤rows∧rows≤32767):
  aw tb Tryz.prog 153 [.func (.func 157) #[] #[],.int .i64 i,.int .i64 k,.pointer (some ⟨b1,0,none⟩),.pointer (some ⟨b2,0,none⟩),.pointer (some ⟨b3,0,none⟩)] Γ (s9 30 (pY Dp.x p eW rows i k)):=by
 refine aw.of_W aB Tryz.func153 rfl ?_;refine Jk u (l:=p) rfl (fun g1 g2 g3=>?_);have oH:p≠ []:=fun e=>by rw[e]at hp;simp at hp
 obtain⟨pb,off,hao⟩:=g3 oH;obtain⟨ua,un,uc⟩:=u;simp only at g1 g2 hao;subst hao;have at':∀j,j<p.length→p[j]? =some (p.getD j ⟨0,0⟩):=fun j hj=>uJ p j ⟨0,0⟩ hj;have bd:∀j,j<p.length→ -2147483648≤(p.getD j ⟨0,0⟩).x∧(p.getD j ⟨0,0⟩).x≤2147483647:=fun j hj=>(hin _ (aK (at' j hj))).1;have h0:=bd 0 (by omega);refine dJ [] 1 b1 0 (.slice (some ⟨pb,off,none⟩) un uc) aB (gF b1 rfl) ?_;refine bW [] 2 pb off un uc .i64 0 0 rfl aB (by omega) ?_;refine cV [] pb (off+0*2) (eg (p.getD 0 ⟨0,0⟩)) aB (fun I w hd hh j v hv=>oC pb off un uc (at' 0 (by omega)) I w hd hh j v hv) ?_;refine aq [] (Bc (p.getD 0 ⟨0,0⟩).x (p.getD 0 ⟨0,0⟩).y) ?_;rintro _ _ ⟨rfl,rfl⟩;refine aq [] (cU (p.getD 0 ⟨0,0⟩).x (by omega) (by omega)) ?_;rintro _ _ ⟨u5,d5,rfl,rfl⟩;refine aq [] (cr u5 d5) ?_;rintro _ _ ⟨n6,a6,m6,b6,rfl,rfl⟩;refine dJ [] 1 b1 0 (.slice (some ⟨pb,off,none⟩) un uc) aB (gF b1 rfl) ?_;by_cases h3:p.length=3
 ·have h1:=bd 1 (by omega);have h2:=bd 2 (by omega);have TC:∀{x y c:Int},(-2147483648≤x∧x≤2147483647)→(-2147483648≤y∧y≤2147483647)→(0≤c∧c≤32767)→IntKind.i64.wrap (IntKind.i64.wrap (x-y)*c)=(x-y)*c∧ -9223372036854775808≤(x-y)*c∧(x-y)*c<9223372036854775808:=fun{x y c} e1 e2 e3=>by
   have w1:IntKind.i64.wrap (x-y)=x-y:=i64_in _ (by omega);rw[w1];have a1:(x-y)*c≤4294967295*32767:=ve (kY (show x-y≤4294967295 by omega) e3.1) (lA e3.2 (by decide));have a2: -4294967295*32767≤(x-y)*c:=by
    have b1: -4294967295*c≤(x-y)*c:=kY (by omega) e3.1;omega
   exact⟨i64_in _ (by omega),by omega,by omega⟩
  obtain⟨w1,w2,w3⟩:=TC h1 h0 hi;obtain⟨v1,v2,v3⟩:=TC h2 h0 hk;have hown:pY Dp.x p eW rows i k=(((p.getD 0 ⟨0,0⟩).x:Rat)+Rat.divInt (((p.getD 1 ⟨0,0⟩).x-(p.getD 0 ⟨0,0⟩).x)*i) eW)+Rat.divInt (((p.getD 2 ⟨0,0⟩).x-(p.getD 0 ⟨0,0⟩).x)*k) rows:=by unfold pY;rw[if_pos h3];rfl
  rw[hown];obtain⟨A,hA⟩:∃A,((p.getD 1 ⟨0,0⟩).x-(p.getD 0 ⟨0,0⟩).x)*i=A:=⟨_,rfl⟩;obtain⟨B,hB⟩:∃B,((p.getD 2 ⟨0,0⟩).x-(p.getD 0 ⟨0,0⟩).x)*k=B:=⟨_,rfl⟩;rw[hA]at w1 w2 w3⊢;rw[hB]at v1 v2 v3⊢;have q1:∀Γ':List aD,aw tb Tryz.prog 154 [.int .i64 (IntKind.i64.wrap (IntKind.i64.wrap ((p.getD 1 ⟨0,0⟩).x-(p.getD 0 ⟨0,0⟩).x)*i)),.int .i64 eW] Γ' (Ta 2 (Rat.divInt A eW)):=fun Γ'=>by
   rw[w1];exact Bb A eW (by omega) (by omega) (by omega) (by omega) (by omega)
  have q2:∀Γ':List aD,aw tb Tryz.prog 154 [.int .i64 (IntKind.i64.wrap (IntKind.i64.wrap ((p.getD 2 ⟨0,0⟩).x-(p.getD 0 ⟨0,0⟩).x)*k)),.int .i64 rows] Γ' (Ta 2 (Rat.divInt B rows)):=fun Γ'=>by
   rw[v1];exact Bb B rows (by omega) (by omega) (by omega) (by omega) (by omega)
  refine bj [] 24 ((un:Int)==3) (by rw[g1,h3];rfl) ?_;refine dJ [24] 1 b1 0 (.slice (some ⟨pb,off,none⟩) un uc) aB (gF b1 rfl) ?_;refine bW [] 2 pb off un uc .i64 1 1 rfl aB (by omega) ?_;refine cV [] pb (off+1*2) (eg (p.getD 1 ⟨0,0⟩)) aB (fun I w hd hh j v hv=>oC pb off un uc (at' 1 (by omega)) I w hd hh j v hv) ?_;refine dJ [] 1 b1 0 (.slice (some ⟨pb,off,none⟩) un uc) aB (gF b1 rfl) ?_;refine bW [] 2 pb off un uc .i64 0 0 rfl aB (by omega) ?_;refine cV [] pb (off+0*2) (eg (p.getD 0 ⟨0,0⟩)) aB (fun I w hd hh j v hv=>oC pb off un uc (at' 0 (by omega)) I w hd hh j v hv) ?_;refine dJ [] 1 b2 0 (.int .i64 eW) aB (gF b2 rfl) ?_;refine aq [] (Bc (p.getD 1 ⟨0,0⟩).x (p.getD 1 ⟨0,0⟩).y) ?_;rintro _ _ ⟨rfl,rfl⟩;refine aq [] (Bc (p.getD 0 ⟨0,0⟩).x (p.getD 0 ⟨0,0⟩).y) ?_;rintro _ _ ⟨rfl,rfl⟩;refine aq [] (q1 _) ?_;rintro _ _ ⟨n17,a17,m17,b17,rfl,rfl⟩;refine dJ [] 1 b1 0 (.slice (some ⟨pb,off,none⟩) un uc) aB (gF b1 rfl) ?_;refine bW [] 2 pb off un uc .i64 2 2 rfl aB (by omega) ?_;refine cV [] pb (off+2*2) (eg (p.getD 2 ⟨0,0⟩)) aB (fun I w hd hh j v hv=>oC pb off un uc (at' 2 (by omega)) I w hd hh j v hv) ?_;refine dJ [] 1 b1 0 (.slice (some ⟨pb,off,none⟩) un uc) aB (gF b1 rfl) ?_;refine bW [] 2 pb off un uc .i64 0 0 rfl aB (by omega) ?_;refine cV [] pb (off+0*2) (eg (p.getD 0 ⟨0,0⟩)) aB (fun I w hd hh j v hv=>oC pb off un uc (at' 0 (by omega)) I w hd hh j v hv) ?_
  refine dJ [] 1 b3 0 (.int .i64 rows) aB (gF b3 rfl) ?_;refine aq [] (Bc (p.getD 2 ⟨0,0⟩).x (p.getD 2 ⟨0,0⟩).y) ?_;rintro _ _ ⟨rfl,rfl⟩;refine aq [] (Bc (p.getD 0 ⟨0,0⟩).x (p.getD 0 ⟨0,0⟩).y) ?_;rintro _ _ ⟨rfl,rfl⟩;refine aq [] (q2 _) ?_;rintro _ _ ⟨n27,a27,m27,b27,rfl,rfl⟩;refine aq [] (ft n6 a6 m6 b6 n17 a17 m17 b17) ?_;rintro _ _ ⟨n28,a28,m28,b28,rfl,rfl⟩;refine aq [] (ft n28 a28 m28 b28 n27 a27 m27 b27) ?_;rintro _ _ ⟨n29,a29,m29,b29,rfl,rfl⟩;exact W.r [] (qv n29 a29 m29 b29) ⟨_,_,_,_,rfl,rfl⟩ (kg (by omega) rfl)
 ·have hown:pY Dp.x p eW rows i k=((p.getD 0 ⟨0,0⟩).x:Rat):=by unfold pY;rw[if_neg h3]
  rw[hown];refine aQ [] 24 ((un:Int)==3) (by rw[ed];omega) ?_;exact W.r [24] (qv n6 a6 m6 b6) ⟨_,_,_,_,rfl,rfl⟩ (kg (by omega) rfl)
theorem Bd(a b:Int):aw tb Tryz.prog 158 [.agg #[.int .i64 a,.int .i64 b]] Γ (jq (.int .i64 b)):=by
 refine aw.of_W aB Tryz.func158 rfl ?_;exact W.r [] (.int .i64 b) ⟨rfl,rfl⟩ bT
theorem WB(b1 b2 b3:Nat)(i k eW rows:Int)(u:Sl){p:List Dp} [aW (ek b1) [aZ u] Γ] [aW (ek b2) [.int .i64 eW] Γ] [aW (ek b3) [.int .i64 rows] Γ] [aW (zi u) p Γ](hp:p.length=1∨p.length=3)
  (hin:∀d∈p,(-2147483648≤d.x∧d.x≤2147483647)∧ -2147483648≤d.y∧d.y≤2147483647)(hi:0≤i∧i≤32767)(hk:0≤k∧k≤32767)(hc:1≤eW∧eW≤32767)(hr:1≤rows∧rows≤32767):
  aw tb Tryz.prog 153 [.func (.func 158) #[] #[],.int .i64 i,.int .i64 k,.pointer (some ⟨b1,0,none⟩),.pointer (some ⟨b2,0,none⟩),.pointer (some ⟨b3,0,none⟩)] Γ (s9 30 (pY Dp.y p eW rows i k)):=by
 refine aw.of_W aB Tryz.func153 rfl ?_;refine Jk u (l:=p) rfl (fun g1 g2 g3=>?_);have oH:p≠ []:=fun e=>by rw[e]at hp;simp at hp
 obtain⟨pb,off,hao⟩:=g3 oH;obtain⟨ua,un,uc⟩:=u;simp only at g1 g2 hao;subst hao;have at':∀j,j<p.length→p[j]? =some (p.getD j ⟨0,0⟩):=fun j hj=>uJ p j ⟨0,0⟩ hj;have bd:∀j,j<p.length→ -2147483648≤(p.getD j ⟨0,0⟩).y∧(p.getD j ⟨0,0⟩).y≤2147483647:=fun j hj=>(hin _ (aK (at' j hj))).2;have h0:=bd 0 (by omega);refine dJ [] 1 b1 0 (.slice (some ⟨pb,off,none⟩) un uc) aB (gF b1 rfl) ?_;refine bW [] 2 pb off un uc .i64 0 0 rfl aB (by omega) ?_;refine cV [] pb (off+0*2) (eg (p.getD 0 ⟨0,0⟩)) aB (fun I w hd hh j v hv=>oC pb off un uc (at' 0 (by omega)) I w hd hh j v hv) ?_;refine aq [] (Bd (p.getD 0 ⟨0,0⟩).x (p.getD 0 ⟨0,0⟩).y) ?_;rintro _ _ ⟨rfl,rfl⟩;refine aq [] (cU (p.getD 0 ⟨0,0⟩).y (by omega) (by omega)) ?_;rintro _ _ ⟨u5,d5,rfl,rfl⟩;refine aq [] (cr u5 d5) ?_;rintro _ _ ⟨n6,a6,m6,b6,rfl,rfl⟩;refine dJ [] 1 b1 0 (.slice (some ⟨pb,off,none⟩) un uc) aB (gF b1 rfl) ?_;by_cases h3:p.length=3
 ·have h1:=bd 1 (by omega);have h2:=bd 2 (by omega);have TC:∀{x y c:Int},(-2147483648≤x∧x≤2147483647)→(-2147483648≤y∧y≤2147483647)→(0≤c∧c≤32767)→IntKind.i64.wrap (IntKind.i64.wrap (x-y)*c)=(x-y)*c∧ -9223372036854775808≤(x-y)*c∧(x-y)*c<9223372036854775808:=fun{x y c} e1 e2 e3=>by
   have w1:IntKind.i64.wrap (x-y)=x-y:=i64_in _ (by omega);rw[w1];have a1:(x-y)*c≤4294967295*32767:=ve (kY (show x-y≤4294967295 by omega) e3.1) (lA e3.2 (by decide));have a2: -4294967295*32767≤(x-y)*c:=by
    have b1: -4294967295*c≤(x-y)*c:=kY (by omega) e3.1;omega
   exact⟨i64_in _ (by omega),by omega,by omega⟩
  obtain⟨w1,w2,w3⟩:=TC h1 h0 hi;obtain⟨v1,v2,v3⟩:=TC h2 h0 hk;have hown:pY Dp.y p eW rows i k=(((p.getD 0 ⟨0,0⟩).y:Rat)+Rat.divInt (((p.getD 1 ⟨0,0⟩).y-(p.getD 0 ⟨0,0⟩).y)*i) eW)+Rat.divInt (((p.getD 2 ⟨0,0⟩).y-(p.getD 0 ⟨0,0⟩).y)*k) rows:=by unfold pY;rw[if_pos h3];rfl
  rw[hown];obtain⟨A,hA⟩:∃A,((p.getD 1 ⟨0,0⟩).y-(p.getD 0 ⟨0,0⟩).y)*i=A:=⟨_,rfl⟩;obtain⟨B,hB⟩:∃B,((p.getD 2 ⟨0,0⟩).y-(p.getD 0 ⟨0,0⟩).y)*k=B:=⟨_,rfl⟩;rw[hA]at w1 w2 w3⊢;rw[hB]at v1 v2 v3⊢;have q1:∀Γ':List aD,aw tb Tryz.prog 154 [.int .i64 (IntKind.i64.wrap (IntKind.i64.wrap ((p.getD 1 ⟨0,0⟩).y-(p.getD 0 ⟨0,0⟩).y)*i)),.int .i64 eW] Γ' (Ta 2 (Rat.divInt A eW)):=fun Γ'=>by
   rw[w1];exact Bb A eW (by omega) (by omega) (by omega) (by omega) (by omega)
  have q2:∀Γ':List aD,aw tb Tryz.prog 154 [.int .i64 (IntKind.i64.wrap (IntKind.i64.wrap ((p.getD 2 ⟨0,0⟩).y-(p.getD 0 ⟨0,0⟩).y)*k)),.int .i64 rows] Γ' (Ta 2 (Rat.divInt B rows)):=fun Γ'=>by
   rw[v1];exact Bb B rows (by omega) (by omega) (by omega) (by omega) (by omega)
  refine bj [] 24 ((un:Int)==3) (by rw[g1,h3];rfl) ?_;refine dJ [24] 1 b1 0 (.slice (some ⟨pb,off,none⟩) un uc) aB (gF b1 rfl) ?_;refine bW [] 2 pb off un uc .i64 1 1 rfl aB (by omega) ?_;refine cV [] pb (off+1*2) (eg (p.getD 1 ⟨0,0⟩)) aB (fun I w hd hh j v hv=>oC pb off un uc (at' 1 (by omega)) I w hd hh j v hv) ?_;refine dJ [] 1 b1 0 (.slice (some ⟨pb,off,none⟩) un uc) aB (gF b1 rfl) ?_;refine bW [] 2 pb off un uc .i64 0 0 rfl aB (by omega) ?_;refine cV [] pb (off+0*2) (eg (p.getD 0 ⟨0,0⟩)) aB (fun I w hd hh j v hv=>oC pb off un uc (at' 0 (by omega)) I w hd hh j v hv) ?_;refine dJ [] 1 b2 0 (.int .i64 eW) aB (gF b2 rfl) ?_;refine aq [] (Bd (p.getD 1 ⟨0,0⟩).x (p.getD 1 ⟨0,0⟩).y) ?_;rintro _ _ ⟨rfl,rfl⟩;refine aq [] (Bd (p.getD 0 ⟨0,0⟩).x (p.getD 0 ⟨0,0⟩).y) ?_;rintro _ _ ⟨rfl,rfl⟩;refine aq [] (q1 _) ?_;rintro _ _ ⟨n17,a17,m17,b17,rfl,rfl⟩;refine dJ [] 1 b1 0 (.slice (some ⟨pb,off,none⟩) un uc) aB (gF b1 rfl) ?_;refine bW [] 2 pb off un uc .i64 2 2 rfl aB (by omega) ?_;refine cV [] pb (off+2*2) (eg (p.getD 2 ⟨0,0⟩)) aB (fun I w hd hh j v hv=>oC pb off un uc (at' 2 (by omega)) I w hd hh j v hv) ?_;refine dJ [] 1 b1 0 (.slice (some ⟨pb,off,none⟩) un uc) aB (gF b1 rfl) ?_;refine bW [] 2 pb off un uc .i64 0 0 rfl aB (by omega) ?_;refine cV [] pb (off+0*2) (eg (p.getD 0 ⟨0,0⟩)) aB (fun I w hd hh j v hv=>oC pb off un uc (at' 0 (by omega)) I w hd hh j v hv) ?_
  refine dJ [] 1 b3 0 (.int .i64 rows) aB (gF b3 rfl) ?_;refine aq [] (Bd (p.getD 2 ⟨0,0⟩).x (p.getD 2 ⟨0,0⟩).y) ?_;rintro _ _ ⟨rfl,rfl⟩;refine aq [] (Bd (p.getD 0 ⟨0,0⟩).x (p.getD 0 ⟨0,0⟩).y) ?_;rintro _ _ ⟨rfl,rfl⟩;refine aq [] (q2 _) ?_;rintro _ _ ⟨n27,a27,m27,b27,rfl,rfl⟩;refine aq [] (ft n6 a6 m6 b6 n17 a17 m17 b17) ?_;rintro _ _ ⟨n28,a28,m28,b28,rfl,rfl⟩;refine aq [] (ft n28 a28 m28 b28 n27 a27 m27 b27) ?_;rintro _ _ ⟨n29,a29,m29,b29,rfl,rfl⟩;exact W.r [] (qv n29 a29 m29 b29) ⟨_,_,_,_,rfl,rfl⟩ (kg (by omega) rfl)
 ·have hown:pY Dp.y p eW rows i k=((p.getD 0 ⟨0,0⟩).y:Rat):=by unfold pY;rw[if_neg h3]
  rw[hown];refine aQ [] 24 ((un:Int)==3) (by rw[ed];omega) ?_;exact W.r [24] (qv n6 a6 m6 b6) ⟨_,_,_,_,rfl,rfl⟩ (kg (by omega) rfl)
end
end Go.Proofs.YtgaaopjagcaojaaGreat
