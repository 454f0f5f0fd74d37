import Derived.Test.YtgaaopjagcaojaaGreatMc
import Derived.Test.YtgaaopjagcaojaaGreatRo
set_option linter.unusedSimpArgs false
set_option linter.unusedVariables false
set_option maxHeartbeats 2000000
namespace Go.Proofs.YtgaaopjagcaojaaGreat
open Go.RowKit Go.IntWalk
structure SN(t:List Ce):Prop where
 ok:∀c∈t,∀x∈c.i,hZ x
 len:∀c∈t,c.i.length≤100000
 tl:t.length≤100000
 by':∀c∈t,Xp c
structure zu(t:List Ce):Prop where
 lost:lost t=false
 right:∀c∈t,∀x∈c.i,gU x=true
 deep:∀i,i<t.length→∃d,dep t 64 i=some d
theorem SN.ce{t:List Ce}(h:SN t):∀c∈t,Uq c:=fun c hc x hx=>(h.ok c hc x hx).im
theorem tJ{t:List Ce}{i:Nat}{x:Ce}(hx:t[i]? =some x):ll t i=x.i:=by
 unfold ll;rw[dZ,hx];rfl
theorem x7{t:List Ce}{i:Nat}{x:Im}(h:x∈ll t i):∃c∈t,x∈c.i:=by
 unfold ll at h;rw[dZ]at h;cases hg:t[i]? with
 |none=>rw[hg]at h;simp at h
 |some c=>
  rw[hg]at h;exact⟨c,aO hg,h⟩
theorem zB{t:List Ce}{g:Nat→Int}(hg:∀k,0≤g k){x:Im}(hr:gU x=true):0≤jd t g x:=by
 unfold jd;split
 ·omega
 ·split
  ·split<;>omega
  ·split
   ·rename_i hk;obtain⟨_,h1,h2,_⟩:=oL hr hk;split
    ·exact eZ (eZ (hg _) (by omega)) (by omega)
    ·omega
   ·omega
theorem BS:∀{l:List Int},(∀z∈l,0≤z)→0≤l.sum
 | [],_=>by simp
 |z::l,h=>by
  have:=h z (by simp);have:=BS (l:=l) fun y hy=>h y (by simp[hy]);simp only[fA];omega
theorem zu.cnt_nn{t:List Ce}(h:zu t):∀n c,0≤jF t n c
 |0,c=>by simp[jF]
 |n+1,c=>by
  unfold jF;refine BS fun z hz=>?_;obtain⟨x,hx,rfl⟩:=List.mem_map.1 hz;obtain⟨c',hc',hx'⟩:=x7 hx;exact zB (h.cnt_nn n) (h.right c' hc' x hx')
theorem zu.cnt64{t:List Ce}(h:zu t){i:Nat}(hi:i<t.length):jF t 64 i=((ll t i).map (jd t (jF t 64))).sum:=by
 obtain⟨d,hd⟩:=h.deep i hi;rw[←Az hd];rfl
theorem zu.kid{t:List Ce}(h:zu t){i:Nat}{x:Ce}(hx:t[i]? =some x){y:Im}(hy:y∈x.i){s:List Int}(hs:iB y=some s):∃k,mu t y=some k∧nC t (strOfNums s)=some k∧k∈fB t i:=by
 have h1:=h.lost;unfold YtgaaopjagcaojaaGreat.lost at h1;rw[gC]at h1;have h2:=h1 x (aO hx);unfold qZ at h2;simp only[Bool.not_eq_true]at h2;rw[gC]at h2;have h3:=h2 y hy;have e:mu t y=nC t (strOfNums s):=by unfold mu;rw[hs];rfl
 cases hk:mu t y with
 |none=>rw[hs,hk]at h3;simp at h3
 |some k=>exact⟨k,rfl,by rw[←e,hk],List.mem_filterMap.2 ⟨y,by rw[tJ hx];exact hy,hk⟩⟩
theorem Bd{t:List Ce}{s:List Int}{k:Nat}(h:nC t (strOfNums s)=some k):gJ (strOfNums s) (cf (cw t))=some (.int .i64 (k:Int)):=by
 rw[mI,vG,h];rfl
theorem Rf{S a a' m:Int}(h0:0≤S)(hm:0≤m)(ha:0≤a')(h:a'=a∨(m≤a'∧m≤a)):min (min S m+a') m=min (S+a) m:=by omega
theorem Eg{k c:Int}(h:0≤k)(hc:1≤c):k≤k*c:=by
 have:=k_ hc h;omega
theorem Jn{k c r m:Int}(hk:0≤k)(hm:0≤m)(hc:1≤c)(hr:1≤r):0≤min k m*c*r∧(min k m*c*r=k*c*r∨(m≤min k m*c*r∧m≤k*c*r)):=by
 have h1:0≤min k m:=by omega
 refine⟨eZ (eZ h1 (by omega)) (by omega),?_⟩;by_cases h:k≤m
 ·exact .inl (by rw[Int.min_eq_left h])
 ·rw[Int.min_eq_right (by omega)];have a1:=Eg hm hc;have a2:=Eg (k:=m*c) (by omega) hr;have b1:=Eg hk hc;have b2:=Eg (k:=k*c) (by omega) hr;exact .inr ⟨by omega,by omega⟩
theorem Hr{k c r z:Int}(hk:0≤k∧k≤100001)(hc:1≤c∧c≤32767)(hr:1≤r∧r≤32767)(hz:0≤z∧z≤100001):IntKind.i64.wrap (z+IntKind.i64.wrap (IntKind.i64.wrap (k*c)*r))=z+k*c*r:=by
 have a0:0≤k*c:=eZ hk.1 (by omega);have a1:k*c≤100001*32767:=qj hk.2 hc.2 (by omega) (by omega);have b0:0≤k*c*r:=eZ a0 (by omega);have b1:k*c*r≤(100001*32767)*32767:=qj a1 hr.2 (by omega) (by omega);rw[i64_in (k*c) (by omega),i64_in (k*c*r) (by omega),i64_in (z+k*c*r) (by omega)]
def we(t:List Ce)(most:Int)(cm:List (Int×Int)):Prop:=∀k v,gJ k cm=some v→∃j:Nat,k=j∧v=min (jF t 64 j) (most+1)
theorem we.set{t:List Ce}{most:Int}{cm:List (Int×Int)}(h:we t most cm){c:Int}{i:Nat}(hc:c=i){v:Int}(hv:v=min (jF t 64 i) (most+1)):we t most (kU c v cm):=fun k u hk=>by
 rw[iG]at hk;split at hk
 ·injection hk with hk;exact⟨i,by omega,by omega⟩
 ·exact h k u hk
def Ur(t:List Ce)(most:Int)(i:Nat)(FO':List (Nat×List Value))(b1 b2:Nat×List (Value×Value))(cn:Nat)(v:Value)(O:List (Nat×List Value))(M:List (Nat×List (Value×Value)))(Δ:List aE):Prop:=
 ∃oU:List (Int×Int),we t most oU∧v=.int .i64 (min (jF t 64 i) (most+1))∧O=FO'∧M=[b1,b2,(cn,bM dA (cf oU))]∧Δ=[]
structure aaK where
 j:Nat
 z:Int
 n:Int
 cm:List (Int×Int)
def ctU(fb:Nat)(c:Int)(u:Sl):aaK→List (Nat×SV):=fun a=>[(0,.val (fp fb)),(1,.val (.int .i64 c)),(4,.val (.int .i64 0)),(34,.val (bz u)),(35,.val (.int .i64 u.n)),(7,.val (.int .i64 a.n)),(36,.val (.int .i64 a.z))]
section
theorem JX(fb bn cn dn:Nat)(ca:Option Addr)(oU cc:Nat)(most:Int)(sh:Value)(dm:List (Value×Value)){t:List Ce}(hF:SN t)(hD:zu t)(hmost:0≤most∧most≤100000):
  ∀(n:Nat) (Γ:List aE) [aZ (pE ⟨ca,oU,cc⟩) t Γ] (c:Int) (i:Nat),c=i→i<t.length→(∃d,dep t n i=some d)→∀cm:List (Int×Int),we t most cm→
  dC Kt Tryz.prog 47 [fp fb,.int .i64 c] (FO fb ⟨ca,oU,cc⟩ bn cn dn most sh) [(bn,bM dT (cf (cw t))),(dn,dm),(cn,bM dA (cf cm))] Γ (Ur t most i (FO fb ⟨ca,oU,cc⟩ bn cn dn most sh) (bn,bM dT (cf (cw t))) (dn,dm) cn):=by
 intro n
 induction n with
 |zero=>
  intro Γ hcs c i hc hi ⟨d,hd⟩;simp[dep]at hd
 |succ n ih=>
 intro Γ hcs c i hc hi sM cm hcm;obtain⟨x,hx⟩:∃x,t[i]? =some x:=⟨_,ar hi⟩;have hxm:=aO hx;have D_:=tJ hx;have Nz:=hD.cnt64 hi;rw[D_]at Nz;refine dC.of_W bK Tryz.func47 rfl ?_;refine W.len pG qg.x ⟨ca,oU,cc⟩ rfl (fun h1 h2 h3=>?_);simp only at h1 h2 h3;have hil:i<oU:=by rw[h1];exact hi
 refine wj ⟨ca,oU,cc⟩ hx (fun b off fh fi ha=>?_);simp only at ha;subst ha;refine W.more (Δ:=[uv fi x.i]) rfl (fun I w _ hh=>aV (aZ.p (k:=xL fh fi) (a:=x) inferInstance hh).2) ?_;obtain⟨ia,im,ic⟩:=fi;refine W.len lJ nj.x ⟨ia,im,ic⟩ rfl (fun i1 i2 i3=>?_);simp only at i1 i2 i3;refine cr [] 2 fb 0 bK ?_;refine dQ [] (FO fb ⟨some ⟨b,off,none⟩,oU,cc⟩ bn cn dn most sh) fb (0+2) 1 [.slice (some ⟨b,off,none⟩) oU cc,.map (some bn),.map (some cn),.map (some dn),.int .i64 most,sh] (.map (some cn)) bK (.head _) rfl ?_;refine ve [] dA 70 3 3 true (FO fb ⟨some ⟨b,off,none⟩,oU,cc⟩ bn cn dn most sh) [(bn,bM dT (cf (cw t))),(dn,dm),(cn,bM dA (cf cm))] cn c (cf cm) (.int .i64 0) bK (.tail _ (.tail _ (.head _))) ?_;rw[mI];cases hg:gJ c cm with
 |some d=>
  refine bD [] 25 true rfl ?_;obtain⟨j,hj,hv⟩:=hcm c d hg;obtain rfl:j=i:=by omega
  exact j1 [25] (.int .i64 d) (FO fb ⟨some ⟨b,off,none⟩,oU,cc⟩ bn cn dn most sh) [(bn,bM dT (cf (cw t))),(dn,dm),(cn,bM dA (cf cm))] ⟨cm,hcm,by rw[hv],rfl,rfl,rfl⟩ bU
 |none=>
  refine aS [] 25 false rfl ?_;refine cr [25] 0 fb 0 bK ?_;refine dQ [] (FO fb ⟨some ⟨b,off,none⟩,oU,cc⟩ bn cn dn most sh) fb (0+0) 1 [.slice (some ⟨b,off,none⟩) oU cc,.map (some bn),.map (some cn),.map (some dn),.int .i64 most,sh] (.slice (some ⟨b,off,none⟩) oU cc) bK (.head _) rfl ?_;refine cA [] 2 b off oU cc .i64 i c hc bK hil ?_;refine cr [] 1 b (off+i*2) bK ?_;refine eg [] 1 b (off+i*2+1) (.slice ia im ic) bK (fun I w hd hh=>dL (T:=Kt) b (off+i*2) I w hd hh 1 _ rfl) ?_;refine kA [] Tryz.f47 0 101 101 [0,1,4,34,35,7,36] [] (ctU fb c ⟨ia,im,ic⟩) (fun _=>[]) (fun _=>FO fb ⟨some ⟨b,off,none⟩,oU,cc⟩ bn cn dn most sh) (fun a=>[(bn,bM dT (cf (cw t))),(dn,dm),(cn,bM dA (cf a.cm))]) (fun a=>[uv ⟨ia,im,ic⟩ x.i,pE ⟨some ⟨b,off,none⟩,oU,cc⟩ t]) (fun a=>a.z=a.j∧a.j≤im∧a.n=min (((x.i.take a.j).map (jd t (jF t 64))).sum) (most+1)∧we t most a.cm) (fun a=>im-a.j) ⟨0,0,0,cm⟩ ⟨rfl,aM _,by simp only[qt,cZ,uY];omega,hcm⟩ (eC eK (eC eK eE)) ?_;rintro⟨j,z,N,em⟩ K ⟨hz,hj,hN,JC⟩ close;simp only at hz hj hN JC;obtain⟨S,hS⟩:∃S,((x.i.take j).map (jd t (jF t 64))).sum=S:=⟨_,rfl⟩;have hS0:0≤S:=by
   rw[←hS];refine BS fun q hq=>?_;obtain⟨y,hy,rfl⟩:=List.mem_map.1 hq;exact zB (hD.cnt_nn 64) (hD.right x hxm y (dI hy))
  rw[hS]at hN;have hN0:0≤N∧N≤100001:=by omega
  have hm1:IntKind.i64.wrap (most+1)=most+1:=by rw[ah];omega
  by_cases hlt:j<im
  ·obtain⟨y,hy⟩:∃y,x.i[j]? =some y:=⟨_,ar (by omega)⟩;have Mc:=aO hy;have VO:=hF.ok x hxm y Mc;have lL:=VO.im;have VP:=hD.right x hxm y Mc;have next:∀a':Int,0≤a'→(a'=jd t (jF t 64) y∨(most+1≤a'∧most+1≤jd t (jF t 64) y))→min (N+a') (most+1)=min (((x.i.take (j+1)).map (jd t (jF t 64))).sum) (most+1):=fun a' h0 h=>by
    rw[fz hy,aX,sX,hS];simp only[b_,cZ,fA,uY,qh];rw[hN];exact Rf hS0 (by omega) h0 h
   refine Al ⟨ia,im,ic⟩ hy (fun b2 off2 yf yp ha=>?_);simp only at ha;subst ha;refine bD [] 37 (decide (z<(im:Int))) (aw (by omega)) ?_;refine cA [37] 2 b2 off2 im ic .i64 j z hz bK hlt ?_;refine de [] b2 (off2+j*2) [bz yf,bz yp] bK (dL b2 (off2+j*2)) ?_;rcases VO.kind with hk|hk|hk|hk|hk|hk|hk
   ·have pk:∀(Γ':List aE) [aZ (mr yf yp) y Γ'],au tb Tryz.prog 81 [mq yf yp] Γ' (jv (.int .u8 8)):=fun Γ' _=>by rw[←hk];exact gP yf yp lL
    refine aj [] (pk _).mF ?_;rintro _ _ ⟨rfl,rfl⟩;refine cr [42] 4 fb 0 bK ?_;refine dQ [] (FO fb ⟨some ⟨b,off,none⟩,oU,cc⟩ bn cn dn most sh) fb (0+4) 1 [.slice (some ⟨b,off,none⟩) oU cc,.map (some bn),.map (some cn),.map (some dn),.int .i64 most,sh] (.int .i64 most) bK (.head _) rfl ?_;refine Cb [] .i64 (IntKind.i64.wrap (N+1)) (IntKind.i64.wrap (most+1)) (min (N+1) (most+1)) (by rw[hm1,show IntKind.i64.wrap (N+1)=N+1 by rw[ah];omega]) ?_;exact close [] _ _ ⟨j+1,IntKind.i64.wrap (z+1),min (N+1) (most+1),em⟩ (by kernel_rfl) (by kernel_rfl) ⟨by simp only[ah];omega,hlt,next 1 (by decide) (.inl (by unfold jd;rw[if_pos (.inl hk)])),JC⟩ (by simp only;omega) (eC eK (eC eK eE))
   ·have pk:∀(Γ':List aE) [aZ (mr yf yp) y Γ'],au tb Tryz.prog 81 [mq yf yp] Γ' (jv (.int .u8 9)):=fun Γ' _=>by rw[←hk];exact gP yf yp lL
    refine aj [] (pk _).mF ?_;rintro _ _ ⟨rfl,rfl⟩;refine aj [47,42] (IF yf yp (x:=y) lL).mF ?_;rintro _ _ ⟨ao,pc,l,rfl,NQ,hl,rfl⟩;by_cases hl0:0<l.length
    ·have hne:ji y≠ []:=by rw[←hl];intro e;rw[List.map_eq_nil_iff]at e;rw[e]at hl0;simp at hl0
     refine bD [] 56 (decide ((l.length:Int)>0)) (aw (by omega)) ?_;refine cr [56] 4 fb 0 bK ?_;refine dQ [] (FO fb ⟨some ⟨b,off,none⟩,oU,cc⟩ bn cn dn most sh) fb (0+4) 1 [.slice (some ⟨b,off,none⟩) oU cc,.map (some bn),.map (some cn),.map (some dn),.int .i64 most,sh] (.int .i64 most) bK (.head _) rfl ?_;refine Cb [] .i64 (IntKind.i64.wrap (N+1)) (IntKind.i64.wrap (most+1)) (min (N+1) (most+1)) (by rw[hm1,show IntKind.i64.wrap (N+1)=N+1 by rw[ah];omega]) ?_;exact close [] _ _ ⟨j+1,IntKind.i64.wrap (z+1),min (N+1) (most+1),em⟩ (by kernel_rfl) (by kernel_rfl) ⟨by simp only[ah];omega,hlt,next 1 (by decide) (.inl (by unfold jd;simp[hk,hne])),JC⟩ (by simp only;omega) (eC eK (eC eK eE))
    ·have hne:ji y=[]:=by rw[←hl,aL (by omega:l.length=0)];rfl
     refine aS [] 56 (decide ((l.length:Int)>0)) (ak (by omega)) ?_;refine cr [56] 4 fb 0 bK ?_;refine dQ [] (FO fb ⟨some ⟨b,off,none⟩,oU,cc⟩ bn cn dn most sh) fb (0+4) 1 [.slice (some ⟨b,off,none⟩) oU cc,.map (some bn),.map (some cn),.map (some dn),.int .i64 most,sh] (.int .i64 most) bK (.head _) rfl ?_;refine Cb [] .i64 (N) (IntKind.i64.wrap (most+1)) (min (N+0) (most+1)) (by rw[hm1,qh]) ?_;exact close [] _ _ ⟨j+1,IntKind.i64.wrap (z+1),min (N+0) (most+1),em⟩ (by kernel_rfl) (by kernel_rfl) ⟨by simp only[ah];omega,hlt,next 0 (Int.le_refl _) (.inl (by unfold jd;simp[hk,hne])),JC⟩ (by simp only;omega) (eC eK (eC eK eE))
   ·have pk:∀(Γ':List aE) [aZ (mr yf yp) y Γ'],au tb Tryz.prog 81 [mq yf yp] Γ' (jv (.int .u8 10)):=fun Γ' _=>by rw[←hk];exact gP yf yp lL
    refine aj [] (pk _).mF ?_;rintro _ _ ⟨rfl,rfl⟩;obtain⟨s,hs⟩:=VO.ref (.inl hk);obtain⟨k,hkn,Zc,hkm⟩:=hD.kid hx Mc hs;obtain⟨_,hg1,hg2,_⟩:=oL VP (.inl hk);have Y6:=wM (hF.by' x hxm y Mc);have pn:∀(Γ':List aE) [aZ (mr yf yp) y Γ'],au tb Tryz.prog 79 [mq yf yp] Γ' (jv (.tuple #[.string (strOfNums s),.bool true])):=fun Γ' _=>by
     have:=xg (Γ:=Γ') yf yp lL;rw[hs]at this;exact this
    refine aj [59,47,42] (pn _).mF ?_;rintro _ _ ⟨rfl,rfl⟩;refine aj [] (tR yf yp (x:=y) lL).mF ?_;rintro _ _ ⟨rfl,rfl⟩;refine cr [] 1 fb 0 bK ?_;refine dQ [] (FO fb ⟨some ⟨b,off,none⟩,oU,cc⟩ bn cn dn most sh) fb (0+1) 1 [.slice (some ⟨b,off,none⟩) oU cc,.map (some bn),.map (some cn),.map (some dn),.int .i64 most,sh] (.map (some bn)) bK (.head _) rfl ?_;refine ve [] dT 69 9 3 false (FO fb ⟨some ⟨b,off,none⟩,oU,cc⟩ bn cn dn most sh) [(bn,bM dT (cf (cw t))),(dn,dm),(cn,bM dA (cf em))] bn (strOfNums s) (cf (cw t)) (.int .i64 0) bK (.head _) ?_;rw[Bd Zc];have hkd:∃d,dep t n k=some d:=by
     obtain⟨d,hd⟩:=sM;unfold dep at hd;cases hq:js (dep t n) (fB t i) 0 with
     |none=>rw[hq]at hd;simp at hd
     |some r=>
      obtain⟨e,he,_⟩:=(lU hq).2 k hkm;exact⟨e,he⟩
    refine c_ [] [] (FO fb ⟨some ⟨b,off,none⟩,oU,cc⟩ bn cn dn most sh) [] [] [(bn,bM dT (cf (cw t))),(dn,dm),(cn,bM dA (cf em))] [] ⟨rfl,by rfl,trivial⟩ (ih _ (k:Int) k rfl (wX hkm) hkd em JC) ?_;rintro _ _ _ _ ⟨em2,Vz,rfl,rfl,rfl,rfl⟩;have hk0:=hD.cnt_nn 64 k;have TC:jd t (jF t 64) y=jF t 64 k*(aT y).1*(aT y).2:=by unfold jd;simp[hk,hkn]
    obtain⟨q,hq⟩:∃q,jF t 64 k=q:=⟨_,rfl⟩;rw[hq]at hk0 TC⊢;have hcap:=Jn (k:=q) (c:=(aT y).1) (r:=(aT y).2) (m:=most+1) hk0 (by omega) (by omega) (by omega);have hwm:=Hr (k:=min q (most+1)) (c:=(aT y).1) (r:=(aT y).2) (z:=N) (by omega) (by omega) (by omega) hN0;refine cr [] 4 fb 0 bK ?_;refine dQ [] (FO fb ⟨some ⟨b,off,none⟩,oU,cc⟩ bn cn dn most sh) fb (0+4) 1 [.slice (some ⟨b,off,none⟩) oU cc,.map (some bn),.map (some cn),.map (some dn),.int .i64 most,sh] (.int .i64 most) bK (.head _) rfl ?_;refine Cb [] .i64 (IntKind.i64.wrap (N+IntKind.i64.wrap (IntKind.i64.wrap (min q (most+1)*(aT y).1)*(aT y).2))) (IntKind.i64.wrap (most+1)) (min (N+(min q (most+1)*(aT y).1*(aT y).2)) (most+1)) (by rw[hm1,hwm]) ?_;exact close [] _ _ ⟨j+1,IntKind.i64.wrap (z+1),min (N+(min q (most+1)*(aT y).1*(aT y).2)) (most+1),em2⟩ (by kernel_rfl) (by kernel_rfl) ⟨by simp only[ah];omega,hlt,next (min q (most+1)*(aT y).1*(aT y).2) hcap.1 (by rw[TC];exact hcap.2),Vz⟩ (by simp only;omega) (eC eK (eC eK eE))
   ·have pk:∀(Γ':List aE) [aZ (mr yf yp) y Γ'],au tb Tryz.prog 81 [mq yf yp] Γ' (jv (.int .u8 11)):=fun Γ' _=>by rw[←hk];exact gP yf yp lL
    refine aj [] (pk _).mF ?_;rintro _ _ ⟨rfl,rfl⟩;obtain⟨s,hs⟩:=VO.ref (.inr hk);obtain⟨k,hkn,Zc,hkm⟩:=hD.kid hx Mc hs;obtain⟨_,hg1,hg2,_⟩:=oL VP (.inr hk);have Y6:=wM (hF.by' x hxm y Mc);have pn:∀(Γ':List aE) [aZ (mr yf yp) y Γ'],au tb Tryz.prog 79 [mq yf yp] Γ' (jv (.tuple #[.string (strOfNums s),.bool true])):=fun Γ' _=>by
     have:=xg (Γ:=Γ') yf yp lL;rw[hs]at this;exact this
    refine aj [59,47,42] (pn _).mF ?_;rintro _ _ ⟨rfl,rfl⟩;refine aj [] (tR yf yp (x:=y) lL).mF ?_;rintro _ _ ⟨rfl,rfl⟩;refine cr [] 1 fb 0 bK ?_;refine dQ [] (FO fb ⟨some ⟨b,off,none⟩,oU,cc⟩ bn cn dn most sh) fb (0+1) 1 [.slice (some ⟨b,off,none⟩) oU cc,.map (some bn),.map (some cn),.map (some dn),.int .i64 most,sh] (.map (some bn)) bK (.head _) rfl ?_;refine ve [] dT 69 9 3 false (FO fb ⟨some ⟨b,off,none⟩,oU,cc⟩ bn cn dn most sh) [(bn,bM dT (cf (cw t))),(dn,dm),(cn,bM dA (cf em))] bn (strOfNums s) (cf (cw t)) (.int .i64 0) bK (.head _) ?_;rw[Bd Zc];have hkd:∃d,dep t n k=some d:=by
     obtain⟨d,hd⟩:=sM;unfold dep at hd;cases hq:js (dep t n) (fB t i) 0 with
     |none=>rw[hq]at hd;simp at hd
     |some r=>
      obtain⟨e,he,_⟩:=(lU hq).2 k hkm;exact⟨e,he⟩
    refine c_ [] [] (FO fb ⟨some ⟨b,off,none⟩,oU,cc⟩ bn cn dn most sh) [] [] [(bn,bM dT (cf (cw t))),(dn,dm),(cn,bM dA (cf em))] [] ⟨rfl,by rfl,trivial⟩ (ih _ (k:Int) k rfl (wX hkm) hkd em JC) ?_;rintro _ _ _ _ ⟨em2,Vz,rfl,rfl,rfl,rfl⟩;have hk0:=hD.cnt_nn 64 k;have TC:jd t (jF t 64) y=jF t 64 k*(aT y).1*(aT y).2:=by unfold jd;simp[hk,hkn]
    obtain⟨q,hq⟩:∃q,jF t 64 k=q:=⟨_,rfl⟩;rw[hq]at hk0 TC⊢;have hcap:=Jn (k:=q) (c:=(aT y).1) (r:=(aT y).2) (m:=most+1) hk0 (by omega) (by omega) (by omega);have hwm:=Hr (k:=min q (most+1)) (c:=(aT y).1) (r:=(aT y).2) (z:=N) (by omega) (by omega) (by omega) hN0;refine cr [] 4 fb 0 bK ?_;refine dQ [] (FO fb ⟨some ⟨b,off,none⟩,oU,cc⟩ bn cn dn most sh) fb (0+4) 1 [.slice (some ⟨b,off,none⟩) oU cc,.map (some bn),.map (some cn),.map (some dn),.int .i64 most,sh] (.int .i64 most) bK (.head _) rfl ?_;refine Cb [] .i64 (IntKind.i64.wrap (N+IntKind.i64.wrap (IntKind.i64.wrap (min q (most+1)*(aT y).1)*(aT y).2))) (IntKind.i64.wrap (most+1)) (min (N+(min q (most+1)*(aT y).1*(aT y).2)) (most+1)) (by rw[hm1,hwm]) ?_;exact close [] _ _ ⟨j+1,IntKind.i64.wrap (z+1),min (N+(min q (most+1)*(aT y).1*(aT y).2)) (most+1),em2⟩ (by kernel_rfl) (by kernel_rfl) ⟨by simp only[ah];omega,hlt,next (min q (most+1)*(aT y).1*(aT y).2) hcap.1 (by rw[TC];exact hcap.2),Vz⟩ (by simp only;omega) (eC eK (eC eK eE))
   ·have pk:∀(Γ':List aE) [aZ (mr yf yp) y Γ'],au tb Tryz.prog 81 [mq yf yp] Γ' (jv (.int .u8 12)):=fun Γ' _=>by rw[←hk];exact gP yf yp lL
    refine aj [] (pk _).mF ?_;rintro _ _ ⟨rfl,rfl⟩;refine cr [59,47,42] 4 fb 0 bK ?_;refine dQ [] (FO fb ⟨some ⟨b,off,none⟩,oU,cc⟩ bn cn dn most sh) fb (0+4) 1 [.slice (some ⟨b,off,none⟩) oU cc,.map (some bn),.map (some cn),.map (some dn),.int .i64 most,sh] (.int .i64 most) bK (.head _) rfl ?_;refine Cb [] .i64 (N) (IntKind.i64.wrap (most+1)) (min (N+0) (most+1)) (by rw[hm1,qh]) ?_;exact close [] _ _ ⟨j+1,IntKind.i64.wrap (z+1),min (N+0) (most+1),em⟩ (by kernel_rfl) (by kernel_rfl) ⟨by simp only[ah];omega,hlt,next 0 (Int.le_refl _) (.inl (by unfold jd;simp[hk])),JC⟩ (by simp only;omega) (eC eK (eC eK eE))
   ·have pk:∀(Γ':List aE) [aZ (mr yf yp) y Γ'],au tb Tryz.prog 81 [mq yf yp] Γ' (jv (.int .u8 21)):=fun Γ' _=>by rw[←hk];exact gP yf yp lL
    refine aj [] (pk _).mF ?_;rintro _ _ ⟨rfl,rfl⟩;refine cr [59,47,42] 4 fb 0 bK ?_;refine dQ [] (FO fb ⟨some ⟨b,off,none⟩,oU,cc⟩ bn cn dn most sh) fb (0+4) 1 [.slice (some ⟨b,off,none⟩) oU cc,.map (some bn),.map (some cn),.map (some dn),.int .i64 most,sh] (.int .i64 most) bK (.head _) rfl ?_;refine Cb [] .i64 (N) (IntKind.i64.wrap (most+1)) (min (N+0) (most+1)) (by rw[hm1,qh]) ?_;exact close [] _ _ ⟨j+1,IntKind.i64.wrap (z+1),min (N+0) (most+1),em⟩ (by kernel_rfl) (by kernel_rfl) ⟨by simp only[ah];omega,hlt,next 0 (Int.le_refl _) (.inl (by unfold jd;simp[hk])),JC⟩ (by simp only;omega) (eC eK (eC eK eE))
   ·have pk:∀(Γ':List aE) [aZ (mr yf yp) y Γ'],au tb Tryz.prog 81 [mq yf yp] Γ' (jv (.int .u8 45)):=fun Γ' _=>by rw[←hk];exact gP yf yp lL
    refine aj [] (pk _).mF ?_;rintro _ _ ⟨rfl,rfl⟩;refine cr [42] 4 fb 0 bK ?_;refine dQ [] (FO fb ⟨some ⟨b,off,none⟩,oU,cc⟩ bn cn dn most sh) fb (0+4) 1 [.slice (some ⟨b,off,none⟩) oU cc,.map (some bn),.map (some cn),.map (some dn),.int .i64 most,sh] (.int .i64 most) bK (.head _) rfl ?_;refine Cb [] .i64 (IntKind.i64.wrap (N+1)) (IntKind.i64.wrap (most+1)) (min (N+1) (most+1)) (by rw[hm1,show IntKind.i64.wrap (N+1)=N+1 by rw[ah];omega]) ?_;exact close [] _ _ ⟨j+1,IntKind.i64.wrap (z+1),min (N+1) (most+1),em⟩ (by kernel_rfl) (by kernel_rfl) ⟨by simp only[ah];omega,hlt,next 1 (by decide) (.inl (by unfold jd;rw[if_pos (.inr hk)])),JC⟩ (by simp only;omega) (eC eK (eC eK eE))
  ·have htk:x.i.take j=x.i:=aW (by omega);rw[htk,←Nz]at hS;refine aS [] 37 (decide (z<(im:Int))) (ak (by omega)) ?_;refine cr [37] 2 fb 0 bK ?_;refine dQ [] (FO fb ⟨some ⟨b,off,none⟩,oU,cc⟩ bn cn dn most sh) fb (0+2) 1 [.slice (some ⟨b,off,none⟩) oU cc,.map (some bn),.map (some cn),.map (some dn),.int .i64 most,sh] (.map (some cn)) bK (.head _) rfl ?_;refine Ct [] dA 70 3 3 (FO fb ⟨some ⟨b,off,none⟩,oU,cc⟩ bn cn dn most sh) [(bn,bM dT (cf (cw t))),(dn,dm)] [] cn c (.int .i64 N) (cf em) ?_;rw[qR];exact j1 [] (.int .i64 N) (FO fb ⟨some ⟨b,off,none⟩,oU,cc⟩ bn cn dn most sh) [(bn,bM dT (cf (cw t))),(dn,dm),(cn,bM dA (cf (kU c N em)))] ⟨kU c N em,JC.set hc (by rw[hN,hS]),by rw[hN,hS],rfl,rfl,rfl⟩ bU
end
def Ju{α:Type}:Except Int α→Int
 | .ok _=>0
 | .error e=>e
def UA(l:List (Sn×Sn)):Prop:=∀p∈l,(0≤p.1.m∧0≤p.1.n)∧0≤p.2.m∧0≤p.2.n
theorem vM{l:List (Sn×Sn)}{j:Nat}{p:Sn×Sn}(h:l[j]? =some p):iZ (l.drop j)=if yW p.1.nr∧yW p.2.nr then(match iZ (l.drop (j+1))with
   | .ok l=>.ok (⟨p.1.nr,p.2.nr⟩::l)
   | .error e=>.error e)else .error 26:=by
 obtain⟨h1,h2⟩:=List.getElem?_eq_some_iff.1 h;rw[bI h1,h2];rfl
theorem Ei{l:List jJ}{j:Nat}{e:jJ}(h:l[j]? =some e):(l.map jJ.num)[j]? =some (e.X,e.Y):=by
 rw[bN,h];rfl
structure qK where
 s:Sl
 x:Sh
def oR:kT qK where
 z:=3
 cells e:=[.int .i64 e.x.a,.int .i64 e.x.k,bz e.s]
 len _:=rfl
 fact _ e:=zw e.s e.x.p
def mg(x:Im):Int:=if cC x=45 then cD x 46 0 else cD x 14 0
def DF(r:LR)(FB:Value→List (Nat×List Value))(es:List qK)(v:Value)(O:List (Nat×List Value))(Δ:List aE):Prop:=
 ∃(v':Sl) (O2:List (Nat×List Value)) (es2:List qK),(∀s,r=.ok s→es2.map qK.x=s)∧v=.int .i64 (Ju r)∧O=FB (bz v')++O2∧cG 3 O2 (bz v') (es++es2).length ((es++es2).flatMap oR.cells)∧Δ=[ru oR (bz v') (es++es2)]
def UD(r:LR)(FB:Value→List (Nat×List Value))(es:List qK)(v:Value)(O:List (Nat×List Value))(M:List (Nat×List (Value×Value)))(Δ:List aE):Prop:=M=[]∧DF r FB es v O Δ
structure Ya where
 j:Nat
 z:Int
 a:List Dp
 s:Sl
 O:List (Nat×List Value)
def shU(fb:Nat)(ao:Option Addr)(n c:Nat):Ya→List (Nat×SV):=fun a=>[(0,.val (fp fb)),(7,.ptr 7 0),(23,.val (.slice ao n c)),(24,.val (.int .i64 n)),(6,.val (.int .i64 0)),(25,.val (.int .i64 a.z))]
def shX(A K:Int):Ya→List (Nat×List Value):=fun a=>[(7,[.int .i64 A,.int .i64 K,bz a.s])]
section
variable{T:Tb}{P:Program}{fin:VS→List aE→Prop}{c:fM}{Γ:List aE}{L:Nat}
theorem QP(ao:Option Addr){l:List jJ} [h:aZ (OL gD ao) (L,l) Γ]{j:Nat}{e:jJ}(he:l[j]? =some e)(hm:dG c.k=false)
  (hc:∀b off,ao=some ⟨b,off,none⟩→W T P fin c (SF e.x (L,e.X)::SF e.y (L,e.Y)::Γ)):W T P fin c Γ:=by
 obtain⟨h1,h2⟩:=List.getElem?_eq_some_iff.1 he;refine aaQ gD ao j h1 hm (by decide) (fun b off ha=>?_);refine W.sub hm (fun I w _ hh=>?_) (hc b off ha);have g:=hh.h0';rw[h2]at g;exact aG.cons g.1 (aG.cons g.2 (fun F hF=>hh F (by simp[hF])))
theorem zU(b off:Nat){l:List jJ} [h:aZ (OL gD (some ⟨b,off,none⟩)) (L,l) Γ]{j:Nat}{e:jJ}(he:l[j]? =some e):∀I w,bB T I w→aG Γ I w→∀k v,(gD.cells e)[k]? =some v→w.cell? ⟨b,off+j*40+k,none⟩=some v:=by
 obtain⟨h1,h2⟩:=List.getElem?_eq_some_iff.1 he;subst h2;exact fun I w hd hh k v hv=>I_ gD b off j h1 I w hd hh k v hv
end
section
variable{Γ:List aE}{L M:Nat}
theorem OV(x y:Sw){X Y:Sn} [aZ (SF x) (L,X) Γ] [aZ (SF y) (M,Y) Γ](hm:0≤X.m)(hn:0≤X.n)(hm':0≤Y.m)(NN:0≤Y.n)(hL:L≤280:=by omega)(hM:M≤280:=by omega):
  au tb Tryz.prog 144 [BB x y] Γ (jv (if yW X.nr∧yW Y.nr then .tuple #[.agg #[.int .i64 X.nr,.int .i64 Y.nr],.int .i64 0]else .tuple #[.agg #[.int .i64 0,.int .i64 0],.int .i64 26])):=by
 by_cases h:yW X.nr∧yW Y.nr
 ·rw[if_pos h];exact Ww x y hm hn hm' NN h.1 h.2 hL hM
 ·rw[if_neg h];exact Wv x y hm hn hm' NN h hL hM
theorem RU(fb:Nat)(ao:Option Addr)(c:Nat)(l:List jJ) [h:aZ (OL gD ao) (L,l) Γ](hok:UA (l.map jJ.num))(hL:L≤280)(hl:l.length≤1000000):au tb Tryz.prog 89 [fp fb,.slice ao l.length c] Γ (jv (.int .i64 (Ju (iZ (l.map jJ.num))))):=by
 refine au.of_W aB Tryz.func89 rfl ?_;refine xT [] [4,11] (fun a:Nat×Int=>[(4,.int .i64 0),(11,.int .i64 a.2)]) (fun _=>[]) (fun _=>[OL gD ao (L,l)]) (fun a=>a.2=a.1∧a.1≤l.length∧Ju (iZ (l.map jJ.num))=Ju (iZ ((l.map jJ.num).drop a.1))) (fun a=>l.length-a.1) (0,0) ⟨rfl,aM _,by rw[ir]⟩ (eC eK eE) ?_;rintro⟨j,z⟩ K ⟨hz,hj,he⟩ close;simp only at hz hj he;by_cases hlt:j<l.length
 ·obtain⟨e,hq⟩:∃e,l[j]? =some e:=⟨_,ar hlt⟩;have Jz:=Ei hq;have hp:=hok _ (aO Jz);rw[vM Jz]at he;refine QP ao hq rfl (fun b off ha=>?_);subst ha;refine bD [] 12 (decide (z<(l.length:Int))) (aw (by omega)) ?_;refine cA [12] 40 b off l.length c .i64 j z hz aB hlt ?_;refine de [] b (off+j*40) (gD.cells e) aB (zU b off hq) ?_;refine aj [] (OV e.x e.y hp.1.1 hp.1.2 hp.2.1 hp.2.2 hL hL) ?_;rintro _ _ ⟨rfl,rfl⟩;by_cases hin:yW e.X.nr∧yW e.Y.nr
  ·rw[if_pos hin]at he⊢;refine aS [] 21 ((0:Int) != 0) rfl ?_;refine close [21] _ _ (j+1,IntKind.i64.wrap (z+1)) (by kernel_rfl) (by kernel_rfl) ⟨by simp only[ah];omega,hlt,?_⟩ (by simp only;omega) (eC eK eE);rw[he];cases iZ ((l.map jJ.num).drop (j+1))<;>rfl
  ·rw[if_neg hin]at he⊢;refine bD [] 21 ((26:Int) != 0) rfl ?_;exact W.r [21] (.int .i64 26) ⟨by rw[he];rfl,rfl⟩ bU
 ·rw[bu (by rw[bL];omega)]at he;refine aS [] 12 (decide (z<(l.length:Int))) (ak (by omega)) ?_;exact W.r [12] (.int .i64 0) ⟨by rw[he];rfl,rfl⟩ bU
theorem Ex(fb bn cn dn:Nat)(cs:Sl)(most:Int)(s0 xf xp:Sl)(O:List (Nat×List Value))(es:List qK)(ao:Option Addr)(c:Nat)(l:List jJ){x:Im} [hx:aZ (mr xf xp) x Γ] [hs:aZ (ru oR (bz s0)) es Γ] [h:aZ (OL gD ao) (L,l) Γ]
  (TN:qN x)(hok:UA (l.map jJ.num))(hL:L≤280)(hl:l.length≤900000)(hel:es.length≤900000)(hg:cG 3 O (bz s0) es.length (es.flatMap oR.cells)):
  dC Kt Tryz.prog 87 [fp fb,mq xf xp,.slice ao l.length c] (FO fb cs bn cn dn most (bz s0)++O) [] Γ (UD (fy x (l.map jJ.num)) (fun v=>FO fb cs bn cn dn most v) es):=by
 refine dC.of_W bK Tryz.func87 rfl ?_;refine aj [] (iQ xf xp (x:=x) 13 0 TN (.inl rfl)).mF ?_;rintro _ _ ⟨rfl,rfl⟩;refine aj [] (iQ xf xp (x:=x) 14 0 TN (.inl rfl)).mF ?_;rintro _ _ ⟨rfl,rfl⟩;refine aj [] (gP xf xp (x:=x) TN).mF ?_;rintro _ _ ⟨rfl,rfl⟩;by_cases h45:cC x=45
 ·have hK:mg x=cD x 46 0:=by unfold mg;rw[if_pos h45]
  refine bD [] 19 (cC x==45) (by rw[h45];rfl) ?_;refine aj [19] (iQ xf xp (x:=x) 46 0 TN (.inl rfl)).mF ?_;rintro _ _ ⟨rfl,rfl⟩;rw[←hK];refine kA [] Tryz.f87 0 54 54 [0,7,23,24,6,25] [7] (shU fb ao l.length c) (shX (cD x 13 0) (mg x)) (fun a=>(FO fb cs bn cn dn most (bz s0)++O)++a.O) (fun _=>[]) (fun a=>[OL gD ao (L,l),ru oR (bz s0) es]) (fun a=>a.z=a.j∧a.j≤l.length∧a.a.length=a.j∧cG 2 a.O (bz a.s) a.a.length (a.a.flatMap d_)∧iZ (l.map jJ.num)=(match iZ ((l.map jJ.num).drop a.j)with
   | .ok r=>.ok (a.a++r)
   | .error e=>.error e)) (fun a=>l.length-a.j) ⟨0,0,[],⟨none,0,0⟩,[]⟩ (h0:=(by simp only[af];kernel_rfl)) ⟨rfl,aM _,rfl,cG.nil 2,by simp only[ir,aA];cases iZ (l.map jJ.num)<;>rfl⟩ (eC eK (eC eK eE)) ?_
  rintro⟨j,z,acc,s,O2⟩ K ⟨hz,hj,Cg,Mb,he⟩ close;simp only at hz hj Cg Mb he;by_cases hlt:j<l.length
  ·obtain⟨e,hq⟩:∃e,l[j]? =some e:=⟨_,ar hlt⟩;have Jz:=Ei hq;have hp:=hok _ (aO Jz);rw[vM Jz]at he;refine QP ao hq rfl (fun b off ha=>?_);subst ha;refine bD [] 26 (decide (z<(l.length:Int))) (aw (by omega)) ?_;refine cA [26] 40 b off l.length c .i64 j z hz bK hlt ?_;refine de [] b (off+j*40) (gD.cells e) bK (zU b off hq) ?_;refine aj [] (OV e.x e.y hp.1.1 hp.1.2 hp.2.1 hp.2.2 hL hL).mF ?_;rintro _ _ ⟨rfl,rfl⟩;by_cases hin:yW e.X.nr∧yW e.Y.nr
   ·rw[if_pos hin]at he⊢;refine aS [] 35 ((0:Int) != 0) rfl ?_;refine cI [35] 1 [.int .i64 e.X.nr,.int .i64 e.Y.nr] bK (fun b8=>?_);refine W.app [] ((FO fb cs bn cn dn most (bz s0)++O)++O2) (FO fb cs bn cn dn most (bz s0)++O) O2 [] 2 16 acc.length 1 (bz s) (.slice (some ⟨b8,0,none⟩) 1 1) (acc.flatMap d_) [.int .i64 e.X.nr,.int .i64 e.Y.nr] bK (by simp) Mb (bW b8 _ 1 2 rfl 1) (by simp[Value.oneCell']) (by omega) (by decide) (fun v' O' hg'=>?_);obtain⟨s',rfl⟩:=iA hg';rw[af];refine close [] _ _ ⟨j+1,IntKind.i64.wrap (z+1),acc++[⟨e.X.nr,e.Y.nr⟩],s',O'⟩ (by kernel_rfl) (by kernel_rfl) ⟨by simp only[ah];omega,hlt,by simp[Cg],?_,?_⟩ (by simp only;omega) (eC eK (eC eK eE))
    ·rw[bA,az];exact hg'
    ·rw[he];cases iZ ((l.map jJ.num).drop (j+1))<;>simp
   ·rw[if_neg hin]at he⊢;refine bD [] 35 ((26:Int) != 0) rfl ?_;refine rF (FO fb cs bn cn dn most (bz s0)++O) O2 [] (by rw[af];kernel_rfl) ?_;refine qy (FO fb cs bn cn dn most (bz s0)++O) ?_;have hsp:fy x (l.map jJ.num)=.error 26:=by unfold fy;rw[he]
    exact j1 [35] (.int .i64 26) (FO fb cs bn cn dn most (bz s0)++O) [] ⟨rfl,s0,O,[],fun s h=>by rw[hsp]at h;simp at h,by rw[hsp];rfl,rfl,by rw[af];exact hg,rfl⟩ (eC (by rw[af];exact eK) eE)
  ·rw[bu (by rw[bL];omega)]at he;simp only[iZ,af]at he;refine aS [] 26 (decide (z<(l.length:Int))) (ak (by omega)) ?_;refine lR (FO fb cs bn cn dn most (bz s0)++O) O2 [] (by rw[af];kernel_rfl) Mb (fun g5 g1 g2=>?_);refine qy (FO fb cs bn cn dn most (bz s0)++O) ?_;refine cr [26] 5 fb 0 bK ?_;refine dQ [] (FO fb cs bn cn dn most (bz s0)++O) fb (0+5) 1 [bz cs,.map (some bn),.map (some cn),.map (some dn),.int .i64 most,bz s0] (bz s0) bK (.head _) rfl ?_;refine cI [] 1 [.int .i64 (cD x 13 0),.int .i64 (mg x),bz s] bK (fun b9=>?_);refine W.app [] (FO fb cs bn cn dn most (bz s0)++O) (FO fb cs bn cn dn most (bz s0)) O [] 3 40 es.length 1 (bz s0) (.slice (some ⟨b9,0,none⟩) 1 1) (es.flatMap oR.cells) [.int .i64 (cD x 13 0),.int .i64 (mg x),bz s] bK (by simp) hg (bW b9 _ 1 3 rfl 1) (by simp[Value.oneCell']) (by omega) (by decide) (fun v' O' hg'=>?_);obtain⟨s',rfl⟩:=iA hg';rw[af (FO fb cs bn cn dn most (bz s0)++O')];refine cr [] 5 fb 0 bK ?_;refine nY [] (FO fb cs bn cn dn most (bz s0)++O') [] O' 1 fb (0+5) [bz cs,.map (some bn),.map (some cn),.map (some dn),.int .i64 most,bz s0] (bz s') [bz cs,.map (some bn),.map (some cn),.map (some dn),.int .i64 most,bz s'] bK rfl rfl (by simp[Value.cells,Value.oneCell']) (ai _) rfl ?_;have hsp:fy x (l.map jJ.num)=.ok [⟨cD x 13 0,mg x,acc⟩]:=by unfold fy;rw[he];rfl
   refine j1 [] (.int .i64 0) (FO fb cs bn cn dn most (bz s')++O') [] ⟨rfl,s',O',[⟨s,⟨cD x 13 0,mg x,acc⟩⟩],fun q h=>by rw[hsp]at h;injection h,by rw[hsp];rfl,rfl,?_,rfl⟩ (fun I w _ hh=>?_)
   ·rw[bA,az];exact hg'
   ·have g:=aZ.p (k:=ru oR (bz s0)) (a:=es) inferInstance hh;have ga:=aZ.p (k:=RA s.ao) (a:=acc.flatMap d_) inferInstance hh;exact aV (ru.snoc (v:=bz s0) g ⟨g5,⟨g1,g2⟩,ga⟩)
 ·have hK:mg x=cD x 14 0:=by unfold mg;rw[if_neg h45]
  refine aS [] 19 (cC x==45) (by simpa using h45) ?_;rw[←hK];refine kA [19] Tryz.f87 0 54 54 [0,7,23,24,6,25] [7] (shU fb ao l.length c) (shX (cD x 13 0) (mg x)) (fun a=>(FO fb cs bn cn dn most (bz s0)++O)++a.O) (fun _=>[]) (fun a=>[OL gD ao (L,l),ru oR (bz s0) es]) (fun a=>a.z=a.j∧a.j≤l.length∧a.a.length=a.j∧cG 2 a.O (bz a.s) a.a.length (a.a.flatMap d_)∧iZ (l.map jJ.num)=(match iZ ((l.map jJ.num).drop a.j)with
   | .ok r=>.ok (a.a++r)
   | .error e=>.error e)) (fun a=>l.length-a.j) ⟨0,0,[],⟨none,0,0⟩,[]⟩ (h0:=(by simp only[af];kernel_rfl)) ⟨rfl,aM _,rfl,cG.nil 2,by simp only[ir,aA];cases iZ (l.map jJ.num)<;>rfl⟩ (eC eK (eC eK eE)) ?_
  rintro⟨j,z,acc,s,O2⟩ K ⟨hz,hj,Cg,Mb,he⟩ close;simp only at hz hj Cg Mb he;by_cases hlt:j<l.length
  ·obtain⟨e,hq⟩:∃e,l[j]? =some e:=⟨_,ar hlt⟩;have Jz:=Ei hq;have hp:=hok _ (aO Jz);rw[vM Jz]at he;refine QP ao hq rfl (fun b off ha=>?_);subst ha;refine bD [] 26 (decide (z<(l.length:Int))) (aw (by omega)) ?_;refine cA [26] 40 b off l.length c .i64 j z hz bK hlt ?_;refine de [] b (off+j*40) (gD.cells e) bK (zU b off hq) ?_;refine aj [] (OV e.x e.y hp.1.1 hp.1.2 hp.2.1 hp.2.2 hL hL).mF ?_;rintro _ _ ⟨rfl,rfl⟩;by_cases hin:yW e.X.nr∧yW e.Y.nr
   ·rw[if_pos hin]at he⊢;refine aS [] 35 ((0:Int) != 0) rfl ?_;refine cI [35] 1 [.int .i64 e.X.nr,.int .i64 e.Y.nr] bK (fun b8=>?_);refine W.app [] ((FO fb cs bn cn dn most (bz s0)++O)++O2) (FO fb cs bn cn dn most (bz s0)++O) O2 [] 2 16 acc.length 1 (bz s) (.slice (some ⟨b8,0,none⟩) 1 1) (acc.flatMap d_) [.int .i64 e.X.nr,.int .i64 e.Y.nr] bK (by simp) Mb (bW b8 _ 1 2 rfl 1) (by simp[Value.oneCell']) (by omega) (by decide) (fun v' O' hg'=>?_);obtain⟨s',rfl⟩:=iA hg';rw[af];refine close [] _ _ ⟨j+1,IntKind.i64.wrap (z+1),acc++[⟨e.X.nr,e.Y.nr⟩],s',O'⟩ (by kernel_rfl) (by kernel_rfl) ⟨by simp only[ah];omega,hlt,by simp[Cg],?_,?_⟩ (by simp only;omega) (eC eK (eC eK eE))
    ·rw[bA,az];exact hg'
    ·rw[he];cases iZ ((l.map jJ.num).drop (j+1))<;>simp
   ·rw[if_neg hin]at he⊢;refine bD [] 35 ((26:Int) != 0) rfl ?_;refine rF (FO fb cs bn cn dn most (bz s0)++O) O2 [] (by rw[af];kernel_rfl) ?_;refine qy (FO fb cs bn cn dn most (bz s0)++O) ?_;have hsp:fy x (l.map jJ.num)=.error 26:=by unfold fy;rw[he]
    exact j1 [35] (.int .i64 26) (FO fb cs bn cn dn most (bz s0)++O) [] ⟨rfl,s0,O,[],fun s h=>by rw[hsp]at h;simp at h,by rw[hsp];rfl,rfl,by rw[af];exact hg,rfl⟩ (eC (by rw[af];exact eK) eE)
  ·rw[bu (by rw[bL];omega)]at he;simp only[iZ,af]at he;refine aS [] 26 (decide (z<(l.length:Int))) (ak (by omega)) ?_;refine lR (FO fb cs bn cn dn most (bz s0)++O) O2 [] (by rw[af];kernel_rfl) Mb (fun g5 g1 g2=>?_);refine qy (FO fb cs bn cn dn most (bz s0)++O) ?_;refine cr [26] 5 fb 0 bK ?_;refine dQ [] (FO fb cs bn cn dn most (bz s0)++O) fb (0+5) 1 [bz cs,.map (some bn),.map (some cn),.map (some dn),.int .i64 most,bz s0] (bz s0) bK (.head _) rfl ?_;refine cI [] 1 [.int .i64 (cD x 13 0),.int .i64 (mg x),bz s] bK (fun b9=>?_);refine W.app [] (FO fb cs bn cn dn most (bz s0)++O) (FO fb cs bn cn dn most (bz s0)) O [] 3 40 es.length 1 (bz s0) (.slice (some ⟨b9,0,none⟩) 1 1) (es.flatMap oR.cells) [.int .i64 (cD x 13 0),.int .i64 (mg x),bz s] bK (by simp) hg (bW b9 _ 1 3 rfl 1) (by simp[Value.oneCell']) (by omega) (by decide) (fun v' O' hg'=>?_);obtain⟨s',rfl⟩:=iA hg';rw[af (FO fb cs bn cn dn most (bz s0)++O')];refine cr [] 5 fb 0 bK ?_;refine nY [] (FO fb cs bn cn dn most (bz s0)++O') [] O' 1 fb (0+5) [bz cs,.map (some bn),.map (some cn),.map (some dn),.int .i64 most,bz s0] (bz s') [bz cs,.map (some bn),.map (some cn),.map (some dn),.int .i64 most,bz s'] bK rfl rfl (by simp[Value.cells,Value.oneCell']) (ai _) rfl ?_;have hsp:fy x (l.map jJ.num)=.ok [⟨cD x 13 0,mg x,acc⟩]:=by unfold fy;rw[he];rfl
   refine j1 [] (.int .i64 0) (FO fb cs bn cn dn most (bz s')++O') [] ⟨rfl,s',O',[⟨s,⟨cD x 13 0,mg x,acc⟩⟩],fun q h=>by rw[hsp]at h;injection h,by rw[hsp];rfl,rfl,?_,rfl⟩ (fun I w _ hh=>?_)
   ·rw[bA,az];exact hg'
   ·have g:=aZ.p (k:=ru oR (bz s0)) (a:=es) inferInstance hh;have ga:=aZ.p (k:=RA s.ao) (a:=acc.flatMap d_) inferInstance hh;exact aV (ru.snoc (v:=bz s0) g ⟨g5,⟨g1,g2⟩,ga⟩)
end
theorem pz:∀{ks:List Int} {l x m:List Re},dk ks l=some (x,m)→∀r∈x,∃k∈ks,r.k=k % 256
 | [],l,x,m,h,r,hr=>by
  simp only[dk,aq,aI]at h;rw[←h.1]at hr;simp at hr
 |k::ks,l,x,m,h,r,hr=>by
  unfold dk at h;split at h
  ·split at h
   ·rename_i r1 m1 h1;split at h
    ·rename_i rs m2 h2;simp only[aq,aI]at h;obtain⟨rfl,rfl⟩:=h;simp only[aD]at hr;rcases hr with rfl|hr
     ·exact⟨k,by simp,(fJ h1).2.1⟩
     ·obtain⟨k',h3,h4⟩:=pz h2 r hr;exact⟨k',by simp[h3],h4⟩
    ·simp at h
   ·simp at h
  ·obtain⟨k',h3,h4⟩:=pz h r hr;exact⟨k',by simp[h3],h4⟩
theorem Od{x:Im}(h:hZ x)(hk:cC x=10∨cC x=11)(XA:dK x 27≠none):5≤x.f.length:=by
 obtain⟨r,f,m,hf,_,hp⟩:=h.fields;have hr:r.k=cC x:=by unfold cC;rw[hf];rfl
 obtain⟨q,hq⟩:∃q,dK x 27=some q:=by
  cases hfo:dK x 27 with
  |none=>exact absurd hfo XA
  |some q=>exact⟨q,rfl⟩
 obtain⟨qm,qk⟩:=kK hq;obtain⟨a,b,m1,h1,h2,hx⟩:=pB hp;have hrk:0≤r.k∧r.k<256:=by omega
 obtain⟨ra,a',rfl,_,_⟩:=rj hrk h1;have na:q∉ra::a':=fun hm=>by
  obtain⟨k,hk',e⟩:=pz h1 q hm;simp only[aD,aC,bp]at hk';rcases hk' with rfl|rfl|rfl<;>omega
 have key:∀ks:List Int,(∀k∈ks,k % 256≠27)→(∃k ks',ks=k::ks'∧0≤k∧k<256)→fX (dk [18]) (fX j_ (dk ks)) m1=some (b,m)→5≤x.f.length:=by
  intro ks hks ⟨k0,ks',hk0,hk1⟩ hh;obtain⟨b1,c,m2,g1,g2,rfl⟩:=pB hh;obtain⟨b2,b3,m3,g3,g4,rfl⟩:=pB g2;obtain⟨r1,b1',rfl,_,_⟩:=rj (by decide) g1;rw[hk0]at g4 hks;obtain⟨r3,b3',rfl,_,_⟩:=rj hk1 g4;have n1:q∉r1::b1':=fun hm=>by
   obtain⟨k,hk',e⟩:=pz g1 q hm;simp only[aD,aC,bp]at hk';omega
  have n3:q∉r3::b3':=fun hm=>by
   obtain⟨k,hk',e⟩:=pz g4 q hm;exact hks k hk' (by omega)
  rw[hx]at qm;simp only[ez]at qm;have q2:q∈b2:=by
   rcases qm with JE|JE|JE|JE
   ·exact absurd JE na
   ·exact absurd JE n1
   ·exact JE
   ·exact absurd JE n3
  unfold j_ at g3;split at g3
  ·obtain⟨r2,b2',rfl,hk2,_⟩:=rj (by decide) g3;simp only[aD]at q2;rcases q2 with rfl|q2
   ·omega
   ·have:0<b2'.length:=List.length_pos_of_mem q2;rw[hx];simp only[az,aF];omega
  ·simp only[aq,aI]at g3;rw[←g3.1]at q2;simp at q2
 rcases hk with hk|hk<;>rw[hr,hk]at h2
 ·exact key [16] (by decide) ⟨16,[],rfl,by decide⟩ h2
 ·exact key [19,16] (by decide) ⟨19,[16],rfl,by decide⟩ h2
def wI(x:Im):Nat:=4+x.f.length
def wC(t:List Ce)(c:Nat):Nat:=((ll t c).map wI).foldl max 0
theorem K9{l:List Nat}:∀{a:Nat},a≤l.foldl max a∧∀x∈l,x≤l.foldl max a:=by
 induction l with
 |nil=>intro a;exact⟨ai _,fun x hx=>by simp at hx⟩
 |cons y l ih=>
  intro a;simp only[oF];obtain⟨h1,h2⟩:=ih (a:=max a y);refine⟨by omega,fun x hx=>?_⟩;simp only[aD]at hx;rcases hx with rfl|hx
  ·omega
  ·exact h2 x hx
theorem aal{t:List Ce}{c:Nat}{x:Im}(h:x∈ll t c):wI x≤wC t c:=K9.2 _ (List.mem_map.2 ⟨x,h,rfl⟩)
theorem OE{x:Im}(ho:hZ x)(h:∀r∈x.f,Mm r)(hk:cC x=10∨cC x=11)(hc:0<(aT x).1)(hr:0<(aT x).2){i k:Int}(hi:0≤i∧i<(aT x).1)(hk':0≤k∧k<(aT x).2):∃e,sw e (lz x i k)∧e+4≤45*wI x:=by
 unfold wI;cases XA:dK x 27 with
 |none=>exact⟨64,LA h XA hc hr hi hk',by omega⟩
 |some r=>
  have:=Od ho hk (by rw[XA];simp);exact⟨376,OG rfl h hc hr hi hk',by omega⟩
open Classical in
noncomputable def SA (t:List Ce) (d:Nat):Nat:=((List.range t.length).map fun j=>if ∃e,d<e∧sR t j e then wC t j else 0).sum
theorem P_{t:List Ce}{i d d':Nat}(hi:i<t.length)(h:sR t i d)(hd:d'<d):SA t d+wC t i≤SA t d':=by
 unfold SA;refine se (c:=i) (by simpa using hi) (fun j _=>?_) ?_
 ·by_cases hj:∃e,d<e∧sR t j e
  ·obtain⟨e,h1,h2⟩:=hj;rw[if_pos ⟨e,h1,h2⟩,if_pos ⟨e,by omega,h2⟩];exact ai _
  ·rw[if_neg hj];exact aM _
 ·have hno:¬ ∃e,d<e∧sR t i e:=fun⟨e,h1,h2⟩=>by
   have:=h.uniq h2;omega
  rw[if_neg hno,if_pos ⟨d,hd,h⟩];omega
def zr(t:List Ce):Nat:=((List.range t.length).map (wC t)).sum
theorem P9{t:List Ce}{d:Nat}:SA t d≤zr t:=by
 unfold SA zr;generalize List.range t.length=l
 induction l with
 |nil=>exact ai _
 |cons a l ih=>
  simp only[b_,fA];split<;>omega
theorem r9{α:Type}{f g:α→LR}:∀{l:List α},(∀a∈l,f a=g a)→gl f l=gl g l
 | [],_=>rfl
 |a::l,h=>by
  unfold gl;rw[h a (by simp),r9 (fun b hb=>h b (by simp[hb]))]
theorem Gb{t:List Ce}:∀{n c d:Nat},dep t n c=some d→∀V,fH t (n+1) c V=fH t n c V
 |0,c,d,h,V=>by simp[dep]at h
 |n+1,c,d,h,V=>by
  have hr:∃r,js (dep t n) (fB t c) 0=some r:=by
   unfold dep at h;cases hq:js (dep t n) (fB t c) 0 with
   |none=>rw[hq]at h;simp at h
   |some r=>exact⟨r,rfl⟩
  obtain⟨r,hr⟩:=hr;unfold fH;refine r9 fun x hx=>?_;unfold iW mY;cases hk:mu t x with
  |none=>rfl
  |some k=>
   have hkm:k∈fB t c:=List.mem_filterMap.2 ⟨x,hx,hk⟩;obtain⟨e,he,_⟩:=(lU hr).2 k hkm;simp only;rw[Az he];have hg:∀V',fH t (n+1) k V'=fH t n k V':=Gb he;split
   ·rfl
   ·split
    ·rfl
    ·split
     ·split
      ·rfl
      ·exact r9 fun a _=>r9 fun b _=>hg _
     ·rfl
theorem zu.lay64{t:List Ce}(h:zu t){i:Nat}(hi:i<t.length)(V:On):fH t 64 i V=gl (iW t 64 (fH t 64) V) (ll t i):=by
 obtain⟨d,hd⟩:=h.deep i hi;rw[←Gb hd V];rfl
section
variable{T:Tb}{Γ:List aE}
theorem gS(b:Nat){row:List Value} [h:aZ (dY b) row Γ]{i:Nat}{v:Value}(hv:row[i]? =some v):∀I w,bB T I w→aG Γ I w→w.cell? ⟨b,i,none⟩=some v:=fun I w _ hh=>by
 have:=RA.cell (RA.of_row (h.p hh) (fun _ _ q=>q)) hv
 rwa [cz]at this
end
section
variable{Γ:List aE}
theorem Bn(a b:Int):au tb Tryz.prog 157 [.agg #[.int .i64 a,.int .i64 b]] Γ (jv (.int .i64 a)):=by
 refine au.of_W aB Tryz.func157 rfl ?_;exact W.r [] (.int .i64 a) ⟨rfl,rfl⟩ bU
theorem Wy(b1 b2 b3:Nat)(i k eH rows:Int)(u:Sl){p:List Dp} [aZ (dY b1) [bz u] Γ] [aZ (dY b2) [.int .i64 eH] Γ] [aZ (dY b3) [.int .i64 rows] Γ] [aZ (zw u) p Γ](hp:p.length=1∨p.length=3)
  (hin:∀d∈p,(-2147483648≤d.x∧d.x≤2147483647)∧ -2147483648≤d.y∧d.y≤2147483647)(hi:0≤i∧i≤32767)(hk:0≤k∧k≤32767)(hc:1≤eH∧eH≤32767)(hr:1≤rows∧rows≤32767):
  au tb Tryz.prog 153 [.func (.func 157) #[] #[],.int .i64 i,.int .i64 k,.pointer (some ⟨b1,0,none⟩),.pointer (some ⟨b2,0,none⟩),.pointer (some ⟨b3,0,none⟩)] Γ (sY 30 (oC Dp.x p eH rows i k)):=by
 refine au.of_W aB Tryz.func153 rfl ?_;refine Je u (l:=p) rfl (fun g1 g2 g3=>?_);have oz:p≠ []:=fun e=>by rw[e]at hp;simp at hp
 obtain⟨pb,off,hao⟩:=g3 oz;obtain⟨ua,un,uc⟩:=u;simp only at g1 g2 hao;subst hao;have cM:∀j,j<p.length→p[j]? =some (p.getD j ⟨0,0⟩):=fun j hj=>uG p j ⟨0,0⟩ hj;have bd:∀j,j<p.length→ -2147483648≤(p.getD j ⟨0,0⟩).x∧(p.getD j ⟨0,0⟩).x≤2147483647:=fun j hj=>(hin _ (aO (cM j hj))).1;have h0:=bd 0 (by omega);refine eg [] 1 b1 0 (.slice (some ⟨pb,off,none⟩) un uc) aB (gS b1 rfl) ?_;refine cA [] 2 pb off un uc .i64 0 0 rfl aB (by omega) ?_;refine de [] pb (off+0*2) (d_ (p.getD 0 ⟨0,0⟩)) aB (fun I w hd hh j v hv=>oh pb off un uc (cM 0 (by omega)) I w hd hh j v hv) ?_;refine aj [] (Bn (p.getD 0 ⟨0,0⟩).x (p.getD 0 ⟨0,0⟩).y) ?_;rintro _ _ ⟨rfl,rfl⟩;refine aj [] (cV (p.getD 0 ⟨0,0⟩).x (by omega) (by omega)) ?_;rintro _ _ ⟨u5,d5,rfl,rfl⟩;refine aj [] (cj u5 d5) ?_;rintro _ _ ⟨n6,a6,m6,b6,rfl,rfl⟩;refine eg [] 1 b1 0 (.slice (some ⟨pb,off,none⟩) un uc) aB (gS b1 rfl) ?_;by_cases h3:p.length=3
 ·have h1:=bd 1 (by omega);have h2:=bd 2 (by omega);have Tq:∀{x y c:Int},(-2147483648≤x∧x≤2147483647)→(-2147483648≤y∧y≤2147483647)→(0≤c∧c≤32767)→IntKind.i64.wrap (IntKind.i64.wrap (x-y)*c)=(x-y)*c∧ -9223372036854775808≤(x-y)*c∧(x-y)*c<9223372036854775808:=fun{x y c} e1 e2 e3=>by
   have w1:IntKind.i64.wrap (x-y)=x-y:=i64_in _ (by omega);rw[w1];have a1:(x-y)*c≤4294967295*32767:=uX (kO (show x-y≤4294967295 by omega) e3.1) (k_ e3.2 (by decide));have a2: -4294967295*32767≤(x-y)*c:=by
    have b1: -4294967295*c≤(x-y)*c:=kO (by omega) e3.1;omega
   exact⟨i64_in _ (by omega),by omega,by omega⟩
  obtain⟨w1,w2,w3⟩:=Tq h1 h0 hi;obtain⟨v1,v2,v3⟩:=Tq h2 h0 hk;have hown:oC Dp.x p eH rows i k=(((p.getD 0 ⟨0,0⟩).x:Rat)+Rat.divInt (((p.getD 1 ⟨0,0⟩).x-(p.getD 0 ⟨0,0⟩).x)*i) eH)+Rat.divInt (((p.getD 2 ⟨0,0⟩).x-(p.getD 0 ⟨0,0⟩).x)*k) rows:=by unfold oC;rw[if_pos h3];rfl
  rw[hown];obtain⟨A,hA⟩:∃A,((p.getD 1 ⟨0,0⟩).x-(p.getD 0 ⟨0,0⟩).x)*i=A:=⟨_,rfl⟩;obtain⟨B,hB⟩:∃B,((p.getD 2 ⟨0,0⟩).x-(p.getD 0 ⟨0,0⟩).x)*k=B:=⟨_,rfl⟩;rw[hA]at w1 w2 w3⊢;rw[hB]at v1 v2 v3⊢;have q1:∀Γ':List aE,au tb Tryz.prog 154 [.int .i64 (IntKind.i64.wrap (IntKind.i64.wrap ((p.getD 1 ⟨0,0⟩).x-(p.getD 0 ⟨0,0⟩).x)*i)),.int .i64 eH] Γ' (SU 2 (Rat.divInt A eH)):=fun Γ'=>by
   rw[w1];exact Bm A eH (by omega) (by omega) (by omega) (by omega) (by omega)
  have q2:∀Γ':List aE,au tb Tryz.prog 154 [.int .i64 (IntKind.i64.wrap (IntKind.i64.wrap ((p.getD 2 ⟨0,0⟩).x-(p.getD 0 ⟨0,0⟩).x)*k)),.int .i64 rows] Γ' (SU 2 (Rat.divInt B rows)):=fun Γ'=>by
   rw[v1];exact Bm B rows (by omega) (by omega) (by omega) (by omega) (by omega)
  refine bD [] 24 ((un:Int)==3) (by rw[g1,h3];rfl) ?_;refine eg [24] 1 b1 0 (.slice (some ⟨pb,off,none⟩) un uc) aB (gS b1 rfl) ?_;refine cA [] 2 pb off un uc .i64 1 1 rfl aB (by omega) ?_;refine de [] pb (off+1*2) (d_ (p.getD 1 ⟨0,0⟩)) aB (fun I w hd hh j v hv=>oh pb off un uc (cM 1 (by omega)) I w hd hh j v hv) ?_;refine eg [] 1 b1 0 (.slice (some ⟨pb,off,none⟩) un uc) aB (gS b1 rfl) ?_;refine cA [] 2 pb off un uc .i64 0 0 rfl aB (by omega) ?_;refine de [] pb (off+0*2) (d_ (p.getD 0 ⟨0,0⟩)) aB (fun I w hd hh j v hv=>oh pb off un uc (cM 0 (by omega)) I w hd hh j v hv) ?_;refine eg [] 1 b2 0 (.int .i64 eH) aB (gS b2 rfl) ?_;refine aj [] (Bn (p.getD 1 ⟨0,0⟩).x (p.getD 1 ⟨0,0⟩).y) ?_;rintro _ _ ⟨rfl,rfl⟩;refine aj [] (Bn (p.getD 0 ⟨0,0⟩).x (p.getD 0 ⟨0,0⟩).y) ?_;rintro _ _ ⟨rfl,rfl⟩;refine aj [] (q1 _) ?_;rintro _ _ ⟨n17,a17,m17,b17,rfl,rfl⟩;refine eg [] 1 b1 0 (.slice (some ⟨pb,off,none⟩) un uc) aB (gS b1 rfl) ?_;refine cA [] 2 pb off un uc .i64 2 2 rfl aB (by omega) ?_;refine de [] pb (off+2*2) (d_ (p.getD 2 ⟨0,0⟩)) aB (fun I w hd hh j v hv=>oh pb off un uc (cM 2 (by omega)) I w hd hh j v hv) ?_;refine eg [] 1 b1 0 (.slice (some ⟨pb,off,none⟩) un uc) aB (gS b1 rfl) ?_;refine cA [] 2 pb off un uc .i64 0 0 rfl aB (by omega) ?_;refine de [] pb (off+0*2) (d_ (p.getD 0 ⟨0,0⟩)) aB (fun I w hd hh j v hv=>oh pb off un uc (cM 0 (by omega)) I w hd hh j v hv) ?_
  refine eg [] 1 b3 0 (.int .i64 rows) aB (gS b3 rfl) ?_;refine aj [] (Bn (p.getD 2 ⟨0,0⟩).x (p.getD 2 ⟨0,0⟩).y) ?_;rintro _ _ ⟨rfl,rfl⟩;refine aj [] (Bn (p.getD 0 ⟨0,0⟩).x (p.getD 0 ⟨0,0⟩).y) ?_;rintro _ _ ⟨rfl,rfl⟩;refine aj [] (q2 _) ?_;rintro _ _ ⟨ZH,UM,Zy,UZ,rfl,rfl⟩;refine aj [] (fw n6 a6 m6 b6 n17 a17 m17 b17) ?_;rintro _ _ ⟨ZI,UN,Zz,xN,rfl,rfl⟩;refine aj [] (fw ZI UN Zz xN ZH UM Zy UZ) ?_;rintro _ _ ⟨ZJ,UO,ZA,U0,rfl,rfl⟩;exact W.r [] (qv ZJ UO ZA U0) ⟨_,_,_,_,rfl,rfl⟩ (j9 (by omega) rfl)
 ·have hown:oC Dp.x p eH rows i k=((p.getD 0 ⟨0,0⟩).x:Rat):=by unfold oC;rw[if_neg h3]
  rw[hown];refine aS [] 24 ((un:Int)==3) (by rw[fE];omega) ?_;exact W.r [24] (qv n6 a6 m6 b6) ⟨_,_,_,_,rfl,rfl⟩ (j9 (by omega) rfl)
theorem Bo(a b:Int):au tb Tryz.prog 158 [.agg #[.int .i64 a,.int .i64 b]] Γ (jv (.int .i64 b)):=by
 refine au.of_W aB Tryz.func158 rfl ?_;exact W.r [] (.int .i64 b) ⟨rfl,rfl⟩ bU
theorem Wz(b1 b2 b3:Nat)(i k eH rows:Int)(u:Sl){p:List Dp} [aZ (dY b1) [bz u] Γ] [aZ (dY b2) [.int .i64 eH] Γ] [aZ (dY b3) [.int .i64 rows] Γ] [aZ (zw u) p Γ](hp:p.length=1∨p.length=3)
  (hin:∀d∈p,(-2147483648≤d.x∧d.x≤2147483647)∧ -2147483648≤d.y∧d.y≤2147483647)(hi:0≤i∧i≤32767)(hk:0≤k∧k≤32767)(hc:1≤eH∧eH≤32767)(hr:1≤rows∧rows≤32767):
  au tb Tryz.prog 153 [.func (.func 158) #[] #[],.int .i64 i,.int .i64 k,.pointer (some ⟨b1,0,none⟩),.pointer (some ⟨b2,0,none⟩),.pointer (some ⟨b3,0,none⟩)] Γ (sY 30 (oC Dp.y p eH rows i k)):=by
 refine au.of_W aB Tryz.func153 rfl ?_;refine Je u (l:=p) rfl (fun g1 g2 g3=>?_);have oz:p≠ []:=fun e=>by rw[e]at hp;simp at hp
 obtain⟨pb,off,hao⟩:=g3 oz;obtain⟨ua,un,uc⟩:=u;simp only at g1 g2 hao;subst hao;have cM:∀j,j<p.length→p[j]? =some (p.getD j ⟨0,0⟩):=fun j hj=>uG p j ⟨0,0⟩ hj;have bd:∀j,j<p.length→ -2147483648≤(p.getD j ⟨0,0⟩).y∧(p.getD j ⟨0,0⟩).y≤2147483647:=fun j hj=>(hin _ (aO (cM j hj))).2;have h0:=bd 0 (by omega);refine eg [] 1 b1 0 (.slice (some ⟨pb,off,none⟩) un uc) aB (gS b1 rfl) ?_;refine cA [] 2 pb off un uc .i64 0 0 rfl aB (by omega) ?_;refine de [] pb (off+0*2) (d_ (p.getD 0 ⟨0,0⟩)) aB (fun I w hd hh j v hv=>oh pb off un uc (cM 0 (by omega)) I w hd hh j v hv) ?_;refine aj [] (Bo (p.getD 0 ⟨0,0⟩).x (p.getD 0 ⟨0,0⟩).y) ?_;rintro _ _ ⟨rfl,rfl⟩;refine aj [] (cV (p.getD 0 ⟨0,0⟩).y (by omega) (by omega)) ?_;rintro _ _ ⟨u5,d5,rfl,rfl⟩;refine aj [] (cj u5 d5) ?_;rintro _ _ ⟨n6,a6,m6,b6,rfl,rfl⟩;refine eg [] 1 b1 0 (.slice (some ⟨pb,off,none⟩) un uc) aB (gS b1 rfl) ?_;by_cases h3:p.length=3
 ·have h1:=bd 1 (by omega);have h2:=bd 2 (by omega);have Tq:∀{x y c:Int},(-2147483648≤x∧x≤2147483647)→(-2147483648≤y∧y≤2147483647)→(0≤c∧c≤32767)→IntKind.i64.wrap (IntKind.i64.wrap (x-y)*c)=(x-y)*c∧ -9223372036854775808≤(x-y)*c∧(x-y)*c<9223372036854775808:=fun{x y c} e1 e2 e3=>by
   have w1:IntKind.i64.wrap (x-y)=x-y:=i64_in _ (by omega);rw[w1];have a1:(x-y)*c≤4294967295*32767:=uX (kO (show x-y≤4294967295 by omega) e3.1) (k_ e3.2 (by decide));have a2: -4294967295*32767≤(x-y)*c:=by
    have b1: -4294967295*c≤(x-y)*c:=kO (by omega) e3.1;omega
   exact⟨i64_in _ (by omega),by omega,by omega⟩
  obtain⟨w1,w2,w3⟩:=Tq h1 h0 hi;obtain⟨v1,v2,v3⟩:=Tq h2 h0 hk;have hown:oC Dp.y p eH rows i k=(((p.getD 0 ⟨0,0⟩).y:Rat)+Rat.divInt (((p.getD 1 ⟨0,0⟩).y-(p.getD 0 ⟨0,0⟩).y)*i) eH)+Rat.divInt (((p.getD 2 ⟨0,0⟩).y-(p.getD 0 ⟨0,0⟩).y)*k) rows:=by unfold oC;rw[if_pos h3];rfl
  rw[hown];obtain⟨A,hA⟩:∃A,((p.getD 1 ⟨0,0⟩).y-(p.getD 0 ⟨0,0⟩).y)*i=A:=⟨_,rfl⟩;obtain⟨B,hB⟩:∃B,((p.getD 2 ⟨0,0⟩).y-(p.getD 0 ⟨0,0⟩).y)*k=B:=⟨_,rfl⟩;rw[hA]at w1 w2 w3⊢;rw[hB]at v1 v2 v3⊢;have q1:∀Γ':List aE,au tb Tryz.prog 154 [.int .i64 (IntKind.i64.wrap (IntKind.i64.wrap ((p.getD 1 ⟨0,0⟩).y-(p.getD 0 ⟨0,0⟩).y)*i)),.int .i64 eH] Γ' (SU 2 (Rat.divInt A eH)):=fun Γ'=>by
   rw[w1];exact Bm A eH (by omega) (by omega) (by omega) (by omega) (by omega)
  have q2:∀Γ':List aE,au tb Tryz.prog 154 [.int .i64 (IntKind.i64.wrap (IntKind.i64.wrap ((p.getD 2 ⟨0,0⟩).y-(p.getD 0 ⟨0,0⟩).y)*k)),.int .i64 rows] Γ' (SU 2 (Rat.divInt B rows)):=fun Γ'=>by
   rw[v1];exact Bm B rows (by omega) (by omega) (by omega) (by omega) (by omega)
  refine bD [] 24 ((un:Int)==3) (by rw[g1,h3];rfl) ?_;refine eg [24] 1 b1 0 (.slice (some ⟨pb,off,none⟩) un uc) aB (gS b1 rfl) ?_;refine cA [] 2 pb off un uc .i64 1 1 rfl aB (by omega) ?_;refine de [] pb (off+1*2) (d_ (p.getD 1 ⟨0,0⟩)) aB (fun I w hd hh j v hv=>oh pb off un uc (cM 1 (by omega)) I w hd hh j v hv) ?_;refine eg [] 1 b1 0 (.slice (some ⟨pb,off,none⟩) un uc) aB (gS b1 rfl) ?_;refine cA [] 2 pb off un uc .i64 0 0 rfl aB (by omega) ?_;refine de [] pb (off+0*2) (d_ (p.getD 0 ⟨0,0⟩)) aB (fun I w hd hh j v hv=>oh pb off un uc (cM 0 (by omega)) I w hd hh j v hv) ?_;refine eg [] 1 b2 0 (.int .i64 eH) aB (gS b2 rfl) ?_;refine aj [] (Bo (p.getD 1 ⟨0,0⟩).x (p.getD 1 ⟨0,0⟩).y) ?_;rintro _ _ ⟨rfl,rfl⟩;refine aj [] (Bo (p.getD 0 ⟨0,0⟩).x (p.getD 0 ⟨0,0⟩).y) ?_;rintro _ _ ⟨rfl,rfl⟩;refine aj [] (q1 _) ?_;rintro _ _ ⟨n17,a17,m17,b17,rfl,rfl⟩;refine eg [] 1 b1 0 (.slice (some ⟨pb,off,none⟩) un uc) aB (gS b1 rfl) ?_;refine cA [] 2 pb off un uc .i64 2 2 rfl aB (by omega) ?_;refine de [] pb (off+2*2) (d_ (p.getD 2 ⟨0,0⟩)) aB (fun I w hd hh j v hv=>oh pb off un uc (cM 2 (by omega)) I w hd hh j v hv) ?_;refine eg [] 1 b1 0 (.slice (some ⟨pb,off,none⟩) un uc) aB (gS b1 rfl) ?_;refine cA [] 2 pb off un uc .i64 0 0 rfl aB (by omega) ?_;refine de [] pb (off+0*2) (d_ (p.getD 0 ⟨0,0⟩)) aB (fun I w hd hh j v hv=>oh pb off un uc (cM 0 (by omega)) I w hd hh j v hv) ?_
  refine eg [] 1 b3 0 (.int .i64 rows) aB (gS b3 rfl) ?_;refine aj [] (Bo (p.getD 2 ⟨0,0⟩).x (p.getD 2 ⟨0,0⟩).y) ?_;rintro _ _ ⟨rfl,rfl⟩;refine aj [] (Bo (p.getD 0 ⟨0,0⟩).x (p.getD 0 ⟨0,0⟩).y) ?_;rintro _ _ ⟨rfl,rfl⟩;refine aj [] (q2 _) ?_;rintro _ _ ⟨ZH,UM,Zy,UZ,rfl,rfl⟩;refine aj [] (fw n6 a6 m6 b6 n17 a17 m17 b17) ?_;rintro _ _ ⟨ZI,UN,Zz,xN,rfl,rfl⟩;refine aj [] (fw ZI UN Zz xN ZH UM Zy UZ) ?_;rintro _ _ ⟨ZJ,UO,ZA,U0,rfl,rfl⟩;exact W.r [] (qv ZJ UO ZA U0) ⟨_,_,_,_,rfl,rfl⟩ (j9 (by omega) rfl)
 ·have hown:oC Dp.y p eH rows i k=((p.getD 0 ⟨0,0⟩).y:Rat):=by unfold oC;rw[if_neg h3]
  rw[hown];refine aS [] 24 ((un:Int)==3) (by rw[fE];omega) ?_;exact W.r [24] (qv n6 a6 m6 b6) ⟨_,_,_,_,rfl,rfl⟩ (j9 (by omega) rfl)
end
end Go.Proofs.YtgaaopjagcaojaaGreat
