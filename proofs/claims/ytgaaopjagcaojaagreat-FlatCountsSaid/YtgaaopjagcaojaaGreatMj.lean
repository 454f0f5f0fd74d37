import Derived.Test.YtgaaopjagcaojaaGreatMc
import Derived.Test.YtgaaopjagcaojaaGreatRo
set_option linter.unusedSimpArgs false
set_option linter.unusedVariables false
set_option maxHeartbeats 2000000
namespace Go.Proofs.YtgaaopjagcaojaaGreat
open Go.RowKit Go.IntWalk
structure S_(t:List Ce):Prop where
 ok:∀c∈t,∀x∈c.i,jC x
 len:∀c∈t,c.i.length≤100000
 tl:t.length≤100000
 by':∀c∈t,XN c
structure zL(t:List Ce):Prop where
 lost:lost t=false
 right:∀c∈t,∀x∈c.i,j1 x=true
 deep:∀i,i<t.length→∃d,dep t 64 i=some d
theorem S_.ce{t:List Ce}(h:S_ t):∀c∈t,UG c:=fun c hc x hx=>(h.ok c hc x hx).im
theorem tr{t:List Ce}{i:Nat}{x:Ce}(hx:t[i]? =some x):kZ t i=x.i:=by
 unfold kZ;rw[dV,hx];rfl
theorem xJ{t:List Ce}{i:Nat}{x:Im}(h:x∈kZ t i):∃c∈t,x∈c.i:=by
 unfold kZ at h;rw[dV]at h;cases hg:t[i]? with
 |none=>rw[hg]at h;simp at h
 |some c=>
  rw[hg]at h;exact⟨c,aN hg,h⟩
theorem ze{t:List Ce}{g:Nat→Int}(hg:∀k,0≤g k){x:Im}(hr:j1 x=true):0≤jA t g x:=by
 unfold jA;split
 ·omega
 ·split
  ·split<;>omega
  ·split
   ·rename_i hk;obtain⟨_,h1,h2,_⟩:=ou hr hk;split
    ·exact eO (eO (hg _) (by omega)) (by omega)
    ·omega
   ·omega
theorem Bw:∀{l:List Int},(∀z∈l,0≤z)→0≤l.sum
 | [],_=>by simp
 |z::l,h=>by
  have:=h z (by simp);have:=Bw (l:=l) fun y hy=>h y (by simp[hy]);simp only[gj];omega
theorem zL.cnt_nn{t:List Ce}(h:zL t):∀n c,0≤jT t n c
 |0,c=>by simp[jT]
 |n+1,c=>by
  unfold jT;refine Bw fun z hz=>?_;obtain⟨x,hx,rfl⟩:=List.mem_map.1 hz;obtain⟨c',hc',hx'⟩:=xJ hx;exact ze (h.cnt_nn n) (h.right c' hc' x hx')
theorem zL.cnt64{t:List Ce}(h:zL t){i:Nat}(hi:i<t.length):jT t 64 i=((kZ t i).map (jA t (jT t 64))).sum:=by
 obtain⟨d,hd⟩:=h.deep i hi;rw[←Ai hd];rfl
theorem zL.kid{t:List Ce}(h:zL t){i:Nat}{x:Ce}(hx:t[i]? =some x){y:Im}(hy:y∈x.i){s:List Int}(hs:kn y=some s):∃k,rn t y=some k∧pL t (strOfNums s)=some k∧k∈fy t i:=by
 have h1:=h.lost;unfold YtgaaopjagcaojaaGreat.lost at h1;rw[pY]at h1;have h2:=h1 x (aN hx);unfold rZ at h2;simp only[Bool.not_eq_true]at h2;rw[pY]at h2;have h3:=h2 y hy;have e:rn t y=pL t (strOfNums s):=by unfold rn;rw[hs];rfl
 cases hk:rn t y with
 |none=>rw[hs,hk]at h3;simp at h3
 |some k=>exact⟨k,rfl,by rw[←e,hk],List.mem_filterMap.2 ⟨y,by rw[tr hx];exact hy,hk⟩⟩
theorem AU{t:List Ce}{s:List Int}{k:Nat}(h:pL t (strOfNums s)=some k):gl (strOfNums s) (bZ (cr t))=some (.int .i64 (k:Int)):=by
 rw[mq,vu,h];rfl
theorem Rv{S a a' m:Int}(h0:0≤S)(hm:0≤m)(ha:0≤a')(h:a'=a∨(m≤a'∧m≤a)):min (min S m+a') m=min (S+a) m:=by omega
theorem DW{k c:Int}(h:0≤k)(hc:1≤c):k≤k*c:=by
 have:=kT hc h;omega
theorem Jf{k c r m:Int}(hk:0≤k)(hm:0≤m)(hc:1≤c)(hr:1≤r):0≤min k m*c*r∧(min k m*c*r=k*c*r∨(m≤min k m*c*r∧m≤k*c*r)):=by
 have h1:0≤min k m:=by omega
 refine⟨eO (eO h1 (by omega)) (by omega),?_⟩;by_cases h:k≤m
 ·exact .inl (by rw[Int.min_eq_left h])
 ·rw[Int.min_eq_right (by omega)];have a1:=DW hm hc;have a2:=DW (k:=m*c) (by omega) hr;have b1:=DW hk hc;have b2:=DW (k:=k*c) (by omega) hr;exact .inr ⟨by omega,by omega⟩
theorem Hc{k c r z:Int}(hk:0≤k∧k≤100001)(hc:1≤c∧c≤32767)(hr:1≤r∧r≤32767)(hz:0≤z∧z≤100001):IntKind.i64.wrap (z+IntKind.i64.wrap (IntKind.i64.wrap (k*c)*r))=z+k*c*r:=by
 have a0:0≤k*c:=eO hk.1 (by omega);have a1:k*c≤100001*32767:=pW hk.2 hc.2 (by omega) (by omega);have b0:0≤k*c*r:=eO a0 (by omega);have b1:k*c*r≤(100001*32767)*32767:=pW a1 hr.2 (by omega) (by omega);rw[i64_in (k*c) (by omega),i64_in (k*c*r) (by omega),i64_in (z+k*c*r) (by omega)]
def vR(t:List Ce)(most:Int)(cm:List (Int×Int)):Prop:=∀k v,gl k cm=some v→∃j:Nat,k=j∧v=min (jT t 64 j) (most+1)
theorem vR.set{t:List Ce}{most:Int}{cm:List (Int×Int)}(h:vR t most cm){c:Int}{i:Nat}(hc:c=i){v:Int}(hv:v=min (jT t 64 i) (most+1)):vR t most (kL c v cm):=fun k u hk=>by
 rw[h_]at hk;split at hk
 ·injection hk with hk;exact⟨i,by omega,by omega⟩
 ·exact h k u hk
def UH(t:List Ce)(most:Int)(i:Nat)(FO':List (Nat×List Value))(b1 b2:Nat×List (Value×Value))(cn:Nat)(v:Value)(O:List (Nat×List Value))(M:List (Nat×List (Value×Value)))(Δ:List aC):Prop:=
 ∃oH:List (Int×Int),vR t most oH∧v=.int .i64 (min (jT t 64 i) (most+1))∧O=FO'∧M=[b1,b2,(cn,bJ de (bZ oH))]∧Δ=[]
structure abn where
 j:Nat
 z:Int
 n:Int
 cm:List (Int×Int)
def ctU(fb:Nat)(c:Int)(u:Sl):abn→List (Nat×SV):=fun a=>[(0,.val (fg fb)),(1,.val (.int .i64 c)),(4,.val (.int .i64 0)),(34,.val (a_ u)),(35,.val (.int .i64 u.n)),(7,.val (.int .i64 a.n)),(36,.val (.int .i64 a.z))]
section
theorem JS(fb bn cn dn:Nat)(ca:Option Addr)(oH cc:Nat)(most:Int)(sh:Value)(dm:List (Value×Value)){t:List Ce}(hF:S_ t)(hD:zL t)(tg:0≤most∧most≤100000):
  ∀(n:Nat) (Γ:List aC) [aY (lC ⟨ca,oH,cc⟩) t Γ] (c:Int) (i:Nat),c=i→i<t.length→(∃d,dep t n i=some d)→∀cm:List (Int×Int),vR t most cm→
  dj Km Tryz.prog 47 [fg fb,.int .i64 c] (FO fb ⟨ca,oH,cc⟩ bn cn dn most sh) [(bn,bJ dO (bZ (cr t))),(dn,dm),(cn,bJ de (bZ cm))] Γ (UH t most i (FO fb ⟨ca,oH,cc⟩ bn cn dn most sh) (bn,bJ dO (bZ (cr t))) (dn,dm) cn):=by
 intro n
 induction n with
 |zero=>
  intro Γ hcs c i hc hi ⟨d,hd⟩;simp[dep]at hd
 |succ n ih=>
 intro Γ hcs c i hc hi su cm hcm;obtain⟨x,hx⟩:∃x,t[i]? =some x:=⟨_,ak hi⟩;have hxm:=aN hx;have DN:=tr hx;have NB:=hD.cnt64 hi;rw[DN]at NB;refine dj.of_W bG Tryz.func47 rfl ?_;refine W.len lF pd.x ⟨ca,oH,cc⟩ rfl (fun h1 h2 h3=>?_);simp only at h1 h2 h3;have hil:i<oH:=by rw[h1];exact hi
 refine uR ⟨ca,oH,cc⟩ hx (fun b off fh fi ha=>?_);simp only at ha;subst ha;refine W.more (Δ:=[qy fi x.i]) rfl (fun I w _ hh=>aU (aY.p (k:=za fh fi) (a:=x) inferInstance hh).2) ?_;obtain⟨ia,im,ic⟩:=fi;refine W.len pX ph.x ⟨ia,im,ic⟩ rfl (fun i1 i2 i3=>?_);simp only at i1 i2 i3;refine bW [] 2 fb 0 bG ?_;refine dK [] (FO fb ⟨some ⟨b,off,none⟩,oH,cc⟩ bn cn dn most sh) fb (0+2) 1 [.slice (some ⟨b,off,none⟩) oH cc,.map (some bn),.map (some cn),.map (some dn),.int .i64 most,sh] (.map (some cn)) bG (.head _) rfl ?_;refine uS [] de 70 3 3 true (FO fb ⟨some ⟨b,off,none⟩,oH,cc⟩ bn cn dn most sh) [(bn,bJ dO (bZ (cr t))),(dn,dm),(cn,bJ de (bZ cm))] cn c (bZ cm) (.int .i64 0) bG (.tail _ (.tail _ (.head _))) ?_;rw[mq];cases hg:gl c cm with
 |some d=>
  refine bk [] 25 true rfl ?_;obtain⟨j,hj,hv⟩:=hcm c d hg;obtain rfl:j=i:=by omega
  exact jO [25] (.int .i64 d) (FO fb ⟨some ⟨b,off,none⟩,oH,cc⟩ bn cn dn most sh) [(bn,bJ dO (bZ (cr t))),(dn,dm),(cn,bJ de (bZ cm))] ⟨cm,hcm,by rw[hv],rfl,rfl,rfl⟩ bR
 |none=>
  refine aR [] 25 false rfl ?_;refine bW [25] 0 fb 0 bG ?_;refine dK [] (FO fb ⟨some ⟨b,off,none⟩,oH,cc⟩ bn cn dn most sh) fb (0+0) 1 [.slice (some ⟨b,off,none⟩) oH cc,.map (some bn),.map (some cn),.map (some dn),.int .i64 most,sh] (.slice (some ⟨b,off,none⟩) oH cc) bG (.head _) rfl ?_;refine bY [] 2 b off oH cc .i64 i c hc bG hil ?_;refine bW [] 1 b (off+i*2) bG ?_;refine dB [] 1 b (off+i*2+1) (.slice ia im ic) bG (fun I w hd hh=>cB (T:=Km) b (off+i*2) I w hd hh 1 _ rfl) ?_;refine j7 [] Tryz.f47 0 101 101 [0,1,4,34,35,7,36] [] (ctU fb c ⟨ia,im,ic⟩) (fun _=>[]) (fun _=>FO fb ⟨some ⟨b,off,none⟩,oH,cc⟩ bn cn dn most sh) (fun a=>[(bn,bJ dO (bZ (cr t))),(dn,dm),(cn,bJ de (bZ a.cm))]) (fun a=>[qy ⟨ia,im,ic⟩ x.i,lC ⟨some ⟨b,off,none⟩,oH,cc⟩ t]) (fun a=>a.z=a.j∧a.j≤im∧a.n=min (((x.i.take a.j).map (jA t (jT t 64))).sum) (most+1)∧vR t most a.cm) (fun a=>im-a.j) ⟨0,0,0,cm⟩ ⟨rfl,aJ _,by simp only[mj,dA,List.sum_nil];omega,hcm⟩ (eC eK (eC eK eE)) ?_;rintro⟨j,z,N,em⟩ K ⟨hz,hj,hN,Ju⟩ close;simp only at hz hj hN Ju;obtain⟨S,hS⟩:∃S,((x.i.take j).map (jA t (jT t 64))).sum=S:=⟨_,rfl⟩;have hS0:0≤S:=by
   rw[←hS];refine Bw fun q hq=>?_;obtain⟨y,hy,rfl⟩:=List.mem_map.1 hq;exact ze (hD.cnt_nn 64) (hD.right x hxm y (eZ hy))
  rw[hS]at hN;have hN0:0≤N∧N≤100001:=by omega
  have hm1:IntKind.i64.wrap (most+1)=most+1:=by rw[af];omega
  by_cases hlt:j<im
  ·obtain⟨y,hy⟩:∃y,x.i[j]? =some y:=⟨_,ak (by omega)⟩;have Ma:=aN hy;have Wd:=hF.ok x hxm y Ma;have lz:=Wd.im;have We:=hD.right x hxm y Ma;have next:∀a':Int,0≤a'→(a'=jA t (jT t 64) y∨(most+1≤a'∧most+1≤jA t (jT t 64) y))→min (N+a') (most+1)=min (((x.i.take (j+1)).map (jA t (jT t 64))).sum) (most+1):=fun a' h0 h=>by
    rw[fr hy,aX,n_,hS];simp only[cA,dA,gj,List.sum_nil,uK];rw[hN];exact Rv hS0 (by omega) h0 h
   refine vV ⟨ia,im,ic⟩ hy (fun b2 oU yf yp ha=>?_);simp only at ha;subst ha;refine bk [] 37 (decide (z<(im:Int))) (ar (by omega)) ?_;refine bY [37] 2 b2 oU im ic .i64 j z hz bG hlt ?_;refine cY [] b2 (oU+j*2) [a_ yf,a_ yp] bG (cB b2 (oU+j*2)) ?_;rcases Wd.kind with hk|hk|hk|hk|hk|hk|hk
   ·have pk:∀(Γ':List aC) [aY (mK yf yp) y Γ'],aw tb Tryz.prog 81 [lO yf yp] Γ' (jf (.int .u8 8)):=fun Γ' _=>by rw[←hk];exact gy yf yp lz
    refine aq [] (pk _).mF ?_;rintro _ _ ⟨rfl,rfl⟩;refine bW [42] 4 fb 0 bG ?_;refine dK [] (FO fb ⟨some ⟨b,off,none⟩,oH,cc⟩ bn cn dn most sh) fb (0+4) 1 [.slice (some ⟨b,off,none⟩) oH cc,.map (some bn),.map (some cn),.map (some dn),.int .i64 most,sh] (.int .i64 most) bG (.head _) rfl ?_;refine pj [] .i64 (IntKind.i64.wrap (N+1)) (IntKind.i64.wrap (most+1)) (min (N+1) (most+1)) (by rw[hm1,show IntKind.i64.wrap (N+1)=N+1 by rw[af];omega]) ?_;exact close [] _ _ ⟨j+1,IntKind.i64.wrap (z+1),min (N+1) (most+1),em⟩ (by kernel_rfl) (by kernel_rfl) ⟨by simp only[af];omega,hlt,next 1 (by decide) (.inl (by unfold jA;rw[if_pos (.inl hk)])),Ju⟩ (by simp only;omega) (eC eK (eC eK eE))
   ·have pk:∀(Γ':List aC) [aY (mK yf yp) y Γ'],aw tb Tryz.prog 81 [lO yf yp] Γ' (jf (.int .u8 9)):=fun Γ' _=>by rw[←hk];exact gy yf yp lz
    refine aq [] (pk _).mF ?_;rintro _ _ ⟨rfl,rfl⟩;refine aq [47,42] (IA yf yp (x:=y) lz).mF ?_;rintro _ _ ⟨ao,pc,l,rfl,NV,hl,rfl⟩;by_cases hl0:0<l.length
    ·have hne:iS y≠ []:=by rw[←hl];intro e;rw[List.map_eq_nil_iff]at e;rw[e]at hl0;simp at hl0
     refine bk [] 56 (decide ((l.length:Int)>0)) (ar (by omega)) ?_;refine bW [56] 4 fb 0 bG ?_;refine dK [] (FO fb ⟨some ⟨b,off,none⟩,oH,cc⟩ bn cn dn most sh) fb (0+4) 1 [.slice (some ⟨b,off,none⟩) oH cc,.map (some bn),.map (some cn),.map (some dn),.int .i64 most,sh] (.int .i64 most) bG (.head _) rfl ?_;refine pj [] .i64 (IntKind.i64.wrap (N+1)) (IntKind.i64.wrap (most+1)) (min (N+1) (most+1)) (by rw[hm1,show IntKind.i64.wrap (N+1)=N+1 by rw[af];omega]) ?_;exact close [] _ _ ⟨j+1,IntKind.i64.wrap (z+1),min (N+1) (most+1),em⟩ (by kernel_rfl) (by kernel_rfl) ⟨by simp only[af];omega,hlt,next 1 (by decide) (.inl (by unfold jA;simp[hk,hne])),Ju⟩ (by simp only;omega) (eC eK (eC eK eE))
    ·have hne:iS y=[]:=by rw[←hl,aM (by omega:l.length=0)];rfl
     refine aR [] 56 (decide ((l.length:Int)>0)) (ai (by omega)) ?_;refine bW [56] 4 fb 0 bG ?_;refine dK [] (FO fb ⟨some ⟨b,off,none⟩,oH,cc⟩ bn cn dn most sh) fb (0+4) 1 [.slice (some ⟨b,off,none⟩) oH cc,.map (some bn),.map (some cn),.map (some dn),.int .i64 most,sh] (.int .i64 most) bG (.head _) rfl ?_;refine pj [] .i64 (N) (IntKind.i64.wrap (most+1)) (min (N+0) (most+1)) (by rw[hm1,uK]) ?_;exact close [] _ _ ⟨j+1,IntKind.i64.wrap (z+1),min (N+0) (most+1),em⟩ (by kernel_rfl) (by kernel_rfl) ⟨by simp only[af];omega,hlt,next 0 (Int.le_refl _) (.inl (by unfold jA;simp[hk,hne])),Ju⟩ (by simp only;omega) (eC eK (eC eK eE))
   ·have pk:∀(Γ':List aC) [aY (mK yf yp) y Γ'],aw tb Tryz.prog 81 [lO yf yp] Γ' (jf (.int .u8 10)):=fun Γ' _=>by rw[←hk];exact gy yf yp lz
    refine aq [] (pk _).mF ?_;rintro _ _ ⟨rfl,rfl⟩;obtain⟨s,hs⟩:=Wd.ref (.inl hk);obtain⟨k,hkn,ZO,hkm⟩:=hD.kid hx Ma hs;obtain⟨_,hg1,hg2,_⟩:=ou We (.inl hk);have ZG:=wu (hF.by' x hxm y Ma);have pn:∀(Γ':List aC) [aY (mK yf yp) y Γ'],aw tb Tryz.prog 79 [lO yf yp] Γ' (jf (.tuple #[.string (strOfNums s),.bool true])):=fun Γ' _=>by
     have:=wO (Γ:=Γ') yf yp lz;rw[hs]at this;exact this
    refine aq [59,47,42] (pn _).mF ?_;rintro _ _ ⟨rfl,rfl⟩;refine aq [] (tC yf yp (x:=y) lz).mF ?_;rintro _ _ ⟨rfl,rfl⟩;refine bW [] 1 fb 0 bG ?_;refine dK [] (FO fb ⟨some ⟨b,off,none⟩,oH,cc⟩ bn cn dn most sh) fb (0+1) 1 [.slice (some ⟨b,off,none⟩) oH cc,.map (some bn),.map (some cn),.map (some dn),.int .i64 most,sh] (.map (some bn)) bG (.head _) rfl ?_;refine uS [] dO 69 9 3 false (FO fb ⟨some ⟨b,off,none⟩,oH,cc⟩ bn cn dn most sh) [(bn,bJ dO (bZ (cr t))),(dn,dm),(cn,bJ de (bZ em))] bn (strOfNums s) (bZ (cr t)) (.int .i64 0) bG (.head _) ?_;rw[AU ZO];have hkd:∃d,dep t n k=some d:=by
     obtain⟨d,hd⟩:=su;unfold dep at hd;cases hq:jr (dep t n) (fy t i) 0 with
     |none=>rw[hq]at hd;simp at hd
     |some r=>
      obtain⟨e,he,_⟩:=(lL hq).2 k hkm;exact⟨e,he⟩
    refine cX [] [] (FO fb ⟨some ⟨b,off,none⟩,oH,cc⟩ bn cn dn most sh) [] [] [(bn,bJ dO (bZ (cr t))),(dn,dm),(cn,bJ de (bZ em))] [] ⟨rfl,by rfl,trivial⟩ (ih _ (k:Int) k rfl (wG hkm) hkd em Ju) ?_;rintro _ _ _ _ ⟨em2,VU,rfl,rfl,rfl,rfl⟩;have hk0:=hD.cnt_nn 64 k;have TS:jA t (jT t 64) y=jT t 64 k*(bI y).1*(bI y).2:=by unfold jA;simp[hk,hkn]
    obtain⟨q,hq⟩:∃q,jT t 64 k=q:=⟨_,rfl⟩;rw[hq]at hk0 TS⊢;have hcap:=Jf (k:=q) (c:=(bI y).1) (r:=(bI y).2) (m:=most+1) hk0 (by omega) (by omega) (by omega);have hwm:=Hc (k:=min q (most+1)) (c:=(bI y).1) (r:=(bI y).2) (z:=N) (by omega) (by omega) (by omega) hN0;refine bW [] 4 fb 0 bG ?_;refine dK [] (FO fb ⟨some ⟨b,off,none⟩,oH,cc⟩ bn cn dn most sh) fb (0+4) 1 [.slice (some ⟨b,off,none⟩) oH cc,.map (some bn),.map (some cn),.map (some dn),.int .i64 most,sh] (.int .i64 most) bG (.head _) rfl ?_;refine pj [] .i64 (IntKind.i64.wrap (N+IntKind.i64.wrap (IntKind.i64.wrap (min q (most+1)*(bI y).1)*(bI y).2))) (IntKind.i64.wrap (most+1)) (min (N+(min q (most+1)*(bI y).1*(bI y).2)) (most+1)) (by rw[hm1,hwm]) ?_;exact close [] _ _ ⟨j+1,IntKind.i64.wrap (z+1),min (N+(min q (most+1)*(bI y).1*(bI y).2)) (most+1),em2⟩ (by kernel_rfl) (by kernel_rfl) ⟨by simp only[af];omega,hlt,next (min q (most+1)*(bI y).1*(bI y).2) hcap.1 (by rw[TS];exact hcap.2),VU⟩ (by simp only;omega) (eC eK (eC eK eE))
   ·have pk:∀(Γ':List aC) [aY (mK yf yp) y Γ'],aw tb Tryz.prog 81 [lO yf yp] Γ' (jf (.int .u8 11)):=fun Γ' _=>by rw[←hk];exact gy yf yp lz
    refine aq [] (pk _).mF ?_;rintro _ _ ⟨rfl,rfl⟩;obtain⟨s,hs⟩:=Wd.ref (.inr hk);obtain⟨k,hkn,ZO,hkm⟩:=hD.kid hx Ma hs;obtain⟨_,hg1,hg2,_⟩:=ou We (.inr hk);have ZG:=wu (hF.by' x hxm y Ma);have pn:∀(Γ':List aC) [aY (mK yf yp) y Γ'],aw tb Tryz.prog 79 [lO yf yp] Γ' (jf (.tuple #[.string (strOfNums s),.bool true])):=fun Γ' _=>by
     have:=wO (Γ:=Γ') yf yp lz;rw[hs]at this;exact this
    refine aq [59,47,42] (pn _).mF ?_;rintro _ _ ⟨rfl,rfl⟩;refine aq [] (tC yf yp (x:=y) lz).mF ?_;rintro _ _ ⟨rfl,rfl⟩;refine bW [] 1 fb 0 bG ?_;refine dK [] (FO fb ⟨some ⟨b,off,none⟩,oH,cc⟩ bn cn dn most sh) fb (0+1) 1 [.slice (some ⟨b,off,none⟩) oH cc,.map (some bn),.map (some cn),.map (some dn),.int .i64 most,sh] (.map (some bn)) bG (.head _) rfl ?_;refine uS [] dO 69 9 3 false (FO fb ⟨some ⟨b,off,none⟩,oH,cc⟩ bn cn dn most sh) [(bn,bJ dO (bZ (cr t))),(dn,dm),(cn,bJ de (bZ em))] bn (strOfNums s) (bZ (cr t)) (.int .i64 0) bG (.head _) ?_;rw[AU ZO];have hkd:∃d,dep t n k=some d:=by
     obtain⟨d,hd⟩:=su;unfold dep at hd;cases hq:jr (dep t n) (fy t i) 0 with
     |none=>rw[hq]at hd;simp at hd
     |some r=>
      obtain⟨e,he,_⟩:=(lL hq).2 k hkm;exact⟨e,he⟩
    refine cX [] [] (FO fb ⟨some ⟨b,off,none⟩,oH,cc⟩ bn cn dn most sh) [] [] [(bn,bJ dO (bZ (cr t))),(dn,dm),(cn,bJ de (bZ em))] [] ⟨rfl,by rfl,trivial⟩ (ih _ (k:Int) k rfl (wG hkm) hkd em Ju) ?_;rintro _ _ _ _ ⟨em2,VU,rfl,rfl,rfl,rfl⟩;have hk0:=hD.cnt_nn 64 k;have TS:jA t (jT t 64) y=jT t 64 k*(bI y).1*(bI y).2:=by unfold jA;simp[hk,hkn]
    obtain⟨q,hq⟩:∃q,jT t 64 k=q:=⟨_,rfl⟩;rw[hq]at hk0 TS⊢;have hcap:=Jf (k:=q) (c:=(bI y).1) (r:=(bI y).2) (m:=most+1) hk0 (by omega) (by omega) (by omega);have hwm:=Hc (k:=min q (most+1)) (c:=(bI y).1) (r:=(bI y).2) (z:=N) (by omega) (by omega) (by omega) hN0;refine bW [] 4 fb 0 bG ?_;refine dK [] (FO fb ⟨some ⟨b,off,none⟩,oH,cc⟩ bn cn dn most sh) fb (0+4) 1 [.slice (some ⟨b,off,none⟩) oH cc,.map (some bn),.map (some cn),.map (some dn),.int .i64 most,sh] (.int .i64 most) bG (.head _) rfl ?_;refine pj [] .i64 (IntKind.i64.wrap (N+IntKind.i64.wrap (IntKind.i64.wrap (min q (most+1)*(bI y).1)*(bI y).2))) (IntKind.i64.wrap (most+1)) (min (N+(min q (most+1)*(bI y).1*(bI y).2)) (most+1)) (by rw[hm1,hwm]) ?_;exact close [] _ _ ⟨j+1,IntKind.i64.wrap (z+1),min (N+(min q (most+1)*(bI y).1*(bI y).2)) (most+1),em2⟩ (by kernel_rfl) (by kernel_rfl) ⟨by simp only[af];omega,hlt,next (min q (most+1)*(bI y).1*(bI y).2) hcap.1 (by rw[TS];exact hcap.2),VU⟩ (by simp only;omega) (eC eK (eC eK eE))
   ·have pk:∀(Γ':List aC) [aY (mK yf yp) y Γ'],aw tb Tryz.prog 81 [lO yf yp] Γ' (jf (.int .u8 12)):=fun Γ' _=>by rw[←hk];exact gy yf yp lz
    refine aq [] (pk _).mF ?_;rintro _ _ ⟨rfl,rfl⟩;refine bW [59,47,42] 4 fb 0 bG ?_;refine dK [] (FO fb ⟨some ⟨b,off,none⟩,oH,cc⟩ bn cn dn most sh) fb (0+4) 1 [.slice (some ⟨b,off,none⟩) oH cc,.map (some bn),.map (some cn),.map (some dn),.int .i64 most,sh] (.int .i64 most) bG (.head _) rfl ?_;refine pj [] .i64 (N) (IntKind.i64.wrap (most+1)) (min (N+0) (most+1)) (by rw[hm1,uK]) ?_;exact close [] _ _ ⟨j+1,IntKind.i64.wrap (z+1),min (N+0) (most+1),em⟩ (by kernel_rfl) (by kernel_rfl) ⟨by simp only[af];omega,hlt,next 0 (Int.le_refl _) (.inl (by unfold jA;simp[hk])),Ju⟩ (by simp only;omega) (eC eK (eC eK eE))
   ·have pk:∀(Γ':List aC) [aY (mK yf yp) y Γ'],aw tb Tryz.prog 81 [lO yf yp] Γ' (jf (.int .u8 21)):=fun Γ' _=>by rw[←hk];exact gy yf yp lz
    refine aq [] (pk _).mF ?_;rintro _ _ ⟨rfl,rfl⟩;refine bW [59,47,42] 4 fb 0 bG ?_;refine dK [] (FO fb ⟨some ⟨b,off,none⟩,oH,cc⟩ bn cn dn most sh) fb (0+4) 1 [.slice (some ⟨b,off,none⟩) oH cc,.map (some bn),.map (some cn),.map (some dn),.int .i64 most,sh] (.int .i64 most) bG (.head _) rfl ?_;refine pj [] .i64 (N) (IntKind.i64.wrap (most+1)) (min (N+0) (most+1)) (by rw[hm1,uK]) ?_;exact close [] _ _ ⟨j+1,IntKind.i64.wrap (z+1),min (N+0) (most+1),em⟩ (by kernel_rfl) (by kernel_rfl) ⟨by simp only[af];omega,hlt,next 0 (Int.le_refl _) (.inl (by unfold jA;simp[hk])),Ju⟩ (by simp only;omega) (eC eK (eC eK eE))
   ·have pk:∀(Γ':List aC) [aY (mK yf yp) y Γ'],aw tb Tryz.prog 81 [lO yf yp] Γ' (jf (.int .u8 45)):=fun Γ' _=>by rw[←hk];exact gy yf yp lz
    refine aq [] (pk _).mF ?_;rintro _ _ ⟨rfl,rfl⟩;refine bW [42] 4 fb 0 bG ?_;refine dK [] (FO fb ⟨some ⟨b,off,none⟩,oH,cc⟩ bn cn dn most sh) fb (0+4) 1 [.slice (some ⟨b,off,none⟩) oH cc,.map (some bn),.map (some cn),.map (some dn),.int .i64 most,sh] (.int .i64 most) bG (.head _) rfl ?_;refine pj [] .i64 (IntKind.i64.wrap (N+1)) (IntKind.i64.wrap (most+1)) (min (N+1) (most+1)) (by rw[hm1,show IntKind.i64.wrap (N+1)=N+1 by rw[af];omega]) ?_;exact close [] _ _ ⟨j+1,IntKind.i64.wrap (z+1),min (N+1) (most+1),em⟩ (by kernel_rfl) (by kernel_rfl) ⟨by simp only[af];omega,hlt,next 1 (by decide) (.inl (by unfold jA;rw[if_pos (.inr hk)])),Ju⟩ (by simp only;omega) (eC eK (eC eK eE))
  ·have htk:x.i.take j=x.i:=aS (by omega);rw[htk,←NB]at hS;refine aR [] 37 (decide (z<(im:Int))) (ai (by omega)) ?_;refine bW [37] 2 fb 0 bG ?_;refine dK [] (FO fb ⟨some ⟨b,off,none⟩,oH,cc⟩ bn cn dn most sh) fb (0+2) 1 [.slice (some ⟨b,off,none⟩) oH cc,.map (some bn),.map (some cn),.map (some dn),.int .i64 most,sh] (.map (some cn)) bG (.head _) rfl ?_;refine Ca [] de 70 3 3 (FO fb ⟨some ⟨b,off,none⟩,oH,cc⟩ bn cn dn most sh) [(bn,bJ dO (bZ (cr t))),(dn,dm)] [] cn c (.int .i64 N) (bZ em) ?_;rw[qC];exact jO [] (.int .i64 N) (FO fb ⟨some ⟨b,off,none⟩,oH,cc⟩ bn cn dn most sh) [(bn,bJ dO (bZ (cr t))),(dn,dm),(cn,bJ de (bZ (kL c N em)))] ⟨kL c N em,Ju.set hc (by rw[hN,hS]),by rw[hN,hS],rfl,rfl,rfl⟩ bR
end
def Jn{α:Type}:Except Int α→Int
 | .ok _=>0
 | .error e=>e
def UR(l:List (Sn×Sn)):Prop:=∀p∈l,(0≤p.1.m∧0≤p.1.n)∧0≤p.2.m∧0≤p.2.n
theorem vC{l:List (Sn×Sn)}{j:Nat}{p:Sn×Sn}(h:l[j]? =some p):jc (l.drop j)=if AG p.1.nr∧AG p.2.nr then(match jc (l.drop (j+1))with
   | .ok l=>.ok (⟨p.1.nr,p.2.nr⟩::l)
   | .error e=>.error e)else .error 26:=by
 obtain⟨h1,h2⟩:=List.getElem?_eq_some_iff.1 h;rw[bz h1,h2];rfl
theorem DY{l:List jt}{j:Nat}{e:jt}(h:l[j]? =some e):(l.map jt.num)[j]? =some (e.X,e.Y):=by
 rw[bM,h];rfl
structure qt where
 s:Sl
 x:Sh
def oB:kK qt where
 z:=3
 cells e:=[.int .i64 e.x.a,.int .i64 e.x.k,a_ e.s]
 len _:=rfl
 fact _ e:=zb e.s e.x.p
def lX(x:Im):Int:=if cE x=45 then cz x 46 0 else cz x 14 0
def Dl(r:LR)(FB:Value→List (Nat×List Value))(es:List qt)(v:Value)(O:List (Nat×List Value))(Δ:List aC):Prop:=
 ∃(v':Sl) (O2:List (Nat×List Value)) (es2:List qt),(∀s,r=.ok s→es2.map qt.x=s)∧v=.int .i64 (Jn r)∧O=FB (a_ v')++O2∧cH 3 O2 (a_ v') (es++es2).length ((es++es2).flatMap oB.cells)∧Δ=[sK oB (a_ v') (es++es2)]
def UU(r:LR)(FB:Value→List (Nat×List Value))(es:List qt)(v:Value)(O:List (Nat×List Value))(M:List (Nat×List (Value×Value)))(Δ:List aC):Prop:=M=[]∧Dl r FB es v O Δ
structure YJ where
 j:Nat
 z:Int
 a:List Dp
 s:Sl
 O:List (Nat×List Value)
def shU(fb:Nat)(ao:Option Addr)(n c:Nat):YJ→List (Nat×SV):=fun a=>[(0,.val (fg fb)),(7,.ptr 7 0),(23,.val (.slice ao n c)),(24,.val (.int .i64 n)),(6,.val (.int .i64 0)),(25,.val (.int .i64 a.z))]
def shX(A K:Int):YJ→List (Nat×List Value):=fun a=>[(7,[.int .i64 A,.int .i64 K,a_ a.s])]
section
variable{T:Tb}{P:Program}{fin:VS→List aC→Prop}{c:fC}{Γ:List aC}{L:Nat}
theorem Ri(ao:Option Addr){l:List jt} [h:aY (OL gd ao) (L,l) Γ]{j:Nat}{e:jt}(he:l[j]? =some e)(hm:dz c.k=false)
  (hc:∀b off,ao=some ⟨b,off,none⟩→W T P fin c (SF e.x (L,e.X)::SF e.y (L,e.Y)::Γ)):W T P fin c Γ:=by
 obtain⟨h1,h2⟩:=List.getElem?_eq_some_iff.1 he;refine abu gd ao j h1 hm (by decide) (fun b off ha=>?_);refine W.sub hm (fun I w _ hh=>?_) (hc b off ha);have g:=hh.h0';rw[h2]at g;exact aE.cons g.1 (aE.cons g.2 (fun F hF=>hh F (by simp[hF])))
theorem zB(b off:Nat){l:List jt} [h:aY (OL gd (some ⟨b,off,none⟩)) (L,l) Γ]{j:Nat}{e:jt}(he:l[j]? =some e):∀I w,br T I w→aE Γ I w→∀k v,(gd.cells e)[k]? =some v→w.cell? ⟨b,off+j*40+k,none⟩=some v:=by
 obtain⟨h1,h2⟩:=List.getElem?_eq_some_iff.1 he;subst h2;exact fun I w hd hh k v hv=>I2 gd b off j h1 I w hd hh k v hv
end
section
variable{Γ:List aC}{L M:Nat}
theorem Pf(x y:Sw){X Y:Sn} [aY (SF x) (L,X) Γ] [aY (SF y) (M,Y) Γ](hm:0≤X.m)(hn:0≤X.n)(hm':0≤Y.m)(NS:0≤Y.n)(hL:L≤280:=by omega)(hM:M≤280:=by omega):
  aw tb Tryz.prog 144 [Bi x y] Γ (jf (if AG X.nr∧AG Y.nr then .tuple #[.agg #[.int .i64 X.nr,.int .i64 Y.nr],.int .i64 0]else .tuple #[.agg #[.int .i64 0,.int .i64 0],.int .i64 26])):=by
 by_cases h:AG X.nr∧AG Y.nr
 ·rw[if_pos h];exact WT x y hm hn hm' NS h.1 h.2 hL hM
 ·rw[if_neg h];exact WS x y hm hn hm' NS h hL hM
theorem Sp(fb:Nat)(ao:Option Addr)(c:Nat)(l:List jt) [h:aY (OL gd ao) (L,l) Γ](hok:UR (l.map jt.num))(hL:L≤280)(hl:l.length≤1000000):aw tb Tryz.prog 89 [fg fb,.slice ao l.length c] Γ (jf (.int .i64 (Jn (jc (l.map jt.num))))):=by
 refine aw.of_W az Tryz.func89 rfl ?_;refine yZ [] [4,11] (fun a:Nat×Int=>[(4,.int .i64 0),(11,.int .i64 a.2)]) (fun _=>[]) (fun _=>[OL gd ao (L,l)]) (fun a=>a.2=a.1∧a.1≤l.length∧Jn (jc (l.map jt.num))=Jn (jc ((l.map jt.num).drop a.1))) (fun a=>l.length-a.1) (0,0) ⟨rfl,aJ _,by rw[gT]⟩ (eC eK eE) ?_;rintro⟨j,z⟩ K ⟨hz,hj,he⟩ close;simp only at hz hj he;by_cases hlt:j<l.length
 ·obtain⟨e,hq⟩:∃e,l[j]? =some e:=⟨_,ak hlt⟩;have Js:=DY hq;have hp:=hok _ (aN Js);rw[vC Js]at he;refine Ri ao hq rfl (fun b off ha=>?_);subst ha;refine bk [] 12 (decide (z<(l.length:Int))) (ar (by omega)) ?_;refine bY [12] 40 b off l.length c .i64 j z hz az hlt ?_;refine cY [] b (off+j*40) (gd.cells e) az (zB b off hq) ?_;refine aq [] (Pf e.x e.y hp.1.1 hp.1.2 hp.2.1 hp.2.2 hL hL) ?_;rintro _ _ ⟨rfl,rfl⟩;by_cases hin:AG e.X.nr∧AG e.Y.nr
  ·rw[if_pos hin]at he⊢;refine aR [] 21 ((0:Int) != 0) rfl ?_;refine close [21] _ _ (j+1,IntKind.i64.wrap (z+1)) (by kernel_rfl) (by kernel_rfl) ⟨by simp only[af];omega,hlt,?_⟩ (by simp only;omega) (eC eK eE);rw[he];cases jc ((l.map jt.num).drop (j+1))<;>rfl
  ·rw[if_neg hin]at he⊢;refine bk [] 21 ((26:Int) != 0) rfl ?_;exact W.r [21] (.int .i64 26) ⟨by rw[he];rfl,rfl⟩ bR
 ·rw[bp (by rw[bT];omega)]at he;refine aR [] 12 (decide (z<(l.length:Int))) (ai (by omega)) ?_;exact W.r [12] (.int .i64 0) ⟨by rw[he];rfl,rfl⟩ bR
theorem Ef(fb bn cn dn:Nat)(cs:Sl)(most:Int)(s0 xf xp:Sl)(O:List (Nat×List Value))(es:List qt)(ao:Option Addr)(c:Nat)(l:List jt){x:Im} [hx:aY (mK xf xp) x Γ] [hs:aY (sK oB (a_ s0)) es Γ] [h:aY (OL gd ao) (L,l) Γ]
  (T6:qx x)(hok:UR (l.map jt.num))(hL:L≤280)(hl:l.length≤900000)(hel:es.length≤900000)(hg:cH 3 O (a_ s0) es.length (es.flatMap oB.cells)):
  dj Km Tryz.prog 87 [fg fb,lO xf xp,.slice ao l.length c] (FO fb cs bn cn dn most (a_ s0)++O) [] Γ (UU (iJ x (l.map jt.num)) (fun v=>FO fb cs bn cn dn most v) es):=by
 refine dj.of_W bG Tryz.func87 rfl ?_;refine aq [] (iy xf xp (x:=x) 13 0 T6 (.inl rfl)).mF ?_;rintro _ _ ⟨rfl,rfl⟩;refine aq [] (iy xf xp (x:=x) 14 0 T6 (.inl rfl)).mF ?_;rintro _ _ ⟨rfl,rfl⟩;refine aq [] (gy xf xp (x:=x) T6).mF ?_;rintro _ _ ⟨rfl,rfl⟩;by_cases h45:cE x=45
 ·have hK:lX x=cz x 46 0:=by unfold lX;rw[if_pos h45]
  refine bk [] 19 (cE x==45) (by rw[h45];rfl) ?_;refine aq [19] (iy xf xp (x:=x) 46 0 T6 (.inl rfl)).mF ?_;rintro _ _ ⟨rfl,rfl⟩;rw[←hK];refine j7 [] Tryz.f87 0 54 54 [0,7,23,24,6,25] [7] (shU fb ao l.length c) (shX (cz x 13 0) (lX x)) (fun a=>(FO fb cs bn cn dn most (a_ s0)++O)++a.O) (fun _=>[]) (fun a=>[OL gd ao (L,l),sK oB (a_ s0) es]) (fun a=>a.z=a.j∧a.j≤l.length∧a.a.length=a.j∧cH 2 a.O (a_ a.s) a.a.length (a.a.flatMap dY)∧jc (l.map jt.num)=(match jc ((l.map jt.num).drop a.j)with
   | .ok r=>.ok (a.a++r)
   | .error e=>.error e)) (fun a=>l.length-a.j) ⟨0,0,[],⟨none,0,0⟩,[]⟩ (h0:=(by simp only[ah];kernel_rfl)) ⟨rfl,aJ _,rfl,cH.nil 2,by simp only[gT,aB];cases jc (l.map jt.num)<;>rfl⟩ (eC eK (eC eK eE)) ?_
  rintro⟨j,z,acc,s,O2⟩ K ⟨hz,hj,BR,L8,he⟩ close;simp only at hz hj BR L8 he;by_cases hlt:j<l.length
  ·obtain⟨e,hq⟩:∃e,l[j]? =some e:=⟨_,ak hlt⟩;have Js:=DY hq;have hp:=hok _ (aN Js);rw[vC Js]at he;refine Ri ao hq rfl (fun b off ha=>?_);subst ha;refine bk [] 26 (decide (z<(l.length:Int))) (ar (by omega)) ?_;refine bY [26] 40 b off l.length c .i64 j z hz bG hlt ?_;refine cY [] b (off+j*40) (gd.cells e) bG (zB b off hq) ?_;refine aq [] (Pf e.x e.y hp.1.1 hp.1.2 hp.2.1 hp.2.2 hL hL).mF ?_;rintro _ _ ⟨rfl,rfl⟩;by_cases hin:AG e.X.nr∧AG e.Y.nr
   ·rw[if_pos hin]at he⊢;refine aR [] 35 ((0:Int) != 0) rfl ?_;refine cQ [35] 1 [.int .i64 e.X.nr,.int .i64 e.Y.nr] bG (fun b8=>?_);refine W.app [] ((FO fb cs bn cn dn most (a_ s0)++O)++O2) (FO fb cs bn cn dn most (a_ s0)++O) O2 [] 2 16 acc.length 1 (a_ s) (.slice (some ⟨b8,0,none⟩) 1 1) (acc.flatMap dY) [.int .i64 e.X.nr,.int .i64 e.Y.nr] bG (by simp) L8 (b_ b8 _ 1 2 rfl 1) (by simp[Value.oneCell']) (by omega) (by decide) (fun v' O' hg'=>?_);obtain⟨s',rfl⟩:=iC hg';rw[ah];refine close [] _ _ ⟨j+1,IntKind.i64.wrap (z+1),acc++[⟨e.X.nr,e.Y.nr⟩],s',O'⟩ (by kernel_rfl) (by kernel_rfl) ⟨by simp only[af];omega,hlt,by simp[BR],?_,?_⟩ (by simp only;omega) (eC eK (eC eK eE))
    ·rw[bB,aA];exact hg'
    ·rw[he];cases jc ((l.map jt.num).drop (j+1))<;>simp
   ·rw[if_neg hin]at he⊢;refine bk [] 35 ((26:Int) != 0) rfl ?_;refine qZ (FO fb cs bn cn dn most (a_ s0)++O) O2 [] (by rw[ah];kernel_rfl) ?_;refine p7 (FO fb cs bn cn dn most (a_ s0)++O) ?_;have hsp:iJ x (l.map jt.num)=.error 26:=by unfold iJ;rw[he]
    exact jO [35] (.int .i64 26) (FO fb cs bn cn dn most (a_ s0)++O) [] ⟨rfl,s0,O,[],fun s h=>by rw[hsp]at h;simp at h,by rw[hsp];rfl,rfl,by rw[ah];exact hg,rfl⟩ (eC (by rw[ah];exact eK) eE)
  ·rw[bp (by rw[bT];omega)]at he;simp only[jc,ah]at he;refine aR [] 26 (decide (z<(l.length:Int))) (ai (by omega)) ?_;refine mo (FO fb cs bn cn dn most (a_ s0)++O) O2 [] (by rw[ah];kernel_rfl) L8 (fun g5 g1 g2=>?_);refine p7 (FO fb cs bn cn dn most (a_ s0)++O) ?_;refine bW [26] 5 fb 0 bG ?_;refine dK [] (FO fb cs bn cn dn most (a_ s0)++O) fb (0+5) 1 [a_ cs,.map (some bn),.map (some cn),.map (some dn),.int .i64 most,a_ s0] (a_ s0) bG (.head _) rfl ?_;refine cQ [] 1 [.int .i64 (cz x 13 0),.int .i64 (lX x),a_ s] bG (fun b9=>?_);refine W.app [] (FO fb cs bn cn dn most (a_ s0)++O) (FO fb cs bn cn dn most (a_ s0)) O [] 3 40 es.length 1 (a_ s0) (.slice (some ⟨b9,0,none⟩) 1 1) (es.flatMap oB.cells) [.int .i64 (cz x 13 0),.int .i64 (lX x),a_ s] bG (by simp) hg (b_ b9 _ 1 3 rfl 1) (by simp[Value.oneCell']) (by omega) (by decide) (fun v' O' hg'=>?_);obtain⟨s',rfl⟩:=iC hg';rw[ah (FO fb cs bn cn dn most (a_ s0)++O')];refine bW [] 5 fb 0 bG ?_;refine nE [] (FO fb cs bn cn dn most (a_ s0)++O') [] O' 1 fb (0+5) [a_ cs,.map (some bn),.map (some cn),.map (some dn),.int .i64 most,a_ s0] (a_ s') [a_ cs,.map (some bn),.map (some cn),.map (some dn),.int .i64 most,a_ s'] bG rfl rfl (by simp[Value.cells,Value.oneCell']) (aj _) rfl ?_;have hsp:iJ x (l.map jt.num)=.ok [⟨cz x 13 0,lX x,acc⟩]:=by unfold iJ;rw[he];rfl
   refine jO [] (.int .i64 0) (FO fb cs bn cn dn most (a_ s')++O') [] ⟨rfl,s',O',[⟨s,⟨cz x 13 0,lX x,acc⟩⟩],fun q h=>by rw[hsp]at h;injection h,by rw[hsp];rfl,rfl,?_,rfl⟩ (fun I w _ hh=>?_)
   ·rw[bB,aA];exact hg'
   ·have g:=aY.p (k:=sK oB (a_ s0)) (a:=es) inferInstance hh;have ga:=aY.p (k:=RA s.ao) (a:=acc.flatMap dY) inferInstance hh;exact aU (sK.snoc (v:=a_ s0) g ⟨g5,⟨g1,g2⟩,ga⟩)
 ·have hK:lX x=cz x 14 0:=by unfold lX;rw[if_neg h45]
  refine aR [] 19 (cE x==45) (by simpa using h45) ?_;rw[←hK];refine j7 [19] Tryz.f87 0 54 54 [0,7,23,24,6,25] [7] (shU fb ao l.length c) (shX (cz x 13 0) (lX x)) (fun a=>(FO fb cs bn cn dn most (a_ s0)++O)++a.O) (fun _=>[]) (fun a=>[OL gd ao (L,l),sK oB (a_ s0) es]) (fun a=>a.z=a.j∧a.j≤l.length∧a.a.length=a.j∧cH 2 a.O (a_ a.s) a.a.length (a.a.flatMap dY)∧jc (l.map jt.num)=(match jc ((l.map jt.num).drop a.j)with
   | .ok r=>.ok (a.a++r)
   | .error e=>.error e)) (fun a=>l.length-a.j) ⟨0,0,[],⟨none,0,0⟩,[]⟩ (h0:=(by simp only[ah];kernel_rfl)) ⟨rfl,aJ _,rfl,cH.nil 2,by simp only[gT,aB];cases jc (l.map jt.num)<;>rfl⟩ (eC eK (eC eK eE)) ?_
  rintro⟨j,z,acc,s,O2⟩ K ⟨hz,hj,BR,L8,he⟩ close;simp only at hz hj BR L8 he;by_cases hlt:j<l.length
  ·obtain⟨e,hq⟩:∃e,l[j]? =some e:=⟨_,ak hlt⟩;have Js:=DY hq;have hp:=hok _ (aN Js);rw[vC Js]at he;refine Ri ao hq rfl (fun b off ha=>?_);subst ha;refine bk [] 26 (decide (z<(l.length:Int))) (ar (by omega)) ?_;refine bY [26] 40 b off l.length c .i64 j z hz bG hlt ?_;refine cY [] b (off+j*40) (gd.cells e) bG (zB b off hq) ?_;refine aq [] (Pf e.x e.y hp.1.1 hp.1.2 hp.2.1 hp.2.2 hL hL).mF ?_;rintro _ _ ⟨rfl,rfl⟩;by_cases hin:AG e.X.nr∧AG e.Y.nr
   ·rw[if_pos hin]at he⊢;refine aR [] 35 ((0:Int) != 0) rfl ?_;refine cQ [35] 1 [.int .i64 e.X.nr,.int .i64 e.Y.nr] bG (fun b8=>?_);refine W.app [] ((FO fb cs bn cn dn most (a_ s0)++O)++O2) (FO fb cs bn cn dn most (a_ s0)++O) O2 [] 2 16 acc.length 1 (a_ s) (.slice (some ⟨b8,0,none⟩) 1 1) (acc.flatMap dY) [.int .i64 e.X.nr,.int .i64 e.Y.nr] bG (by simp) L8 (b_ b8 _ 1 2 rfl 1) (by simp[Value.oneCell']) (by omega) (by decide) (fun v' O' hg'=>?_);obtain⟨s',rfl⟩:=iC hg';rw[ah];refine close [] _ _ ⟨j+1,IntKind.i64.wrap (z+1),acc++[⟨e.X.nr,e.Y.nr⟩],s',O'⟩ (by kernel_rfl) (by kernel_rfl) ⟨by simp only[af];omega,hlt,by simp[BR],?_,?_⟩ (by simp only;omega) (eC eK (eC eK eE))
    ·rw[bB,aA];exact hg'
    ·rw[he];cases jc ((l.map jt.num).drop (j+1))<;>simp
   ·rw[if_neg hin]at he⊢;refine bk [] 35 ((26:Int) != 0) rfl ?_;refine qZ (FO fb cs bn cn dn most (a_ s0)++O) O2 [] (by rw[ah];kernel_rfl) ?_;refine p7 (FO fb cs bn cn dn most (a_ s0)++O) ?_;have hsp:iJ x (l.map jt.num)=.error 26:=by unfold iJ;rw[he]
    exact jO [35] (.int .i64 26) (FO fb cs bn cn dn most (a_ s0)++O) [] ⟨rfl,s0,O,[],fun s h=>by rw[hsp]at h;simp at h,by rw[hsp];rfl,rfl,by rw[ah];exact hg,rfl⟩ (eC (by rw[ah];exact eK) eE)
  ·rw[bp (by rw[bT];omega)]at he;simp only[jc,ah]at he;refine aR [] 26 (decide (z<(l.length:Int))) (ai (by omega)) ?_;refine mo (FO fb cs bn cn dn most (a_ s0)++O) O2 [] (by rw[ah];kernel_rfl) L8 (fun g5 g1 g2=>?_);refine p7 (FO fb cs bn cn dn most (a_ s0)++O) ?_;refine bW [26] 5 fb 0 bG ?_;refine dK [] (FO fb cs bn cn dn most (a_ s0)++O) fb (0+5) 1 [a_ cs,.map (some bn),.map (some cn),.map (some dn),.int .i64 most,a_ s0] (a_ s0) bG (.head _) rfl ?_;refine cQ [] 1 [.int .i64 (cz x 13 0),.int .i64 (lX x),a_ s] bG (fun b9=>?_);refine W.app [] (FO fb cs bn cn dn most (a_ s0)++O) (FO fb cs bn cn dn most (a_ s0)) O [] 3 40 es.length 1 (a_ s0) (.slice (some ⟨b9,0,none⟩) 1 1) (es.flatMap oB.cells) [.int .i64 (cz x 13 0),.int .i64 (lX x),a_ s] bG (by simp) hg (b_ b9 _ 1 3 rfl 1) (by simp[Value.oneCell']) (by omega) (by decide) (fun v' O' hg'=>?_);obtain⟨s',rfl⟩:=iC hg';rw[ah (FO fb cs bn cn dn most (a_ s0)++O')];refine bW [] 5 fb 0 bG ?_;refine nE [] (FO fb cs bn cn dn most (a_ s0)++O') [] O' 1 fb (0+5) [a_ cs,.map (some bn),.map (some cn),.map (some dn),.int .i64 most,a_ s0] (a_ s') [a_ cs,.map (some bn),.map (some cn),.map (some dn),.int .i64 most,a_ s'] bG rfl rfl (by simp[Value.cells,Value.oneCell']) (aj _) rfl ?_;have hsp:iJ x (l.map jt.num)=.ok [⟨cz x 13 0,lX x,acc⟩]:=by unfold iJ;rw[he];rfl
   refine jO [] (.int .i64 0) (FO fb cs bn cn dn most (a_ s')++O') [] ⟨rfl,s',O',[⟨s,⟨cz x 13 0,lX x,acc⟩⟩],fun q h=>by rw[hsp]at h;injection h,by rw[hsp];rfl,rfl,?_,rfl⟩ (fun I w _ hh=>?_)
   ·rw[bB,aA];exact hg'
   ·have g:=aY.p (k:=sK oB (a_ s0)) (a:=es) inferInstance hh;have ga:=aY.p (k:=RA s.ao) (a:=acc.flatMap dY) inferInstance hh;exact aU (sK.snoc (v:=a_ s0) g ⟨g5,⟨g1,g2⟩,ga⟩)
end
theorem o5:∀{ks:List Int} {l x m:List Re},dC ks l=some (x,m)→∀r∈x,∃k∈ks,r.k=k % 256
 | [],l,x,m,h,r,hr=>by
  simp only[dC,au,aF]at h;rw[←h.1]at hr;simp at hr
 |k::ks,l,x,m,h,r,hr=>by
  unfold dC at h;split at h
  ·split at h
   ·rename_i r1 m1 h1;split at h
    ·rename_i rs m2 h2;simp only[au,aF]at h;obtain⟨rfl,rfl⟩:=h;simp only[aH]at hr;rcases hr with rfl|hr
     ·exact⟨k,by simp,(fA h1).2.1⟩
     ·obtain⟨k',h3,h4⟩:=o5 h2 r hr;exact⟨k',by simp[h3],h4⟩
    ·simp at h
   ·simp at h
  ·obtain⟨k',h3,h4⟩:=o5 h r hr;exact⟨k',by simp[h3],h4⟩
theorem Oy{x:Im}(h:jC x)(hk:cE x=10∨cE x=11)(X_:dT x 27≠none):5≤x.f.length:=by
 obtain⟨r,f,m,hf,_,hp⟩:=h.fields;have hr:r.k=cE x:=by unfold cE;rw[hf];rfl
 obtain⟨q,hq⟩:∃q,dT x 27=some q:=by
  cases hfo:dT x 27 with
  |none=>exact absurd hfo X_
  |some q=>exact⟨q,rfl⟩
 obtain⟨qm,qk⟩:=kA hq;obtain⟨a,b,m1,h1,h2,hx⟩:=la hp;have hrk:0≤r.k∧r.k<256:=by omega
 obtain⟨ra,a',rfl,_,_⟩:=qO hrk h1;have na:q∉ra::a':=fun hm=>by
  obtain⟨k,hk',e⟩:=o5 h1 q hm;simp only[aH,aI,bU]at hk';rcases hk' with rfl|rfl|rfl<;>omega
 have key:∀ks:List Int,(∀k∈ks,k % 256≠27)→(∃k ks',ks=k::ks'∧0≤k∧k<256)→fV (dC [18]) (fV j0 (dC ks)) m1=some (b,m)→5≤x.f.length:=by
  intro ks hks ⟨k0,ks',hk0,hk1⟩ hh;obtain⟨b1,c,m2,g1,g2,rfl⟩:=la hh;obtain⟨b2,b3,m3,g3,g4,rfl⟩:=la g2;obtain⟨r1,b1',rfl,_,_⟩:=qO (by decide) g1;rw[hk0]at g4 hks;obtain⟨r3,b3',rfl,_,_⟩:=qO hk1 g4;have n1:q∉r1::b1':=fun hm=>by
   obtain⟨k,hk',e⟩:=o5 g1 q hm;simp only[aH,aI,bU]at hk';omega
  have n3:q∉r3::b3':=fun hm=>by
   obtain⟨k,hk',e⟩:=o5 g4 q hm;exact hks k hk' (by omega)
  rw[hx]at qm;simp only[dU]at qm;have q2:q∈b2:=by
   rcases qm with JA|JA|JA|JA
   ·exact absurd JA na
   ·exact absurd JA n1
   ·exact JA
   ·exact absurd JA n3
  unfold j0 at g3;split at g3
  ·obtain⟨r2,b2',rfl,hk2,_⟩:=qO (by decide) g3;simp only[aH]at q2;rcases q2 with rfl|q2
   ·omega
   ·have:0<b2'.length:=List.length_pos_of_mem q2;rw[hx];simp only[aA,aD];omega
  ·simp only[au,aF]at g3;rw[←g3.1]at q2;simp at q2
 rcases hk with hk|hk<;>rw[hr,hk]at h2
 ·exact key [16] (by decide) ⟨16,[],rfl,by decide⟩ h2
 ·exact key [19,16] (by decide) ⟨19,[16],rfl,by decide⟩ h2
def wI(x:Im):Nat:=4+x.f.length
def wC(t:List Ce)(c:Nat):Nat:=((kZ t c).map wI).foldl max 0
theorem K0{l:List Nat}:∀{a:Nat},a≤l.foldl max a∧∀x∈l,x≤l.foldl max a:=by
 induction l with
 |nil=>intro a;exact⟨aj _,fun x hx=>by simp at hx⟩
 |cons y l ih=>
  intro a;simp only[nY];obtain⟨h1,h2⟩:=ih (a:=max a y);refine⟨by omega,fun x hx=>?_⟩;simp only[aH]at hx;rcases hx with rfl|hx
  ·omega
  ·exact h2 x hx
theorem aaU{t:List Ce}{c:Nat}{x:Im}(h:x∈kZ t c):wI x≤wC t c:=K0.2 _ (List.mem_map.2 ⟨x,h,rfl⟩)
theorem OT{x:Im}(ho:jC x)(h:∀r∈x.f,Mr r)(hk:cE x=10∨cE x=11)(hc:0<(bI x).1)(hr:0<(bI x).2){i k:Int}(hi:0≤i∧i<(bI x).1)(hk':0≤k∧k<(bI x).2):∃e,rV e (xS x i k)∧e+4≤45*wI x:=by
 unfold wI;cases X_:dT x 27 with
 |none=>exact⟨64,LA h X_ hc hr hi hk',by omega⟩
 |some r=>
  have:=Oy ho hk (by rw[X_];simp);exact⟨376,OU rfl h hc hr hi hk',by omega⟩
open Classical in
noncomputable def SW (t:List Ce) (d:Nat):Nat:=((List.range t.length).map fun j=>if ∃e,d<e∧sE t j e then wC t j else 0).sum
theorem Qo{t:List Ce}{i d d':Nat}(hi:i<t.length)(h:sE t i d)(hd:d'<d):SW t d+wC t i≤SW t d':=by
 unfold SW;refine rM (c:=i) (by simpa using hi) (fun j _=>?_) ?_
 ·by_cases hj:∃e,d<e∧sE t j e
  ·obtain⟨e,h1,h2⟩:=hj;rw[if_pos ⟨e,h1,h2⟩,if_pos ⟨e,by omega,h2⟩];exact aj _
  ·rw[if_neg hj];exact aJ _
 ·have p_:¬ ∃e,d<e∧sE t i e:=fun⟨e,h1,h2⟩=>by
   have:=h.uniq h2;omega
  rw[if_neg p_,if_pos ⟨d,hd,h⟩];omega
def yb(t:List Ce):Nat:=((List.range t.length).map (wC t)).sum
theorem Qn{t:List Ce}{d:Nat}:SW t d≤yb t:=by
 unfold SW yb;generalize List.range t.length=l
 induction l with
 |nil=>exact aj _
 |cons a l ih=>
  simp only[cA,gj];split<;>omega
theorem rK{α:Type}{f g:α→LR}:∀{l:List α},(∀a∈l,f a=g a)→lA f l=lA g l
 | [],_=>rfl
 |a::l,h=>by
  unfold lA;rw[h a (by simp),rK (fun b hb=>h b (by simp[hb]))]
theorem FY{t:List Ce}:∀{n c d:Nat},dep t n c=some d→∀V,gg t (n+1) c V=gg t n c V
 |0,c,d,h,V=>by simp[dep]at h
 |n+1,c,d,h,V=>by
  have hr:∃r,jr (dep t n) (fy t c) 0=some r:=by
   unfold dep at h;cases hq:jr (dep t n) (fy t c) 0 with
   |none=>rw[hq]at h;simp at h
   |some r=>exact⟨r,rfl⟩
  obtain⟨r,hr⟩:=hr;unfold gg;refine rK fun x hx=>?_;unfold js nA;cases hk:rn t x with
  |none=>rfl
  |some k=>
   have hkm:k∈fy t c:=List.mem_filterMap.2 ⟨x,hx,hk⟩;obtain⟨e,he,_⟩:=(lL hr).2 k hkm;simp only;rw[Ai he];have hg:∀V',gg t (n+1) k V'=gg t n k V':=FY he;split
   ·rfl
   ·split
    ·rfl
    ·split
     ·split
      ·rfl
      ·exact rK fun a _=>rK fun b _=>hg _
     ·rfl
theorem zL.lay64{t:List Ce}(h:zL t){i:Nat}(hi:i<t.length)(V:On):gg t 64 i V=lA (js t 64 (gg t 64) V) (kZ t i):=by
 obtain⟨d,hd⟩:=h.deep i hi;rw[←FY hd V];rfl
section
variable{T:Tb}{Γ:List aC}
theorem gA(b:Nat){row:List Value} [h:aY (d_ b) row Γ]{i:Nat}{v:Value}(hv:row[i]? =some v):∀I w,br T I w→aE Γ I w→w.cell? ⟨b,i,none⟩=some v:=fun I w _ hh=>by
 have:=RA.cell (RA.of_row (h.p hh) (fun _ _ q=>q)) hv
 rwa [cu]at this
end
section
variable{Γ:List aC}
theorem A9(a b:Int):aw tb Tryz.prog 157 [.agg #[.int .i64 a,.int .i64 b]] Γ (jf (.int .i64 a)):=by
 refine aw.of_W az Tryz.func157 rfl ?_;exact W.r [] (.int .i64 a) ⟨rfl,rfl⟩ bR
theorem WV(b1 b2 b3:Nat)(i k eT rows:Int)(u:Sl){p:List Dp} [aY (d_ b1) [a_ u] Γ] [aY (d_ b2) [.int .i64 eT] Γ] [aY (d_ b3) [.int .i64 rows] Γ] [aY (zb u) p Γ](hp:p.length=1∨p.length=3)
  (hin:∀d∈p,(-2147483648≤d.x∧d.x≤2147483647)∧ -2147483648≤d.y∧d.y≤2147483647)(hi:0≤i∧i≤32767)(hk:0≤k∧k≤32767)(hc:1≤eT∧eT≤32767)(hr:1≤rows∧rows≤32767):
  aw tb Tryz.prog 153 [.func (.func 157) #[] #[],.int .i64 i,.int .i64 k,.pointer (some ⟨b1,0,none⟩),.pointer (some ⟨b2,0,none⟩),.pointer (some ⟨b3,0,none⟩)] Γ (sL 30 (pt Dp.x p eT rows i k)):=by
 refine aw.of_W az Tryz.func153 rfl ?_;refine I7 u (l:=p) rfl (fun g1 g2 g3=>?_);have nT:p≠ []:=fun e=>by rw[e]at hp;simp at hp
 obtain⟨pb,off,hao⟩:=g3 nT;obtain⟨ua,un,uc⟩:=u;simp only at g1 g2 hao;subst hao;have cI:∀j,j<p.length→p[j]? =some (p.getD j ⟨0,0⟩):=fun j hj=>ui p j ⟨0,0⟩ hj;have bd:∀j,j<p.length→ -2147483648≤(p.getD j ⟨0,0⟩).x∧(p.getD j ⟨0,0⟩).x≤2147483647:=fun j hj=>(hin _ (aN (cI j hj))).1;have h0:=bd 0 (by omega);refine dB [] 1 b1 0 (.slice (some ⟨pb,off,none⟩) un uc) az (gA b1 rfl) ?_;refine bY [] 2 pb off un uc .i64 0 0 rfl az (by omega) ?_;refine cY [] pb (off+0*2) (dY (p.getD 0 ⟨0,0⟩)) az (fun I w hd hh j v hv=>nL pb off un uc (cI 0 (by omega)) I w hd hh j v hv) ?_;refine aq [] (A9 (p.getD 0 ⟨0,0⟩).x (p.getD 0 ⟨0,0⟩).y) ?_;rintro _ _ ⟨rfl,rfl⟩;refine aq [] (cU (p.getD 0 ⟨0,0⟩).x (by omega) (by omega)) ?_;rintro _ _ ⟨u5,d5,rfl,rfl⟩;refine aq [] (cg u5 d5) ?_;rintro _ _ ⟨n6,a6,m6,b6,rfl,rfl⟩;refine dB [] 1 b1 0 (.slice (some ⟨pb,off,none⟩) un uc) az (gA b1 rfl) ?_;by_cases h3:p.length=3
 ·have h1:=bd 1 (by omega);have h2:=bd 2 (by omega);have TJ:∀{x y c:Int},(-2147483648≤x∧x≤2147483647)→(-2147483648≤y∧y≤2147483647)→(0≤c∧c≤32767)→IntKind.i64.wrap (IntKind.i64.wrap (x-y)*c)=(x-y)*c∧ -9223372036854775808≤(x-y)*c∧(x-y)*c<9223372036854775808:=fun{x y c} e1 e2 e3=>by
   have w1:IntKind.i64.wrap (x-y)=x-y:=i64_in _ (by omega);rw[w1];have a1:(x-y)*c≤4294967295*32767:=uL (kE (show x-y≤4294967295 by omega) e3.1) (kT e3.2 (by decide));have a2: -4294967295*32767≤(x-y)*c:=by
    have b1: -4294967295*c≤(x-y)*c:=kE (by omega) e3.1;omega
   exact⟨i64_in _ (by omega),by omega,by omega⟩
  obtain⟨w1,w2,w3⟩:=TJ h1 h0 hi;obtain⟨v1,v2,v3⟩:=TJ h2 h0 hk;have hown:pt Dp.x p eT rows i k=(((p.getD 0 ⟨0,0⟩).x:Rat)+Rat.divInt (((p.getD 1 ⟨0,0⟩).x-(p.getD 0 ⟨0,0⟩).x)*i) eT)+Rat.divInt (((p.getD 2 ⟨0,0⟩).x-(p.getD 0 ⟨0,0⟩).x)*k) rows:=by unfold pt;rw[if_pos h3];rfl
  rw[hown];obtain⟨A,hA⟩:∃A,((p.getD 1 ⟨0,0⟩).x-(p.getD 0 ⟨0,0⟩).x)*i=A:=⟨_,rfl⟩;obtain⟨B,hB⟩:∃B,((p.getD 2 ⟨0,0⟩).x-(p.getD 0 ⟨0,0⟩).x)*k=B:=⟨_,rfl⟩;rw[hA]at w1 w2 w3⊢;rw[hB]at v1 v2 v3⊢;have q1:∀Γ':List aC,aw tb Tryz.prog 154 [.int .i64 (IntKind.i64.wrap (IntKind.i64.wrap ((p.getD 1 ⟨0,0⟩).x-(p.getD 0 ⟨0,0⟩).x)*i)),.int .i64 eT] Γ' (Tg 2 (Rat.divInt A eT)):=fun Γ'=>by
   rw[w1];exact A8 A eT (by omega) (by omega) (by omega) (by omega) (by omega)
  have q2:∀Γ':List aC,aw tb Tryz.prog 154 [.int .i64 (IntKind.i64.wrap (IntKind.i64.wrap ((p.getD 2 ⟨0,0⟩).x-(p.getD 0 ⟨0,0⟩).x)*k)),.int .i64 rows] Γ' (Tg 2 (Rat.divInt B rows)):=fun Γ'=>by
   rw[v1];exact A8 B rows (by omega) (by omega) (by omega) (by omega) (by omega)
  refine bk [] 24 ((un:Int)==3) (by rw[g1,h3];rfl) ?_;refine dB [24] 1 b1 0 (.slice (some ⟨pb,off,none⟩) un uc) az (gA b1 rfl) ?_;refine bY [] 2 pb off un uc .i64 1 1 rfl az (by omega) ?_;refine cY [] pb (off+1*2) (dY (p.getD 1 ⟨0,0⟩)) az (fun I w hd hh j v hv=>nL pb off un uc (cI 1 (by omega)) I w hd hh j v hv) ?_;refine dB [] 1 b1 0 (.slice (some ⟨pb,off,none⟩) un uc) az (gA b1 rfl) ?_;refine bY [] 2 pb off un uc .i64 0 0 rfl az (by omega) ?_;refine cY [] pb (off+0*2) (dY (p.getD 0 ⟨0,0⟩)) az (fun I w hd hh j v hv=>nL pb off un uc (cI 0 (by omega)) I w hd hh j v hv) ?_;refine dB [] 1 b2 0 (.int .i64 eT) az (gA b2 rfl) ?_;refine aq [] (A9 (p.getD 1 ⟨0,0⟩).x (p.getD 1 ⟨0,0⟩).y) ?_;rintro _ _ ⟨rfl,rfl⟩;refine aq [] (A9 (p.getD 0 ⟨0,0⟩).x (p.getD 0 ⟨0,0⟩).y) ?_;rintro _ _ ⟨rfl,rfl⟩;refine aq [] (q1 _) ?_;rintro _ _ ⟨n17,a17,m17,b17,rfl,rfl⟩;refine dB [] 1 b1 0 (.slice (some ⟨pb,off,none⟩) un uc) az (gA b1 rfl) ?_;refine bY [] 2 pb off un uc .i64 2 2 rfl az (by omega) ?_;refine cY [] pb (off+2*2) (dY (p.getD 2 ⟨0,0⟩)) az (fun I w hd hh j v hv=>nL pb off un uc (cI 2 (by omega)) I w hd hh j v hv) ?_;refine dB [] 1 b1 0 (.slice (some ⟨pb,off,none⟩) un uc) az (gA b1 rfl) ?_;refine bY [] 2 pb off un uc .i64 0 0 rfl az (by omega) ?_;refine cY [] pb (off+0*2) (dY (p.getD 0 ⟨0,0⟩)) az (fun I w hd hh j v hv=>nL pb off un uc (cI 0 (by omega)) I w hd hh j v hv) ?_
  refine dB [] 1 b3 0 (.int .i64 rows) az (gA b3 rfl) ?_;refine aq [] (A9 (p.getD 2 ⟨0,0⟩).x (p.getD 2 ⟨0,0⟩).y) ?_;rintro _ _ ⟨rfl,rfl⟩;refine aq [] (A9 (p.getD 0 ⟨0,0⟩).x (p.getD 0 ⟨0,0⟩).y) ?_;rintro _ _ ⟨rfl,rfl⟩;refine aq [] (q2 _) ?_;rintro _ _ ⟨n27,U4,m27,Vf,rfl,rfl⟩;refine aq [] (fo n6 a6 m6 b6 n17 a17 m17 b17) ?_;rintro _ _ ⟨n28,U5,m28,xo,rfl,rfl⟩;refine aq [] (fo n28 U5 m28 xo n27 U4 m27 Vf) ?_;rintro _ _ ⟨n29,U6,m29,Vg,rfl,rfl⟩;exact W.r [] (qv n29 U6 m29 Vg) ⟨_,_,_,_,rfl,rfl⟩ (jY (by omega) rfl)
 ·have hown:pt Dp.x p eT rows i k=((p.getD 0 ⟨0,0⟩).x:Rat):=by unfold pt;rw[if_neg h3]
  rw[hown];refine aR [] 24 ((un:Int)==3) (by rw[eL];omega) ?_;exact W.r [24] (qv n6 a6 m6 b6) ⟨_,_,_,_,rfl,rfl⟩ (jY (by omega) rfl)
theorem A_(a b:Int):aw tb Tryz.prog 158 [.agg #[.int .i64 a,.int .i64 b]] Γ (jf (.int .i64 b)):=by
 refine aw.of_W az Tryz.func158 rfl ?_;exact W.r [] (.int .i64 b) ⟨rfl,rfl⟩ bR
theorem WW(b1 b2 b3:Nat)(i k eT rows:Int)(u:Sl){p:List Dp} [aY (d_ b1) [a_ u] Γ] [aY (d_ b2) [.int .i64 eT] Γ] [aY (d_ b3) [.int .i64 rows] Γ] [aY (zb u) p Γ](hp:p.length=1∨p.length=3)
  (hin:∀d∈p,(-2147483648≤d.x∧d.x≤2147483647)∧ -2147483648≤d.y∧d.y≤2147483647)(hi:0≤i∧i≤32767)(hk:0≤k∧k≤32767)(hc:1≤eT∧eT≤32767)(hr:1≤rows∧rows≤32767):
  aw tb Tryz.prog 153 [.func (.func 158) #[] #[],.int .i64 i,.int .i64 k,.pointer (some ⟨b1,0,none⟩),.pointer (some ⟨b2,0,none⟩),.pointer (some ⟨b3,0,none⟩)] Γ (sL 30 (pt Dp.y p eT rows i k)):=by
 refine aw.of_W az Tryz.func153 rfl ?_;refine I7 u (l:=p) rfl (fun g1 g2 g3=>?_);have nT:p≠ []:=fun e=>by rw[e]at hp;simp at hp
 obtain⟨pb,off,hao⟩:=g3 nT;obtain⟨ua,un,uc⟩:=u;simp only at g1 g2 hao;subst hao;have cI:∀j,j<p.length→p[j]? =some (p.getD j ⟨0,0⟩):=fun j hj=>ui p j ⟨0,0⟩ hj;have bd:∀j,j<p.length→ -2147483648≤(p.getD j ⟨0,0⟩).y∧(p.getD j ⟨0,0⟩).y≤2147483647:=fun j hj=>(hin _ (aN (cI j hj))).2;have h0:=bd 0 (by omega);refine dB [] 1 b1 0 (.slice (some ⟨pb,off,none⟩) un uc) az (gA b1 rfl) ?_;refine bY [] 2 pb off un uc .i64 0 0 rfl az (by omega) ?_;refine cY [] pb (off+0*2) (dY (p.getD 0 ⟨0,0⟩)) az (fun I w hd hh j v hv=>nL pb off un uc (cI 0 (by omega)) I w hd hh j v hv) ?_;refine aq [] (A_ (p.getD 0 ⟨0,0⟩).x (p.getD 0 ⟨0,0⟩).y) ?_;rintro _ _ ⟨rfl,rfl⟩;refine aq [] (cU (p.getD 0 ⟨0,0⟩).y (by omega) (by omega)) ?_;rintro _ _ ⟨u5,d5,rfl,rfl⟩;refine aq [] (cg u5 d5) ?_;rintro _ _ ⟨n6,a6,m6,b6,rfl,rfl⟩;refine dB [] 1 b1 0 (.slice (some ⟨pb,off,none⟩) un uc) az (gA b1 rfl) ?_;by_cases h3:p.length=3
 ·have h1:=bd 1 (by omega);have h2:=bd 2 (by omega);have TJ:∀{x y c:Int},(-2147483648≤x∧x≤2147483647)→(-2147483648≤y∧y≤2147483647)→(0≤c∧c≤32767)→IntKind.i64.wrap (IntKind.i64.wrap (x-y)*c)=(x-y)*c∧ -9223372036854775808≤(x-y)*c∧(x-y)*c<9223372036854775808:=fun{x y c} e1 e2 e3=>by
   have w1:IntKind.i64.wrap (x-y)=x-y:=i64_in _ (by omega);rw[w1];have a1:(x-y)*c≤4294967295*32767:=uL (kE (show x-y≤4294967295 by omega) e3.1) (kT e3.2 (by decide));have a2: -4294967295*32767≤(x-y)*c:=by
    have b1: -4294967295*c≤(x-y)*c:=kE (by omega) e3.1;omega
   exact⟨i64_in _ (by omega),by omega,by omega⟩
  obtain⟨w1,w2,w3⟩:=TJ h1 h0 hi;obtain⟨v1,v2,v3⟩:=TJ h2 h0 hk;have hown:pt Dp.y p eT rows i k=(((p.getD 0 ⟨0,0⟩).y:Rat)+Rat.divInt (((p.getD 1 ⟨0,0⟩).y-(p.getD 0 ⟨0,0⟩).y)*i) eT)+Rat.divInt (((p.getD 2 ⟨0,0⟩).y-(p.getD 0 ⟨0,0⟩).y)*k) rows:=by unfold pt;rw[if_pos h3];rfl
  rw[hown];obtain⟨A,hA⟩:∃A,((p.getD 1 ⟨0,0⟩).y-(p.getD 0 ⟨0,0⟩).y)*i=A:=⟨_,rfl⟩;obtain⟨B,hB⟩:∃B,((p.getD 2 ⟨0,0⟩).y-(p.getD 0 ⟨0,0⟩).y)*k=B:=⟨_,rfl⟩;rw[hA]at w1 w2 w3⊢;rw[hB]at v1 v2 v3⊢;have q1:∀Γ':List aC,aw tb Tryz.prog 154 [.int .i64 (IntKind.i64.wrap (IntKind.i64.wrap ((p.getD 1 ⟨0,0⟩).y-(p.getD 0 ⟨0,0⟩).y)*i)),.int .i64 eT] Γ' (Tg 2 (Rat.divInt A eT)):=fun Γ'=>by
   rw[w1];exact A8 A eT (by omega) (by omega) (by omega) (by omega) (by omega)
  have q2:∀Γ':List aC,aw tb Tryz.prog 154 [.int .i64 (IntKind.i64.wrap (IntKind.i64.wrap ((p.getD 2 ⟨0,0⟩).y-(p.getD 0 ⟨0,0⟩).y)*k)),.int .i64 rows] Γ' (Tg 2 (Rat.divInt B rows)):=fun Γ'=>by
   rw[v1];exact A8 B rows (by omega) (by omega) (by omega) (by omega) (by omega)
  refine bk [] 24 ((un:Int)==3) (by rw[g1,h3];rfl) ?_;refine dB [24] 1 b1 0 (.slice (some ⟨pb,off,none⟩) un uc) az (gA b1 rfl) ?_;refine bY [] 2 pb off un uc .i64 1 1 rfl az (by omega) ?_;refine cY [] pb (off+1*2) (dY (p.getD 1 ⟨0,0⟩)) az (fun I w hd hh j v hv=>nL pb off un uc (cI 1 (by omega)) I w hd hh j v hv) ?_;refine dB [] 1 b1 0 (.slice (some ⟨pb,off,none⟩) un uc) az (gA b1 rfl) ?_;refine bY [] 2 pb off un uc .i64 0 0 rfl az (by omega) ?_;refine cY [] pb (off+0*2) (dY (p.getD 0 ⟨0,0⟩)) az (fun I w hd hh j v hv=>nL pb off un uc (cI 0 (by omega)) I w hd hh j v hv) ?_;refine dB [] 1 b2 0 (.int .i64 eT) az (gA b2 rfl) ?_;refine aq [] (A_ (p.getD 1 ⟨0,0⟩).x (p.getD 1 ⟨0,0⟩).y) ?_;rintro _ _ ⟨rfl,rfl⟩;refine aq [] (A_ (p.getD 0 ⟨0,0⟩).x (p.getD 0 ⟨0,0⟩).y) ?_;rintro _ _ ⟨rfl,rfl⟩;refine aq [] (q1 _) ?_;rintro _ _ ⟨n17,a17,m17,b17,rfl,rfl⟩;refine dB [] 1 b1 0 (.slice (some ⟨pb,off,none⟩) un uc) az (gA b1 rfl) ?_;refine bY [] 2 pb off un uc .i64 2 2 rfl az (by omega) ?_;refine cY [] pb (off+2*2) (dY (p.getD 2 ⟨0,0⟩)) az (fun I w hd hh j v hv=>nL pb off un uc (cI 2 (by omega)) I w hd hh j v hv) ?_;refine dB [] 1 b1 0 (.slice (some ⟨pb,off,none⟩) un uc) az (gA b1 rfl) ?_;refine bY [] 2 pb off un uc .i64 0 0 rfl az (by omega) ?_;refine cY [] pb (off+0*2) (dY (p.getD 0 ⟨0,0⟩)) az (fun I w hd hh j v hv=>nL pb off un uc (cI 0 (by omega)) I w hd hh j v hv) ?_
  refine dB [] 1 b3 0 (.int .i64 rows) az (gA b3 rfl) ?_;refine aq [] (A_ (p.getD 2 ⟨0,0⟩).x (p.getD 2 ⟨0,0⟩).y) ?_;rintro _ _ ⟨rfl,rfl⟩;refine aq [] (A_ (p.getD 0 ⟨0,0⟩).x (p.getD 0 ⟨0,0⟩).y) ?_;rintro _ _ ⟨rfl,rfl⟩;refine aq [] (q2 _) ?_;rintro _ _ ⟨n27,U4,m27,Vf,rfl,rfl⟩;refine aq [] (fo n6 a6 m6 b6 n17 a17 m17 b17) ?_;rintro _ _ ⟨n28,U5,m28,xo,rfl,rfl⟩;refine aq [] (fo n28 U5 m28 xo n27 U4 m27 Vf) ?_;rintro _ _ ⟨n29,U6,m29,Vg,rfl,rfl⟩;exact W.r [] (qv n29 U6 m29 Vg) ⟨_,_,_,_,rfl,rfl⟩ (jY (by omega) rfl)
 ·have hown:pt Dp.y p eT rows i k=((p.getD 0 ⟨0,0⟩).y:Rat):=by unfold pt;rw[if_neg h3]
  rw[hown];refine aR [] 24 ((un:Int)==3) (by rw[eL];omega) ?_;exact W.r [24] (qv n6 a6 m6 b6) ⟨_,_,_,_,rfl,rfl⟩ (jY (by omega) rfl)
end
end Go.Proofs.YtgaaopjagcaojaaGreat
