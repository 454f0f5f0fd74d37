/- A library is laid just if there may be as many shapes as there are. -/
import Derived.Test.YtgaaopjagcaojaaGreatBe
import Derived.Test.YtgaaopjagcaojaaGreatLd
import Derived.Deep.SlicePairs
import Derived.SizedLaws
import Derived.Test.YtgaaopjagcaojaaGreatRows
import Derived.JoinedOf
import Derived.ProofKit
import Derived.Test.YtgaaopjagcaojaaGreatVy
import Derived.Test.YtgaaopjagcaojaaGreatVk
set_option linter.unusedSimpArgs false
set_option linter.unusedVariables false
set_option maxHeartbeats 4000000
namespace Go.Proofs.YtgaaopjagcaojaaGreat
open Go.RowKit Go.IntWalk
def RW(x:Im):Nat:=1+x.f.length+x.p.length
def Rw(c:Ce):Nat:=1+c.h.length+(c.i.map RW).sum
def Ft(t:Li):Nat:=t.h.length+(t.c.map Rw).sum
structure Hk where
 n:Int
 i:Nat
 b:Int
 z:Int
def Hj(N1:Int)(l:List Im)(n:Int)(j:Nat):Prop:=0≤n∧n≤2305843009213693952∧(n<150→n=N1+(((l.take j).map RW).sum:Nat))
def Mh(A:Int)(l:List Ce)(n:Int)(i:Nat):Prop:=0≤n∧n≤9223372036854775807∧(n<150→n=A+(((l.take i).map Rw).sum:Nat))
theorem G6{α:Type}{l:List α}{i:Nat}{x:α}(f:α→Nat)(h:l[i]? =some x):((l.take (i+1)).map f).sum=((l.take i).map f).sum+f x:=by
 rw[lq h,aX,n_];simp
theorem Fu{x:Ce}{A n:Int}{l:List Ce}{i:Nat}{m:Nat}(hb:x.h.length≤1152921504606846976)(h:Mh A l n i)(hn:n<150)(hm:m=x.h.length):Hj (IntKind.i64.wrap (IntKind.i64.wrap (n+1)+(m:Int))) x.i (IntKind.i64.wrap (IntKind.i64.wrap (n+1)+(m:Int))) 0:=by
 obtain⟨h1,h2,_⟩:=h;refine⟨?_,?_,fun _=>by simp⟩<;>simp only[af]<;>omega
theorem m_{N1 n:Int}{l:List Im}{j f p:Nat}{y:Im}(hy:l[j]? =some y)(h:Hj N1 l n j)(hn:n<150)(hf:f=y.f.length)(hp:p=y.p.length):
  Hj N1 l (IntKind.i64.wrap (IntKind.i64.wrap (IntKind.i64.wrap (n+1)+min (f:Int) 150)+min (p:Int) 150)) (j+1):=by
 obtain⟨h1,h2,h3⟩:=h;have h3:=h3 hn;unfold Hj;rw[G6 RW hy];have e:RW y=1+y.f.length+y.p.length:=rfl;refine⟨?_,?_,?_⟩<;>simp only[af]<;>omega
theorem wj{x:Ce}{A n n6:Int}{l:List Ce}{i j:Nat}{m:Nat}(hx:l[i]? =some x)(hb:x.h.length≤1152921504606846976)(h:Mh A l n i)(hn:n<150)(hm:m=x.h.length)(h6:Hj (IntKind.i64.wrap (IntKind.i64.wrap (n+1)+(m:Int))) x.i n6 j)
  (hj:n6<150→x.i.length≤j):Mh A l n6 (i+1):=by
 obtain⟨h1,h2,h3⟩:=h;obtain⟨g1,g2,g3⟩:=h6;refine⟨g1,by omega,fun hl=>?_⟩;have e1:=g3 hl;have e2:=h3 hn;rw[aS (hj hl)]at e1;rw[G6 Rw hx];have e:Rw x=1+x.h.length+(x.i.map RW).sum:=rfl;simp only[af]at e1;omega
theorem Rz{n:Int}{t:Li}{i hn:Nat}(h:Mh (hn:Int) t.c n i)(hl:n<150)(hh:hn=t.h.length)(hi:t.c.length≤i):Ft t<150:=by
 obtain⟨h1,h2,h3⟩:=h;have:=h3 hl;rw[aS hi]at this;unfold Ft;omega
def fwU:Hk→List (Nat×SV):=fun a=>[(1,.ptr 1 0),(3,.val (.int .i64 a.n)),(4,.val (.int .i64 a.b)),(6,.val (.int .i64 a.z))]
def fwX(h c:Sl):Hk→List (Nat×List Value):=fun _=>[(1,[a_ h,a_ c])]
def fwI(t:Li)(cn hn:Nat):Hk→Prop:=fun a=>a.z=a.i∧a.i≤cn∧Mh (hn:Int) t.c a.n a.i
abbrev Di(t:Li)(v:Value)(Δ:List aC):Prop:=∃g,v=.bool g∧Δ=[]∧(g=true→Ft t<150)
set_option maxRecDepth 10000 in
theorem Cv(ha:Option Addr)(hn hc:Nat)(ca:Option Addr)(cn cc:Nat){t:Li}(hb:∀x∈t.c,x.h.length≤1152921504606846976)(ZJ:hn=t.h.length)(NC:cn=t.c.length)(RK:cn≤cc)(RL:cc≤9223372036854775807)
  (q:Hk)(R:VS→List aC→Prop)(hq:fwI t cn hn q)
  (DC:∀(D':List Nat) (c':fC) (Γ':List aC) (a':Hk),oD (aK tb (aZ tb D' 999 c'))=some R→
   (oE (aK tb (aZ tb D' 999 c'))).map (fun s=>s.only [1,3,4,6] [1])=some (jx 170 170 (fwU a') (fwX ⟨ha,hn,hc⟩ ⟨ca,cn,cc⟩ a') [] [])→
   fwI t cn hn a'→cn-a'.i<cn-q.i→(∀I w,br tb I w→aE Γ' I w→aE [lC ⟨ca,cn,cc⟩ t.c] I w)→W tb Tryz.prog (Fin tb Tryz.f8 (Di t)) c' Γ'):
  W tb Tryz.prog (Fin tb Tryz.f8 (Di t)) ⟨jx 170 170 (fwU q) (fwX ⟨ha,hn,hc⟩ ⟨ca,cn,cc⟩ q) [] [],.code (Yj Tryz.f8 1)::.again R::Yk Tryz.f8 1⟩ [lC ⟨ca,cn,cc⟩ t.c]:=by
 obtain⟨n5,i5,b5,z5⟩:=q;obtain⟨N_,hi5,h5⟩:=hq;simp only at N_ hi5 h5;by_cases q41:z5<(cn:Int)
 ·have Jx:i5<cn:=by omega
  obtain⟨x,Yg⟩:∃x,t.c[i5]? =some x:=⟨_,ak (by omega)⟩;have Yb:=hb x (aN Yg);refine uR ⟨ca,cn,cc⟩ Yg (fun bc oc fh fi hac=>?_);simp only at hac;subst hac;refine W.more (Δ:=[kH fh x.h]) rfl (fun I w _ hh=>aU (aY.p (k:=za fh fi) (a:=x) inferInstance hh).1) ?_;refine W.more (Δ:=[qy fi x.i]) rfl (fun I w _ hh=>aU (aY.p (k:=za fh fi) (a:=x) inferInstance hh).2) ?_;obtain⟨QH,xG,FD⟩:=fh;obtain⟨ia,im,ic⟩:=fi;refine W.len c_ dp.r ⟨QH,xG,FD⟩ rfl (fun QJ _ _=>?_);refine W.len pX ph.x ⟨ia,im,ic⟩ rfl (fun him acQ acR=>?_);simp only at QJ him acQ acR;refine bk [] 41 (decide (z5<(cn:Int))) (ar q41) ?_;by_cases SH:n5<150
  ·refine bk [41] 44 (decide (n5<150)) (ar SH) ?_;refine bY [44] 2 bc oc cn cc .i64 i5 z5 N_ az Jx ?_;refine bW [] 0 bc (oc+i5*2) az ?_;refine dB [] 1 bc (oc+i5*2+0) (a_ ⟨QH,xG,FD⟩) az (fun I w hd hh=>cB bc (oc+i5*2) I w hd hh 0 _ rfl) ?_;refine gO [] [4,7] (fun a:Hk=>[(4,.int .i64 a.b),(7,.int .i64 a.z)]) (fun _=>[]) (fun _=>[]) (fun _=>[lC ⟨some ⟨bc,oc,none⟩,cn,cc⟩ t.c,kH ⟨QH,xG,FD⟩ x.h,qy ⟨ia,im,ic⟩ x.i,RA (some ⟨bc,oc+i5*2,none⟩) [a_ ⟨QH,xG,FD⟩,a_ ⟨ia,im,ic⟩]]) (fun a=>a.z=a.i∧a.i≤xG) (fun a=>xG-a.i) ⟨0,0,b5,0⟩ ⟨rfl,aJ _⟩ (eC eK (eC eK (eC eK (eC eK eE)))) ?_;rintro⟨n8,i8,b8,z8⟩ R8 ⟨hz8,hi8⟩ Vt;simp only at hz8 hi8;by_cases q66:z8<(xG:Int)
   ·have hl8:i8<xG:=by omega
    obtain⟨r8,hr8⟩:∃r,x.h[i8]? =some r:=⟨_,ak (by omega)⟩;refine pA ⟨QH,xG,FD⟩ hr8 (fun QB QY u8 QI=>?_);simp only at QI;subst QI;refine bY [] 2 bc oc cn cc .i64 i5 z5 N_ az Jx ?_;refine bW [] 0 bc (oc+i5*2) az ?_;refine dB [] 1 bc (oc+i5*2+0) (a_ ⟨(some ⟨QB,QY,none⟩),xG,FD⟩) az (fun I w hd hh=>cB bc (oc+i5*2) I w hd hh 0 _ rfl) ?_;refine bk [] 66 (decide (z8<(xG:Int))) (ar q66) ?_;by_cases q69:z8<100
    ·refine bk [66] 69 (decide (z8<100)) (ar q69) ?_;refine bY [69] 2 bc oc cn cc .i64 i5 z5 N_ az Jx ?_;refine bW [] 0 bc (oc+i5*2) az ?_;refine dB [] 1 bc (oc+i5*2+0) (a_ ⟨(some ⟨QB,QY,none⟩),xG,FD⟩) az (fun I w hd hh=>cB bc (oc+i5*2) I w hd hh 0 _ rfl) ?_;refine bY [] 3 QB QY xG FD .i64 i8 z8 hz8 az (by omega) ?_;refine bW [] 2 QB (QY+i8*3) az ?_;refine dB [] 1 QB (QY+i8*3+2) (a_ u8) az (fun I w hd hh=>cB QB (QY+i8*3) I w hd hh 2 _ rfl) ?_;refine pj [] .i64 (u8.n:Int) 100000 (min (u8.n:Int) 100000) rfl ?_;exact Vt [] _ _ ⟨0,i8+1,IntKind.i64.wrap (b8+min (u8.n:Int) 100000),IntKind.i64.wrap (z8+1)⟩ (by kernel_rfl) (by kernel_rfl) ⟨by simp only[af];omega,by simp only;omega⟩ (by simp only;omega) (eC eK (eC eK (eC eK (eC eK eE))))
    ·refine aR [66] 69 (decide (z8<100)) (ai q69) ?_;refine gO [69] [3,4,8] (fun a:Hk=>[(3,.int .i64 a.n),(4,.int .i64 a.b),(8,.int .i64 a.z)]) (fun _=>[]) (fun _=>[]) (fun _=>[lC ⟨some ⟨bc,oc,none⟩,cn,cc⟩ t.c,qy ⟨ia,im,ic⟩ x.i,RA (some ⟨bc,oc+i5*2,none⟩) [a_ ⟨(some ⟨QB,QY,none⟩),xG,FD⟩,a_ ⟨ia,im,ic⟩]]) (fun a=>a.z=a.i∧a.i≤im∧Hj (IntKind.i64.wrap (IntKind.i64.wrap (n5+1)+(xG:Int))) x.i a.n a.i) (fun a=>im-a.i) ⟨IntKind.i64.wrap (IntKind.i64.wrap (n5+1)+(xG:Int)),0,b8,0⟩ ⟨rfl,aJ _,Fu Yb h5 SH QJ⟩ (eC eK (eC eK (eC eK eE))) ?_;rintro⟨n6,i6,b6,z6⟩ R6 ⟨Z6,hi6,h6⟩ q8;simp only at Z6 hi6 h6;by_cases q95:z6<(im:Int)
     ·have NQ:i6<im:=by omega
      obtain⟨y,N9⟩:∃y,x.i[i6]? =some y:=⟨_,ak (by omega)⟩;refine vV ⟨ia,im,ic⟩ N9 (fun bi oi yf yp Zo=>?_);simp only at Zo;subst Zo;refine W.more (Δ:=[kH yf y.f]) rfl (fun I w _ hh=>aU (aY.p (k:=mK yf yp) (a:=y) inferInstance hh).1) ?_;refine W.more (Δ:=[kH yp y.p]) rfl (fun I w _ hh=>aU (aY.p (k:=mK yf yp) (a:=y) inferInstance hh).2) ?_;obtain⟨fa,fn,fc⟩:=yf;obtain⟨pa,pn,pc⟩:=yp;refine W.len c_ dp.r ⟨fa,fn,fc⟩ rfl (fun EG _ _=>?_);refine W.len c_ dp.r ⟨pa,pn,pc⟩ rfl (fun y9 _ _=>?_);simp only at EG y9;refine bY [] 2 bc oc cn cc .i64 i5 z5 N_ az Jx ?_;refine bW [] 1 bc (oc+i5*2) az ?_;refine dB [] 1 bc (oc+i5*2+1) (a_ ⟨some ⟨bi,oi,none⟩,im,ic⟩) az (fun I w hd hh=>cB bc (oc+i5*2) I w hd hh 1 _ rfl) ?_;refine bk [] 95 (decide (z6<(im:Int))) (ar q95) ?_;by_cases II:n6<150
      ·refine bk [95] 98 (decide (n6<150)) (ar II) ?_;refine bY [98] 2 bc oc cn cc .i64 i5 z5 N_ az Jx ?_;refine bW [] 1 bc (oc+i5*2) az ?_;refine dB [] 1 bc (oc+i5*2+1) (a_ ⟨some ⟨bi,oi,none⟩,im,ic⟩) az (fun I w hd hh=>cB bc (oc+i5*2) I w hd hh 1 _ rfl) ?_;refine bY [] 2 bi oi im ic .i64 i6 z6 Z6 az NQ ?_;refine cY [] bi (oi+i6*2) [a_ ⟨fa,fn,fc⟩,a_ ⟨pa,pn,pc⟩] az (cB bi (oi+i6*2)) ?_;refine pj [] .i64 (fn:Int) 150 (min (fn:Int) 150) rfl ?_;refine pj [] .i64 (pn:Int) 150 (min (pn:Int) 150) rfl ?_;refine gO [] [4,10] (fun a:Hk=>[(4,.int .i64 a.b),(10,.int .i64 a.z)]) (fun _=>[]) (fun _=>[]) (fun _=>[lC ⟨some ⟨bc,oc,none⟩,cn,cc⟩ t.c,qy ⟨some ⟨bi,oi,none⟩,im,ic⟩ x.i,RA (some ⟨bc,oc+i5*2,none⟩) [a_ ⟨(some ⟨QB,QY,none⟩),xG,FD⟩,a_ ⟨some ⟨bi,oi,none⟩,im,ic⟩],kH ⟨fa,fn,fc⟩ y.f,kH ⟨pa,pn,pc⟩ y.p]) (fun a=>a.z=a.i∧a.i≤fn) (fun a=>fn-a.i) ⟨0,0,b6,0⟩ ⟨rfl,aJ _⟩ (eC eK (eC eK (eC eK (eC eK (eC eK eE))))) ?_;rintro⟨nF,iF,bF,zF⟩ RF ⟨Z7,hiF⟩ HD;simp only at Z7 hiF;by_cases PD:zF<(fn:Int)
       ·have hlF:iF<fn:=by omega
        obtain⟨rF,hrF⟩:∃r,y.f[iF]? =some r:=⟨_,ak (by omega)⟩;refine pA ⟨fa,fn,fc⟩ hrF (fun Rq Se uF Zp=>?_);simp only at Zp;subst Zp;refine bk [] 127 (decide (zF<(fn:Int))) (ar PD) ?_;by_cases PH:zF<150
        ·refine bk [127] 130 (decide (zF<150)) (ar PH) ?_;refine bY [130] 3 Rq Se fn fc .i64 iF zF Z7 az (by omega) ?_;refine bW [] 2 Rq (Se+iF*3) az ?_;refine dB [] 1 Rq (Se+iF*3+2) (a_ uF) az (fun I w hd hh=>cB Rq (Se+iF*3) I w hd hh 2 _ rfl) ?_;refine pj [] .i64 (uF.n:Int) 100000 (min (uF.n:Int) 100000) rfl ?_;exact HD [] _ _ ⟨0,iF+1,IntKind.i64.wrap (bF+min (uF.n:Int) 100000),IntKind.i64.wrap (zF+1)⟩ (by kernel_rfl) (by kernel_rfl) ⟨by simp only[af];omega,by simp only;omega⟩ (by simp only;omega) (eC eK (eC eK (eC eK (eC eK (eC eK eE)))))
        ·refine aR [127] 130 (decide (zF<150)) (ai PH) ?_;refine gO [130] [4,11] (fun a:Hk=>[(4,.int .i64 a.b),(11,.int .i64 a.z)]) (fun _=>[]) (fun _=>[]) (fun _=>[lC ⟨some ⟨bc,oc,none⟩,cn,cc⟩ t.c,qy ⟨some ⟨bi,oi,none⟩,im,ic⟩ x.i,RA (some ⟨bc,oc+i5*2,none⟩) [a_ ⟨(some ⟨QB,QY,none⟩),xG,FD⟩,a_ ⟨some ⟨bi,oi,none⟩,im,ic⟩],kH ⟨pa,pn,pc⟩ y.p]) (fun a=>a.z=a.i∧a.i≤pn) (fun a=>pn-a.i) ⟨0,0,bF,0⟩ ⟨rfl,aJ _⟩ (eC eK (eC eK (eC eK (eC eK eE)))) ?_;rintro⟨nP,iP,bP,zP⟩ RP ⟨Oa,VX⟩ vv;simp only at Oa VX;by_cases Bo:zP<(pn:Int)
         ·have hlP:iP<pn:=by omega
          obtain⟨rP,Wa⟩:∃r,y.p[iP]? =some r:=⟨_,ak (by omega)⟩;refine pA ⟨pa,pn,pc⟩ Wa (fun Dx D4 uP NA=>?_);simp only at NA;subst NA;refine bk [] 148 (decide (zP<(pn:Int))) (ar Bo) ?_;by_cases Bp:zP<150
          ·refine bk [148] 151 (decide (zP<150)) (ar Bp) ?_;refine bY [151] 3 Dx D4 pn pc .i64 iP zP Oa az (by omega) ?_;refine bW [] 2 Dx (D4+iP*3) az ?_;refine dB [] 1 Dx (D4+iP*3+2) (a_ uP) az (fun I w hd hh=>cB Dx (D4+iP*3) I w hd hh 2 _ rfl) ?_;refine pj [] .i64 (uP.n:Int) 100000 (min (uP.n:Int) 100000) rfl ?_;exact vv [] _ _ ⟨0,iP+1,IntKind.i64.wrap (bP+min (uP.n:Int) 100000),IntKind.i64.wrap (zP+1)⟩ (by kernel_rfl) (by kernel_rfl) ⟨by simp only[af];omega,by simp only;omega⟩ (by simp only;omega) (eC eK (eC eK (eC eK (eC eK eE))))
          ·refine aR [148] 151 (decide (zP<150)) (ai Bp) ?_;exact q8 [151] _ _ ⟨IntKind.i64.wrap (IntKind.i64.wrap (IntKind.i64.wrap (n6+1)+min (fn:Int) 150)+min (pn:Int) 150),i6+1,bP,IntKind.i64.wrap (z6+1)⟩ (by kernel_rfl) (by kernel_rfl) ⟨by simp only[af];omega,NQ,m_ N9 h6 II EG y9⟩ (by simp only;omega) (eC eK (eC eK (eC eK eE)))
         ·refine aR [] 148 (decide (zP<(pn:Int))) (ai Bo) ?_;exact q8 [151,148] _ _ ⟨IntKind.i64.wrap (IntKind.i64.wrap (IntKind.i64.wrap (n6+1)+min (fn:Int) 150)+min (pn:Int) 150),i6+1,bP,IntKind.i64.wrap (z6+1)⟩ (by kernel_rfl) (by kernel_rfl) ⟨by simp only[af];omega,NQ,m_ N9 h6 II EG y9⟩ (by simp only;omega) (eC eK (eC eK (eC eK eE)))
       ·refine aR [] 127 (decide (zF<(fn:Int))) (ai PD) ?_;refine gO [130,127] [4,11] (fun a:Hk=>[(4,.int .i64 a.b),(11,.int .i64 a.z)]) (fun _=>[]) (fun _=>[]) (fun _=>[lC ⟨some ⟨bc,oc,none⟩,cn,cc⟩ t.c,qy ⟨some ⟨bi,oi,none⟩,im,ic⟩ x.i,RA (some ⟨bc,oc+i5*2,none⟩) [a_ ⟨(some ⟨QB,QY,none⟩),xG,FD⟩,a_ ⟨some ⟨bi,oi,none⟩,im,ic⟩],kH ⟨pa,pn,pc⟩ y.p]) (fun a=>a.z=a.i∧a.i≤pn) (fun a=>pn-a.i) ⟨0,0,bF,0⟩ ⟨rfl,aJ _⟩ (eC eK (eC eK (eC eK (eC eK eE)))) ?_;rintro⟨nP,iP,bP,zP⟩ RP ⟨Oa,VX⟩ vv;simp only at Oa VX;by_cases Bo:zP<(pn:Int)
        ·have hlP:iP<pn:=by omega
         obtain⟨rP,Wa⟩:∃r,y.p[iP]? =some r:=⟨_,ak (by omega)⟩;refine pA ⟨pa,pn,pc⟩ Wa (fun Dx D4 uP NA=>?_);simp only at NA;subst NA;refine bk [] 148 (decide (zP<(pn:Int))) (ar Bo) ?_;by_cases Bp:zP<150
         ·refine bk [148] 151 (decide (zP<150)) (ar Bp) ?_;refine bY [151] 3 Dx D4 pn pc .i64 iP zP Oa az (by omega) ?_;refine bW [] 2 Dx (D4+iP*3) az ?_;refine dB [] 1 Dx (D4+iP*3+2) (a_ uP) az (fun I w hd hh=>cB Dx (D4+iP*3) I w hd hh 2 _ rfl) ?_;refine pj [] .i64 (uP.n:Int) 100000 (min (uP.n:Int) 100000) rfl ?_;exact vv [] _ _ ⟨0,iP+1,IntKind.i64.wrap (bP+min (uP.n:Int) 100000),IntKind.i64.wrap (zP+1)⟩ (by kernel_rfl) (by kernel_rfl) ⟨by simp only[af];omega,by simp only;omega⟩ (by simp only;omega) (eC eK (eC eK (eC eK (eC eK eE))))
         ·refine aR [148] 151 (decide (zP<150)) (ai Bp) ?_;exact q8 [151] _ _ ⟨IntKind.i64.wrap (IntKind.i64.wrap (IntKind.i64.wrap (n6+1)+min (fn:Int) 150)+min (pn:Int) 150),i6+1,bP,IntKind.i64.wrap (z6+1)⟩ (by kernel_rfl) (by kernel_rfl) ⟨by simp only[af];omega,NQ,m_ N9 h6 II EG y9⟩ (by simp only;omega) (eC eK (eC eK (eC eK eE)))
        ·refine aR [] 148 (decide (zP<(pn:Int))) (ai Bo) ?_;exact q8 [151,148] _ _ ⟨IntKind.i64.wrap (IntKind.i64.wrap (IntKind.i64.wrap (n6+1)+min (fn:Int) 150)+min (pn:Int) 150),i6+1,bP,IntKind.i64.wrap (z6+1)⟩ (by kernel_rfl) (by kernel_rfl) ⟨by simp only[af];omega,NQ,m_ N9 h6 II EG y9⟩ (by simp only;omega) (eC eK (eC eK (eC eK eE)))
      ·refine aR [95] 98 (decide (n6<150)) (ai II) ?_;exact DC [98] _ _ ⟨n6,i5+1,b6,IntKind.i64.wrap (z5+1)⟩ (by kernel_rfl) (by kernel_rfl) ⟨by simp only[af];omega,Jx,wj Yg Yb h5 SH QJ h6 (fun h=>absurd h II)⟩ (by simp only;omega) (eC eK eE)
     ·refine bY [] 2 bc oc cn cc .i64 i5 z5 N_ az Jx ?_;refine bW [] 1 bc (oc+i5*2) az ?_;refine dB [] 1 bc (oc+i5*2+1) (a_ ⟨ia,im,ic⟩) az (fun I w hd hh=>cB bc (oc+i5*2) I w hd hh 1 _ rfl) ?_;refine aR [] 95 (decide (z6<(im:Int))) (ai q95) ?_;exact DC [98,95] _ _ ⟨n6,i5+1,b6,IntKind.i64.wrap (z5+1)⟩ (by kernel_rfl) (by kernel_rfl) ⟨by simp only[af];omega,Jx,wj Yg Yb h5 SH QJ h6 (fun _=>by omega)⟩ (by simp only;omega) (eC eK eE)
   ·refine bY [] 2 bc oc cn cc .i64 i5 z5 N_ az Jx ?_;refine bW [] 0 bc (oc+i5*2) az ?_;refine dB [] 1 bc (oc+i5*2+0) (a_ ⟨QH,xG,FD⟩) az (fun I w hd hh=>cB bc (oc+i5*2) I w hd hh 0 _ rfl) ?_;refine aR [] 66 (decide (z8<(xG:Int))) (ai q66) ?_;refine gO [69,66] [3,4,8] (fun a:Hk=>[(3,.int .i64 a.n),(4,.int .i64 a.b),(8,.int .i64 a.z)]) (fun _=>[]) (fun _=>[]) (fun _=>[lC ⟨some ⟨bc,oc,none⟩,cn,cc⟩ t.c,qy ⟨ia,im,ic⟩ x.i,RA (some ⟨bc,oc+i5*2,none⟩) [a_ ⟨QH,xG,FD⟩,a_ ⟨ia,im,ic⟩]]) (fun a=>a.z=a.i∧a.i≤im∧Hj (IntKind.i64.wrap (IntKind.i64.wrap (n5+1)+(xG:Int))) x.i a.n a.i) (fun a=>im-a.i) ⟨IntKind.i64.wrap (IntKind.i64.wrap (n5+1)+(xG:Int)),0,b8,0⟩ ⟨rfl,aJ _,Fu Yb h5 SH QJ⟩ (eC eK (eC eK (eC eK eE))) ?_;rintro⟨n6,i6,b6,z6⟩ R6 ⟨Z6,hi6,h6⟩ q8;simp only at Z6 hi6 h6;by_cases q95:z6<(im:Int)
    ·have NQ:i6<im:=by omega
     obtain⟨y,N9⟩:∃y,x.i[i6]? =some y:=⟨_,ak (by omega)⟩;refine vV ⟨ia,im,ic⟩ N9 (fun bi oi yf yp Zo=>?_);simp only at Zo;subst Zo;refine W.more (Δ:=[kH yf y.f]) rfl (fun I w _ hh=>aU (aY.p (k:=mK yf yp) (a:=y) inferInstance hh).1) ?_;refine W.more (Δ:=[kH yp y.p]) rfl (fun I w _ hh=>aU (aY.p (k:=mK yf yp) (a:=y) inferInstance hh).2) ?_;obtain⟨fa,fn,fc⟩:=yf;obtain⟨pa,pn,pc⟩:=yp;refine W.len c_ dp.r ⟨fa,fn,fc⟩ rfl (fun EG _ _=>?_);refine W.len c_ dp.r ⟨pa,pn,pc⟩ rfl (fun y9 _ _=>?_);simp only at EG y9;refine bY [] 2 bc oc cn cc .i64 i5 z5 N_ az Jx ?_;refine bW [] 1 bc (oc+i5*2) az ?_;refine dB [] 1 bc (oc+i5*2+1) (a_ ⟨some ⟨bi,oi,none⟩,im,ic⟩) az (fun I w hd hh=>cB bc (oc+i5*2) I w hd hh 1 _ rfl) ?_;refine bk [] 95 (decide (z6<(im:Int))) (ar q95) ?_;by_cases II:n6<150
     ·refine bk [95] 98 (decide (n6<150)) (ar II) ?_;refine bY [98] 2 bc oc cn cc .i64 i5 z5 N_ az Jx ?_;refine bW [] 1 bc (oc+i5*2) az ?_;refine dB [] 1 bc (oc+i5*2+1) (a_ ⟨some ⟨bi,oi,none⟩,im,ic⟩) az (fun I w hd hh=>cB bc (oc+i5*2) I w hd hh 1 _ rfl) ?_;refine bY [] 2 bi oi im ic .i64 i6 z6 Z6 az NQ ?_;refine cY [] bi (oi+i6*2) [a_ ⟨fa,fn,fc⟩,a_ ⟨pa,pn,pc⟩] az (cB bi (oi+i6*2)) ?_;refine pj [] .i64 (fn:Int) 150 (min (fn:Int) 150) rfl ?_;refine pj [] .i64 (pn:Int) 150 (min (pn:Int) 150) rfl ?_;refine gO [] [4,10] (fun a:Hk=>[(4,.int .i64 a.b),(10,.int .i64 a.z)]) (fun _=>[]) (fun _=>[]) (fun _=>[lC ⟨some ⟨bc,oc,none⟩,cn,cc⟩ t.c,qy ⟨some ⟨bi,oi,none⟩,im,ic⟩ x.i,RA (some ⟨bc,oc+i5*2,none⟩) [a_ ⟨QH,xG,FD⟩,a_ ⟨some ⟨bi,oi,none⟩,im,ic⟩],kH ⟨fa,fn,fc⟩ y.f,kH ⟨pa,pn,pc⟩ y.p]) (fun a=>a.z=a.i∧a.i≤fn) (fun a=>fn-a.i) ⟨0,0,b6,0⟩ ⟨rfl,aJ _⟩ (eC eK (eC eK (eC eK (eC eK (eC eK eE))))) ?_;rintro⟨nF,iF,bF,zF⟩ RF ⟨Z7,hiF⟩ HD;simp only at Z7 hiF;by_cases PD:zF<(fn:Int)
      ·have hlF:iF<fn:=by omega
       obtain⟨rF,hrF⟩:∃r,y.f[iF]? =some r:=⟨_,ak (by omega)⟩;refine pA ⟨fa,fn,fc⟩ hrF (fun Rq Se uF Zp=>?_);simp only at Zp;subst Zp;refine bk [] 127 (decide (zF<(fn:Int))) (ar PD) ?_;by_cases PH:zF<150
       ·refine bk [127] 130 (decide (zF<150)) (ar PH) ?_;refine bY [130] 3 Rq Se fn fc .i64 iF zF Z7 az (by omega) ?_;refine bW [] 2 Rq (Se+iF*3) az ?_;refine dB [] 1 Rq (Se+iF*3+2) (a_ uF) az (fun I w hd hh=>cB Rq (Se+iF*3) I w hd hh 2 _ rfl) ?_;refine pj [] .i64 (uF.n:Int) 100000 (min (uF.n:Int) 100000) rfl ?_;exact HD [] _ _ ⟨0,iF+1,IntKind.i64.wrap (bF+min (uF.n:Int) 100000),IntKind.i64.wrap (zF+1)⟩ (by kernel_rfl) (by kernel_rfl) ⟨by simp only[af];omega,by simp only;omega⟩ (by simp only;omega) (eC eK (eC eK (eC eK (eC eK (eC eK eE)))))
       ·refine aR [127] 130 (decide (zF<150)) (ai PH) ?_;refine gO [130] [4,11] (fun a:Hk=>[(4,.int .i64 a.b),(11,.int .i64 a.z)]) (fun _=>[]) (fun _=>[]) (fun _=>[lC ⟨some ⟨bc,oc,none⟩,cn,cc⟩ t.c,qy ⟨some ⟨bi,oi,none⟩,im,ic⟩ x.i,RA (some ⟨bc,oc+i5*2,none⟩) [a_ ⟨QH,xG,FD⟩,a_ ⟨some ⟨bi,oi,none⟩,im,ic⟩],kH ⟨pa,pn,pc⟩ y.p]) (fun a=>a.z=a.i∧a.i≤pn) (fun a=>pn-a.i) ⟨0,0,bF,0⟩ ⟨rfl,aJ _⟩ (eC eK (eC eK (eC eK (eC eK eE)))) ?_;rintro⟨nP,iP,bP,zP⟩ RP ⟨Oa,VX⟩ vv;simp only at Oa VX;by_cases Bo:zP<(pn:Int)
        ·have hlP:iP<pn:=by omega
         obtain⟨rP,Wa⟩:∃r,y.p[iP]? =some r:=⟨_,ak (by omega)⟩;refine pA ⟨pa,pn,pc⟩ Wa (fun Dx D4 uP NA=>?_);simp only at NA;subst NA;refine bk [] 148 (decide (zP<(pn:Int))) (ar Bo) ?_;by_cases Bp:zP<150
         ·refine bk [148] 151 (decide (zP<150)) (ar Bp) ?_;refine bY [151] 3 Dx D4 pn pc .i64 iP zP Oa az (by omega) ?_;refine bW [] 2 Dx (D4+iP*3) az ?_;refine dB [] 1 Dx (D4+iP*3+2) (a_ uP) az (fun I w hd hh=>cB Dx (D4+iP*3) I w hd hh 2 _ rfl) ?_;refine pj [] .i64 (uP.n:Int) 100000 (min (uP.n:Int) 100000) rfl ?_;exact vv [] _ _ ⟨0,iP+1,IntKind.i64.wrap (bP+min (uP.n:Int) 100000),IntKind.i64.wrap (zP+1)⟩ (by kernel_rfl) (by kernel_rfl) ⟨by simp only[af];omega,by simp only;omega⟩ (by simp only;omega) (eC eK (eC eK (eC eK (eC eK eE))))
         ·refine aR [148] 151 (decide (zP<150)) (ai Bp) ?_;exact q8 [151] _ _ ⟨IntKind.i64.wrap (IntKind.i64.wrap (IntKind.i64.wrap (n6+1)+min (fn:Int) 150)+min (pn:Int) 150),i6+1,bP,IntKind.i64.wrap (z6+1)⟩ (by kernel_rfl) (by kernel_rfl) ⟨by simp only[af];omega,NQ,m_ N9 h6 II EG y9⟩ (by simp only;omega) (eC eK (eC eK (eC eK eE)))
        ·refine aR [] 148 (decide (zP<(pn:Int))) (ai Bo) ?_;exact q8 [151,148] _ _ ⟨IntKind.i64.wrap (IntKind.i64.wrap (IntKind.i64.wrap (n6+1)+min (fn:Int) 150)+min (pn:Int) 150),i6+1,bP,IntKind.i64.wrap (z6+1)⟩ (by kernel_rfl) (by kernel_rfl) ⟨by simp only[af];omega,NQ,m_ N9 h6 II EG y9⟩ (by simp only;omega) (eC eK (eC eK (eC eK eE)))
      ·refine aR [] 127 (decide (zF<(fn:Int))) (ai PD) ?_;refine gO [130,127] [4,11] (fun a:Hk=>[(4,.int .i64 a.b),(11,.int .i64 a.z)]) (fun _=>[]) (fun _=>[]) (fun _=>[lC ⟨some ⟨bc,oc,none⟩,cn,cc⟩ t.c,qy ⟨some ⟨bi,oi,none⟩,im,ic⟩ x.i,RA (some ⟨bc,oc+i5*2,none⟩) [a_ ⟨QH,xG,FD⟩,a_ ⟨some ⟨bi,oi,none⟩,im,ic⟩],kH ⟨pa,pn,pc⟩ y.p]) (fun a=>a.z=a.i∧a.i≤pn) (fun a=>pn-a.i) ⟨0,0,bF,0⟩ ⟨rfl,aJ _⟩ (eC eK (eC eK (eC eK (eC eK eE)))) ?_;rintro⟨nP,iP,bP,zP⟩ RP ⟨Oa,VX⟩ vv;simp only at Oa VX;by_cases Bo:zP<(pn:Int)
       ·have hlP:iP<pn:=by omega
        obtain⟨rP,Wa⟩:∃r,y.p[iP]? =some r:=⟨_,ak (by omega)⟩;refine pA ⟨pa,pn,pc⟩ Wa (fun Dx D4 uP NA=>?_);simp only at NA;subst NA;refine bk [] 148 (decide (zP<(pn:Int))) (ar Bo) ?_;by_cases Bp:zP<150
        ·refine bk [148] 151 (decide (zP<150)) (ar Bp) ?_;refine bY [151] 3 Dx D4 pn pc .i64 iP zP Oa az (by omega) ?_;refine bW [] 2 Dx (D4+iP*3) az ?_;refine dB [] 1 Dx (D4+iP*3+2) (a_ uP) az (fun I w hd hh=>cB Dx (D4+iP*3) I w hd hh 2 _ rfl) ?_;refine pj [] .i64 (uP.n:Int) 100000 (min (uP.n:Int) 100000) rfl ?_;exact vv [] _ _ ⟨0,iP+1,IntKind.i64.wrap (bP+min (uP.n:Int) 100000),IntKind.i64.wrap (zP+1)⟩ (by kernel_rfl) (by kernel_rfl) ⟨by simp only[af];omega,by simp only;omega⟩ (by simp only;omega) (eC eK (eC eK (eC eK (eC eK eE))))
        ·refine aR [148] 151 (decide (zP<150)) (ai Bp) ?_;exact q8 [151] _ _ ⟨IntKind.i64.wrap (IntKind.i64.wrap (IntKind.i64.wrap (n6+1)+min (fn:Int) 150)+min (pn:Int) 150),i6+1,bP,IntKind.i64.wrap (z6+1)⟩ (by kernel_rfl) (by kernel_rfl) ⟨by simp only[af];omega,NQ,m_ N9 h6 II EG y9⟩ (by simp only;omega) (eC eK (eC eK (eC eK eE)))
       ·refine aR [] 148 (decide (zP<(pn:Int))) (ai Bo) ?_;exact q8 [151,148] _ _ ⟨IntKind.i64.wrap (IntKind.i64.wrap (IntKind.i64.wrap (n6+1)+min (fn:Int) 150)+min (pn:Int) 150),i6+1,bP,IntKind.i64.wrap (z6+1)⟩ (by kernel_rfl) (by kernel_rfl) ⟨by simp only[af];omega,NQ,m_ N9 h6 II EG y9⟩ (by simp only;omega) (eC eK (eC eK (eC eK eE)))
     ·refine aR [95] 98 (decide (n6<150)) (ai II) ?_;exact DC [98] _ _ ⟨n6,i5+1,b6,IntKind.i64.wrap (z5+1)⟩ (by kernel_rfl) (by kernel_rfl) ⟨by simp only[af];omega,Jx,wj Yg Yb h5 SH QJ h6 (fun h=>absurd h II)⟩ (by simp only;omega) (eC eK eE)
    ·refine bY [] 2 bc oc cn cc .i64 i5 z5 N_ az Jx ?_;refine bW [] 1 bc (oc+i5*2) az ?_;refine dB [] 1 bc (oc+i5*2+1) (a_ ⟨ia,im,ic⟩) az (fun I w hd hh=>cB bc (oc+i5*2) I w hd hh 1 _ rfl) ?_;refine aR [] 95 (decide (z6<(im:Int))) (ai q95) ?_;exact DC [98,95] _ _ ⟨n6,i5+1,b6,IntKind.i64.wrap (z5+1)⟩ (by kernel_rfl) (by kernel_rfl) ⟨by simp only[af];omega,Jx,wj Yg Yb h5 SH QJ h6 (fun _=>by omega)⟩ (by simp only;omega) (eC eK eE)
  ·refine aR [41] 44 (decide (n5<150)) (ai SH) ?_;refine aR [44] 166 (decide (n5<150)) (ai SH) ?_;exact W.r [166] (.bool false) ⟨false,rfl,rfl,fun h=>by simp at h⟩ bR
 ·refine aR [] 41 (decide (z5<(cn:Int))) (ai q41) ?_;by_cases Xf:n5<150
  ·refine bk [44,41] 166 (decide (n5<150)) (ar Xf) ?_;exact W.r [166] (.bool (decide (b5<8000))) ⟨_,rfl,rfl,fun _=>Rz h5 Xf ZJ (by omega)⟩ bR
  ·refine aR [44,41] 166 (decide (n5<150)) (ai Xf) ?_;exact W.r [166] (.bool false) ⟨false,rfl,rfl,fun h=>by simp at h⟩ bR
section
variable{Γ:List aC}
set_option maxRecDepth 10000 in
theorem So(ha:Option Addr)(hn hc:Nat)(ca:Option Addr)(cn cc:Nat){t:Li} [hF:aY (B8 ⟨ha,hn,hc⟩ ⟨ca,cn,cc⟩) t Γ](hb:∀x∈t.c,x.h.length≤1152921504606846976):
  aw tb Tryz.prog 8 [lO ⟨ha,hn,hc⟩ ⟨ca,cn,cc⟩] Γ (Di t):=by
 refine aw.of_W az Tryz.func8 rfl ?_;refine W.more (Δ:=[kH ⟨ha,hn,hc⟩ t.h]) rfl (fun I w _ hh=>aU (hF.p hh).1) ?_;refine W.more (Δ:=[lC ⟨ca,cn,cc⟩ t.c]) rfl (fun I w _ hh=>aU (aY.p (k:=B8 ⟨ha,hn,hc⟩ ⟨ca,cn,cc⟩) (a:=t) inferInstance hh).2) ?_;refine W.len c_ dp.r ⟨ha,hn,hc⟩ rfl (fun ZJ acM acN=>?_);refine W.len lF pd.x ⟨ca,cn,cc⟩ rfl (fun NC RK RL=>?_);simp only at ZJ NC acM acN RK RL;refine gO [] [4,5] (fun a:Hk=>[(4,.int .i64 a.b),(5,.int .i64 a.z)]) (fun _=>[]) (fun _=>[]) (fun _=>[kH ⟨ha,hn,hc⟩ t.h,lC ⟨ca,cn,cc⟩ t.c]) (fun a=>a.z=a.i∧a.i≤hn) (fun a=>hn-a.i) ⟨0,0,0,0⟩ ⟨rfl,aJ _⟩ (eC eK (eC eK eE)) ?_;rintro⟨n1,i1,b1,z1⟩ R1 ⟨hz1,hi1⟩ q7;simp only at hz1 hi1;by_cases q20:z1<(hn:Int)
 ·have hl1:i1<hn:=by omega
  obtain⟨r1,hr1⟩:∃r,t.h[i1]? =some r:=⟨_,ak (by omega)⟩;refine pA ⟨ha,hn,hc⟩ hr1 (fun yo Yr u1 ha1=>?_);simp only at ha1;subst ha1;refine bk [] 20 (decide (z1<(hn:Int))) (ar q20) ?_;by_cases q23:z1<100
  ·refine bk [20] 23 (decide (z1<100)) (ar q23) ?_;refine bY [23] 3 yo Yr hn hc .i64 i1 z1 hz1 az (by omega) ?_;refine bW [] 2 yo (Yr+i1*3) az ?_;refine dB [] 1 yo (Yr+i1*3+2) (a_ u1) az (fun I w hd hh=>cB yo (Yr+i1*3) I w hd hh 2 _ rfl) ?_;refine pj [] .i64 (u1.n:Int) 100000 (min (u1.n:Int) 100000) rfl ?_;exact q7 [] _ _ ⟨0,i1+1,IntKind.i64.wrap (b1+min (u1.n:Int) 100000),IntKind.i64.wrap (z1+1)⟩ (by kernel_rfl) (by kernel_rfl) ⟨by simp only[af];omega,by simp only;omega⟩ (by simp only;omega) (eC eK (eC eK eE))
  ·refine aR [20] 23 (decide (z1<100)) (ai q23) ?_;exact j7 [23] Tryz.f8 1 170 170 [1,3,4,6] [1] fwU (fwX ⟨(some ⟨yo,Yr,none⟩),hn,hc⟩ ⟨ca,cn,cc⟩) (fun _=>[]) (fun _=>[]) (fun _=>[lC ⟨ca,cn,cc⟩ t.c]) (fwI t cn hn) (fun a=>cn-a.i) ⟨hn,0,b1,0⟩ ⟨rfl,aJ _,by simp only;omega,by simp only;omega,fun _=>by simp⟩ (eC eK eE) (fun a R hq close=>Cv (some ⟨yo,Yr,none⟩) hn hc ca cn cc hb ZJ NC RK RL a R hq close)
 ·refine aR [] 20 (decide (z1<(hn:Int))) (ai q20) ?_;exact j7 [23,20] Tryz.f8 1 170 170 [1,3,4,6] [1] fwU (fwX ⟨ha,hn,hc⟩ ⟨ca,cn,cc⟩) (fun _=>[]) (fun _=>[]) (fun _=>[lC ⟨ca,cn,cc⟩ t.c]) (fwI t cn hn) (fun a=>cn-a.i) ⟨hn,0,b1,0⟩ ⟨rfl,aJ _,by simp only;omega,by simp only;omega,fun _=>by simp⟩ (eC eK eE) (fun a R hq close=>Cv ha hn hc ca cn cc hb ZJ NC RK RL a R hq close)
end
theorem o6:∀{ks:List Int} {l x m:List Re},dC ks l=some (x,m)→(ks.filter (fun k=>decide (k<256))).length≤x.length
 | [],l,x,m,h=>aJ _
 |k::ks,l,x,m,h=>by
  unfold dC at h;split at h
  ·split at h
   ·split at h
    ·rename_i rs m' hp;simp only[au,aF]at h;obtain⟨rfl,rfl⟩:=h;have:=o6 hp;have h2:((k::ks).filter (fun k=>decide (k<256))).length≤(ks.filter (fun k=>decide (k<256))).length+1:=by
      rw[List.filter_cons];split<;>simp
     simp only[aD];omega
    ·simp at h
   ·simp at h
  ·rename_i hk;have:=o6 h;rw[List.filter_cons,if_neg (by simp;omega)];exact this
theorem KN{h:List Re}(hc:we h):2≤h.length:=o6 hc
theorem K9{h:List Re}(hc:H7 h):4≤h.length:=by
 obtain⟨a,b,m1,h1,h2,rfl⟩:=la hc;obtain⟨c,d,m2,h3,h4,rfl⟩:=la h2;have e1:3≤a.length:=o6 h1;have e2:1≤d.length:=o6 h4;simp only[aA];omega
theorem KX(x:Im):(fD x).length=RW x:=by
 unfold fD RW;simp only[aA,aD,bh];omega
theorem AL{α β:Type}{f:α→List β}{g:α→Nat}(h:∀a,(f a).length=g a):∀l:List α,(l.flatMap f).length=(l.map g).sum
 | []=>rfl
 |a::l=>by
  rw[bL,aA,h,AL h l,cA,gj]
theorem HU(c:Ce):(fS c).length=Rw c:=by
 unfold fS Rw;rw[aA,aA,AL KX];simp only[aD,bh];omega
theorem HZ(t:Li):(iH t).length=Ft t+1:=by
 unfold iH Ft;rw[aA,aA,AL HU];simp only[aD,bh];omega
theorem wk{b:Nat}:∀{l:List Nat} {a:Nat},a≤b→(∀x∈l,x≤b)→l.foldl max a≤b
 | [],a,ha,_=>ha
 |y::l,a,ha,h=>wk (l:=l) (by have:=h y (by simp);omega) (fun x hx=>h x (by simp[hx]))
theorem Qe{α:Type}{f:α→Nat}:∀{l:List α} {x:α},x∈l→f x≤(l.map f).sum
 |y::l,x,h=>by
  simp only[aH]at h;rw[cA,gj];rcases h with rfl|h
  ·omega
  ·have:=Qe (f:=f) h;omega
theorem Dc{α:Type}{f:Nat→Nat}{g:α→Nat}:∀(l:List α) (k:Nat),(∀i x,l[i]? =some x→f (k+i)≤g x)→((List.range' k l.length).map f).sum≤(l.map g).sum
 | [],k,_=>by simp
 |x::l,k,h=>by
  rw[aD,List.range'_succ,cA,gj,cA,gj];have h1:=h 0 x rfl;have h2:=Dc l (k+1) (fun i y hy=>by
   have:=h (i+1) y (by simpa using hy);rw[show k+1+i=k+(i+1)by omega];exact this)
  simp only[e8]at h1;omega
theorem XI{t:List Ce}{i:Nat}{c:Ce}(hc:t[i]? =some c){b:Nat}(h:∀x∈c.i,wI x≤b):wC t i≤b:=by
 unfold wC;rw[tr hc];exact wk (aJ _) (fun y hy=>by
  obtain⟨x,hx,rfl⟩:=List.mem_map.1 hy;exact h x hx)
theorem SP{t:List Ce}{g:Ce→Nat}(h:∀c∈t,∀x∈c.i,wI x≤g c):yb t≤(t.map g).sum:=by
 unfold yb;rw[List.range_eq_range'];refine Dc t 0 (fun i c hc=>?_);rw[cu];exact XI hc (h c (aN hc))
theorem KM{c:Ce}(hc:sT c){x:Im}(hx:x∈c.i):wI x≤Rw c:=by
 have h1:=KN hc.1;have h2:=Qe (f:=RW) hx;unfold Rw wI;have e:RW x=1+x.f.length+x.p.length:=rfl;omega
theorem Nr{t:Li}(h:Ft t<150):(iH t).length≤150:=by
 rw[HZ];omega
theorem Nq{t:Li}(h:Ft t<150)(hv:nk t=true):yb t.c≤145:=by
 obtain⟨h1,h2⟩:=yU.1 hv;have h3:=K9 h1;have h4:=SP (t:=t.c) (g:=Rw) (fun c hc x hx=>KM (h2 c hc) hx);unfold Ft at h;omega
section
variable{Γ:List aC}
theorem wQ(aa:Option Addr)(an ac:Nat)(ba:Option Addr)(bn bc:Nat){l:List Sh} [h1:aY (LF oB qt.x ⟨aa,an,ac⟩) l Γ] [h2:aY (LF oB qt.x ⟨ba,bn,bc⟩) l Γ]:
  aw tb Tryz.prog 14 [.slice aa an ac,.slice ba bn bc] Γ (jf (.bool true)):=by
 refine aw.of_W az Tryz.func14 rfl ?_;refine W.len oB qt.x ⟨aa,an,ac⟩ rfl (fun ha ha2 ha3=>?_);refine W.len oB qt.x ⟨ba,bn,bc⟩ rfl (fun hb _ _=>?_);simp only at ha hb ha2 ha3;refine aR [] 11 ((an:Int) != (bn:Int)) (by rw[ha,hb];simp) ?_;refine gO [11] [4,5] (fun a:Ta=>[(4,.bool false),(5,.int .i64 a.z)]) (fun _=>[]) (fun _=>[]) (fun _=>[LF oB qt.x ⟨aa,an,ac⟩ l,LF oB qt.x ⟨ba,bn,bc⟩ l]) (fun a=>a.z=a.i∧a.i≤an) (fun a=>an-a.i) ⟨0,0,.bool true,[]⟩ ⟨rfl,aJ _⟩ (eC eK (eC eK eE)) ?_;rintro⟨i,z,v,O⟩ K ⟨hz,hi⟩ close;simp only at hz hi;by_cases hl:z<(an:Int)
 ·obtain⟨⟨A,k,p⟩,hx⟩:∃x,l[i]? =some x:=⟨_,ak (by omega)⟩;refine My oB qt.x ⟨aa,an,ac⟩ hx (by kernel_rfl) (by decide) (fun xz xR e ha4 he=>?_);obtain⟨⟨pa,pn,pc⟩,e⟩:=e;obtain rfl:e=⟨A,k,p⟩:=he;simp only at ha4;subst ha4;refine My oB qt.x ⟨ba,bn,bc⟩ hx (by kernel_rfl) (by decide) (fun yo D3 e hb4 he=>?_);obtain⟨⟨qa,qn,qc⟩,e⟩:=e;obtain rfl:e=⟨A,k,p⟩:=he;simp only at hb4;subst hb4;refine W.more (Δ:=[zb ⟨pa,pn,pc⟩ p,zb ⟨qa,qn,qc⟩ p,RA (some ⟨xz,xR+i*3,none⟩) [.int .i64 A,.int .i64 k,.slice pa pn pc],RA (some ⟨yo,D3+i*3,none⟩) [.int .i64 A,.int .i64 k,.slice qa qn qc]]) rfl (fun I w _ hh=>aE.cons (hh _ (.tail _ (.tail _ (.head _)))) (aE.cons (hh _ (.head _)) (aE.cons (hh _ (.tail _ (.tail _ (.tail _ (.head _))))) (aU (hh _ (.tail _ (.head _))))))) ?_;refine I7 ⟨pa,pn,pc⟩ rfl (fun hp yC hp4=>?_);refine I7 ⟨qa,qn,qc⟩ rfl (fun hq _ hq4=>?_);simp only at hp hq yC hp4 hq4;refine bk [] 15 (decide (z<(an:Int))) (ar hl) ?_;refine bY [15] 3 xz xR an ac .i64 i z hz az (by omega) ?_;refine bW [] 0 xz (xR+i*3) az ?_;refine dB [] 1 xz (xR+i*3+0) (.int .i64 A) az (fun I w hd hh=>cB xz (xR+i*3) I w hd hh 0 _ rfl) ?_;refine bY [] 3 yo D3 bn bc .i64 i z hz az (by omega) ?_;refine bW [] 0 yo (D3+i*3) az ?_;refine dB [] 1 yo (D3+i*3+0) (.int .i64 A) az (fun I w hd hh=>cB yo (D3+i*3) I w hd hh 0 _ rfl) ?_
  refine aR [] 29 (A != A) (by simp) ?_;refine bY [29] 3 xz xR an ac .i64 i z hz az (by omega) ?_;refine bW [29] 1 xz (xR+i*3) az ?_;refine dB [29] 1 xz (xR+i*3+1) (.int .i64 k) az (fun I w hd hh=>cB xz (xR+i*3) I w hd hh 1 _ rfl) ?_;refine bY [29] 3 yo D3 bn bc .i64 i z hz az (by omega) ?_;refine bW [29] 1 yo (D3+i*3) az ?_;refine dB [29] 1 yo (D3+i*3+1) (.int .i64 k) az (fun I w hd hh=>cB yo (D3+i*3) I w hd hh 1 _ rfl) ?_;refine aR [29] 42 (k != k) (by simp) ?_;refine bY [42] 3 xz xR an ac .i64 i z hz az (by omega) ?_;refine bW [42] 2 xz (xR+i*3) az ?_;refine dB [42] 1 xz (xR+i*3+2) (.slice pa pn pc) az (fun I w hd hh=>cB xz (xR+i*3) I w hd hh 2 _ rfl) ?_;refine bY [42] 3 yo D3 bn bc .i64 i z hz az (by omega) ?_;refine bW [42] 2 yo (D3+i*3) az ?_;refine dB [42] 1 yo (D3+i*3+2) (.slice qa qn qc) az (fun I w hd hh=>cB yo (D3+i*3) I w hd hh 2 _ rfl) ?_;refine aR [42] 56 ((pn:Int) != (qn:Int)) (by rw[hp,hq];simp) ?_;refine gO [56] [4,6] (fun a:Ta=>[(4,.bool false),(6,.int .i64 a.z)]) (fun _=>[]) (fun _=>[]) (fun _=>[LF oB qt.x ⟨some ⟨xz,xR,none⟩,an,ac⟩ l,LF oB qt.x ⟨some ⟨yo,D3,none⟩,bn,bc⟩ l,zb ⟨pa,pn,pc⟩ p,zb ⟨qa,qn,qc⟩ p,RA (some ⟨xz,xR+i*3,none⟩) [.int .i64 A,.int .i64 k,.slice pa pn pc],RA (some ⟨yo,D3+i*3,none⟩) [.int .i64 A,.int .i64 k,.slice qa qn qc]]) (fun a=>a.z=a.i∧a.i≤pn) (fun a=>pn-a.i) ⟨0,0,.bool true,[]⟩ ⟨rfl,aJ _⟩ (eC eK (eC eK (eC eK (eC eK (eC eK (eC eK eE)))))) ?_
  rintro⟨j,zj,v2,O2⟩ K2 ⟨Yi,hj⟩ iu;simp only at Yi hj;by_cases hlj:zj<(pn:Int)
  ·obtain⟨d,hd⟩:∃d,p[j]? =some d:=⟨_,ak (by omega)⟩;obtain⟨pb,po,Z1⟩:=hp4 (by rintro rfl;simp at hd);obtain⟨qb,qo,QN⟩:=hq4 (by rintro rfl;simp at hd);subst Z1 QN;refine W.more (Δ:=[RA (some ⟨pb,po,none⟩) (p.flatMap dY),RA (some ⟨qb,qo,none⟩) (p.flatMap dY)]) rfl (fun I w _ hh=>aE.cons (aY.p (k:=zb ⟨some ⟨pb,po,none⟩,pn,pc⟩) (a:=p) inferInstance hh).2.2 (aU (aY.p (k:=zb ⟨some ⟨qb,qo,none⟩,qn,qc⟩) (a:=p) inferInstance hh).2.2)) ?_;refine bY [] 3 xz xR an ac .i64 i z hz az (by omega) ?_;refine bW [] 2 xz (xR+i*3) az ?_;refine dB [] 1 xz (xR+i*3+2) (.slice (some ⟨pb,po,none⟩) pn pc) az (fun I w hd hh=>cB xz (xR+i*3) I w hd hh 2 _ rfl) ?_;refine bk [] 64 (decide (zj<(pn:Int))) (ar hlj) ?_;refine bY [64] 3 xz xR an ac .i64 i z hz az (by omega) ?_;refine bW [] 2 xz (xR+i*3) az ?_;refine dB [] 1 xz (xR+i*3+2) (.slice (some ⟨pb,po,none⟩) pn pc) az (fun I w hd hh=>cB xz (xR+i*3) I w hd hh 2 _ rfl) ?_;refine bY [] 2 pb po pn pc .i64 j zj Yi az (by omega) ?_;refine cY [] pb (po+j*2) (dY d) az (ed pb po (j*2) (eu hd)) ?_;refine bY [] 3 yo D3 bn bc .i64 i z hz az (by omega) ?_;refine bW [] 2 yo (D3+i*3) az ?_;refine dB [] 1 yo (D3+i*3+2) (.slice (some ⟨qb,qo,none⟩) qn qc) az (fun I w hd hh=>cB yo (D3+i*3) I w hd hh 2 _ rfl) ?_;refine bY [] 2 qb qo qn qc .i64 j zj Yi az (by omega) ?_
   refine cY [] qb (qo+j*2) (dY d) az (ed qb qo (j*2) (eu hd)) ?_;refine MA [] 58 d d ?_;refine aR [] 83 (!decide (d=d)) (by simp) ?_;exact iu [83] _ _ ⟨j+1,IntKind.i64.wrap (zj+1),.bool true,[]⟩ (by kernel_rfl) (by kernel_rfl) ⟨by simp only[af];omega,by simp only;omega⟩ (by simp only;omega) (eC eK (eC eK (eC eK (eC eK (eC eK (eC eK eE))))))
  ·refine bY [] 3 xz xR an ac .i64 i z hz az (by omega) ?_;refine bW [] 2 xz (xR+i*3) az ?_;refine dB [] 1 xz (xR+i*3+2) (.slice pa pn pc) az (fun I w hd hh=>cB xz (xR+i*3) I w hd hh 2 _ rfl) ?_;refine aR [] 64 (decide (zj<(pn:Int))) (ai hlj) ?_;exact close [64] _ _ ⟨i+1,IntKind.i64.wrap (z+1),.bool true,[]⟩ (by kernel_rfl) (by kernel_rfl) ⟨by simp only[af];omega,by simp only;omega⟩ (by simp only;omega) (eC eK (eC eK eE))
 ·refine aR [] 15 (decide (z<(an:Int))) (ai hl) ?_;exact W.r [15] (.bool true) ⟨rfl,rfl⟩ bR
end
theorem MO{b:Nat}{l:List Int}{I:fN}{w:World}(hl:l.length≤1000)(hb:kJ l)(h:(d_ b (l.map (Value.int .u8))).p I w):(BF ⟨some ⟨b,0,none⟩,l.length,l.length⟩ l).p I w:=
 ⟨rfl,⟨aj _,by simp only;unfold maxLen;omega⟩,hb,RA.of_row h fun _ _ hv=>hv⟩
theorem uk{b:Nat}(es:List ph){I:fN}{w:World}(hm:es.length≤1000)(h:(d_ b (es.flatMap pX.cells)).p I w)(hf:∀e∈es,(mK e.f e.p e.x).p I w):(qy ⟨some ⟨b,0,none⟩,es.length,es.length⟩ (es.map ph.x)).p I w:=
 ⟨es,rfl,(bT ..).symm,⟨aj _,by simp only;unfold maxLen;omega⟩,fun e he=>hf e he,RA.of_row h fun _ _ hv=>hv⟩
theorem DE{b:Nat}(es:List pd){I:fN}{w:World}(hm:es.length≤1000)(h:(d_ b (es.flatMap lF.cells)).p I w)(hf:∀e∈es,(za e.h e.i e.x).p I w):(lC ⟨some ⟨b,0,none⟩,es.length,es.length⟩ (es.map pd.x)).p I w:=
 ⟨es,rfl,(bT ..).symm,⟨aj _,by simp only;unfold maxLen;omega⟩,fun e he=>hf e he,RA.of_row h fun _ _ hv=>hv⟩
theorem Ex{b:Nat}(es:List qt){I:fN}{w:World}(hm:es.length≤1000)(h:(d_ b (es.flatMap oB.cells)).p I w)(hf:∀e∈es,(zb e.s e.x.p).p I w):(LF oB qt.x ⟨some ⟨b,0,none⟩,es.length,es.length⟩ (es.map qt.x)).p I w:=
 ⟨es,rfl,(bT ..).symm,⟨aj _,by simp only;unfold maxLen;omega⟩,fun e he=>hf e he,RA.of_row h fun _ _ hv=>hv⟩
theorem Em{b:Nat}{l:List Dp}{I:fN}{w:World}(hl:l.length≤1000)(h:(d_ b (l.flatMap dY)).p I w):(zb ⟨some ⟨b,0,none⟩,l.length,l.length⟩ l).p I w:=
 ⟨rfl,⟨aj _,by simp only;unfold maxLen;omega⟩,RA.of_row h fun _ _ hv=>hv⟩
theorem Fh{l:List Int}(h:l.all (fun z=>decide (0≤z)&&decide (z<256))=true):kJ l:=fun z hz=>by
 have:=List.all_eq_true.1 h z hz;simpa using this
theorem oh:(iH kj).length≤100000:=by decide
theorem mB:yb kj.c≤160:=by decide+kernel
def kG:List Dp:=[⟨0,0⟩,⟨10,0⟩,⟨10,10⟩,⟨0,10⟩]
def xK:List Ce:=[oG Mc [ir 1 0 kG],oG yJ [jI]]
section
variable{Γ:List aC}
theorem uq:aw tb Tryz.prog 9 [] Γ (jf (.bool true)):=by
 refine aw.of_W az Tryz.func9 rfl ?_;refine cQ [] 4 (kG.flatMap dY) az (fun b1=>?_);refine gX [] (Γ':=[RA (some ⟨b1,0,none⟩) (kG.flatMap dY)]) (fun I w _ hh=>aU (RA.of_row hh.h0' fun _ _ hv=>hv)) (OZ 1 0 (some ⟨b1,0,none⟩) 4 4 (ps:=kG) rfl (by decide)) ?_;rintro _ _ ⟨u2,rfl,rfl⟩;refine aq [] (jF 10 0 ⟨none,0,0⟩) ?_;rintro _ _ ⟨rfl,rfl⟩;refine aq [] (GC Mc (by decide)) ?_;rintro _ _ ⟨u4,rfl,rfl⟩;refine aq [] (jF 18 6 u4) ?_;rintro _ _ ⟨rfl,rfl⟩;refine cQ [] 2 [.int .u8 0,.int .u8 0] az (fun b6=>?_);refine aq [] (jF 26 1 ⟨some ⟨b6,0,none⟩,2,2⟩) ?_;rintro _ _ ⟨rfl,rfl⟩;refine cQ [] 8 [.int .u8 66,.int .u8 90,.int .u8 0,.int .u8 0,.int .u8 0,.int .u8 0,.int .u8 0,.int .u8 0] az (fun b8=>?_);refine aq [] (jF 28 5 ⟨some ⟨b8,0,none⟩,8,8⟩) ?_;rintro _ _ ⟨rfl,rfl⟩;refine cQ [] 2 [.int .i64 100,.int .i64 0] az (fun y6=>?_);refine gX [] (Γ':=[NL ⟨some ⟨y6,0,none⟩,2,2⟩ [100,0]]) (fun I w _ hh=>aU (AX (l:=[100,0]) (by decide) hh.h0')) (xT ⟨some ⟨y6,0,none⟩,2,2⟩ (l:=[100,0]) (by decide)) ?_;rintro _ _ ⟨u11,rfl,rfl⟩;refine aq [] (jF 16 3 u11) ?_;rintro _ _ ⟨rfl,rfl⟩;refine cQ [] 5 [.int .u8 10,.int .u8 0,.slice none 0 0,.int .u8 18,.int .u8 6,a_ u4,.int .u8 26,.int .u8 1,.slice (some ⟨b6,0,none⟩) 2 2,.int .u8 28,.int .u8 5,.slice (some ⟨b8,0,none⟩) 8 8,.int .u8 16,.int .u8 3,a_ u11] az (fun Ch=>?_)
 have FM:∀{Γ':List aC} [aY (BF u4) (pU Mc) Γ'] [aY (d_ b6) [.int .u8 0,.int .u8 0] Γ'] [aY (d_ b8) [.int .u8 66,.int .u8 90,.int .u8 0,.int .u8 0,.int .u8 0,.int .u8 0,.int .u8 0,.int .u8 0] Γ'] [aY (BF u11) ([100,0].flatMap lB) Γ']
   [aY (d_ Ch) [.int .u8 10,.int .u8 0,.slice none 0 0,.int .u8 18,.int .u8 6,a_ u4,.int .u8 26,.int .u8 1,.slice (some ⟨b6,0,none⟩) 2 2,.int .u8 28,.int .u8 5,.slice (some ⟨b8,0,none⟩) 8 8,.int .u8 16,.int .u8 3,a_ u11] Γ'] {I:fN} {w:World},
   aE Γ' I w→(mK ⟨some ⟨Ch,0,none⟩,5,5⟩ ⟨none,0,0⟩ jI).p I w:=fun{Γ'} _ _ _ _ _ {I w} hh=>
  ⟨xc [⟨⟨none,0,0⟩,⟨10,0,[]⟩⟩,⟨u4,⟨18,6,pU Mc⟩⟩,⟨⟨some ⟨b6,0,none⟩,2,2⟩,⟨26,1,[0,0]⟩⟩,⟨⟨some ⟨b8,0,none⟩,8,8⟩,⟨28,5,[66,90,0,0,0,0,0,0]⟩⟩,⟨u11,⟨16,3,[100,0].flatMap lB⟩⟩] (by simp) (aY.p (k:=d_ Ch) inferInstance hh) (fun e he=>by
   simp only[aH,aI,bU]at he;rcases he with rfl|rfl|rfl|rfl|rfl
   ·exact jG (by decide) (by decide) (sQ _ _ _)
   ·exact jG (by decide) (by decide) (aY.p (k:=BF u4) inferInstance hh)
   ·exact jG (by decide) (by decide) (MO (l:=[0,0]) (by decide) (Fh rfl) (aY.p (k:=d_ b6) inferInstance hh))
   ·exact jG (by decide) (by decide) (MO (l:=[66,90,0,0,0,0,0,0]) (by decide) (Fh rfl) (aY.p (k:=d_ b8) inferInstance hh))
   ·exact jG (by decide) (by decide) (aY.p (k:=BF u11) inferInstance hh)),Ew _ _⟩
 refine Rh [] [0,3,8,1,2,4,5,6,7,9] [0,3,8,1,4,2,5,6,7,9] [0,3,8,4,1,2,5,6,7,9] ?_ ?_ ?_
 ·refine cQ [] 1 [a_ u2,.slice none 0 0] az (fun xo=>?_);refine gX [] (Γ':=[qy ⟨some ⟨xo,0,none⟩,1,1⟩ [ir 1 0 kG]]) (fun I w _ hh=>aU (uk [⟨u2,⟨none,0,0⟩,ir 1 0 kG⟩] (by simp) (aY.p (k:=d_ xo) inferInstance hh) (fun e he=>by
   simp only[aH,aI,bU]at he;subst he;exact aY.p (k:=mK u2 ⟨none,0,0⟩) inferInstance hh))) (qN Mc ⟨some ⟨xo,0,none⟩,1,1⟩ (l:=[ir 1 0 kG]) (by decide)) ?_
  rintro _ _ ⟨Qm,rfl,rfl⟩;refine cQ [] 1 [.slice (some ⟨Ch,0,none⟩) 5 5,.slice none 0 0] az (fun zc=>?_);refine gX [] (Γ':=[qy ⟨some ⟨zc,0,none⟩,1,1⟩ [jI]]) (fun I w _ hh=>aU (uk [⟨⟨some ⟨Ch,0,none⟩,5,5⟩,⟨none,0,0⟩,jI⟩] (by simp) (aY.p (k:=d_ zc) inferInstance hh) (fun e he=>by
   simp only[aH,aI,bU]at he;subst he;exact FM hh))) (qN yJ ⟨some ⟨zc,0,none⟩,1,1⟩ (l:=[jI]) (by decide)) ?_
  rintro _ _ ⟨u32,rfl,rfl⟩;refine cQ [] 2 [a_ Qm,.slice (some ⟨xo,0,none⟩) 1 1,a_ u32,.slice (some ⟨zc,0,none⟩) 1 1] az (fun Dw=>?_);refine gX [] (Γ':=[lC ⟨some ⟨Dw,0,none⟩,2,2⟩ xK]) (fun I w _ hh=>aU (DE [⟨Qm,⟨some ⟨xo,0,none⟩,1,1⟩,oG Mc [ir 1 0 kG]⟩,⟨u32,⟨some ⟨zc,0,none⟩,1,1⟩,oG yJ [jI]⟩] (by simp) (aY.p (k:=d_ Dw) inferInstance hh) (fun e he=>by
   simp only[aH,aI,bU]at he;rcases he with rfl|rfl
   ·exact aY.p (k:=za Qm ⟨some ⟨xo,0,none⟩,1,1⟩) inferInstance hh
   ·exact aY.p (k:=za u32 ⟨some ⟨zc,0,none⟩,1,1⟩) inferInstance hh))) (Ea ⟨some ⟨Dw,0,none⟩,2,2⟩ (cs:=xK)) ?_
  rintro _ _ ⟨UA,rfl,rfl⟩;refine aq [] (lR UA ⟨some ⟨Dw,0,none⟩,2,2⟩ 1 (t:=kj) oh (fun _=>mB)) ?_;rintro _ _ hp;rw[mC 1 (by decide) (by decide),if_neg (by decide)]at hp;rcases hp with⟨e,he,_⟩|⟨l,s,he,rfl,rfl⟩
  ·simp at he
  injection he with he;subst he;refine aq [] (lR UA ⟨some ⟨Dw,0,none⟩,2,2⟩ 0 (t:=kj) oh (fun _=>mB)) ?_;rintro _ _ hp;rw[mC 0 (by decide) (by decide),if_pos (by decide)]at hp;rcases hp with⟨e,he,rfl,rfl⟩|⟨l,s,he,_⟩
  rotate_left
  ·simp at he
  injection he with he;subst he;refine cQ [] 4 (ki.flatMap dY) az (fun KE=>?_);refine cQ [] 1 [.int .i64 1,.int .i64 0,.slice (some ⟨KE,0,none⟩) 4 4] az (fun KG=>?_);obtain⟨sa,sn,sc⟩:=s;refine bk [] 53 ((0:Int)==0) rfl ?_;refine gX [53,54] (Γ':=[LF oB qt.x ⟨some ⟨KG,0,none⟩,1,1⟩ [⟨1,0,ki⟩]]) (fun I w _ hh=>aU (Ex [⟨⟨some ⟨KE,0,none⟩,4,4⟩,⟨1,0,ki⟩⟩] (by simp) (aY.p (k:=d_ KG) inferInstance hh) (fun e he=>by
   simp only[aH,aI,bU]at he;subst he;exact Em (l:=ki) (by decide) (aY.p (k:=d_ KE) inferInstance hh)))) (wQ sa sn sc (some ⟨KG,0,none⟩) 1 1 (l:=[⟨1,0,ki⟩])) ?_
  rintro _ _ ⟨rfl,rfl⟩;exact W.r [54,59] (.bool true) ⟨rfl,rfl⟩ bR
 ·refine cQ [] 1 [a_ u2,.slice none 0 0] az (fun xo=>?_);refine cQ [] 1 [.slice (some ⟨Ch,0,none⟩) 5 5,.slice none 0 0] az (fun zc=>?_);refine gX [] (Γ':=[qy ⟨some ⟨xo,0,none⟩,1,1⟩ [ir 1 0 kG]]) (fun I w _ hh=>aU (uk [⟨u2,⟨none,0,0⟩,ir 1 0 kG⟩] (by simp) (aY.p (k:=d_ xo) inferInstance hh) (fun e he=>by
   simp only[aH,aI,bU]at he;subst he;exact aY.p (k:=mK u2 ⟨none,0,0⟩) inferInstance hh))) (qN Mc ⟨some ⟨xo,0,none⟩,1,1⟩ (l:=[ir 1 0 kG]) (by decide)) ?_
  rintro _ _ ⟨Qm,rfl,rfl⟩;refine gX [] (Γ':=[qy ⟨some ⟨zc,0,none⟩,1,1⟩ [jI]]) (fun I w _ hh=>aU (uk [⟨⟨some ⟨Ch,0,none⟩,5,5⟩,⟨none,0,0⟩,jI⟩] (by simp) (aY.p (k:=d_ zc) inferInstance hh) (fun e he=>by
   simp only[aH,aI,bU]at he;subst he;exact FM hh))) (qN yJ ⟨some ⟨zc,0,none⟩,1,1⟩ (l:=[jI]) (by decide)) ?_
  rintro _ _ ⟨u32,rfl,rfl⟩;refine cQ [] 2 [a_ Qm,.slice (some ⟨xo,0,none⟩) 1 1,a_ u32,.slice (some ⟨zc,0,none⟩) 1 1] az (fun Dw=>?_);refine gX [] (Γ':=[lC ⟨some ⟨Dw,0,none⟩,2,2⟩ xK]) (fun I w _ hh=>aU (DE [⟨Qm,⟨some ⟨xo,0,none⟩,1,1⟩,oG Mc [ir 1 0 kG]⟩,⟨u32,⟨some ⟨zc,0,none⟩,1,1⟩,oG yJ [jI]⟩] (by simp) (aY.p (k:=d_ Dw) inferInstance hh) (fun e he=>by
   simp only[aH,aI,bU]at he;rcases he with rfl|rfl
   ·exact aY.p (k:=za Qm ⟨some ⟨xo,0,none⟩,1,1⟩) inferInstance hh
   ·exact aY.p (k:=za u32 ⟨some ⟨zc,0,none⟩,1,1⟩) inferInstance hh))) (Ea ⟨some ⟨Dw,0,none⟩,2,2⟩ (cs:=xK)) ?_
  rintro _ _ ⟨UA,rfl,rfl⟩;refine aq [] (lR UA ⟨some ⟨Dw,0,none⟩,2,2⟩ 1 (t:=kj) oh (fun _=>mB)) ?_;rintro _ _ hp;rw[mC 1 (by decide) (by decide),if_neg (by decide)]at hp;rcases hp with⟨e,he,_⟩|⟨l,s,he,rfl,rfl⟩
  ·simp at he
  injection he with he;subst he;refine aq [] (lR UA ⟨some ⟨Dw,0,none⟩,2,2⟩ 0 (t:=kj) oh (fun _=>mB)) ?_;rintro _ _ hp;rw[mC 0 (by decide) (by decide),if_pos (by decide)]at hp;rcases hp with⟨e,he,rfl,rfl⟩|⟨l,s,he,_⟩
  rotate_left
  ·simp at he
  injection he with he;subst he;refine cQ [] 4 (ki.flatMap dY) az (fun KE=>?_);refine cQ [] 1 [.int .i64 1,.int .i64 0,.slice (some ⟨KE,0,none⟩) 4 4] az (fun KG=>?_);obtain⟨sa,sn,sc⟩:=s;refine bk [] 53 ((0:Int)==0) rfl ?_;refine gX [53,54] (Γ':=[LF oB qt.x ⟨some ⟨KG,0,none⟩,1,1⟩ [⟨1,0,ki⟩]]) (fun I w _ hh=>aU (Ex [⟨⟨some ⟨KE,0,none⟩,4,4⟩,⟨1,0,ki⟩⟩] (by simp) (aY.p (k:=d_ KG) inferInstance hh) (fun e he=>by
   simp only[aH,aI,bU]at he;subst he;exact Em (l:=ki) (by decide) (aY.p (k:=d_ KE) inferInstance hh)))) (wQ sa sn sc (some ⟨KG,0,none⟩) 1 1 (l:=[⟨1,0,ki⟩])) ?_
  rintro _ _ ⟨rfl,rfl⟩;exact W.r [54,59] (.bool true) ⟨rfl,rfl⟩ bR
 ·refine cQ [] 1 [.slice (some ⟨Ch,0,none⟩) 5 5,.slice none 0 0] az (fun zc=>?_);refine cQ [] 1 [a_ u2,.slice none 0 0] az (fun xo=>?_);refine gX [] (Γ':=[qy ⟨some ⟨xo,0,none⟩,1,1⟩ [ir 1 0 kG]]) (fun I w _ hh=>aU (uk [⟨u2,⟨none,0,0⟩,ir 1 0 kG⟩] (by simp) (aY.p (k:=d_ xo) inferInstance hh) (fun e he=>by
   simp only[aH,aI,bU]at he;subst he;exact aY.p (k:=mK u2 ⟨none,0,0⟩) inferInstance hh))) (qN Mc ⟨some ⟨xo,0,none⟩,1,1⟩ (l:=[ir 1 0 kG]) (by decide)) ?_
  rintro _ _ ⟨Qm,rfl,rfl⟩;refine gX [] (Γ':=[qy ⟨some ⟨zc,0,none⟩,1,1⟩ [jI]]) (fun I w _ hh=>aU (uk [⟨⟨some ⟨Ch,0,none⟩,5,5⟩,⟨none,0,0⟩,jI⟩] (by simp) (aY.p (k:=d_ zc) inferInstance hh) (fun e he=>by
   simp only[aH,aI,bU]at he;subst he;exact FM hh))) (qN yJ ⟨some ⟨zc,0,none⟩,1,1⟩ (l:=[jI]) (by decide)) ?_
  rintro _ _ ⟨u32,rfl,rfl⟩;refine cQ [] 2 [a_ Qm,.slice (some ⟨xo,0,none⟩) 1 1,a_ u32,.slice (some ⟨zc,0,none⟩) 1 1] az (fun Dw=>?_);refine gX [] (Γ':=[lC ⟨some ⟨Dw,0,none⟩,2,2⟩ xK]) (fun I w _ hh=>aU (DE [⟨Qm,⟨some ⟨xo,0,none⟩,1,1⟩,oG Mc [ir 1 0 kG]⟩,⟨u32,⟨some ⟨zc,0,none⟩,1,1⟩,oG yJ [jI]⟩] (by simp) (aY.p (k:=d_ Dw) inferInstance hh) (fun e he=>by
   simp only[aH,aI,bU]at he;rcases he with rfl|rfl
   ·exact aY.p (k:=za Qm ⟨some ⟨xo,0,none⟩,1,1⟩) inferInstance hh
   ·exact aY.p (k:=za u32 ⟨some ⟨zc,0,none⟩,1,1⟩) inferInstance hh))) (Ea ⟨some ⟨Dw,0,none⟩,2,2⟩ (cs:=xK)) ?_
  rintro _ _ ⟨UA,rfl,rfl⟩;refine aq [] (lR UA ⟨some ⟨Dw,0,none⟩,2,2⟩ 1 (t:=kj) oh (fun _=>mB)) ?_;rintro _ _ hp;rw[mC 1 (by decide) (by decide),if_neg (by decide)]at hp;rcases hp with⟨e,he,_⟩|⟨l,s,he,rfl,rfl⟩
  ·simp at he
  injection he with he;subst he;refine aq [] (lR UA ⟨some ⟨Dw,0,none⟩,2,2⟩ 0 (t:=kj) oh (fun _=>mB)) ?_;rintro _ _ hp;rw[mC 0 (by decide) (by decide),if_pos (by decide)]at hp;rcases hp with⟨e,he,rfl,rfl⟩|⟨l,s,he,_⟩
  rotate_left
  ·simp at he
  injection he with he;subst he;refine cQ [] 4 (ki.flatMap dY) az (fun KE=>?_);refine cQ [] 1 [.int .i64 1,.int .i64 0,.slice (some ⟨KE,0,none⟩) 4 4] az (fun KG=>?_);obtain⟨sa,sn,sc⟩:=s;refine bk [] 53 ((0:Int)==0) rfl ?_;refine gX [53,54] (Γ':=[LF oB qt.x ⟨some ⟨KG,0,none⟩,1,1⟩ [⟨1,0,ki⟩]]) (fun I w _ hh=>aU (Ex [⟨⟨some ⟨KE,0,none⟩,4,4⟩,⟨1,0,ki⟩⟩] (by simp) (aY.p (k:=d_ KG) inferInstance hh) (fun e he=>by
   simp only[aH,aI,bU]at he;subst he;exact Em (l:=ki) (by decide) (aY.p (k:=d_ KE) inferInstance hh)))) (wQ sa sn sc (some ⟨KG,0,none⟩) 1 1 (l:=[⟨1,0,ki⟩])) ?_
  rintro _ _ ⟨rfl,rfl⟩;exact W.r [54,59] (.bool true) ⟨rfl,rfl⟩ bR
end
theorem KV{t:Li}{n e:Int}(h:pI t n=.error e):e≠0:=by
 unfold pI at h;split at h
 ·injection h with h;omega
 ·split at h
  ·injection h with h;omega
  ·exact Cy h
section
variable{Γ:List aC}
theorem D9(ha:Option Addr)(hn hc:Nat)(ca:Option Addr)(cn cc:Nat){t:Li} [hF:aY (B8 ⟨ha,hn,hc⟩ ⟨ca,cn,cc⟩) t Γ](hb:∀x∈t.c,x.h.length≤1152921504606846976):
  aw tb Tryz.prog 4 [lO ⟨ha,hn,hc⟩ ⟨ca,cn,cc⟩] Γ (jf (.bool true)):=by
 refine aw.of_W az Tryz.func4 rfl ?_;refine aq [] (So ha hn hc ca cn cc (t:=t) hb) ?_;rintro _ _ ⟨g,rfl,rfl,hg⟩;cases g with
 |false=>
  refine bk [] 11 (!false) rfl ?_;refine aq [11] uq ?_;rintro _ _ ⟨rfl,rfl⟩;exact W.r [] (.bool true) ⟨rfl,rfl⟩ bR
 |true=>
 have RO:=hg rfl;have Ya:(iH t).length≤100000:=aP (Nr RO) (by decide);have hco:nk t=true→yb t.c≤160:=fun hv=>aP (Nq RO hv) (by decide);refine aR [] 11 (!true) rfl ?_;refine aq [11] (lR ⟨ha,hn,hc⟩ ⟨ca,cn,cc⟩ 200 (t:=t) Ya hco) ?_;rintro _ _ hp;rcases hp with⟨e,he,rfl,rfl⟩|⟨l,s,hl,rfl,rfl⟩
 ·refine aq [] uq ?_;rintro _ _ ⟨rfl,rfl⟩;refine bk [20] 23 (e != 0) (by simpa using KV he) ?_;refine aq [23] uq ?_;rintro _ _ ⟨rfl,rfl⟩;exact W.r [] (.bool true) ⟨rfl,rfl⟩ bR
 obtain⟨sa,sn,sc⟩:=s;have hlen:=KW hl;refine aq [] uq ?_;rintro _ _ ⟨rfl,rfl⟩;refine aR [20] 23 ((0:Int) != 0) (by decide) ?_;refine W.code 999 ?_;refine W.len oB qt.x ⟨sa,sn,sc⟩ (by kernel_rfl) (fun hs _ _=>?_);simp only at hs;subst hs;refine aq [23] (lR ⟨ha,hn,hc⟩ ⟨ca,cn,cc⟩ (l.length:Int) (t:=t) Ya hco) ?_;rintro _ _ hp;rw[Cx hl (by omega) (by omega),if_neg (by omega)]at hp;rcases hp with⟨e,he,_⟩|⟨l2,s2,he,rfl,rfl⟩
 ·simp at he
 injection he with he;subst he;obtain⟨ta,tn,tc⟩:=s2;refine aR [] 34 ((0:Int) != 0) (by decide) ?_;refine aq [34] (wQ sa l.length sc ta tn tc (l:=l)) ?_;rintro _ _ ⟨rfl,rfl⟩;refine aR [34] 39 (!true) rfl ?_;by_cases h0:l.length=0
 ·refine bk [39] 42 ((l.length:Int)==0) (by simp[h0]) ?_;exact W.r [42] (.bool true) ⟨rfl,rfl⟩ bR
 ·refine aR [39] 42 ((l.length:Int)==0) (by rw[eL];omega) ?_;have hm:IntKind.i64.wrap ((l.length:Int)-1)=(l.length:Int)-1:=by rw[af];omega
  refine aq [42] (lR ⟨ha,hn,hc⟩ ⟨ca,cn,cc⟩ (IntKind.i64.wrap ((l.length:Int)-1)) (t:=t) Ya hco) ?_;rintro _ _ hp;rw[hm,Cx hl (by omega) (by omega),if_pos (by omega)]at hp;rcases hp with⟨e,he,rfl,rfl⟩|⟨l3,s3,he,_⟩
  rotate_left
  ·simp at he
  injection he with he;subst he;refine bk [] 53 ((27:Int)==27) rfl ?_;exact W.r [53] (.bool (((0:Nat):Int)==0)) ⟨rfl,rfl⟩ bR
end
open Go.RowKit Go.ChangeShapes Go.WideShapes
section
variable{H:Type}{enc:TypeId×Value→H}{P:Program}{w:World}
theorem yV{e:TypeId}{d:DataW H}:∀{l:List (DataW H)},d∈l→∀x∈d.weights P e,x∈DataW.weightsAll P e l
 |y::l,hd,x,hx=>by
  rw[DataW.weightsAll,dU];simp only[aH]at hd;rcases hd with rfl|hd
  ·exact .inl hx
  ·exact .inr (yV hd x hx)
theorem LQ{t e:TypeId}(ht:P.underlying t=some (.slice e))(he:0<P.bytesOf e){s:Sl}{n:Nat}{y:DataW H×List MemPlace}(h:DataW.trod enc P w 0 (fun _=>true) true n t [a_ s]=some y)(hw:∀x∈y.1.weights P t,x≤reachBytes):s.n≤reachBytes:=by
 rcases Go.Deep.open_slice ht h with⟨hcs,_⟩|⟨a,len,cap,m,n',D,Pl,hcs,_,hl,hml,hm,rfl,hx⟩
 ·simp only[sJ,kt,and_true]at hcs;rw[hcs.2.1];exact aJ _
 ·simp only[sJ,kt,and_true]at hcs;have:=hw ((((List.range len).map D).length+((List.range (m-len)).map fun j=>D (len+j)).length)*P.bytesOf e) (by
   simp only[DataW.weights,ht];exact oA)
  rw[hcs.2.1];have h2:len*1≤(((List.range len).map D).length+((List.range (m-len)).map fun j=>D (len+j)).length)*P.bytesOf e:=aW (by simp) he;omega
theorem zQ.cells_b{tb':TypeId}(L:zQ P tb')(NZ:0<P.bytesOf L.re){s:Sl}{l:List Ce}{n:Nat}{y:DataW H×List MemPlace}(h:DataW.trod enc P w 0 (fun _=>true) true n L.ces [a_ s]=some y)(hw:∀x∈y.1.weights P L.ces,x≤reachBytes)
  (hc:(lC s l).p uU w):∀x∈l,x.h.length≤reachBytes:=by
 obtain⟨es,rfl,hn,hcap,hf,NY⟩:=hc;intro x hx;obtain⟨e,he,rfl⟩:=List.mem_map.1 hx;obtain⟨i,hi,hie⟩:=List.getElem_of_mem he;rw[bT]at hn;have hcl:∀j v,(lF.cells e)[j]? =some v→(es.flatMap lF.cells)[i*lF.z+j]? =some v:=fun j v hv=>Eu lF hi j v (by rw[hie];exact hv);have h0:=hcl 0 (a_ e.h) rfl;obtain⟨b,off,ha,_,hcell⟩:=NY (fun e0=>by
  have:es.flatMap lF.cells=[]:=e0;rw[this]at h0;simp at h0)
 have hc0:=hcell _ _ h0;have hee:=hf e he;obtain⟨e1,e2⟩:=hee;obtain⟨er,Hf,agt,_⟩:=e1;rcases Go.Deep.open_slice_pairs L.hcs.1 L.hc.1 L.hc.2 L.hc0.2 L.hc1.2 (by rw[L.hc0.1];exact L.hrs.2) (by rw[L.hc1.1];exact L.his.2) h with⟨hcs,_⟩|⟨a,len,cap,m,n',V0,V1,D0,D1,P0,P1,hcs,_,hl,hml,hm,rfl,each⟩
 ·simp only[sJ,kt,and_true]at hcs;rw[hcs.1]at ha;simp at ha
 ·simp only[sJ,kt,and_true]at hcs;obtain⟨ha2,hn2,hc2⟩:=hcs;have hil:i<len:=by omega
  obtain⟨g1,_,g3,_⟩:=each i (by
   rw[hm];simp only[eX];omega)
  rw[ha]at ha2;injection ha2 with ha2;subst ha2;have hV:V0 i=a_ e.h:=by
   have e4:(⟨b,off,none⟩:Addr).add (i*2)=⟨b,off+(i*lF.z+0),none⟩:=by
    unfold Addr.add;split
    ·rename_i h5;have:i=0:=by omega
     subst this;rfl
    ·rfl
   rw[e4,hc0]at g1;injection g1 with g1;exact g1.symm
  rw[hV,L.hc0.1]at g3;have:=LQ L.hrs.1 NZ g3 (fun z hz=>hw z (by
   have hD:DataW.agg [D0 i,D1 i]∈(List.range len).map fun i=>DataW.agg [D0 i,D1 i]:=List.mem_map.2 ⟨i,List.mem_range.2 hil,rfl⟩;simp only[DataW.weights,L.hcs.1];refine cN _ (gE _ (yV hD z ?_));simp only[DataW.weights,L.hc.1];show z∈DataW.weightsEach P [L.c0.type,L.c1.type] [D0 i,D1 i];rw[DataW.weightsEach,L.hc0.1];exact gE _ hz))
  omega
theorem Iw{tb' t:TypeId}{f0 f1:Field}(L:zQ P tb')(NZ:0<P.bytesOf L.re)(ht:P.underlying t=some (.struct #[f0,f1]))(h0:f0.type=L.res∧f0.offset=0)(h1:f1.type=L.ces∧f1.offset=1)
  {v:Value}{d:DataW H}{ps:List MemPlace}{r:Reach}{b0:Nat}(hval:Value.okWide P w r b0 t v)(h:DataW.Trod enc P w 0 (fun _=>true) true t v d ps)(hw:∀x∈d.weights P t,x≤reachBytes)(hct:P.cellsOf t=2:=by kernel_rfl):
  ∃(hs cs:Sl) (t:Li),v=.agg #[a_ hs,a_ cs]∧(B8 hs cs t).p uU w∧∀x∈t.c,x.h.length≤reachBytes:=by
 obtain⟨hs,cs,u,rfl,hLi⟩:=OK L ht hct h0 h1 hval h;refine⟨hs,cs,u,rfl,hLi,?_⟩;obtain⟨fuel,htr⟩:=h;obtain⟨xs,n,_,hx,_,hlen,hff⟩:=DataW.trod_struct ht htr;have g1:=hff 1 f1 rfl;rw[h1.2,h1.1,L.hcs.2]at g1;have e:(((Value.agg #[a_ hs,a_ cs]).cells.toList).drop 1).take 1=[a_ cs]:=rfl;rw[e]at g1;obtain⟨d0,d1,rfl⟩:∃a b,xs=[a,b]:=by
  match xs,hlen with
  | [a,b],_=>exact⟨a,b,rfl⟩
 simp only[eS,fB]at g1;simp only[cA,dA,aF]at hx;rw[hx.1]at hw;refine L.cells_b NZ g1 (fun z hz=>hw z ?_) hLi.2;simp only[DataW.weights,ht];show z∈DataW.weightsEach P [f0.type,f1.type] [d0.1,d1.1];exact DataW.weights_mem_each (j:=1) rfl rfl z (by rw[h1.1];exact hz)
end
theorem Oh:Tryz.prog.mayEnter=true:=by kernel_rfl
theorem R3:(false==Tryz.prog.liftsFinal)=true:=by kernel_rfl
theorem R4:(Tryz.prog.make==some Rows.flatCountsRow.make)=true:=by kernel_rfl
theorem JE:laidOutB Tryz.prog=true:=by kernel_rfl
theorem R5:mapsRowed Tryz.prog=true:=by kernel_rfl
theorem Wg:ownKnob Tryz.prog.godebug=none:=by kernel_rfl
def adr:zQ Tryz.prog 5 where
 tbs:=28
 re:=45
 res:=22
 im:=49
 ims:=41
 ce:=43
 ces:=23
 r0:=⟨ "Kind",5,0,false, "", "",0⟩
 r1:=⟨ "Data",5,1,false, "", "",1⟩
 r2:=⟨ "Body",28,2,false, "", "",8⟩
 i0:=⟨ "Fields",22,0,false, "", "",0⟩
 i1:=⟨ "Props",22,1,false, "", "",24⟩
 c0:=⟨ "Head",22,0,false, "", "",0⟩
 c1:=⟨ "Items",41,1,false, "", "",24⟩
 hb:=⟨Tryz.underlying5,by kernel_rfl⟩
 hbs:=⟨Tryz.underlying28,by kernel_rfl⟩
 hr:=⟨Tryz.underlying45,by kernel_rfl⟩
 hr0:=⟨rfl,rfl⟩
 hr1:=⟨rfl,rfl⟩
 hr2:=⟨rfl,rfl⟩
 hrs:=⟨Tryz.underlying22,by kernel_rfl⟩
 hi:=⟨Tryz.underlying49,by kernel_rfl⟩
 hi0:=⟨rfl,rfl⟩
 hi1:=⟨rfl,rfl⟩
 his:=⟨Tryz.underlying41,by kernel_rfl⟩
 hc:=⟨Tryz.underlying43,by kernel_rfl⟩
 hc0:=⟨rfl,rfl⟩
 hc1:=⟨rfl,rfl⟩
 hcs:=⟨Tryz.underlying23,by kernel_rfl⟩
end Go.Proofs.YtgaaopjagcaojaaGreat
namespace Go.Proofs.YtgaaopjagcaojaaGreat.flatCounts
open Go.ChangeShapes Go.WideShapes Go.ChangeAt Go.RowKit
open Go.ChangeMaps (open_string shut_string)
theorem Vw:joinedFacts Tryz.pinned.checked.prog 4 Tryz.f4 Rows.flatCountsSpec Rows.flatCountsRow=true:=by
 unfold joinedFacts;rw[show Tryz.pinned.checked.prog.mayEnter=true from Oh,show(Rows.flatCountsRow.lifted==Tryz.pinned.checked.prog.liftsFinal)=true from R3,show(Tryz.pinned.checked.prog.make==some Rows.flatCountsRow.make)=true from R4,
  show laidOutB Tryz.pinned.checked.prog=true from JE,show mapsRowed Tryz.pinned.checked.prog=true from R5]
 kernel_rfl
set_option maxRecDepth 100000 in
theorem lifted(os:Os)(started:os.Started)(H:Type)(enc:TypeId×Value→H):
  ReturnsInHanded {} Tryz.checked os 4 .any (Rows.flatCountsSpec.pre6 enc Tryz.prog Tryz.f4 Rows.flatCountsRow.domain false) (Rows.flatCountsSpec.post enc Tryz.prog Tryz.f4 false true false false):=by
 refine returnsInHanded_of_change_sized (C:=Tryz.checked) Wg started (by kernel_rfl) Tryz.func4
  (ChangeSpec.witness6 (enc:=enc) (C:=Tryz.checked) false ⟨#[],#[.agg #[.slice none 0 0,.slice none 0 0]],[]⟩ 8 (by kernel_rfl) (by kernel_rfl) (by kernel_rfl) (by kernel_rfl)) ?_
 intro W base args ds gs mr T5 hW ago hsz _;have hval:∀(j:Nat) t v,Tryz.f4.params[j]? =some t→args[j]? =some v→Value.okWide Tryz.prog W .any base t v:=T5;have hW':=hW;obtain⟨p,q,hA0,hV,rfl,hfz,AB⟩:=hW;have hA:DataW.TrodAll enc Tryz.prog W 0 (fun _=>true) true Tryz.f4.params.toList args.toList ds p:=hA0;have hK:=hA;rw[Tryz.params4]at hA hval hK;obtain⟨v0,vs0,d0,ds0,p0,q0,hargs,rfl,rfl,h0,r0⟩:=trodAll_cons hA;obtain⟨rfl,rfl,rfl⟩:=trodAll_nil r0;obtain rfl:args= #[v0]:=by cases args;simp_all
 obtain⟨rfl,rfl⟩:=trodVars_none hV;have z0:∀x∈d0.weights Tryz.prog 25,x≤reachBytes:=fun x hx=>iW (List.all_eq_true.1 hsz x (DataW.weights_mem_each (j:=0) rfl rfl x hx));obtain⟨⟨ha0,hn0,hc0⟩,⟨ca0,cn0,cc0⟩,t0,rfl,g0,b0⟩:=Iw adr (by decide+kernel) Tryz.underlying25 ⟨rfl,rfl⟩ ⟨rfl,rfl⟩ (hval 0 25 v0 rfl rfl) h0 z0;clear hA0 T5;simp only[ah]at hW' hK;refine(Ik (D9 ha0 hn0 hc0 ca0 cn0 cc0 (t:=t0) (fun x hx=>aP (b0 x hx) (by decide))) W (aE.cons g0 (aE.nil _ _))).mono fun e W' ⟨he,hg⟩=>?_;subst he;exact⟨_,rfl,Om hW' rfl (fun _ _ _=>(trodAll_cons_mk (shut_bool Tryz.underlying4 _) trodAll_mk0)) (fun sp hsp=>vf JE hg (by kernel_rfl) hK (fun x hx=>hW'.lt x (by first|exact hx|simpa using hx)) (fun x hx=>hsp x (by first|exact hx|simpa using hx))) rfl hg⟩
theorem over:Rows.flatCountsRow.holds Tryz.pinned (OpenSpec.ofChange Rows.flatCountsSpec):=
 OpenClaim.holds_of_wide 4 Tryz.f4 rfl rfl rfl rfl rfl rfl rfl ⟨rfl,rfl,rfl,rfl,rfl⟩ rfl rfl rfl rfl rfl (by kernel_rfl) Tryz.func4 Vw
  (iW (by kernel_rfl)) (by unfold Func.isWrapper;first|(rw[if_pos (by decide+kernel)];kernel_rfl)|(rw[if_neg (by decide+kernel)];exact⟨rfl,rfl⟩))
  (fun os started H enc _=>lifted os started H enc)
end Go.Proofs.YtgaaopjagcaojaaGreat.flatCounts
namespace Go.Proofs.YtgaaopjagcaojaaGreat
theorem flatCounts_holds:Rows.FlatCountsSaid:=flatCounts.over
end Go.Proofs.YtgaaopjagcaojaaGreat
