import Derived.Test.YtgaaopjagcaojaaGreatLk
import Derived.Test.YtgaaopjagcaojaaGreatLs
set_option linter.unusedSimpArgs false
set_option linter.unusedVariables false
set_option maxHeartbeats 2000000
namespace Go.Proofs.YtgaaopjagcaojaaGreat
open Go.RowKit Go.IntWalk
def Dz(x:Im):Int:=cz x 26 0
def j9(x:Im):Rat:=match dT x 27 with
 |some r=>nC r.b
 |none=>((1:Int):Rat)
def vZ(x:Im):Rat:=match dT x 28 with
 |some r=>nC r.b
 |none=>0
def fX(x:Im):Rat:=vZ x/((45:Int):Rat)
def gD(x:Im):Int:=nN (fX x) % 8
def kX(x:Im):Bool:=Dz x != 0&&Dz x != -32768
def jb(x:Im):Bool:= !kX x&&(decide (0<(j9 x).num.sign)&&decide ((fX x).den=1))
def ri(x:Im):Bool:=Dz x != 0
def UW(x:Im)(v:Value)(Δ:List aC):Prop:=
 (kX x=true∧∃(n:Sl) (a:Bool) (m:Sl) (b:Bool),v=.tuple #[.bool false,qv n a m b,.int .i64 0,.bool false]∧Δ=[])∨
 (kX x=false∧∃(n:Sl) (a:Bool) (m:Sl) (b:Bool),v=.tuple #[.bool (ri x),qv n a m b,.int .i64 (gD x),.bool (jb x)]∧Δ=[QF n a m b (50,j9 x)])
theorem ll(x:Im):gZ (gD x)=true:=by
 unfold gD gZ;simp only[aL,dG];omega
theorem WB(x:Im):0≤gD x∧gD x≤7:=by
 unfold gD;omega
theorem pD(d:Nat):(mX (d:Int) 1==0)=decide (d=1):=by
 unfold mX;by_cases h:d=1
 ·subst h;rfl
 ·rw[ai h];split
  ·rfl
  ·rw[if_neg (by omega)];rfl
theorem yK{x:Im}(h:kX x=false)(hs:¬(j9 x).num.sign>0):jb x=false:=by
 unfold jb;rw[h,ai hs];rfl
theorem tA{x:Im}(h:kX x=false)(hs:(j9 x).num.sign>0):jb x=decide ((fX x).den=1):=by
 unfold jb;rw[h,ar hs];rfl
section
variable{Γ:List aC}
theorem wR(f p:Sl){x:Im} [h:aY (mK f p) x Γ](hx:qx x):aw tb Tryz.prog 84 [lO f p] Γ (UW x):=by
 obtain⟨z,hz⟩:∃z,cz x 26 0=z:=⟨_,rfl⟩;have hzb:Dz x=z:=hz;have nH:ri x=(z != 0):=by unfold ri;rw[hzb]
 have hsh:=hx.short;refine aw.of_W az Tryz.func84 rfl ?_;refine aq [] (cU 1 (by decide) (by decide)) ?_;rintro _ _ ⟨u1,d1,rfl,rfl⟩;refine aq [] (cg u1 d1) ?_;rintro _ _ ⟨n2,a2,m2,b2,rfl,rfl⟩;refine aq [] (iy f p (x:=x) 26 0 hx (.inr (.inl rfl))) ?_;rw[hz];rintro _ _ ⟨rfl,rfl⟩;by_cases h0:z=0
 ·have iw:kX x=false:=by unfold kX;rw[hzb,h0];rfl
  refine aR [] 26 (z != 0) (by simpa using h0) ?_;cases hm:dT x 27 with
  |none=>
   obtain⟨g,rj⟩:∃g,j9 x=g:=⟨_,rfl⟩;have Az:((1:Int):Rat)=g:=by rw[←rj];unfold j9;rw[hm]
   cases ha:dT x 28 with
   |none=>
    obtain⟨q,jB⟩:∃q,q=fX x:=⟨_,rfl⟩;have heq:(0:Rat)/((45:Int):Rat)=q:=by rw[jB];unfold fX vZ;rw[ha]
    have oO:gD x=nN q % 8:=by unfold gD;rw[jB]
    have hsm:gZ (nN q % 8)=true:=by have:=ll x;unfold gD at this;rw[←jB]at this;exact this
    refine aq [29,26] (jR f p (x:=x) 27 hsh hm) ?_;rintro _ _ ⟨rfl,rfl⟩;refine aR [] 36 false rfl ?_;refine aq [36] (jR f p (x:=x) 28 hsh ha) ?_;rintro _ _ ⟨rfl,rfl⟩;refine aR [] 48 false rfl ?_;refine aq [48] (cU 45 (by decide) (by decide)) ?_;rintro _ _ ⟨u6,d6,rfl,rfl⟩;refine aq [] (cg u6 d6) ?_;rintro _ _ ⟨n7,a7,m7,b7,rfl,rfl⟩;refine gX [] (kN (L':=0)) (rC ⟨none,0,0⟩ false ⟨none,0,0⟩ false n7 a7 m7 b7 (a:=0) (by decide)) ?_;rintro _ _ ⟨n8,a8,m8,b8,rfl,rfl⟩;rw[heq];refine aq [] (ni n8 a8 m8 b8 (q:=q)) ?_;rintro _ _ ⟨u9,d9,rfl,rfl⟩;refine aq [] (cU 8 (by decide) (by decide)) ?_;rintro _ _ ⟨BC,d10,rfl,rfl⟩;refine aq [] (iR u9 d9 BC d10 (x:=nN q) (y:=8) (by decide)) ?_;rintro _ _ ⟨u11,d11,v11,HO,rfl,rfl⟩;refine aq [] (jl v11 HO (x:=nN q % 8) hsm) ?_;rintro _ _ ⟨rfl,rfl⟩;refine aq [] (iQ n2 a2 m2 b2 (q:=((1:Int):Rat))) ?_;rintro _ _ ⟨rfl,rfl⟩;rw[Az];by_cases rl:g.num.sign>0
    ·refine bk [] 82 (decide (g.num.sign>0)) (ar rl) ?_;refine aq [82] (jk n8 a8 m8 b8 (q:=q)) ?_;rintro _ _ ⟨u14,d14,rfl,rfl⟩;refine aq [82] (cU 1 (by decide) (by decide)) ?_;rintro _ _ ⟨u15,d15,rfl,rfl⟩;refine aq [82] (oY u14 d14 u15 d15 (x:=(q.den:Int)) (y:=1)) ?_;rintro _ _ ⟨rfl,rfl⟩;exact W.r [82] (.tuple #[.bool (z != 0),qv n2 a2 m2 b2,.int .i64 (nN q % 8),.bool (mX (q.den:Int) 1==0)]) (.inr ⟨iw,n2,a2,m2,b2,by rw[nH,oO,tA iw (by rw[rj];exact rl),pD,←jB],rfl⟩) (jY (by omega) (by rw[rj]))
    ·refine aR [] 82 (decide (g.num.sign>0)) (ai rl) ?_;exact W.r [82] (.tuple #[.bool (z != 0),qv n2 a2 m2 b2,.int .i64 (nN q % 8),.bool false]) (.inr ⟨iw,n2,a2,m2,b2,by rw[nH,oO,yK iw (by rw[rj];exact rl)],rfl⟩) (jY (by omega) (by rw[rj]))
   |some ra=>
    have QI:ra.b.length=8:=by obtain⟨_,l1,l2,l3⟩:=hx.len ha (s:=⟨5,8,1,1⟩) rfl;simp only at l1 l2 l3;omega
    obtain⟨q,jB⟩:∃q,q=fX x:=⟨_,rfl⟩;have heq:nC ra.b/((45:Int):Rat)=q:=by rw[jB];unfold fX vZ;rw[ha]
    have oO:gD x=nN q % 8:=by unfold gD;rw[jB]
    have hsm:gZ (nN q % 8)=true:=by have:=ll x;unfold gD at this;rw[←jB]at this;exact this
    refine aq [29,26] (jR f p (x:=x) 27 hsh hm) ?_;rintro _ _ ⟨rfl,rfl⟩;refine aR [] 36 false rfl ?_;refine aq [36] (jS f p (x:=x) 28 hsh ha) ?_;rintro _ _ ⟨ua,rfl,rfl⟩;refine bk [] 48 true rfl ?_;refine W.more (Δ:=[BF ua ra.b]) (by kernel_rfl) (mI ua) ?_;refine xw ua (fun k1 k2 k3 k4=>?_);refine gX [48] (Γ':=[RA ua.ao (ra.b.map (Value.int .u8))]) (fun I w _ hh=>aU (aY.p (k:=BF ua) (a:=ra.b) inferInstance hh).2.2.2) (tD ua.ao ua.n ua.c ra.b k1 k3 k2.1) ?_;rw[show ss ra.b=0 by unfold ss;rw[if_pos QI]];rintro _ _ ⟨na,aa,ma,ba,rfl,rfl⟩;refine aq [] (cU 45 (by decide) (by decide)) ?_;rintro _ _ ⟨u6,d6,rfl,rfl⟩;refine aq [] (cg u6 d6) ?_;rintro _ _ ⟨n7,a7,m7,b7,rfl,rfl⟩;refine aq [] (rC na aa ma ba n7 a7 m7 b7 (a:=nC ra.b) (by decide)) ?_;rintro _ _ ⟨n8,a8,m8,b8,rfl,rfl⟩;rw[heq];refine aq [] (ni n8 a8 m8 b8 (q:=q)) ?_;rintro _ _ ⟨u9,d9,rfl,rfl⟩;refine aq [] (cU 8 (by decide) (by decide)) ?_;rintro _ _ ⟨BC,d10,rfl,rfl⟩;refine aq [] (iR u9 d9 BC d10 (x:=nN q) (y:=8) (by decide)) ?_;rintro _ _ ⟨u11,d11,v11,HO,rfl,rfl⟩;refine aq [] (jl v11 HO (x:=nN q % 8) hsm) ?_;rintro _ _ ⟨rfl,rfl⟩;refine aq [] (iQ n2 a2 m2 b2 (q:=((1:Int):Rat))) ?_;rintro _ _ ⟨rfl,rfl⟩;rw[Az];by_cases rl:g.num.sign>0
    ·refine bk [] 82 (decide (g.num.sign>0)) (ar rl) ?_;refine aq [82] (jk n8 a8 m8 b8 (q:=q)) ?_;rintro _ _ ⟨u14,d14,rfl,rfl⟩;refine aq [82] (cU 1 (by decide) (by decide)) ?_;rintro _ _ ⟨u15,d15,rfl,rfl⟩;refine aq [82] (oY u14 d14 u15 d15 (x:=(q.den:Int)) (y:=1)) ?_;rintro _ _ ⟨rfl,rfl⟩;exact W.r [82] (.tuple #[.bool (z != 0),qv n2 a2 m2 b2,.int .i64 (nN q % 8),.bool (mX (q.den:Int) 1==0)]) (.inr ⟨iw,n2,a2,m2,b2,by rw[nH,oO,tA iw (by rw[rj];exact rl),pD,←jB],rfl⟩) (jY (by omega) (by rw[rj]))
    ·refine aR [] 82 (decide (g.num.sign>0)) (ai rl) ?_;exact W.r [82] (.tuple #[.bool (z != 0),qv n2 a2 m2 b2,.int .i64 (nN q % 8),.bool false]) (.inr ⟨iw,n2,a2,m2,b2,by rw[nH,oO,yK iw (by rw[rj];exact rl)],rfl⟩) (jY (by omega) (by rw[rj]))
  |some rm=>
   have ZV:rm.b.length=8:=by obtain⟨_,l1,l2,l3⟩:=hx.len hm (s:=⟨5,8,1,1⟩) rfl;simp only at l1 l2 l3;omega
   obtain⟨g,rj⟩:∃g,j9 x=g:=⟨_,rfl⟩;have Az:nC rm.b=g:=by rw[←rj];unfold j9;rw[hm]
   cases ha:dT x 28 with
   |none=>
    obtain⟨q,jB⟩:∃q,q=fX x:=⟨_,rfl⟩;have heq:(0:Rat)/((45:Int):Rat)=q:=by rw[jB];unfold fX vZ;rw[ha]
    have oO:gD x=nN q % 8:=by unfold gD;rw[jB]
    have hsm:gZ (nN q % 8)=true:=by have:=ll x;unfold gD at this;rw[←jB]at this;exact this
    refine aq [29,26] (jS f p (x:=x) 27 hsh hm) ?_;rintro _ _ ⟨um,rfl,rfl⟩;refine bk [] 36 true rfl ?_;refine W.more (Δ:=[BF um rm.b]) (by kernel_rfl) (mI um) ?_;refine xw um (fun g1 g2 g3 g4=>?_);refine gX [36] (Γ':=[RA um.ao (rm.b.map (Value.int .u8))]) (fun I w _ hh=>aU (aY.p (k:=BF um) (a:=rm.b) inferInstance hh).2.2.2) (tD um.ao um.n um.c rm.b g1 g3 g2.1) ?_;rw[show ss rm.b=0 by unfold ss;rw[if_pos ZV]];rintro _ _ ⟨nm,am,mm,bm,rfl,rfl⟩;refine aq [] (jR f p (x:=x) 28 hsh ha) ?_;rintro _ _ ⟨rfl,rfl⟩;refine aR [] 48 false rfl ?_;refine aq [48] (cU 45 (by decide) (by decide)) ?_;rintro _ _ ⟨u6,d6,rfl,rfl⟩;refine aq [] (cg u6 d6) ?_;rintro _ _ ⟨n7,a7,m7,b7,rfl,rfl⟩;refine gX [] (kN (L':=0)) (rC ⟨none,0,0⟩ false ⟨none,0,0⟩ false n7 a7 m7 b7 (a:=0) (by decide)) ?_;rintro _ _ ⟨n8,a8,m8,b8,rfl,rfl⟩;rw[heq];refine aq [] (ni n8 a8 m8 b8 (q:=q)) ?_;rintro _ _ ⟨u9,d9,rfl,rfl⟩;refine aq [] (cU 8 (by decide) (by decide)) ?_;rintro _ _ ⟨BC,d10,rfl,rfl⟩;refine aq [] (iR u9 d9 BC d10 (x:=nN q) (y:=8) (by decide)) ?_;rintro _ _ ⟨u11,d11,v11,HO,rfl,rfl⟩;refine aq [] (jl v11 HO (x:=nN q % 8) hsm) ?_;rintro _ _ ⟨rfl,rfl⟩;refine aq [] (iQ nm am mm bm (q:=nC rm.b)) ?_;rintro _ _ ⟨rfl,rfl⟩;rw[Az];by_cases rl:g.num.sign>0
    ·refine bk [] 82 (decide (g.num.sign>0)) (ar rl) ?_;refine aq [82] (jk n8 a8 m8 b8 (q:=q)) ?_;rintro _ _ ⟨u14,d14,rfl,rfl⟩;refine aq [82] (cU 1 (by decide) (by decide)) ?_;rintro _ _ ⟨u15,d15,rfl,rfl⟩;refine aq [82] (oY u14 d14 u15 d15 (x:=(q.den:Int)) (y:=1)) ?_;rintro _ _ ⟨rfl,rfl⟩;exact W.r [82] (.tuple #[.bool (z != 0),qv nm am mm bm,.int .i64 (nN q % 8),.bool (mX (q.den:Int) 1==0)]) (.inr ⟨iw,nm,am,mm,bm,by rw[nH,oO,tA iw (by rw[rj];exact rl),pD,←jB],rfl⟩) (jY (by omega) (by rw[rj]))
    ·refine aR [] 82 (decide (g.num.sign>0)) (ai rl) ?_;exact W.r [82] (.tuple #[.bool (z != 0),qv nm am mm bm,.int .i64 (nN q % 8),.bool false]) (.inr ⟨iw,nm,am,mm,bm,by rw[nH,oO,yK iw (by rw[rj];exact rl)],rfl⟩) (jY (by omega) (by rw[rj]))
   |some ra=>
    have QI:ra.b.length=8:=by obtain⟨_,l1,l2,l3⟩:=hx.len ha (s:=⟨5,8,1,1⟩) rfl;simp only at l1 l2 l3;omega
    obtain⟨q,jB⟩:∃q,q=fX x:=⟨_,rfl⟩;have heq:nC ra.b/((45:Int):Rat)=q:=by rw[jB];unfold fX vZ;rw[ha]
    have oO:gD x=nN q % 8:=by unfold gD;rw[jB]
    have hsm:gZ (nN q % 8)=true:=by have:=ll x;unfold gD at this;rw[←jB]at this;exact this
    refine aq [29,26] (jS f p (x:=x) 27 hsh hm) ?_;rintro _ _ ⟨um,rfl,rfl⟩;refine bk [] 36 true rfl ?_;refine W.more (Δ:=[BF um rm.b]) (by kernel_rfl) (mI um) ?_;refine xw um (fun g1 g2 g3 g4=>?_);refine gX [36] (Γ':=[RA um.ao (rm.b.map (Value.int .u8))]) (fun I w _ hh=>aU (aY.p (k:=BF um) (a:=rm.b) inferInstance hh).2.2.2) (tD um.ao um.n um.c rm.b g1 g3 g2.1) ?_;rw[show ss rm.b=0 by unfold ss;rw[if_pos ZV]];rintro _ _ ⟨nm,am,mm,bm,rfl,rfl⟩;refine aq [] (jS f p (x:=x) 28 hsh ha) ?_;rintro _ _ ⟨ua,rfl,rfl⟩;refine bk [] 48 true rfl ?_;refine W.more (Δ:=[BF ua ra.b]) (by kernel_rfl) (mI ua) ?_;refine xw ua (fun k1 k2 k3 k4=>?_);refine gX [48] (Γ':=[RA ua.ao (ra.b.map (Value.int .u8))]) (fun I w _ hh=>aU (aY.p (k:=BF ua) (a:=ra.b) inferInstance hh).2.2.2) (tD ua.ao ua.n ua.c ra.b k1 k3 k2.1) ?_;rw[show ss ra.b=0 by unfold ss;rw[if_pos QI]];rintro _ _ ⟨na,aa,ma,ba,rfl,rfl⟩;refine aq [] (cU 45 (by decide) (by decide)) ?_;rintro _ _ ⟨u6,d6,rfl,rfl⟩;refine aq [] (cg u6 d6) ?_;rintro _ _ ⟨n7,a7,m7,b7,rfl,rfl⟩;refine aq [] (rC na aa ma ba n7 a7 m7 b7 (a:=nC ra.b) (by decide)) ?_;rintro _ _ ⟨n8,a8,m8,b8,rfl,rfl⟩;rw[heq];refine aq [] (ni n8 a8 m8 b8 (q:=q)) ?_;rintro _ _ ⟨u9,d9,rfl,rfl⟩;refine aq [] (cU 8 (by decide) (by decide)) ?_;rintro _ _ ⟨BC,d10,rfl,rfl⟩;refine aq [] (iR u9 d9 BC d10 (x:=nN q) (y:=8) (by decide)) ?_
    rintro _ _ ⟨u11,d11,v11,HO,rfl,rfl⟩;refine aq [] (jl v11 HO (x:=nN q % 8) hsm) ?_;rintro _ _ ⟨rfl,rfl⟩;refine aq [] (iQ nm am mm bm (q:=nC rm.b)) ?_;rintro _ _ ⟨rfl,rfl⟩;rw[Az];by_cases rl:g.num.sign>0
    ·refine bk [] 82 (decide (g.num.sign>0)) (ar rl) ?_;refine aq [82] (jk n8 a8 m8 b8 (q:=q)) ?_;rintro _ _ ⟨u14,d14,rfl,rfl⟩;refine aq [82] (cU 1 (by decide) (by decide)) ?_;rintro _ _ ⟨u15,d15,rfl,rfl⟩;refine aq [82] (oY u14 d14 u15 d15 (x:=(q.den:Int)) (y:=1)) ?_;rintro _ _ ⟨rfl,rfl⟩;exact W.r [82] (.tuple #[.bool (z != 0),qv nm am mm bm,.int .i64 (nN q % 8),.bool (mX (q.den:Int) 1==0)]) (.inr ⟨iw,nm,am,mm,bm,by rw[nH,oO,tA iw (by rw[rj];exact rl),pD,←jB],rfl⟩) (jY (by omega) (by rw[rj]))
    ·refine aR [] 82 (decide (g.num.sign>0)) (ai rl) ?_;exact W.r [82] (.tuple #[.bool (z != 0),qv nm am mm bm,.int .i64 (nN q % 8),.bool false]) (.inr ⟨iw,nm,am,mm,bm,by rw[nH,oO,yK iw (by rw[rj];exact rl)],rfl⟩) (jY (by omega) (by rw[rj]))
 ·refine bk [] 26 (z != 0) (by simpa using h0) ?_;by_cases h1:z= -32768
  ·have iw:kX x=false:=by unfold kX;rw[hzb,h1];rfl
   refine aR [26] 29 (z != -32768) (by simpa using h1) ?_;cases hm:dT x 27 with
   |none=>
    obtain⟨g,rj⟩:∃g,j9 x=g:=⟨_,rfl⟩;have Az:((1:Int):Rat)=g:=by rw[←rj];unfold j9;rw[hm]
    cases ha:dT x 28 with
    |none=>
     obtain⟨q,jB⟩:∃q,q=fX x:=⟨_,rfl⟩;have heq:(0:Rat)/((45:Int):Rat)=q:=by rw[jB];unfold fX vZ;rw[ha]
     have oO:gD x=nN q % 8:=by unfold gD;rw[jB]
     have hsm:gZ (nN q % 8)=true:=by have:=ll x;unfold gD at this;rw[←jB]at this;exact this
     refine aq [29] (jR f p (x:=x) 27 hsh hm) ?_;rintro _ _ ⟨rfl,rfl⟩;refine aR [] 36 false rfl ?_;refine aq [36] (jR f p (x:=x) 28 hsh ha) ?_;rintro _ _ ⟨rfl,rfl⟩;refine aR [] 48 false rfl ?_;refine aq [48] (cU 45 (by decide) (by decide)) ?_;rintro _ _ ⟨u6,d6,rfl,rfl⟩;refine aq [] (cg u6 d6) ?_;rintro _ _ ⟨n7,a7,m7,b7,rfl,rfl⟩;refine gX [] (kN (L':=0)) (rC ⟨none,0,0⟩ false ⟨none,0,0⟩ false n7 a7 m7 b7 (a:=0) (by decide)) ?_;rintro _ _ ⟨n8,a8,m8,b8,rfl,rfl⟩;rw[heq];refine aq [] (ni n8 a8 m8 b8 (q:=q)) ?_;rintro _ _ ⟨u9,d9,rfl,rfl⟩;refine aq [] (cU 8 (by decide) (by decide)) ?_;rintro _ _ ⟨BC,d10,rfl,rfl⟩;refine aq [] (iR u9 d9 BC d10 (x:=nN q) (y:=8) (by decide)) ?_;rintro _ _ ⟨u11,d11,v11,HO,rfl,rfl⟩;refine aq [] (jl v11 HO (x:=nN q % 8) hsm) ?_;rintro _ _ ⟨rfl,rfl⟩;refine aq [] (iQ n2 a2 m2 b2 (q:=((1:Int):Rat))) ?_;rintro _ _ ⟨rfl,rfl⟩;rw[Az];by_cases rl:g.num.sign>0
     ·refine bk [] 82 (decide (g.num.sign>0)) (ar rl) ?_;refine aq [82] (jk n8 a8 m8 b8 (q:=q)) ?_;rintro _ _ ⟨u14,d14,rfl,rfl⟩;refine aq [82] (cU 1 (by decide) (by decide)) ?_;rintro _ _ ⟨u15,d15,rfl,rfl⟩;refine aq [82] (oY u14 d14 u15 d15 (x:=(q.den:Int)) (y:=1)) ?_;rintro _ _ ⟨rfl,rfl⟩;exact W.r [82] (.tuple #[.bool (z != 0),qv n2 a2 m2 b2,.int .i64 (nN q % 8),.bool (mX (q.den:Int) 1==0)]) (.inr ⟨iw,n2,a2,m2,b2,by rw[nH,oO,tA iw (by rw[rj];exact rl),pD,←jB],rfl⟩) (jY (by omega) (by rw[rj]))
     ·refine aR [] 82 (decide (g.num.sign>0)) (ai rl) ?_;exact W.r [82] (.tuple #[.bool (z != 0),qv n2 a2 m2 b2,.int .i64 (nN q % 8),.bool false]) (.inr ⟨iw,n2,a2,m2,b2,by rw[nH,oO,yK iw (by rw[rj];exact rl)],rfl⟩) (jY (by omega) (by rw[rj]))
    |some ra=>
     have QI:ra.b.length=8:=by obtain⟨_,l1,l2,l3⟩:=hx.len ha (s:=⟨5,8,1,1⟩) rfl;simp only at l1 l2 l3;omega
     obtain⟨q,jB⟩:∃q,q=fX x:=⟨_,rfl⟩;have heq:nC ra.b/((45:Int):Rat)=q:=by rw[jB];unfold fX vZ;rw[ha]
     have oO:gD x=nN q % 8:=by unfold gD;rw[jB]
     have hsm:gZ (nN q % 8)=true:=by have:=ll x;unfold gD at this;rw[←jB]at this;exact this
     refine aq [29] (jR f p (x:=x) 27 hsh hm) ?_;rintro _ _ ⟨rfl,rfl⟩;refine aR [] 36 false rfl ?_;refine aq [36] (jS f p (x:=x) 28 hsh ha) ?_;rintro _ _ ⟨ua,rfl,rfl⟩;refine bk [] 48 true rfl ?_;refine W.more (Δ:=[BF ua ra.b]) (by kernel_rfl) (mI ua) ?_;refine xw ua (fun k1 k2 k3 k4=>?_);refine gX [48] (Γ':=[RA ua.ao (ra.b.map (Value.int .u8))]) (fun I w _ hh=>aU (aY.p (k:=BF ua) (a:=ra.b) inferInstance hh).2.2.2) (tD ua.ao ua.n ua.c ra.b k1 k3 k2.1) ?_;rw[show ss ra.b=0 by unfold ss;rw[if_pos QI]];rintro _ _ ⟨na,aa,ma,ba,rfl,rfl⟩;refine aq [] (cU 45 (by decide) (by decide)) ?_;rintro _ _ ⟨u6,d6,rfl,rfl⟩;refine aq [] (cg u6 d6) ?_;rintro _ _ ⟨n7,a7,m7,b7,rfl,rfl⟩;refine aq [] (rC na aa ma ba n7 a7 m7 b7 (a:=nC ra.b) (by decide)) ?_;rintro _ _ ⟨n8,a8,m8,b8,rfl,rfl⟩;rw[heq];refine aq [] (ni n8 a8 m8 b8 (q:=q)) ?_;rintro _ _ ⟨u9,d9,rfl,rfl⟩;refine aq [] (cU 8 (by decide) (by decide)) ?_;rintro _ _ ⟨BC,d10,rfl,rfl⟩;refine aq [] (iR u9 d9 BC d10 (x:=nN q) (y:=8) (by decide)) ?_;rintro _ _ ⟨u11,d11,v11,HO,rfl,rfl⟩;refine aq [] (jl v11 HO (x:=nN q % 8) hsm) ?_;rintro _ _ ⟨rfl,rfl⟩;refine aq [] (iQ n2 a2 m2 b2 (q:=((1:Int):Rat))) ?_;rintro _ _ ⟨rfl,rfl⟩;rw[Az];by_cases rl:g.num.sign>0
     ·refine bk [] 82 (decide (g.num.sign>0)) (ar rl) ?_;refine aq [82] (jk n8 a8 m8 b8 (q:=q)) ?_;rintro _ _ ⟨u14,d14,rfl,rfl⟩;refine aq [82] (cU 1 (by decide) (by decide)) ?_;rintro _ _ ⟨u15,d15,rfl,rfl⟩;refine aq [82] (oY u14 d14 u15 d15 (x:=(q.den:Int)) (y:=1)) ?_;rintro _ _ ⟨rfl,rfl⟩;exact W.r [82] (.tuple #[.bool (z != 0),qv n2 a2 m2 b2,.int .i64 (nN q % 8),.bool (mX (q.den:Int) 1==0)]) (.inr ⟨iw,n2,a2,m2,b2,by rw[nH,oO,tA iw (by rw[rj];exact rl),pD,←jB],rfl⟩) (jY (by omega) (by rw[rj]))
     ·refine aR [] 82 (decide (g.num.sign>0)) (ai rl) ?_;exact W.r [82] (.tuple #[.bool (z != 0),qv n2 a2 m2 b2,.int .i64 (nN q % 8),.bool false]) (.inr ⟨iw,n2,a2,m2,b2,by rw[nH,oO,yK iw (by rw[rj];exact rl)],rfl⟩) (jY (by omega) (by rw[rj]))
   |some rm=>
    have ZV:rm.b.length=8:=by obtain⟨_,l1,l2,l3⟩:=hx.len hm (s:=⟨5,8,1,1⟩) rfl;simp only at l1 l2 l3;omega
    obtain⟨g,rj⟩:∃g,j9 x=g:=⟨_,rfl⟩;have Az:nC rm.b=g:=by rw[←rj];unfold j9;rw[hm]
    cases ha:dT x 28 with
    |none=>
     obtain⟨q,jB⟩:∃q,q=fX x:=⟨_,rfl⟩;have heq:(0:Rat)/((45:Int):Rat)=q:=by rw[jB];unfold fX vZ;rw[ha]
     have oO:gD x=nN q % 8:=by unfold gD;rw[jB]
     have hsm:gZ (nN q % 8)=true:=by have:=ll x;unfold gD at this;rw[←jB]at this;exact this
     refine aq [29] (jS f p (x:=x) 27 hsh hm) ?_;rintro _ _ ⟨um,rfl,rfl⟩;refine bk [] 36 true rfl ?_;refine W.more (Δ:=[BF um rm.b]) (by kernel_rfl) (mI um) ?_;refine xw um (fun g1 g2 g3 g4=>?_);refine gX [36] (Γ':=[RA um.ao (rm.b.map (Value.int .u8))]) (fun I w _ hh=>aU (aY.p (k:=BF um) (a:=rm.b) inferInstance hh).2.2.2) (tD um.ao um.n um.c rm.b g1 g3 g2.1) ?_;rw[show ss rm.b=0 by unfold ss;rw[if_pos ZV]];rintro _ _ ⟨nm,am,mm,bm,rfl,rfl⟩;refine aq [] (jR f p (x:=x) 28 hsh ha) ?_;rintro _ _ ⟨rfl,rfl⟩;refine aR [] 48 false rfl ?_;refine aq [48] (cU 45 (by decide) (by decide)) ?_;rintro _ _ ⟨u6,d6,rfl,rfl⟩;refine aq [] (cg u6 d6) ?_;rintro _ _ ⟨n7,a7,m7,b7,rfl,rfl⟩;refine gX [] (kN (L':=0)) (rC ⟨none,0,0⟩ false ⟨none,0,0⟩ false n7 a7 m7 b7 (a:=0) (by decide)) ?_;rintro _ _ ⟨n8,a8,m8,b8,rfl,rfl⟩;rw[heq];refine aq [] (ni n8 a8 m8 b8 (q:=q)) ?_;rintro _ _ ⟨u9,d9,rfl,rfl⟩;refine aq [] (cU 8 (by decide) (by decide)) ?_;rintro _ _ ⟨BC,d10,rfl,rfl⟩;refine aq [] (iR u9 d9 BC d10 (x:=nN q) (y:=8) (by decide)) ?_;rintro _ _ ⟨u11,d11,v11,HO,rfl,rfl⟩;refine aq [] (jl v11 HO (x:=nN q % 8) hsm) ?_;rintro _ _ ⟨rfl,rfl⟩;refine aq [] (iQ nm am mm bm (q:=nC rm.b)) ?_;rintro _ _ ⟨rfl,rfl⟩;rw[Az];by_cases rl:g.num.sign>0
     ·refine bk [] 82 (decide (g.num.sign>0)) (ar rl) ?_;refine aq [82] (jk n8 a8 m8 b8 (q:=q)) ?_;rintro _ _ ⟨u14,d14,rfl,rfl⟩;refine aq [82] (cU 1 (by decide) (by decide)) ?_;rintro _ _ ⟨u15,d15,rfl,rfl⟩;refine aq [82] (oY u14 d14 u15 d15 (x:=(q.den:Int)) (y:=1)) ?_;rintro _ _ ⟨rfl,rfl⟩;exact W.r [82] (.tuple #[.bool (z != 0),qv nm am mm bm,.int .i64 (nN q % 8),.bool (mX (q.den:Int) 1==0)]) (.inr ⟨iw,nm,am,mm,bm,by rw[nH,oO,tA iw (by rw[rj];exact rl),pD,←jB],rfl⟩) (jY (by omega) (by rw[rj]))
     ·refine aR [] 82 (decide (g.num.sign>0)) (ai rl) ?_;exact W.r [82] (.tuple #[.bool (z != 0),qv nm am mm bm,.int .i64 (nN q % 8),.bool false]) (.inr ⟨iw,nm,am,mm,bm,by rw[nH,oO,yK iw (by rw[rj];exact rl)],rfl⟩) (jY (by omega) (by rw[rj]))
    |some ra=>
     have QI:ra.b.length=8:=by obtain⟨_,l1,l2,l3⟩:=hx.len ha (s:=⟨5,8,1,1⟩) rfl;simp only at l1 l2 l3;omega
     obtain⟨q,jB⟩:∃q,q=fX x:=⟨_,rfl⟩;have heq:nC ra.b/((45:Int):Rat)=q:=by rw[jB];unfold fX vZ;rw[ha]
     have oO:gD x=nN q % 8:=by unfold gD;rw[jB]
     have hsm:gZ (nN q % 8)=true:=by have:=ll x;unfold gD at this;rw[←jB]at this;exact this
     refine aq [29] (jS f p (x:=x) 27 hsh hm) ?_;rintro _ _ ⟨um,rfl,rfl⟩;refine bk [] 36 true rfl ?_;refine W.more (Δ:=[BF um rm.b]) (by kernel_rfl) (mI um) ?_;refine xw um (fun g1 g2 g3 g4=>?_);refine gX [36] (Γ':=[RA um.ao (rm.b.map (Value.int .u8))]) (fun I w _ hh=>aU (aY.p (k:=BF um) (a:=rm.b) inferInstance hh).2.2.2) (tD um.ao um.n um.c rm.b g1 g3 g2.1) ?_;rw[show ss rm.b=0 by unfold ss;rw[if_pos ZV]];rintro _ _ ⟨nm,am,mm,bm,rfl,rfl⟩;refine aq [] (jS f p (x:=x) 28 hsh ha) ?_;rintro _ _ ⟨ua,rfl,rfl⟩;refine bk [] 48 true rfl ?_;refine W.more (Δ:=[BF ua ra.b]) (by kernel_rfl) (mI ua) ?_;refine xw ua (fun k1 k2 k3 k4=>?_);refine gX [48] (Γ':=[RA ua.ao (ra.b.map (Value.int .u8))]) (fun I w _ hh=>aU (aY.p (k:=BF ua) (a:=ra.b) inferInstance hh).2.2.2) (tD ua.ao ua.n ua.c ra.b k1 k3 k2.1) ?_;rw[show ss ra.b=0 by unfold ss;rw[if_pos QI]];rintro _ _ ⟨na,aa,ma,ba,rfl,rfl⟩;refine aq [] (cU 45 (by decide) (by decide)) ?_;rintro _ _ ⟨u6,d6,rfl,rfl⟩;refine aq [] (cg u6 d6) ?_;rintro _ _ ⟨n7,a7,m7,b7,rfl,rfl⟩;refine aq [] (rC na aa ma ba n7 a7 m7 b7 (a:=nC ra.b) (by decide)) ?_;rintro _ _ ⟨n8,a8,m8,b8,rfl,rfl⟩;rw[heq];refine aq [] (ni n8 a8 m8 b8 (q:=q)) ?_;rintro _ _ ⟨u9,d9,rfl,rfl⟩;refine aq [] (cU 8 (by decide) (by decide)) ?_;rintro _ _ ⟨BC,d10,rfl,rfl⟩;refine aq [] (iR u9 d9 BC d10 (x:=nN q) (y:=8) (by decide)) ?_
     rintro _ _ ⟨u11,d11,v11,HO,rfl,rfl⟩;refine aq [] (jl v11 HO (x:=nN q % 8) hsm) ?_;rintro _ _ ⟨rfl,rfl⟩;refine aq [] (iQ nm am mm bm (q:=nC rm.b)) ?_;rintro _ _ ⟨rfl,rfl⟩;rw[Az];by_cases rl:g.num.sign>0
     ·refine bk [] 82 (decide (g.num.sign>0)) (ar rl) ?_;refine aq [82] (jk n8 a8 m8 b8 (q:=q)) ?_;rintro _ _ ⟨u14,d14,rfl,rfl⟩;refine aq [82] (cU 1 (by decide) (by decide)) ?_;rintro _ _ ⟨u15,d15,rfl,rfl⟩;refine aq [82] (oY u14 d14 u15 d15 (x:=(q.den:Int)) (y:=1)) ?_;rintro _ _ ⟨rfl,rfl⟩;exact W.r [82] (.tuple #[.bool (z != 0),qv nm am mm bm,.int .i64 (nN q % 8),.bool (mX (q.den:Int) 1==0)]) (.inr ⟨iw,nm,am,mm,bm,by rw[nH,oO,tA iw (by rw[rj];exact rl),pD,←jB],rfl⟩) (jY (by omega) (by rw[rj]))
     ·refine aR [] 82 (decide (g.num.sign>0)) (ai rl) ?_;exact W.r [82] (.tuple #[.bool (z != 0),qv nm am mm bm,.int .i64 (nN q % 8),.bool false]) (.inr ⟨iw,nm,am,mm,bm,by rw[nH,oO,yK iw (by rw[rj];exact rl)],rfl⟩) (jY (by omega) (by rw[rj]))
  ·have iw:kX x=true:=by unfold kX;rw[hzb];simp[h0,h1]
   refine bk [26] 29 (z != -32768) (by simpa using h1) ?_;exact W.r [29] (.tuple #[.bool false,qv n2 a2 m2 b2,.int .i64 0,.bool false]) (.inl ⟨iw,n2,a2,m2,b2,rfl,rfl⟩) bR
end
def rW(x:Im):Int:=if cz x 15 0=0 then 1 else cz x 15 0
def zA(x:Im):Int:=qM (bH x) (rW x) (cz x 33 0) (cz x 48 0) (cz x 49 0)
def tK(x:Im):Int:=if zA x=7 then 0 else zA x
def iS(x:Im):List (Sn×Sn):=if zA x=0∧cz x 15 0≠0 then rI (iv (bH x)).1.reverse (iv (bH x)).2.reverse (rW x) (cz x 33 0) (cz x 48 0) (cz x 49 0)else []
def zU(x:Im)(v:Value)(Δ:List aC):Prop:=
 ∃(ao:Option Addr) (c:Nat) (l:List jt),v=.tuple #[.slice ao l.length c,.int .i64 (tK x)]∧l.length≤c∧l.map jt.num=iS x∧Δ=[OL gd ao (130,l)]
theorem Bh(I:fN)(w:World):aE [OL gd none (130,[])] I w:=aU ⟨fun e he=>by simp at he,RA.nil _ _ _⟩
def j1(x:Im):Bool:=
 if cE x=8 then decide (4≤(bH x).length)&&decide ((bH x).getD 0 ⟨0,0⟩=(bH x).getD ((bH x).length-1) ⟨0,0⟩)
 else if cE x=45 then decide ((bH x).length=5)&&decide ((bH x).getD 0 ⟨0,0⟩=(bH x).getD 4 ⟨0,0⟩)
 else if cE x=9 then tK x==0
 else if cE x=10 then jb x&&decide (0<(bI x).1)&&decide (0<(bI x).2)&&decide ((bH x).length=1)
 else if cE x=11 then jb x&&decide (0<(bI x).1)&&decide (0<(bI x).2)&&decide ((bH x).length=3)
 else if cE x=12 then jb x
 else true
theorem Jd(n m:Nat):((n:Int)==(m:Int))=decide (n=m):=by
 by_cases h:n=m
 ·subst h;simp
 ·rw[ai h];simp;omega
theorem ui{α:Type}(l:List α)(i:Nat)(d:α)(h:i<l.length):l[i]? =some (l.getD i d):=by
 rw[dV,ak h];rfl
section
variable{Γ:List aC}
def PtI(u:Sl)(l:List Dp):Prop:=u.n=l.length∧(u.n≤u.c∧u.c≤9223372036854775807)∧(l≠ []→∃bb off,u.ao=some ⟨bb,off,none⟩)
theorem SE{u:Sl}{l:List Dp}{I:fN}{w:World}(h:(zb u l).p I w):PtI u l:=by
 obtain⟨h1,h2,h4⟩:=h;refine⟨h1,h2,fun hne=>?_⟩;obtain⟨bb,off,ha,_⟩:=h4 (by cases l with|nil=>exact absurd rfl hne|cons a r=>simp[dY]);exact⟨bb,off,ha⟩
theorem om(f p:Sl){x:Im} [h:aY (mK f p) x Γ](hx:qx x):aw tb Tryz.prog 80 [lO f p] Γ (fun v Δ=>∃u:Sl,PtI u (bH x)∧v=a_ u∧Δ=[zb u (bH x)]):=by
 refine(pz (fun v Δ=>∃u:Sl,PtI u (bH x)∧v=a_ u∧Δ=[zb u (bH x)]) (Pm f p (x:=x) hx) ?_).post (fun _ _ h=>h.2);rintro v Δ ⟨u,rfl,rfl⟩ I w hh;exact⟨u,SE hh.h0',rfl,rfl⟩
theorem IA(f p:Sl){x:Im} [h:aY (mK f p) x Γ](hx:qx x):aw tb Tryz.prog 82 [lO f p] Γ (zU x):=by
 obtain⟨E,hE⟩:∃E,zA x=E:=⟨_,rfl⟩;have hE':qM (bH x) (rW x) (cz x 33 0) (cz x 48 0) (cz x 49 0)=E:=hE;refine aw.of_W az Tryz.func82 rfl ?_;refine aq [] (iy f p (x:=x) 15 0 hx (.inr (.inr rfl))) ?_;rintro _ _ ⟨rfl,rfl⟩;by_cases h0:cz x 15 0=0
 ·skip
  have hw:rW x=1:=by unfold rW;rw[if_pos h0]
  refine bk [] 10 (cz x 15 0==0) (by rw[h0];decide) ?_;refine aq [10] (om f p (x:=x) hx) ?_;rintro _ _ ⟨u2,⟨g1,g2,g3⟩,rfl,rfl⟩;refine aq [] (iy f p (x:=x) 33 0 hx (.inl rfl)) ?_;rintro _ _ ⟨rfl,rfl⟩;refine aq [] (iy f p (x:=x) 48 0 hx (.inr (.inr rfl))) ?_;rintro _ _ ⟨rfl,rfl⟩;refine aq [] (iy f p (x:=x) 49 0 hx (.inr (.inr rfl))) ?_;rintro _ _ ⟨rfl,rfl⟩;refine gX [] (Γ':=[RA u2.ao ((bH x).flatMap dY)]) (fun I w _ hh=>aU (aY.p (k:=zb u2) (a:=bH x) inferInstance hh).2.2) (JX u2.ao u2.n u2.c (bH x) 1 (cz x 33 0) (cz x 48 0) (cz x 49 0) g1) ?_;rw[←hw];rintro _ _ (⟨he,rfl,rfl⟩|⟨he,ao,c,l,rfl,hc,hl,rfl⟩)
  ·rw[hE']at he⊢;by_cases h7:E=7
   ·refine bk [] 26 (E==7) (by rw[h7];decide) ?_;exact W.r [34,30,26] (.tuple #[.slice none 0 0,.int .i64 0]) ⟨none,0,[],by unfold tK;rw[hE,if_pos h7];rfl,aj _,by unfold iS;rw[if_neg (by rw[hE];exact fun q=>he q.1)];rfl,rfl⟩ (fun I w _ _=>Bh I w)
   ·refine aR [] 26 (E==7) (by simpa using h7) ?_;have hres:zU x (.tuple #[.slice none 0 0,.int .i64 E]) [OL gd none (130,[])]:=⟨none,0,[],by unfold tK;rw[hE,if_neg h7];rfl,aj _,by unfold iS;rw[if_neg (by rw[hE];exact fun q=>he q.1)];rfl,rfl⟩;refine aq [26] (iy f p (x:=x) 15 0 hx (.inr (.inr rfl))) ?_;rintro _ _ ⟨rfl,rfl⟩;refine bk [26] 30 (cz x 15 0==0) (by rw[h0];decide) ?_;refine aR [26,30] 34 (E==0) (by simpa using he) ?_;exact W.r [34] (.tuple #[.slice none 0 0,.int .i64 E]) hres (fun I w _ _=>Bh I w)
  ·rw[hE']at he;refine aR [] 26 ((0:Int)==7) (by decide) ?_;refine aq [26] (iy f p (x:=x) 15 0 hx (.inr (.inr rfl))) ?_;rintro _ _ ⟨rfl,rfl⟩;have QM:tK x=0:=by unfold tK;rw[hE,he];rfl
   refine bk [26] 30 (cz x 15 0==0) (by rw[h0];decide) ?_;refine bk [26,30] 34 ((0:Int)==0) (by decide) ?_;exact W.r [34] (.tuple #[.slice none 0 0,.int .i64 0]) ⟨none,0,[],by rw[QM];rfl,aj _,by unfold iS;rw[if_neg (fun q=>q.2 h0)];rfl,rfl⟩ (fun I w _ _=>Bh I w)
 ·skip
  have hw:rW x=cz x 15 0:=by unfold rW;rw[if_neg h0]
  refine aR [] 10 (cz x 15 0==0) (by simpa using h0) ?_;refine aq [10] (om f p (x:=x) hx) ?_;rintro _ _ ⟨u2,⟨g1,g2,g3⟩,rfl,rfl⟩;refine aq [] (iy f p (x:=x) 33 0 hx (.inl rfl)) ?_;rintro _ _ ⟨rfl,rfl⟩;refine aq [] (iy f p (x:=x) 48 0 hx (.inr (.inr rfl))) ?_;rintro _ _ ⟨rfl,rfl⟩;refine aq [] (iy f p (x:=x) 49 0 hx (.inr (.inr rfl))) ?_;rintro _ _ ⟨rfl,rfl⟩;refine gX [] (Γ':=[RA u2.ao ((bH x).flatMap dY)]) (fun I w _ hh=>aU (aY.p (k:=zb u2) (a:=bH x) inferInstance hh).2.2) (JX u2.ao u2.n u2.c (bH x) (cz x 15 0) (cz x 33 0) (cz x 48 0) (cz x 49 0) g1) ?_;rw[←hw];rintro _ _ (⟨he,rfl,rfl⟩|⟨he,ao,c,l,rfl,hc,hl,rfl⟩)
  ·rw[hE']at he⊢;by_cases h7:E=7
   ·refine bk [] 26 (E==7) (by rw[h7];decide) ?_;exact W.r [34,30,26] (.tuple #[.slice none 0 0,.int .i64 0]) ⟨none,0,[],by unfold tK;rw[hE,if_pos h7];rfl,aj _,by unfold iS;rw[if_neg (by rw[hE];exact fun q=>he q.1)];rfl,rfl⟩ (fun I w _ _=>Bh I w)
   ·refine aR [] 26 (E==7) (by simpa using h7) ?_;have hres:zU x (.tuple #[.slice none 0 0,.int .i64 E]) [OL gd none (130,[])]:=⟨none,0,[],by unfold tK;rw[hE,if_neg h7];rfl,aj _,by unfold iS;rw[if_neg (by rw[hE];exact fun q=>he q.1)];rfl,rfl⟩;refine aq [26] (iy f p (x:=x) 15 0 hx (.inr (.inr rfl))) ?_;rintro _ _ ⟨rfl,rfl⟩;refine aR [26] 30 (cz x 15 0==0) (by simpa using h0) ?_;exact W.r [34,26,30] (.tuple #[.slice none 0 0,.int .i64 E]) hres (fun I w _ _=>Bh I w)
  ·rw[hE']at he;refine aR [] 26 ((0:Int)==7) (by decide) ?_;refine aq [26] (iy f p (x:=x) 15 0 hx (.inr (.inr rfl))) ?_;rintro _ _ ⟨rfl,rfl⟩;have QM:tK x=0:=by unfold tK;rw[hE,he];rfl
   refine aR [26] 30 (cz x 15 0==0) (by simpa using h0) ?_;exact W.r [34,26,30] (.tuple #[.slice ao l.length c,.int .i64 0]) ⟨ao,c,l,by rw[QM],hc,by rw[hl];unfold iS;rw[if_pos ⟨by rw[hE,he],h0⟩],rfl⟩ (fun I w _ hh=>aU (aY.p (k:=OL gd ao) (a:=(130,l)) inferInstance hh))
theorem GA(f p:Sl){x:Im} [h:aY (mK f p) x Γ](hx:qx x):aw tb Tryz.prog 85 [lO f p] Γ (jf (.bool (jb x))):=by
 refine aw.of_W az Tryz.func85 rfl ?_;refine aq [] (wR f p (x:=x) hx) ?_;rintro _ _ (⟨hb,n,a,m,b,rfl,rfl⟩|⟨hb,n,a,m,b,rfl,rfl⟩)
 ·exact W.r [] (.bool false) ⟨by unfold jb;rw[hb];rfl,rfl⟩ bR
 ·exact W.r [] (.bool (jb x)) ⟨rfl,rfl⟩ bR
theorem SC(f p:Sl){x:Im} [h:aY (mK f p) x Γ](hx:qx x)(hk:cE x=8∨cE x=9∨cE x=10∨cE x=11∨cE x=12∨cE x=21∨cE x=45):aw tb Tryz.prog 46 [lO f p] Γ (jf (.bool (j1 x))):=by
 obtain⟨R,hR⟩:∃R,j1 x=R:=⟨_,rfl⟩;rw[hR];unfold j1 at hR;have pk:=gy f p (x:=x) (Γ:=Γ) hx;refine aw.of_W az Tryz.func46 rfl ?_;refine aq [] (om f p (x:=x) hx) ?_;rintro _ _ ⟨u,⟨g1,g2,g3⟩,rfl,rfl⟩;obtain⟨l,hl⟩:∃l,bH x=l:=⟨_,rfl⟩;rw[hl]at hR g1 g3⊢;refine aq [] (gy f p (x:=x) hx) ?_;rintro _ _ ⟨rfl,rfl⟩;obtain⟨k,La⟩:∃k,cE x=k:=⟨_,rfl⟩;have FF:∀(Γ2:List aC) [h2:aY (mK f p) x Γ2],aw tb Tryz.prog 81 [lO f p] Γ2 (jf (.int .u8 (cE x))):=fun Γ2 h2=>gy f p (x:=x) hx;rw[La]at hR hk FF⊢;rcases hk with rfl|rfl|rfl|rfl|rfl|rfl|rfl
 ·rw[if_pos rfl]at hR;by_cases hlen:4≤l.length
  ·refine bk [17] 22 (decide ((u.n:Int)≥4)) (ar (by omega)) ?_;obtain⟨bb,off,hao⟩:=g3 (by rintro rfl;simp at hlen);obtain⟨ua,un,uc⟩:=u;simp only at g1 g2 hao hlen;subst hao;refine bY [22] 2 bb off un uc .i64 0 0 rfl az (by omega) ?_;refine cY [22] bb (off+0*2) (dY (l.getD 0 ⟨0,0⟩)) az (fun I w hd hh j v hv=>nL bb off un uc (ui l 0 ⟨0,0⟩ (by omega)) I w hd hh j v hv) ?_;refine bY [22] 2 bb off un uc .i64 (l.length-1) (IntKind.i64.wrap ((un:Int)-1)) (by rw[af];omega) az (by omega) ?_;refine cY [22] bb (off+(l.length-1)*2) (dY (l.getD (l.length-1) ⟨0,0⟩)) az (fun I w hd hh j v hv=>nL bb off un uc (ui l (l.length-1) ⟨0,0⟩ (by omega)) I w hd hh j v hv) ?_;refine EP [22] 58 (l.getD 0 ⟨0,0⟩) (l.getD (l.length-1) ⟨0,0⟩) ?_;exact W.r [22] (.bool (decide (l.getD 0 ⟨0,0⟩=l.getD (l.length-1) ⟨0,0⟩))) ⟨by rw[←hR,ar hlen,dH],rfl⟩ bR
  ·refine aR [17] 22 (decide ((u.n:Int)≥4)) (ai (by omega)) ?_;exact W.r [22] (.bool false) ⟨by rw[←hR,ai hlen,fj],rfl⟩ bR
 ·refine aR [17] 34 false rfl ?_;refine bk [34] 48 true rfl ?_;refine aq [48] (IA f p (x:=x) hx) ?_;rintro _ _ ⟨ao,c,l2,rfl,hc,hl2,rfl⟩;exact W.r [] (.bool (tK x==0)) ⟨by rw[←hR];rfl,rfl⟩ bR
 ·rw[if_neg (by decide),if_neg (by decide),if_neg (by decide),if_pos rfl]at hR;refine aR [17] 34 false rfl ?_;refine aR [34] 48 false rfl ?_;refine bk [48] 57 true rfl ?_;refine aq [57] (tC f p (x:=x) hx) ?_;rintro _ _ ⟨rfl,rfl⟩;refine aq [] (wR f p (x:=x) hx) ?_;rintro _ _ (⟨hb,n,a,m,b,rfl,rfl⟩|⟨hb,n,a,m,b,rfl,rfl⟩)
  ·have ht:jb x=false:=by unfold jb;rw[hb];rfl
   rw[ht]at hR;refine aq [] (FF _) ?_;rintro _ _ ⟨rfl,rfl⟩;refine aR [74] 76 false rfl ?_;refine aR [76] 80 false rfl ?_;refine aR [80] 84 false rfl ?_;exact W.r [84] (.bool false) ⟨by rw[←hR];rfl,rfl⟩ bR
  ·refine aq [] (FF _) ?_;rintro _ _ ⟨rfl,rfl⟩;refine W.d [74] 76 (jb x) (fun ht=>?_) (fun ht=>?_)
   ·rw[ht,dH]at hR;by_cases h1:0<(bI x).1
    ·refine bk [76] 80 (decide ((bI x).1>0)) (ar h1) ?_;rw[ar h1,dH]at hR;by_cases h2:0<(bI x).2
     ·refine bk [80] 84 (decide ((bI x).2>0)) (ar h2) ?_;rw[ar h2,dH]at hR;exact W.r [84] (.bool ((u.n:Int)==1)) ⟨by rw[←hR,g1];exact dF Value.bool (Jd l.length _),rfl⟩ bR
     ·refine aR [80] 84 (decide ((bI x).2>0)) (ai h2) ?_;rw[ai h2,fj]at hR;exact W.r [84] (.bool false) ⟨by rw[←hR],rfl⟩ bR
    ·refine aR [76] 80 (decide ((bI x).1>0)) (ai h1) ?_;rw[ai h1,fj,fj]at hR;refine aR [80] 84 false rfl ?_;exact W.r [84] (.bool false) ⟨by rw[←hR],rfl⟩ bR
   ·rw[ht,fj,fj,fj]at hR;refine aR [76] 80 false rfl ?_;refine aR [80] 84 false rfl ?_;exact W.r [84] (.bool false) ⟨by rw[←hR],rfl⟩ bR
 ·rw[if_neg (by decide),if_neg (by decide),if_neg (by decide),if_neg (by decide),if_pos rfl]at hR;refine aR [17] 34 false rfl ?_;refine aR [34] 48 false rfl ?_;refine aR [48] 57 false rfl ?_;refine aq [57] (tC f p (x:=x) hx) ?_;rintro _ _ ⟨rfl,rfl⟩;refine aq [] (wR f p (x:=x) hx) ?_;rintro _ _ (⟨hb,n,a,m,b,rfl,rfl⟩|⟨hb,n,a,m,b,rfl,rfl⟩)
  ·have ht:jb x=false:=by unfold jb;rw[hb];rfl
   rw[ht]at hR;refine aq [] (FF _) ?_;rintro _ _ ⟨rfl,rfl⟩;refine aR [74] 76 false rfl ?_;refine aR [76] 80 false rfl ?_;refine aR [80] 84 false rfl ?_;exact W.r [84] (.bool false) ⟨by rw[←hR];rfl,rfl⟩ bR
  ·refine aq [] (FF _) ?_;rintro _ _ ⟨rfl,rfl⟩;refine W.d [74] 76 (jb x) (fun ht=>?_) (fun ht=>?_)
   ·rw[ht,dH]at hR;by_cases h1:0<(bI x).1
    ·refine bk [76] 80 (decide ((bI x).1>0)) (ar h1) ?_;rw[ar h1,dH]at hR;by_cases h2:0<(bI x).2
     ·refine bk [80] 84 (decide ((bI x).2>0)) (ar h2) ?_;rw[ar h2,dH]at hR;exact W.r [84] (.bool ((u.n:Int)==3)) ⟨by rw[←hR,g1];exact dF Value.bool (Jd l.length _),rfl⟩ bR
     ·refine aR [80] 84 (decide ((bI x).2>0)) (ai h2) ?_;rw[ai h2,fj]at hR;exact W.r [84] (.bool false) ⟨by rw[←hR],rfl⟩ bR
    ·refine aR [76] 80 (decide ((bI x).1>0)) (ai h1) ?_;rw[ai h1,fj,fj]at hR;refine aR [80] 84 false rfl ?_;exact W.r [84] (.bool false) ⟨by rw[←hR],rfl⟩ bR
   ·rw[ht,fj,fj,fj]at hR;refine aR [76] 80 false rfl ?_;refine aR [80] 84 false rfl ?_;exact W.r [84] (.bool false) ⟨by rw[←hR],rfl⟩ bR
 ·refine aR [17] 34 false rfl ?_;refine aR [34] 48 false rfl ?_;refine aR [48] 57 false rfl ?_;refine bk [57] 90 true rfl ?_;refine aq [90] (GA f p (x:=x) hx) ?_;rintro _ _ ⟨rfl,rfl⟩;exact W.r [] (.bool (jb x)) ⟨by rw[←hR];rfl,rfl⟩ bR
 ·refine aR [17] 34 false rfl ?_;refine aR [34] 48 false rfl ?_;refine aR [48] 57 false rfl ?_;refine aR [57] 90 false rfl ?_;exact W.r [90] (.bool true) ⟨by rw[←hR];rfl,rfl⟩ bR
 ·rw[if_neg (by decide),if_pos rfl]at hR;refine bk [17] 34 true rfl ?_;by_cases hlen:l.length=5
  ·refine bk [34] 39 ((u.n:Int)==5) (by rw[g1,hlen];decide) ?_;obtain⟨bb,off,hao⟩:=g3 (by rintro rfl;simp at hlen);obtain⟨ua,un,uc⟩:=u;simp only at g1 g2 hao hlen;subst hao;refine bY [39] 2 bb off un uc .i64 0 0 rfl az (by omega) ?_;refine cY [39] bb (off+0*2) (dY (l.getD 0 ⟨0,0⟩)) az (fun I w hd hh j v hv=>nL bb off un uc (ui l 0 ⟨0,0⟩ (by omega)) I w hd hh j v hv) ?_;refine bY [39] 2 bb off un uc .i64 (4) 4 rfl az (by omega) ?_;refine cY [39] bb (off+(4)*2) (dY (l.getD (4) ⟨0,0⟩)) az (fun I w hd hh j v hv=>nL bb off un uc (ui l (4) ⟨0,0⟩ (by omega)) I w hd hh j v hv) ?_;refine EP [39] 58 (l.getD 0 ⟨0,0⟩) (l.getD (4) ⟨0,0⟩) ?_;exact W.r [39] (.bool (decide (l.getD 0 ⟨0,0⟩=l.getD 4 ⟨0,0⟩))) ⟨by rw[←hR,ar hlen,dH],rfl⟩ bR
  ·refine aR [34] 39 ((u.n:Int)==5) (by rw[g1];simpa using fun h=>hlen (by omega)) ?_;exact W.r [39] (.bool false) ⟨by rw[←hR,ai hlen,fj],rfl⟩ bR
end
abbrev FO(fb:Nat)(cs:Sl)(bn cn dn:Nat)(most:Int)(sh:Value):List (Nat×List Value):=[(fb,[a_ cs,.map (some bn),.map (some cn),.map (some dn),.int .i64 most,sh])]
def Km:Tb:={tbM [44,45,47,48,87,89,90,28] False undef with cloc:=true}
theorem bG:Km.Ok Tryz.prog:=⟨az.mixed,az.ty⟩
theorem aw.mF{f:FuncId}{args:List Value}{Γ:List aC}{post:Value→List aC→Prop}(h:aw tb Tryz.prog f args Γ post):aw Km Tryz.prog f args Γ post:=h
def mc(nm:List (ByteArray×Int))(x:Im):Option Int:=(kn x).map fun s=>(gl (strOfNums s) nm).getD (-1)
def iI(nm:List (ByteArray×Int))(c:Ce):List Int:=c.i.filterMap (mc nm)
def UG(c:Ce):Prop:=∀x∈c.i,qx x
def bZ{α:Type}(l:List (α×Int)):List (α×Value):=l.map fun e=>(e.1,.int .i64 e.2)
theorem mq{α:Type} [DecidableEq α](k:α):∀l:List (α×Int),gl k (bZ l)=(gl k l).map (Value.int .i64)
 | []=>rfl
 |(j,v)::l=>by
  show gl k ((j,Value.int .i64 v)::bZ l)=_;by_cases h:k=j
  ·simp[gl,h]
  ·simp only[gl,h,dW];exact mq k l
structure abq where
 i:Nat
 z:Int
 v:Value
 O:List (Nat×List Value)
section
variable{Γ:List aC}
theorem Iz(fb bn cn dn:Nat)(cs:Sl)(most:Int)(sh:Value)(c:Int){i:Nat}(hc:c=i){t:List Ce} [h:aY (lC cs) t Γ]{x:Ce}(hx:t[i]? =some x)(hok:UG x)(N7:x.i.length≤100000)(nm:List (ByteArray×Int)):
  dj Km Tryz.prog 44 [fg fb,.int .i64 c] (FO fb cs bn cn dn most sh) [(bn,bJ dO (bZ nm))] Γ (fun v O M Δ=>∃u:Sl,u.n=(iI nm x).length∧v=a_ u∧O=FO fb cs bn cn dn most sh∧M=[(bn,bJ dO (bZ nm))]∧Δ=[NL u (iI nm x)]):=by
 refine dj.of_W bG Tryz.func44 rfl ?_;obtain⟨ca,cm,cc⟩:=cs;refine W.len lF pd.x ⟨ca,cm,cc⟩ rfl (fun h1 h2 h3=>?_);simp only at h1 h2 h3;have hil:i<cm:=by rw[h1];exact(List.getElem?_eq_some_iff.1 hx).1
 refine uR ⟨ca,cm,cc⟩ hx (fun b off fh fi ha=>?_);simp only at ha;subst ha;refine W.more (Δ:=[qy fi x.i]) rfl (fun I w _ hh=>aU (aY.p (k:=za fh fi) (a:=x) inferInstance hh).2) ?_;obtain⟨ia,im,ic⟩:=fi;refine W.len pX ph.x ⟨ia,im,ic⟩ rfl (fun i1 i2 i3=>?_);simp only at i1 i2 i3;refine bW [] 0 fb 0 bG ?_;refine dK [] (FO fb ⟨some ⟨b,off,none⟩,cm,cc⟩ bn cn dn most sh) fb (0+0) 1 [.slice (some ⟨b,off,none⟩) cm cc,.map (some bn),.map (some cn),.map (some dn),.int .i64 most,sh] (.slice (some ⟨b,off,none⟩) cm cc) bG (.head _) rfl ?_;refine bY [] 2 b off cm cc .i64 i c hc bG hil ?_;refine bW [] 1 b (off+i*2) bG ?_;refine dB [] 1 b (off+i*2+1) (.slice ia im ic) bG (fun I w hd hh=>cB (T:=Km) b (off+i*2) I w hd hh 1 _ rfl) ?_;refine gO [] [5,21] (fun a:abq=>[(5,a.v),(21,.int .i64 a.z)]) (fun _=>[]) (fun a=>FO fb ⟨some ⟨b,off,none⟩,cm,cc⟩ bn cn dn most sh++a.O) (fun a=>[qy ⟨ia,im,ic⟩ x.i]) (fun a=>a.z=a.i∧a.i≤im∧cH 1 a.O a.v ((x.i.take a.i).filterMap (mc nm)).length (((x.i.take a.i).filterMap (mc nm)).map (Value.int .i64))) (fun a=>im-a.i) ⟨0,0,.slice none 0 0,[]⟩ ⟨rfl,aJ _,cH.nil 1⟩ (eC eK eE) ?_;rintro⟨j,z,v,O⟩ K ⟨hz,hj,hg⟩ close;simp only at hz hj hg;by_cases hlt:j<im
 ·obtain⟨y,hy⟩:∃y,x.i[j]? =some y:=⟨_,ak (by omega)⟩;have lz:=hok y (aN hy);have hlen:((x.i.take j).filterMap (mc nm)).length≤100000:=by
   have h1:=List.length_filterMap_le (mc nm) (x.i.take j);have h2:=List.length_take_le j x.i;omega
  refine vV ⟨ia,im,ic⟩ hy (fun b2 oU yf yp ha=>?_);simp only at ha;subst ha;refine bk [] 22 (decide (z<(im:Int))) (ar (by omega)) ?_;refine bY [22] 2 b2 oU im ic .i64 j z hz bG hlt ?_;refine cY [] b2 (oU+j*2) [a_ yf,a_ yp] bG (cB b2 (oU+j*2)) ?_;refine aq [] (wO yf yp (x:=y) lz).mF ?_;rintro _ _ ⟨rfl,rfl⟩;cases hn:kn y with
  |none=>
   refine aR [] 30 (none:Option (List Int)).isSome rfl ?_;refine close [30] _ _ ⟨j+1,IntKind.i64.wrap (z+1),v,O⟩ (by kernel_rfl) (by kernel_rfl) ⟨by simp only[af];omega,hlt,?_⟩ (by simp only;omega) (eC eK eE);rw[fr hy,List.filterMap_append];simpa [mc,hn]using hg
  |some nn=>
   have acS:mc nm y=some ((gl (strOfNums nn) nm).getD (-1)):=by unfold mc;rw[hn];rfl
   have next:∀v' O',cH 1 O' v' (((x.i.take j).filterMap (mc nm)).length+1) (((x.i.take j).filterMap (mc nm)).map (Value.int .i64)++[.int .i64 ((gl (strOfNums nn) nm).getD (-1))])→cH 1 O' v' ((x.i.take (j+1)).filterMap (mc nm)).length (((x.i.take (j+1)).filterMap (mc nm)).map (Value.int .i64)):=fun v' O' hg'=>by
    rw[fr hy,List.filterMap_append];simpa [acS]using hg'
   refine bk [] 30 (some nn:Option (List Int)).isSome rfl ?_;refine bW [30] 1 fb 0 bG ?_;refine dK [] (FO fb ⟨some ⟨b,off,none⟩,cm,cc⟩ bn cn dn most sh++O) fb (0+1) 1 [.slice (some ⟨b,off,none⟩) cm cc,.map (some bn),.map (some cn),.map (some dn),.int .i64 most,sh] (.map (some bn)) bG (.head _) rfl ?_;refine uS [] dO 69 9 3 true (FO fb ⟨some ⟨b,off,none⟩,cm,cc⟩ bn cn dn most sh++O) [(bn,bJ dO (bZ nm))] bn (strOfNums nn) (bZ nm) (.int .i64 0) bG (.head _) ?_;rw[mq];cases hk:gl (strOfNums nn) nm with
   |none=>
    rw[hk]at next
    refine bk [] 41 true rfl ?_;refine cQ [41] 1 [.int .i64 (-1)] bG (fun b8=>?_);refine W.app [] (FO fb ⟨some ⟨b,off,none⟩,cm,cc⟩ bn cn dn most sh++O) (FO fb ⟨some ⟨b,off,none⟩,cm,cc⟩ bn cn dn most sh) O [] 1 8 ((x.i.take j).filterMap (mc nm)).length 1 v (.slice (some ⟨b8,0,none⟩) 1 1) (((x.i.take j).filterMap (mc nm)).map (Value.int .i64)) [.int .i64 (-1)] bG (by simp) hg (b_ b8 _ 1 1 rfl 1) (by simp[Value.oneCell']) (by omega) (by decide) (fun v' O' hg'=>?_);exact close [] _ _ ⟨j+1,IntKind.i64.wrap (z+1),v',O'⟩ (by kernel_rfl) (by simp only[ah];kernel_rfl) ⟨by simp only[af];omega,hlt,next v' O' hg'⟩ (by simp only;omega) (eC eK eE)
   |some q=>
    rw[hk]at next
    refine aR [] 41 false rfl ?_;refine cQ [41] 1 [.int .i64 q] bG (fun b8=>?_);refine W.app [] (FO fb ⟨some ⟨b,off,none⟩,cm,cc⟩ bn cn dn most sh++O) (FO fb ⟨some ⟨b,off,none⟩,cm,cc⟩ bn cn dn most sh) O [] 1 8 ((x.i.take j).filterMap (mc nm)).length 1 v (.slice (some ⟨b8,0,none⟩) 1 1) (((x.i.take j).filterMap (mc nm)).map (Value.int .i64)) [.int .i64 q] bG (by simp) hg (b_ b8 _ 1 1 rfl 1) (by simp[Value.oneCell']) (by omega) (by decide) (fun v' O' hg'=>?_);exact close [] _ _ ⟨j+1,IntKind.i64.wrap (z+1),v',O'⟩ (by kernel_rfl) (by simp only[ah];kernel_rfl) ⟨by simp only[af];omega,hlt,next v' O' hg'⟩ (by simp only;omega) (eC eK eE)
 ·have hx2:x.i.take j=x.i:=aS (by omega);rw[hx2]at hg;refine aR [] 22 (decide (z<(im:Int))) (ai (by omega)) ?_;obtain⟨u,rfl⟩:=iC hg;refine mo (FO fb ⟨some ⟨b,off,none⟩,cm,cc⟩ bn cn dn most sh) O [] (by rw[ah O];kernel_rfl) hg (fun g5 g1 g2=>?_);exact jO [22] (a_ u) (FO fb ⟨some ⟨b,off,none⟩,cm,cc⟩ bn cn dn most sh) [(bn,bJ dO (bZ nm))] ⟨u,g5,rfl,rfl,rfl,rfl⟩ (eC (fun I w hd hh=>⟨g5,⟨g1,g2⟩,eK (k:=RA u.ao) I w hd hh⟩) eE)
end
end Go.Proofs.YtgaaopjagcaojaaGreat
