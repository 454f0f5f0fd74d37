import Derived.Test.YtgaaopjagcaojaaGreatLk
import Derived.Test.YtgaaopjagcaojaaGreatLs
set_option linter.unusedSimpArgs false
set_option linter.unusedVariables false
set_option maxHeartbeats 2000000
namespace Go.Proofs.YtgaaopjagcaojaaGreat
open Go.RowKit Go.IntWalk
def DS(x:Im):Int:=cD x 26 0
def jK(x:Im):Rat:=match dK x 27 with
 |some r=>nV r.b
 |none=>((1:Int):Rat)
def wv(x:Im):Rat:=match dK x 28 with
 |some r=>nV r.b
 |none=>0
def gw(x:Im):Rat:=wv x/((45:Int):Rat)
def gH(x:Im):Int:=om (gw x) % 8
def lj(x:Im):Bool:=DS x != 0&&DS x != -32768
def iU(x:Im):Bool:= !lj x&&(decide (0<(jK x).num.sign)&&decide ((gw x).den=1))
def oY(x:Im):Bool:=DS x != 0
def UE(x:Im)(v:Value)(Δ:List aE):Prop:=
 (lj x=true∧∃(n:Sl) (a:Bool) (m:Sl) (b:Bool),v=.tuple #[.bool false,qv n a m b,.int .i64 0,.bool false]∧Δ=[])∨
 (lj x=false∧∃(n:Sl) (a:Bool) (m:Sl) (b:Bool),v=.tuple #[.bool (oY x),qv n a m b,.int .i64 (gH x),.bool (iU x)]∧Δ=[QF n a m b (50,jK x)])
theorem lE(x:Im):iy (gH x)=true:=by
 unfold gH iy;simp only[aK,dj];omega
theorem Wf(x:Im):0≤gH x∧gH x≤7:=by
 unfold gH;omega
theorem pM(d:Nat):(nu (d:Int) 1==0)=decide (d=1):=by
 unfold nu;by_cases h:d=1
 ·subst h;rfl
 ·rw[ak h];split
  ·rfl
  ·rw[if_neg (by omega)];rfl
theorem y8{x:Im}(h:lj x=false)(hs:¬(jK x).num.sign>0):iU x=false:=by
 unfold iU;rw[h,ak hs];rfl
theorem tP{x:Im}(h:lj x=false)(hs:(jK x).num.sign>0):iU x=decide ((gw x).den=1):=by
 unfold iU;rw[h,aw hs];rfl
section
variable{Γ:List aE}
theorem xk(f p:Sl){x:Im} [h:aZ (mr f p) x Γ](hx:qN x):au tb Tryz.prog 84 [mq f p] Γ (UE x):=by
 obtain⟨z,hz⟩:∃z,cD x 26 0=z:=⟨_,rfl⟩;have hzb:DS x=z:=hz;have n_:oY x=(z != 0):=by unfold oY;rw[hzb]
 have hsh:=hx.short;refine au.of_W aB Tryz.func84 rfl ?_;refine aj [] (cV 1 (by decide) (by decide)) ?_;rintro _ _ ⟨u1,d1,rfl,rfl⟩;refine aj [] (cj u1 d1) ?_;rintro _ _ ⟨n2,a2,m2,b2,rfl,rfl⟩;refine aj [] (iQ f p (x:=x) 26 0 hx (.inr (.inl rfl))) ?_;rw[hz];rintro _ _ ⟨rfl,rfl⟩;by_cases h0:z=0
 ·have iP:lj x=false:=by unfold lj;rw[hzb,h0];rfl
  refine aS [] 26 (z != 0) (by simpa using h0) ?_;cases hm:dK x 27 with
  |none=>
   obtain⟨g,rM⟩:∃g,jK x=g:=⟨_,rfl⟩;have AP:((1:Int):Rat)=g:=by rw[←rM];unfold jK;rw[hm]
   cases ha:dK x 28 with
   |none=>
    obtain⟨q,jQ⟩:∃q,q=gw x:=⟨_,rfl⟩;have heq:(0:Rat)/((45:Int):Rat)=q:=by rw[jQ];unfold gw wv;rw[ha]
    have o5:gH x=om q % 8:=by unfold gH;rw[jQ]
    have hsm:iy (om q % 8)=true:=by have:=lE x;unfold gH at this;rw[←jQ]at this;exact this
    refine aj [29,26] (j3 f p (x:=x) 27 hsh hm) ?_;rintro _ _ ⟨rfl,rfl⟩;refine aS [] 36 false rfl ?_;refine aj [36] (j3 f p (x:=x) 28 hsh ha) ?_;rintro _ _ ⟨rfl,rfl⟩;refine aS [] 48 false rfl ?_;refine aj [48] (cV 45 (by decide) (by decide)) ?_;rintro _ _ ⟨u6,d6,rfl,rfl⟩;refine aj [] (cj u6 d6) ?_;rintro _ _ ⟨n7,a7,m7,b7,rfl,rfl⟩;refine gI [] (kW (L':=0)) (rS ⟨none,0,0⟩ false ⟨none,0,0⟩ false n7 a7 m7 b7 (a:=0) (by decide)) ?_;rintro _ _ ⟨n8,a8,m8,b8,rfl,rfl⟩;rw[heq];refine aj [] (nI n8 a8 m8 b8 (q:=q)) ?_;rintro _ _ ⟨u9,d9,rfl,rfl⟩;refine aj [] (cV 8 (by decide) (by decide)) ?_;rintro _ _ ⟨BW,d10,rfl,rfl⟩;refine aj [] (jh u9 d9 BW d10 (x:=om q) (y:=8) (by decide)) ?_;rintro _ _ ⟨u11,d11,v11,Ib,rfl,rfl⟩;refine aj [] (jC v11 Ib (x:=om q % 8) hsm) ?_;rintro _ _ ⟨rfl,rfl⟩;refine aj [] (jg n2 a2 m2 b2 (q:=((1:Int):Rat))) ?_;rintro _ _ ⟨rfl,rfl⟩;rw[AP];by_cases rN:g.num.sign>0
    ·refine bD [] 82 (decide (g.num.sign>0)) (aw rN) ?_;refine aj [82] (jB n8 a8 m8 b8 (q:=q)) ?_;rintro _ _ ⟨u14,d14,rfl,rfl⟩;refine aj [82] (cV 1 (by decide) (by decide)) ?_;rintro _ _ ⟨u15,d15,rfl,rfl⟩;refine aj [82] (pq u14 d14 u15 d15 (x:=(q.den:Int)) (y:=1)) ?_;rintro _ _ ⟨rfl,rfl⟩;exact W.r [82] (.tuple #[.bool (z != 0),qv n2 a2 m2 b2,.int .i64 (om q % 8),.bool (nu (q.den:Int) 1==0)]) (.inr ⟨iP,n2,a2,m2,b2,by rw[n_,o5,tP iP (by rw[rM];exact rN),pM,←jQ],rfl⟩) (j9 (by omega) (by rw[rM]))
    ·refine aS [] 82 (decide (g.num.sign>0)) (ak rN) ?_;exact W.r [82] (.tuple #[.bool (z != 0),qv n2 a2 m2 b2,.int .i64 (om q % 8),.bool false]) (.inr ⟨iP,n2,a2,m2,b2,by rw[n_,o5,y8 iP (by rw[rM];exact rN)],rfl⟩) (j9 (by omega) (by rw[rM]))
   |some ra=>
    have Vu:ra.b.length=8:=by obtain⟨_,l1,l2,l3⟩:=hx.len ha (s:=⟨5,8,1,1⟩) rfl;simp only at l1 l2 l3;omega
    obtain⟨q,jQ⟩:∃q,q=gw x:=⟨_,rfl⟩;have heq:nV ra.b/((45:Int):Rat)=q:=by rw[jQ];unfold gw wv;rw[ha]
    have o5:gH x=om q % 8:=by unfold gH;rw[jQ]
    have hsm:iy (om q % 8)=true:=by have:=lE x;unfold gH at this;rw[←jQ]at this;exact this
    refine aj [29,26] (j3 f p (x:=x) 27 hsh hm) ?_;rintro _ _ ⟨rfl,rfl⟩;refine aS [] 36 false rfl ?_;refine aj [36] (j4 f p (x:=x) 28 hsh ha) ?_;rintro _ _ ⟨ua,rfl,rfl⟩;refine bD [] 48 true rfl ?_;refine W.more (Δ:=[BF ua ra.b]) (by kernel_rfl) (mX ua) ?_;refine xS ua (fun k1 k2 k3 k4=>?_);refine gI [48] (Γ':=[RA ua.ao (ra.b.map (Value.int .u8))]) (fun I w _ hh=>aV (aZ.p (k:=BF ua) (a:=ra.b) inferInstance hh).2.2.2) (tS ua.ao ua.n ua.c ra.b k1 k3 k2.1) ?_;rw[show sL ra.b=0 by unfold sL;rw[if_pos Vu]];rintro _ _ ⟨na,aa,ma,ba,rfl,rfl⟩;refine aj [] (cV 45 (by decide) (by decide)) ?_;rintro _ _ ⟨u6,d6,rfl,rfl⟩;refine aj [] (cj u6 d6) ?_;rintro _ _ ⟨n7,a7,m7,b7,rfl,rfl⟩;refine aj [] (rS na aa ma ba n7 a7 m7 b7 (a:=nV ra.b) (by decide)) ?_;rintro _ _ ⟨n8,a8,m8,b8,rfl,rfl⟩;rw[heq];refine aj [] (nI n8 a8 m8 b8 (q:=q)) ?_;rintro _ _ ⟨u9,d9,rfl,rfl⟩;refine aj [] (cV 8 (by decide) (by decide)) ?_;rintro _ _ ⟨BW,d10,rfl,rfl⟩;refine aj [] (jh u9 d9 BW d10 (x:=om q) (y:=8) (by decide)) ?_;rintro _ _ ⟨u11,d11,v11,Ib,rfl,rfl⟩;refine aj [] (jC v11 Ib (x:=om q % 8) hsm) ?_;rintro _ _ ⟨rfl,rfl⟩;refine aj [] (jg n2 a2 m2 b2 (q:=((1:Int):Rat))) ?_;rintro _ _ ⟨rfl,rfl⟩;rw[AP];by_cases rN:g.num.sign>0
    ·refine bD [] 82 (decide (g.num.sign>0)) (aw rN) ?_;refine aj [82] (jB n8 a8 m8 b8 (q:=q)) ?_;rintro _ _ ⟨u14,d14,rfl,rfl⟩;refine aj [82] (cV 1 (by decide) (by decide)) ?_;rintro _ _ ⟨u15,d15,rfl,rfl⟩;refine aj [82] (pq u14 d14 u15 d15 (x:=(q.den:Int)) (y:=1)) ?_;rintro _ _ ⟨rfl,rfl⟩;exact W.r [82] (.tuple #[.bool (z != 0),qv n2 a2 m2 b2,.int .i64 (om q % 8),.bool (nu (q.den:Int) 1==0)]) (.inr ⟨iP,n2,a2,m2,b2,by rw[n_,o5,tP iP (by rw[rM];exact rN),pM,←jQ],rfl⟩) (j9 (by omega) (by rw[rM]))
    ·refine aS [] 82 (decide (g.num.sign>0)) (ak rN) ?_;exact W.r [82] (.tuple #[.bool (z != 0),qv n2 a2 m2 b2,.int .i64 (om q % 8),.bool false]) (.inr ⟨iP,n2,a2,m2,b2,by rw[n_,o5,y8 iP (by rw[rM];exact rN)],rfl⟩) (j9 (by omega) (by rw[rM]))
  |some rm=>
   have Zh:rm.b.length=8:=by obtain⟨_,l1,l2,l3⟩:=hx.len hm (s:=⟨5,8,1,1⟩) rfl;simp only at l1 l2 l3;omega
   obtain⟨g,rM⟩:∃g,jK x=g:=⟨_,rfl⟩;have AP:nV rm.b=g:=by rw[←rM];unfold jK;rw[hm]
   cases ha:dK x 28 with
   |none=>
    obtain⟨q,jQ⟩:∃q,q=gw x:=⟨_,rfl⟩;have heq:(0:Rat)/((45:Int):Rat)=q:=by rw[jQ];unfold gw wv;rw[ha]
    have o5:gH x=om q % 8:=by unfold gH;rw[jQ]
    have hsm:iy (om q % 8)=true:=by have:=lE x;unfold gH at this;rw[←jQ]at this;exact this
    refine aj [29,26] (j4 f p (x:=x) 27 hsh hm) ?_;rintro _ _ ⟨um,rfl,rfl⟩;refine bD [] 36 true rfl ?_;refine W.more (Δ:=[BF um rm.b]) (by kernel_rfl) (mX um) ?_;refine xS um (fun g1 g2 g3 g4=>?_);refine gI [36] (Γ':=[RA um.ao (rm.b.map (Value.int .u8))]) (fun I w _ hh=>aV (aZ.p (k:=BF um) (a:=rm.b) inferInstance hh).2.2.2) (tS um.ao um.n um.c rm.b g1 g3 g2.1) ?_;rw[show sL rm.b=0 by unfold sL;rw[if_pos Zh]];rintro _ _ ⟨nm,am,mm,bm,rfl,rfl⟩;refine aj [] (j3 f p (x:=x) 28 hsh ha) ?_;rintro _ _ ⟨rfl,rfl⟩;refine aS [] 48 false rfl ?_;refine aj [48] (cV 45 (by decide) (by decide)) ?_;rintro _ _ ⟨u6,d6,rfl,rfl⟩;refine aj [] (cj u6 d6) ?_;rintro _ _ ⟨n7,a7,m7,b7,rfl,rfl⟩;refine gI [] (kW (L':=0)) (rS ⟨none,0,0⟩ false ⟨none,0,0⟩ false n7 a7 m7 b7 (a:=0) (by decide)) ?_;rintro _ _ ⟨n8,a8,m8,b8,rfl,rfl⟩;rw[heq];refine aj [] (nI n8 a8 m8 b8 (q:=q)) ?_;rintro _ _ ⟨u9,d9,rfl,rfl⟩;refine aj [] (cV 8 (by decide) (by decide)) ?_;rintro _ _ ⟨BW,d10,rfl,rfl⟩;refine aj [] (jh u9 d9 BW d10 (x:=om q) (y:=8) (by decide)) ?_;rintro _ _ ⟨u11,d11,v11,Ib,rfl,rfl⟩;refine aj [] (jC v11 Ib (x:=om q % 8) hsm) ?_;rintro _ _ ⟨rfl,rfl⟩;refine aj [] (jg nm am mm bm (q:=nV rm.b)) ?_;rintro _ _ ⟨rfl,rfl⟩;rw[AP];by_cases rN:g.num.sign>0
    ·refine bD [] 82 (decide (g.num.sign>0)) (aw rN) ?_;refine aj [82] (jB n8 a8 m8 b8 (q:=q)) ?_;rintro _ _ ⟨u14,d14,rfl,rfl⟩;refine aj [82] (cV 1 (by decide) (by decide)) ?_;rintro _ _ ⟨u15,d15,rfl,rfl⟩;refine aj [82] (pq u14 d14 u15 d15 (x:=(q.den:Int)) (y:=1)) ?_;rintro _ _ ⟨rfl,rfl⟩;exact W.r [82] (.tuple #[.bool (z != 0),qv nm am mm bm,.int .i64 (om q % 8),.bool (nu (q.den:Int) 1==0)]) (.inr ⟨iP,nm,am,mm,bm,by rw[n_,o5,tP iP (by rw[rM];exact rN),pM,←jQ],rfl⟩) (j9 (by omega) (by rw[rM]))
    ·refine aS [] 82 (decide (g.num.sign>0)) (ak rN) ?_;exact W.r [82] (.tuple #[.bool (z != 0),qv nm am mm bm,.int .i64 (om q % 8),.bool false]) (.inr ⟨iP,nm,am,mm,bm,by rw[n_,o5,y8 iP (by rw[rM];exact rN)],rfl⟩) (j9 (by omega) (by rw[rM]))
   |some ra=>
    have Vu:ra.b.length=8:=by obtain⟨_,l1,l2,l3⟩:=hx.len ha (s:=⟨5,8,1,1⟩) rfl;simp only at l1 l2 l3;omega
    obtain⟨q,jQ⟩:∃q,q=gw x:=⟨_,rfl⟩;have heq:nV ra.b/((45:Int):Rat)=q:=by rw[jQ];unfold gw wv;rw[ha]
    have o5:gH x=om q % 8:=by unfold gH;rw[jQ]
    have hsm:iy (om q % 8)=true:=by have:=lE x;unfold gH at this;rw[←jQ]at this;exact this
    refine aj [29,26] (j4 f p (x:=x) 27 hsh hm) ?_;rintro _ _ ⟨um,rfl,rfl⟩;refine bD [] 36 true rfl ?_;refine W.more (Δ:=[BF um rm.b]) (by kernel_rfl) (mX um) ?_;refine xS um (fun g1 g2 g3 g4=>?_);refine gI [36] (Γ':=[RA um.ao (rm.b.map (Value.int .u8))]) (fun I w _ hh=>aV (aZ.p (k:=BF um) (a:=rm.b) inferInstance hh).2.2.2) (tS um.ao um.n um.c rm.b g1 g3 g2.1) ?_;rw[show sL rm.b=0 by unfold sL;rw[if_pos Zh]];rintro _ _ ⟨nm,am,mm,bm,rfl,rfl⟩;refine aj [] (j4 f p (x:=x) 28 hsh ha) ?_;rintro _ _ ⟨ua,rfl,rfl⟩;refine bD [] 48 true rfl ?_;refine W.more (Δ:=[BF ua ra.b]) (by kernel_rfl) (mX ua) ?_;refine xS ua (fun k1 k2 k3 k4=>?_);refine gI [48] (Γ':=[RA ua.ao (ra.b.map (Value.int .u8))]) (fun I w _ hh=>aV (aZ.p (k:=BF ua) (a:=ra.b) inferInstance hh).2.2.2) (tS ua.ao ua.n ua.c ra.b k1 k3 k2.1) ?_;rw[show sL ra.b=0 by unfold sL;rw[if_pos Vu]];rintro _ _ ⟨na,aa,ma,ba,rfl,rfl⟩;refine aj [] (cV 45 (by decide) (by decide)) ?_;rintro _ _ ⟨u6,d6,rfl,rfl⟩;refine aj [] (cj u6 d6) ?_;rintro _ _ ⟨n7,a7,m7,b7,rfl,rfl⟩;refine aj [] (rS na aa ma ba n7 a7 m7 b7 (a:=nV ra.b) (by decide)) ?_;rintro _ _ ⟨n8,a8,m8,b8,rfl,rfl⟩;rw[heq];refine aj [] (nI n8 a8 m8 b8 (q:=q)) ?_;rintro _ _ ⟨u9,d9,rfl,rfl⟩;refine aj [] (cV 8 (by decide) (by decide)) ?_;rintro _ _ ⟨BW,d10,rfl,rfl⟩;refine aj [] (jh u9 d9 BW d10 (x:=om q) (y:=8) (by decide)) ?_
    rintro _ _ ⟨u11,d11,v11,Ib,rfl,rfl⟩;refine aj [] (jC v11 Ib (x:=om q % 8) hsm) ?_;rintro _ _ ⟨rfl,rfl⟩;refine aj [] (jg nm am mm bm (q:=nV rm.b)) ?_;rintro _ _ ⟨rfl,rfl⟩;rw[AP];by_cases rN:g.num.sign>0
    ·refine bD [] 82 (decide (g.num.sign>0)) (aw rN) ?_;refine aj [82] (jB n8 a8 m8 b8 (q:=q)) ?_;rintro _ _ ⟨u14,d14,rfl,rfl⟩;refine aj [82] (cV 1 (by decide) (by decide)) ?_;rintro _ _ ⟨u15,d15,rfl,rfl⟩;refine aj [82] (pq u14 d14 u15 d15 (x:=(q.den:Int)) (y:=1)) ?_;rintro _ _ ⟨rfl,rfl⟩;exact W.r [82] (.tuple #[.bool (z != 0),qv nm am mm bm,.int .i64 (om q % 8),.bool (nu (q.den:Int) 1==0)]) (.inr ⟨iP,nm,am,mm,bm,by rw[n_,o5,tP iP (by rw[rM];exact rN),pM,←jQ],rfl⟩) (j9 (by omega) (by rw[rM]))
    ·refine aS [] 82 (decide (g.num.sign>0)) (ak rN) ?_;exact W.r [82] (.tuple #[.bool (z != 0),qv nm am mm bm,.int .i64 (om q % 8),.bool false]) (.inr ⟨iP,nm,am,mm,bm,by rw[n_,o5,y8 iP (by rw[rM];exact rN)],rfl⟩) (j9 (by omega) (by rw[rM]))
 ·refine bD [] 26 (z != 0) (by simpa using h0) ?_;by_cases h1:z= -32768
  ·have iP:lj x=false:=by unfold lj;rw[hzb,h1];rfl
   refine aS [26] 29 (z != -32768) (by simpa using h1) ?_;cases hm:dK x 27 with
   |none=>
    obtain⟨g,rM⟩:∃g,jK x=g:=⟨_,rfl⟩;have AP:((1:Int):Rat)=g:=by rw[←rM];unfold jK;rw[hm]
    cases ha:dK x 28 with
    |none=>
     obtain⟨q,jQ⟩:∃q,q=gw x:=⟨_,rfl⟩;have heq:(0:Rat)/((45:Int):Rat)=q:=by rw[jQ];unfold gw wv;rw[ha]
     have o5:gH x=om q % 8:=by unfold gH;rw[jQ]
     have hsm:iy (om q % 8)=true:=by have:=lE x;unfold gH at this;rw[←jQ]at this;exact this
     refine aj [29] (j3 f p (x:=x) 27 hsh hm) ?_;rintro _ _ ⟨rfl,rfl⟩;refine aS [] 36 false rfl ?_;refine aj [36] (j3 f p (x:=x) 28 hsh ha) ?_;rintro _ _ ⟨rfl,rfl⟩;refine aS [] 48 false rfl ?_;refine aj [48] (cV 45 (by decide) (by decide)) ?_;rintro _ _ ⟨u6,d6,rfl,rfl⟩;refine aj [] (cj u6 d6) ?_;rintro _ _ ⟨n7,a7,m7,b7,rfl,rfl⟩;refine gI [] (kW (L':=0)) (rS ⟨none,0,0⟩ false ⟨none,0,0⟩ false n7 a7 m7 b7 (a:=0) (by decide)) ?_;rintro _ _ ⟨n8,a8,m8,b8,rfl,rfl⟩;rw[heq];refine aj [] (nI n8 a8 m8 b8 (q:=q)) ?_;rintro _ _ ⟨u9,d9,rfl,rfl⟩;refine aj [] (cV 8 (by decide) (by decide)) ?_;rintro _ _ ⟨BW,d10,rfl,rfl⟩;refine aj [] (jh u9 d9 BW d10 (x:=om q) (y:=8) (by decide)) ?_;rintro _ _ ⟨u11,d11,v11,Ib,rfl,rfl⟩;refine aj [] (jC v11 Ib (x:=om q % 8) hsm) ?_;rintro _ _ ⟨rfl,rfl⟩;refine aj [] (jg n2 a2 m2 b2 (q:=((1:Int):Rat))) ?_;rintro _ _ ⟨rfl,rfl⟩;rw[AP];by_cases rN:g.num.sign>0
     ·refine bD [] 82 (decide (g.num.sign>0)) (aw rN) ?_;refine aj [82] (jB n8 a8 m8 b8 (q:=q)) ?_;rintro _ _ ⟨u14,d14,rfl,rfl⟩;refine aj [82] (cV 1 (by decide) (by decide)) ?_;rintro _ _ ⟨u15,d15,rfl,rfl⟩;refine aj [82] (pq u14 d14 u15 d15 (x:=(q.den:Int)) (y:=1)) ?_;rintro _ _ ⟨rfl,rfl⟩;exact W.r [82] (.tuple #[.bool (z != 0),qv n2 a2 m2 b2,.int .i64 (om q % 8),.bool (nu (q.den:Int) 1==0)]) (.inr ⟨iP,n2,a2,m2,b2,by rw[n_,o5,tP iP (by rw[rM];exact rN),pM,←jQ],rfl⟩) (j9 (by omega) (by rw[rM]))
     ·refine aS [] 82 (decide (g.num.sign>0)) (ak rN) ?_;exact W.r [82] (.tuple #[.bool (z != 0),qv n2 a2 m2 b2,.int .i64 (om q % 8),.bool false]) (.inr ⟨iP,n2,a2,m2,b2,by rw[n_,o5,y8 iP (by rw[rM];exact rN)],rfl⟩) (j9 (by omega) (by rw[rM]))
    |some ra=>
     have Vu:ra.b.length=8:=by obtain⟨_,l1,l2,l3⟩:=hx.len ha (s:=⟨5,8,1,1⟩) rfl;simp only at l1 l2 l3;omega
     obtain⟨q,jQ⟩:∃q,q=gw x:=⟨_,rfl⟩;have heq:nV ra.b/((45:Int):Rat)=q:=by rw[jQ];unfold gw wv;rw[ha]
     have o5:gH x=om q % 8:=by unfold gH;rw[jQ]
     have hsm:iy (om q % 8)=true:=by have:=lE x;unfold gH at this;rw[←jQ]at this;exact this
     refine aj [29] (j3 f p (x:=x) 27 hsh hm) ?_;rintro _ _ ⟨rfl,rfl⟩;refine aS [] 36 false rfl ?_;refine aj [36] (j4 f p (x:=x) 28 hsh ha) ?_;rintro _ _ ⟨ua,rfl,rfl⟩;refine bD [] 48 true rfl ?_;refine W.more (Δ:=[BF ua ra.b]) (by kernel_rfl) (mX ua) ?_;refine xS ua (fun k1 k2 k3 k4=>?_);refine gI [48] (Γ':=[RA ua.ao (ra.b.map (Value.int .u8))]) (fun I w _ hh=>aV (aZ.p (k:=BF ua) (a:=ra.b) inferInstance hh).2.2.2) (tS ua.ao ua.n ua.c ra.b k1 k3 k2.1) ?_;rw[show sL ra.b=0 by unfold sL;rw[if_pos Vu]];rintro _ _ ⟨na,aa,ma,ba,rfl,rfl⟩;refine aj [] (cV 45 (by decide) (by decide)) ?_;rintro _ _ ⟨u6,d6,rfl,rfl⟩;refine aj [] (cj u6 d6) ?_;rintro _ _ ⟨n7,a7,m7,b7,rfl,rfl⟩;refine aj [] (rS na aa ma ba n7 a7 m7 b7 (a:=nV ra.b) (by decide)) ?_;rintro _ _ ⟨n8,a8,m8,b8,rfl,rfl⟩;rw[heq];refine aj [] (nI n8 a8 m8 b8 (q:=q)) ?_;rintro _ _ ⟨u9,d9,rfl,rfl⟩;refine aj [] (cV 8 (by decide) (by decide)) ?_;rintro _ _ ⟨BW,d10,rfl,rfl⟩;refine aj [] (jh u9 d9 BW d10 (x:=om q) (y:=8) (by decide)) ?_;rintro _ _ ⟨u11,d11,v11,Ib,rfl,rfl⟩;refine aj [] (jC v11 Ib (x:=om q % 8) hsm) ?_;rintro _ _ ⟨rfl,rfl⟩;refine aj [] (jg n2 a2 m2 b2 (q:=((1:Int):Rat))) ?_;rintro _ _ ⟨rfl,rfl⟩;rw[AP];by_cases rN:g.num.sign>0
     ·refine bD [] 82 (decide (g.num.sign>0)) (aw rN) ?_;refine aj [82] (jB n8 a8 m8 b8 (q:=q)) ?_;rintro _ _ ⟨u14,d14,rfl,rfl⟩;refine aj [82] (cV 1 (by decide) (by decide)) ?_;rintro _ _ ⟨u15,d15,rfl,rfl⟩;refine aj [82] (pq u14 d14 u15 d15 (x:=(q.den:Int)) (y:=1)) ?_;rintro _ _ ⟨rfl,rfl⟩;exact W.r [82] (.tuple #[.bool (z != 0),qv n2 a2 m2 b2,.int .i64 (om q % 8),.bool (nu (q.den:Int) 1==0)]) (.inr ⟨iP,n2,a2,m2,b2,by rw[n_,o5,tP iP (by rw[rM];exact rN),pM,←jQ],rfl⟩) (j9 (by omega) (by rw[rM]))
     ·refine aS [] 82 (decide (g.num.sign>0)) (ak rN) ?_;exact W.r [82] (.tuple #[.bool (z != 0),qv n2 a2 m2 b2,.int .i64 (om q % 8),.bool false]) (.inr ⟨iP,n2,a2,m2,b2,by rw[n_,o5,y8 iP (by rw[rM];exact rN)],rfl⟩) (j9 (by omega) (by rw[rM]))
   |some rm=>
    have Zh:rm.b.length=8:=by obtain⟨_,l1,l2,l3⟩:=hx.len hm (s:=⟨5,8,1,1⟩) rfl;simp only at l1 l2 l3;omega
    obtain⟨g,rM⟩:∃g,jK x=g:=⟨_,rfl⟩;have AP:nV rm.b=g:=by rw[←rM];unfold jK;rw[hm]
    cases ha:dK x 28 with
    |none=>
     obtain⟨q,jQ⟩:∃q,q=gw x:=⟨_,rfl⟩;have heq:(0:Rat)/((45:Int):Rat)=q:=by rw[jQ];unfold gw wv;rw[ha]
     have o5:gH x=om q % 8:=by unfold gH;rw[jQ]
     have hsm:iy (om q % 8)=true:=by have:=lE x;unfold gH at this;rw[←jQ]at this;exact this
     refine aj [29] (j4 f p (x:=x) 27 hsh hm) ?_;rintro _ _ ⟨um,rfl,rfl⟩;refine bD [] 36 true rfl ?_;refine W.more (Δ:=[BF um rm.b]) (by kernel_rfl) (mX um) ?_;refine xS um (fun g1 g2 g3 g4=>?_);refine gI [36] (Γ':=[RA um.ao (rm.b.map (Value.int .u8))]) (fun I w _ hh=>aV (aZ.p (k:=BF um) (a:=rm.b) inferInstance hh).2.2.2) (tS um.ao um.n um.c rm.b g1 g3 g2.1) ?_;rw[show sL rm.b=0 by unfold sL;rw[if_pos Zh]];rintro _ _ ⟨nm,am,mm,bm,rfl,rfl⟩;refine aj [] (j3 f p (x:=x) 28 hsh ha) ?_;rintro _ _ ⟨rfl,rfl⟩;refine aS [] 48 false rfl ?_;refine aj [48] (cV 45 (by decide) (by decide)) ?_;rintro _ _ ⟨u6,d6,rfl,rfl⟩;refine aj [] (cj u6 d6) ?_;rintro _ _ ⟨n7,a7,m7,b7,rfl,rfl⟩;refine gI [] (kW (L':=0)) (rS ⟨none,0,0⟩ false ⟨none,0,0⟩ false n7 a7 m7 b7 (a:=0) (by decide)) ?_;rintro _ _ ⟨n8,a8,m8,b8,rfl,rfl⟩;rw[heq];refine aj [] (nI n8 a8 m8 b8 (q:=q)) ?_;rintro _ _ ⟨u9,d9,rfl,rfl⟩;refine aj [] (cV 8 (by decide) (by decide)) ?_;rintro _ _ ⟨BW,d10,rfl,rfl⟩;refine aj [] (jh u9 d9 BW d10 (x:=om q) (y:=8) (by decide)) ?_;rintro _ _ ⟨u11,d11,v11,Ib,rfl,rfl⟩;refine aj [] (jC v11 Ib (x:=om q % 8) hsm) ?_;rintro _ _ ⟨rfl,rfl⟩;refine aj [] (jg nm am mm bm (q:=nV rm.b)) ?_;rintro _ _ ⟨rfl,rfl⟩;rw[AP];by_cases rN:g.num.sign>0
     ·refine bD [] 82 (decide (g.num.sign>0)) (aw rN) ?_;refine aj [82] (jB n8 a8 m8 b8 (q:=q)) ?_;rintro _ _ ⟨u14,d14,rfl,rfl⟩;refine aj [82] (cV 1 (by decide) (by decide)) ?_;rintro _ _ ⟨u15,d15,rfl,rfl⟩;refine aj [82] (pq u14 d14 u15 d15 (x:=(q.den:Int)) (y:=1)) ?_;rintro _ _ ⟨rfl,rfl⟩;exact W.r [82] (.tuple #[.bool (z != 0),qv nm am mm bm,.int .i64 (om q % 8),.bool (nu (q.den:Int) 1==0)]) (.inr ⟨iP,nm,am,mm,bm,by rw[n_,o5,tP iP (by rw[rM];exact rN),pM,←jQ],rfl⟩) (j9 (by omega) (by rw[rM]))
     ·refine aS [] 82 (decide (g.num.sign>0)) (ak rN) ?_;exact W.r [82] (.tuple #[.bool (z != 0),qv nm am mm bm,.int .i64 (om q % 8),.bool false]) (.inr ⟨iP,nm,am,mm,bm,by rw[n_,o5,y8 iP (by rw[rM];exact rN)],rfl⟩) (j9 (by omega) (by rw[rM]))
    |some ra=>
     have Vu:ra.b.length=8:=by obtain⟨_,l1,l2,l3⟩:=hx.len ha (s:=⟨5,8,1,1⟩) rfl;simp only at l1 l2 l3;omega
     obtain⟨q,jQ⟩:∃q,q=gw x:=⟨_,rfl⟩;have heq:nV ra.b/((45:Int):Rat)=q:=by rw[jQ];unfold gw wv;rw[ha]
     have o5:gH x=om q % 8:=by unfold gH;rw[jQ]
     have hsm:iy (om q % 8)=true:=by have:=lE x;unfold gH at this;rw[←jQ]at this;exact this
     refine aj [29] (j4 f p (x:=x) 27 hsh hm) ?_;rintro _ _ ⟨um,rfl,rfl⟩;refine bD [] 36 true rfl ?_;refine W.more (Δ:=[BF um rm.b]) (by kernel_rfl) (mX um) ?_;refine xS um (fun g1 g2 g3 g4=>?_);refine gI [36] (Γ':=[RA um.ao (rm.b.map (Value.int .u8))]) (fun I w _ hh=>aV (aZ.p (k:=BF um) (a:=rm.b) inferInstance hh).2.2.2) (tS um.ao um.n um.c rm.b g1 g3 g2.1) ?_;rw[show sL rm.b=0 by unfold sL;rw[if_pos Zh]];rintro _ _ ⟨nm,am,mm,bm,rfl,rfl⟩;refine aj [] (j4 f p (x:=x) 28 hsh ha) ?_;rintro _ _ ⟨ua,rfl,rfl⟩;refine bD [] 48 true rfl ?_;refine W.more (Δ:=[BF ua ra.b]) (by kernel_rfl) (mX ua) ?_;refine xS ua (fun k1 k2 k3 k4=>?_);refine gI [48] (Γ':=[RA ua.ao (ra.b.map (Value.int .u8))]) (fun I w _ hh=>aV (aZ.p (k:=BF ua) (a:=ra.b) inferInstance hh).2.2.2) (tS ua.ao ua.n ua.c ra.b k1 k3 k2.1) ?_;rw[show sL ra.b=0 by unfold sL;rw[if_pos Vu]];rintro _ _ ⟨na,aa,ma,ba,rfl,rfl⟩;refine aj [] (cV 45 (by decide) (by decide)) ?_;rintro _ _ ⟨u6,d6,rfl,rfl⟩;refine aj [] (cj u6 d6) ?_;rintro _ _ ⟨n7,a7,m7,b7,rfl,rfl⟩;refine aj [] (rS na aa ma ba n7 a7 m7 b7 (a:=nV ra.b) (by decide)) ?_;rintro _ _ ⟨n8,a8,m8,b8,rfl,rfl⟩;rw[heq];refine aj [] (nI n8 a8 m8 b8 (q:=q)) ?_;rintro _ _ ⟨u9,d9,rfl,rfl⟩;refine aj [] (cV 8 (by decide) (by decide)) ?_;rintro _ _ ⟨BW,d10,rfl,rfl⟩;refine aj [] (jh u9 d9 BW d10 (x:=om q) (y:=8) (by decide)) ?_
     rintro _ _ ⟨u11,d11,v11,Ib,rfl,rfl⟩;refine aj [] (jC v11 Ib (x:=om q % 8) hsm) ?_;rintro _ _ ⟨rfl,rfl⟩;refine aj [] (jg nm am mm bm (q:=nV rm.b)) ?_;rintro _ _ ⟨rfl,rfl⟩;rw[AP];by_cases rN:g.num.sign>0
     ·refine bD [] 82 (decide (g.num.sign>0)) (aw rN) ?_;refine aj [82] (jB n8 a8 m8 b8 (q:=q)) ?_;rintro _ _ ⟨u14,d14,rfl,rfl⟩;refine aj [82] (cV 1 (by decide) (by decide)) ?_;rintro _ _ ⟨u15,d15,rfl,rfl⟩;refine aj [82] (pq u14 d14 u15 d15 (x:=(q.den:Int)) (y:=1)) ?_;rintro _ _ ⟨rfl,rfl⟩;exact W.r [82] (.tuple #[.bool (z != 0),qv nm am mm bm,.int .i64 (om q % 8),.bool (nu (q.den:Int) 1==0)]) (.inr ⟨iP,nm,am,mm,bm,by rw[n_,o5,tP iP (by rw[rM];exact rN),pM,←jQ],rfl⟩) (j9 (by omega) (by rw[rM]))
     ·refine aS [] 82 (decide (g.num.sign>0)) (ak rN) ?_;exact W.r [82] (.tuple #[.bool (z != 0),qv nm am mm bm,.int .i64 (om q % 8),.bool false]) (.inr ⟨iP,nm,am,mm,bm,by rw[n_,o5,y8 iP (by rw[rM];exact rN)],rfl⟩) (j9 (by omega) (by rw[rM]))
  ·have iP:lj x=true:=by unfold lj;rw[hzb];simp[h0,h1]
   refine bD [26] 29 (z != -32768) (by simpa using h1) ?_;exact W.r [29] (.tuple #[.bool false,qv n2 a2 m2 b2,.int .i64 0,.bool false]) (.inl ⟨iP,n2,a2,m2,b2,rfl,rfl⟩) bU
end
def sA(x:Im):Int:=if cD x 15 0=0 then 1 else cD x 15 0
def zT(x:Im):Int:=rh (a_ x) (sA x) (cD x 33 0) (cD x 48 0) (cD x 49 0)
def tZ(x:Im):Int:=if zT x=7 then 0 else zT x
def ji(x:Im):List (Sn×Sn):=if zT x=0∧cD x 15 0≠0 then rX (iO (a_ x)).1.reverse (iO (a_ x)).2.reverse (sA x) (cD x 33 0) (cD x 48 0) (cD x 49 0)else []
def Ai(x:Im)(v:Value)(Δ:List aE):Prop:=
 ∃(ao:Option Addr) (c:Nat) (l:List jJ),v=.tuple #[.slice ao l.length c,.int .i64 (tZ x)]∧l.length≤c∧l.map jJ.num=ji x∧Δ=[OL gD ao (130,l)]
theorem BA(I:f_)(w:World):aG [OL gD none (130,[])] I w:=aV ⟨fun e he=>by simp at he,RA.nil _ _ _⟩
def gU(x:Im):Bool:=
 if cC x=8 then decide (4≤(a_ x).length)&&decide ((a_ x).getD 0 ⟨0,0⟩=(a_ x).getD ((a_ x).length-1) ⟨0,0⟩)
 else if cC x=45 then decide ((a_ x).length=5)&&decide ((a_ x).getD 0 ⟨0,0⟩=(a_ x).getD 4 ⟨0,0⟩)
 else if cC x=9 then tZ x==0
 else if cC x=10 then iU x&&decide (0<(aT x).1)&&decide (0<(aT x).2)&&decide ((a_ x).length=1)
 else if cC x=11 then iU x&&decide (0<(aT x).1)&&decide (0<(aT x).2)&&decide ((a_ x).length=3)
 else if cC x=12 then iU x
 else true
theorem Jl(n m:Nat):((n:Int)==(m:Int))=decide (n=m):=by
 by_cases h:n=m
 ·subst h;simp
 ·rw[ak h];simp;omega
theorem uG{α:Type}(l:List α)(i:Nat)(d:α)(h:i<l.length):l[i]? =some (l.getD i d):=by
 rw[dZ,ar h];rfl
section
variable{Γ:List aE}
def PtI(u:Sl)(l:List Dp):Prop:=u.n=l.length∧(u.n≤u.c∧u.c≤9223372036854775807)∧(l≠ []→∃bb off,u.ao=some ⟨bb,off,none⟩)
theorem Sa{u:Sl}{l:List Dp}{I:f_}{w:World}(h:(zw u l).p I w):PtI u l:=by
 obtain⟨h1,h2,h4⟩:=h;refine⟨h1,h2,fun hne=>?_⟩;obtain⟨bb,off,ha,_⟩:=h4 (by cases l with|nil=>exact absurd rfl hne|cons a r=>simp[d_]);exact⟨bb,off,ha⟩
theorem oJ(f p:Sl){x:Im} [h:aZ (mr f p) x Γ](hx:qN x):au tb Tryz.prog 80 [mq f p] Γ (fun v Δ=>∃u:Sl,PtI u (a_ x)∧v=bz u∧Δ=[zw u (a_ x)]):=by
 refine(pJ (fun v Δ=>∃u:Sl,PtI u (a_ x)∧v=bz u∧Δ=[zw u (a_ x)]) (O7 f p (x:=x) hx) ?_).post (fun _ _ h=>h.2);rintro v Δ ⟨u,rfl,rfl⟩ I w hh;exact⟨u,Sa hh.h0',rfl,rfl⟩
theorem IF(f p:Sl){x:Im} [h:aZ (mr f p) x Γ](hx:qN x):au tb Tryz.prog 82 [mq f p] Γ (Ai x):=by
 obtain⟨E,hE⟩:∃E,zT x=E:=⟨_,rfl⟩;have hE':rh (a_ x) (sA x) (cD x 33 0) (cD x 48 0) (cD x 49 0)=E:=hE;refine au.of_W aB Tryz.func82 rfl ?_;refine aj [] (iQ f p (x:=x) 15 0 hx (.inr (.inr rfl))) ?_;rintro _ _ ⟨rfl,rfl⟩;by_cases h0:cD x 15 0=0
 ·skip
  have hw:sA x=1:=by unfold sA;rw[if_pos h0]
  refine bD [] 10 (cD x 15 0==0) (by rw[h0];decide) ?_;refine aj [10] (oJ f p (x:=x) hx) ?_;rintro _ _ ⟨u2,⟨g1,g2,g3⟩,rfl,rfl⟩;refine aj [] (iQ f p (x:=x) 33 0 hx (.inl rfl)) ?_;rintro _ _ ⟨rfl,rfl⟩;refine aj [] (iQ f p (x:=x) 48 0 hx (.inr (.inr rfl))) ?_;rintro _ _ ⟨rfl,rfl⟩;refine aj [] (iQ f p (x:=x) 49 0 hx (.inr (.inr rfl))) ?_;rintro _ _ ⟨rfl,rfl⟩;refine gI [] (Γ':=[RA u2.ao ((a_ x).flatMap d_)]) (fun I w _ hh=>aV (aZ.p (k:=zw u2) (a:=a_ x) inferInstance hh).2.2) (J6 u2.ao u2.n u2.c (a_ x) 1 (cD x 33 0) (cD x 48 0) (cD x 49 0) g1) ?_;rw[←hw];rintro _ _ (⟨he,rfl,rfl⟩|⟨he,ao,c,l,rfl,hc,hl,rfl⟩)
  ·rw[hE']at he⊢;by_cases h7:E=7
   ·refine bD [] 26 (E==7) (by rw[h7];decide) ?_;exact W.r [34,30,26] (.tuple #[.slice none 0 0,.int .i64 0]) ⟨none,0,[],by unfold tZ;rw[hE,if_pos h7];rfl,ai _,by unfold ji;rw[if_neg (by rw[hE];exact fun q=>he q.1)];rfl,rfl⟩ (fun I w _ _=>BA I w)
   ·refine aS [] 26 (E==7) (by simpa using h7) ?_;have hres:Ai x (.tuple #[.slice none 0 0,.int .i64 E]) [OL gD none (130,[])]:=⟨none,0,[],by unfold tZ;rw[hE,if_neg h7];rfl,ai _,by unfold ji;rw[if_neg (by rw[hE];exact fun q=>he q.1)];rfl,rfl⟩;refine aj [26] (iQ f p (x:=x) 15 0 hx (.inr (.inr rfl))) ?_;rintro _ _ ⟨rfl,rfl⟩;refine bD [26] 30 (cD x 15 0==0) (by rw[h0];decide) ?_;refine aS [26,30] 34 (E==0) (by simpa using he) ?_;exact W.r [34] (.tuple #[.slice none 0 0,.int .i64 E]) hres (fun I w _ _=>BA I w)
  ·rw[hE']at he;refine aS [] 26 ((0:Int)==7) (by decide) ?_;refine aj [26] (iQ f p (x:=x) 15 0 hx (.inr (.inr rfl))) ?_;rintro _ _ ⟨rfl,rfl⟩;have Qq:tZ x=0:=by unfold tZ;rw[hE,he];rfl
   refine bD [26] 30 (cD x 15 0==0) (by rw[h0];decide) ?_;refine bD [26,30] 34 ((0:Int)==0) (by decide) ?_;exact W.r [34] (.tuple #[.slice none 0 0,.int .i64 0]) ⟨none,0,[],by rw[Qq];rfl,ai _,by unfold ji;rw[if_neg (fun q=>q.2 h0)];rfl,rfl⟩ (fun I w _ _=>BA I w)
 ·skip
  have hw:sA x=cD x 15 0:=by unfold sA;rw[if_neg h0]
  refine aS [] 10 (cD x 15 0==0) (by simpa using h0) ?_;refine aj [10] (oJ f p (x:=x) hx) ?_;rintro _ _ ⟨u2,⟨g1,g2,g3⟩,rfl,rfl⟩;refine aj [] (iQ f p (x:=x) 33 0 hx (.inl rfl)) ?_;rintro _ _ ⟨rfl,rfl⟩;refine aj [] (iQ f p (x:=x) 48 0 hx (.inr (.inr rfl))) ?_;rintro _ _ ⟨rfl,rfl⟩;refine aj [] (iQ f p (x:=x) 49 0 hx (.inr (.inr rfl))) ?_;rintro _ _ ⟨rfl,rfl⟩;refine gI [] (Γ':=[RA u2.ao ((a_ x).flatMap d_)]) (fun I w _ hh=>aV (aZ.p (k:=zw u2) (a:=a_ x) inferInstance hh).2.2) (J6 u2.ao u2.n u2.c (a_ x) (cD x 15 0) (cD x 33 0) (cD x 48 0) (cD x 49 0) g1) ?_;rw[←hw];rintro _ _ (⟨he,rfl,rfl⟩|⟨he,ao,c,l,rfl,hc,hl,rfl⟩)
  ·rw[hE']at he⊢;by_cases h7:E=7
   ·refine bD [] 26 (E==7) (by rw[h7];decide) ?_;exact W.r [34,30,26] (.tuple #[.slice none 0 0,.int .i64 0]) ⟨none,0,[],by unfold tZ;rw[hE,if_pos h7];rfl,ai _,by unfold ji;rw[if_neg (by rw[hE];exact fun q=>he q.1)];rfl,rfl⟩ (fun I w _ _=>BA I w)
   ·refine aS [] 26 (E==7) (by simpa using h7) ?_;have hres:Ai x (.tuple #[.slice none 0 0,.int .i64 E]) [OL gD none (130,[])]:=⟨none,0,[],by unfold tZ;rw[hE,if_neg h7];rfl,ai _,by unfold ji;rw[if_neg (by rw[hE];exact fun q=>he q.1)];rfl,rfl⟩;refine aj [26] (iQ f p (x:=x) 15 0 hx (.inr (.inr rfl))) ?_;rintro _ _ ⟨rfl,rfl⟩;refine aS [26] 30 (cD x 15 0==0) (by simpa using h0) ?_;exact W.r [34,26,30] (.tuple #[.slice none 0 0,.int .i64 E]) hres (fun I w _ _=>BA I w)
  ·rw[hE']at he;refine aS [] 26 ((0:Int)==7) (by decide) ?_;refine aj [26] (iQ f p (x:=x) 15 0 hx (.inr (.inr rfl))) ?_;rintro _ _ ⟨rfl,rfl⟩;have Qq:tZ x=0:=by unfold tZ;rw[hE,he];rfl
   refine aS [26] 30 (cD x 15 0==0) (by simpa using h0) ?_;exact W.r [34,26,30] (.tuple #[.slice ao l.length c,.int .i64 0]) ⟨ao,c,l,by rw[Qq],hc,by rw[hl];unfold ji;rw[if_pos ⟨by rw[hE,he],h0⟩],rfl⟩ (fun I w _ hh=>aV (aZ.p (k:=OL gD ao) (a:=(130,l)) inferInstance hh))
theorem GM(f p:Sl){x:Im} [h:aZ (mr f p) x Γ](hx:qN x):au tb Tryz.prog 85 [mq f p] Γ (jv (.bool (iU x))):=by
 refine au.of_W aB Tryz.func85 rfl ?_;refine aj [] (xk f p (x:=x) hx) ?_;rintro _ _ (⟨hb,n,a,m,b,rfl,rfl⟩|⟨hb,n,a,m,b,rfl,rfl⟩)
 ·exact W.r [] (.bool false) ⟨by unfold iU;rw[hb];rfl,rfl⟩ bU
 ·exact W.r [] (.bool (iU x)) ⟨rfl,rfl⟩ bU
theorem R9(f p:Sl){x:Im} [h:aZ (mr f p) x Γ](hx:qN x)(hk:cC x=8∨cC x=9∨cC x=10∨cC x=11∨cC x=12∨cC x=21∨cC x=45):au tb Tryz.prog 46 [mq f p] Γ (jv (.bool (gU x))):=by
 obtain⟨R,hR⟩:∃R,gU x=R:=⟨_,rfl⟩;rw[hR];unfold gU at hR;have pk:=gP f p (x:=x) (Γ:=Γ) hx;refine au.of_W aB Tryz.func46 rfl ?_;refine aj [] (oJ f p (x:=x) hx) ?_;rintro _ _ ⟨u,⟨g1,g2,g3⟩,rfl,rfl⟩;obtain⟨l,hl⟩:∃l,a_ x=l:=⟨_,rfl⟩;rw[hl]at hR g1 g3⊢;refine aj [] (gP f p (x:=x) hx) ?_;rintro _ _ ⟨rfl,rfl⟩;obtain⟨k,hkk⟩:∃k,cC x=k:=⟨_,rfl⟩;have FT:∀(Γ2:List aE) [h2:aZ (mr f p) x Γ2],au tb Tryz.prog 81 [mq f p] Γ2 (jv (.int .u8 (cC x))):=fun Γ2 h2=>gP f p (x:=x) hx;rw[hkk]at hR hk FT⊢;rcases hk with rfl|rfl|rfl|rfl|rfl|rfl|rfl
 ·rw[if_pos rfl]at hR;by_cases hlen:4≤l.length
  ·refine bD [17] 22 (decide ((u.n:Int)≥4)) (aw (by omega)) ?_;obtain⟨bb,off,hao⟩:=g3 (by rintro rfl;simp at hlen);obtain⟨ua,un,uc⟩:=u;simp only at g1 g2 hao hlen;subst hao;refine cA [22] 2 bb off un uc .i64 0 0 rfl aB (by omega) ?_;refine de [22] bb (off+0*2) (d_ (l.getD 0 ⟨0,0⟩)) aB (fun I w hd hh j v hv=>oh bb off un uc (uG l 0 ⟨0,0⟩ (by omega)) I w hd hh j v hv) ?_;refine cA [22] 2 bb off un uc .i64 (l.length-1) (IntKind.i64.wrap ((un:Int)-1)) (by rw[ah];omega) aB (by omega) ?_;refine de [22] bb (off+(l.length-1)*2) (d_ (l.getD (l.length-1) ⟨0,0⟩)) aB (fun I w hd hh j v hv=>oh bb off un uc (uG l (l.length-1) ⟨0,0⟩ (by omega)) I w hd hh j v hv) ?_;refine E_ [22] 58 (l.getD 0 ⟨0,0⟩) (l.getD (l.length-1) ⟨0,0⟩) ?_;exact W.r [22] (.bool (decide (l.getD 0 ⟨0,0⟩=l.getD (l.length-1) ⟨0,0⟩))) ⟨by rw[←hR,aw hlen,dP],rfl⟩ bU
  ·refine aS [17] 22 (decide ((u.n:Int)≥4)) (ak (by omega)) ?_;exact W.r [22] (.bool false) ⟨by rw[←hR,ak hlen,fr],rfl⟩ bU
 ·refine aS [17] 34 false rfl ?_;refine bD [34] 48 true rfl ?_;refine aj [48] (IF f p (x:=x) hx) ?_;rintro _ _ ⟨ao,c,l2,rfl,hc,hl2,rfl⟩;exact W.r [] (.bool (tZ x==0)) ⟨by rw[←hR];rfl,rfl⟩ bU
 ·rw[if_neg (by decide),if_neg (by decide),if_neg (by decide),if_pos rfl]at hR;refine aS [17] 34 false rfl ?_;refine aS [34] 48 false rfl ?_;refine bD [48] 57 true rfl ?_;refine aj [57] (tR f p (x:=x) hx) ?_;rintro _ _ ⟨rfl,rfl⟩;refine aj [] (xk f p (x:=x) hx) ?_;rintro _ _ (⟨hb,n,a,m,b,rfl,rfl⟩|⟨hb,n,a,m,b,rfl,rfl⟩)
  ·have ht:iU x=false:=by unfold iU;rw[hb];rfl
   rw[ht]at hR;refine aj [] (FT _) ?_;rintro _ _ ⟨rfl,rfl⟩;refine aS [74] 76 false rfl ?_;refine aS [76] 80 false rfl ?_;refine aS [80] 84 false rfl ?_;exact W.r [84] (.bool false) ⟨by rw[←hR];rfl,rfl⟩ bU
  ·refine aj [] (FT _) ?_;rintro _ _ ⟨rfl,rfl⟩;refine W.d [74] 76 (iU x) (fun ht=>?_) (fun ht=>?_)
   ·rw[ht,dP]at hR;by_cases h1:0<(aT x).1
    ·refine bD [76] 80 (decide ((aT x).1>0)) (aw h1) ?_;rw[aw h1,dP]at hR;by_cases h2:0<(aT x).2
     ·refine bD [80] 84 (decide ((aT x).2>0)) (aw h2) ?_;rw[aw h2,dP]at hR;exact W.r [84] (.bool ((u.n:Int)==1)) ⟨by rw[←hR,g1];exact dz Value.bool (Jl l.length _),rfl⟩ bU
     ·refine aS [80] 84 (decide ((aT x).2>0)) (ak h2) ?_;rw[ak h2,fr]at hR;exact W.r [84] (.bool false) ⟨by rw[←hR],rfl⟩ bU
    ·refine aS [76] 80 (decide ((aT x).1>0)) (ak h1) ?_;rw[ak h1,fr,fr]at hR;refine aS [80] 84 false rfl ?_;exact W.r [84] (.bool false) ⟨by rw[←hR],rfl⟩ bU
   ·rw[ht,fr,fr,fr]at hR;refine aS [76] 80 false rfl ?_;refine aS [80] 84 false rfl ?_;exact W.r [84] (.bool false) ⟨by rw[←hR],rfl⟩ bU
 ·rw[if_neg (by decide),if_neg (by decide),if_neg (by decide),if_neg (by decide),if_pos rfl]at hR;refine aS [17] 34 false rfl ?_;refine aS [34] 48 false rfl ?_;refine aS [48] 57 false rfl ?_;refine aj [57] (tR f p (x:=x) hx) ?_;rintro _ _ ⟨rfl,rfl⟩;refine aj [] (xk f p (x:=x) hx) ?_;rintro _ _ (⟨hb,n,a,m,b,rfl,rfl⟩|⟨hb,n,a,m,b,rfl,rfl⟩)
  ·have ht:iU x=false:=by unfold iU;rw[hb];rfl
   rw[ht]at hR;refine aj [] (FT _) ?_;rintro _ _ ⟨rfl,rfl⟩;refine aS [74] 76 false rfl ?_;refine aS [76] 80 false rfl ?_;refine aS [80] 84 false rfl ?_;exact W.r [84] (.bool false) ⟨by rw[←hR];rfl,rfl⟩ bU
  ·refine aj [] (FT _) ?_;rintro _ _ ⟨rfl,rfl⟩;refine W.d [74] 76 (iU x) (fun ht=>?_) (fun ht=>?_)
   ·rw[ht,dP]at hR;by_cases h1:0<(aT x).1
    ·refine bD [76] 80 (decide ((aT x).1>0)) (aw h1) ?_;rw[aw h1,dP]at hR;by_cases h2:0<(aT x).2
     ·refine bD [80] 84 (decide ((aT x).2>0)) (aw h2) ?_;rw[aw h2,dP]at hR;exact W.r [84] (.bool ((u.n:Int)==3)) ⟨by rw[←hR,g1];exact dz Value.bool (Jl l.length _),rfl⟩ bU
     ·refine aS [80] 84 (decide ((aT x).2>0)) (ak h2) ?_;rw[ak h2,fr]at hR;exact W.r [84] (.bool false) ⟨by rw[←hR],rfl⟩ bU
    ·refine aS [76] 80 (decide ((aT x).1>0)) (ak h1) ?_;rw[ak h1,fr,fr]at hR;refine aS [80] 84 false rfl ?_;exact W.r [84] (.bool false) ⟨by rw[←hR],rfl⟩ bU
   ·rw[ht,fr,fr,fr]at hR;refine aS [76] 80 false rfl ?_;refine aS [80] 84 false rfl ?_;exact W.r [84] (.bool false) ⟨by rw[←hR],rfl⟩ bU
 ·refine aS [17] 34 false rfl ?_;refine aS [34] 48 false rfl ?_;refine aS [48] 57 false rfl ?_;refine bD [57] 90 true rfl ?_;refine aj [90] (GM f p (x:=x) hx) ?_;rintro _ _ ⟨rfl,rfl⟩;exact W.r [] (.bool (iU x)) ⟨by rw[←hR];rfl,rfl⟩ bU
 ·refine aS [17] 34 false rfl ?_;refine aS [34] 48 false rfl ?_;refine aS [48] 57 false rfl ?_;refine aS [57] 90 false rfl ?_;exact W.r [90] (.bool true) ⟨by rw[←hR];rfl,rfl⟩ bU
 ·rw[if_neg (by decide),if_pos rfl]at hR;refine bD [17] 34 true rfl ?_;by_cases hlen:l.length=5
  ·refine bD [34] 39 ((u.n:Int)==5) (by rw[g1,hlen];decide) ?_;obtain⟨bb,off,hao⟩:=g3 (by rintro rfl;simp at hlen);obtain⟨ua,un,uc⟩:=u;simp only at g1 g2 hao hlen;subst hao;refine cA [39] 2 bb off un uc .i64 0 0 rfl aB (by omega) ?_;refine de [39] bb (off+0*2) (d_ (l.getD 0 ⟨0,0⟩)) aB (fun I w hd hh j v hv=>oh bb off un uc (uG l 0 ⟨0,0⟩ (by omega)) I w hd hh j v hv) ?_;refine cA [39] 2 bb off un uc .i64 (4) 4 rfl aB (by omega) ?_;refine de [39] bb (off+(4)*2) (d_ (l.getD (4) ⟨0,0⟩)) aB (fun I w hd hh j v hv=>oh bb off un uc (uG l (4) ⟨0,0⟩ (by omega)) I w hd hh j v hv) ?_;refine E_ [39] 58 (l.getD 0 ⟨0,0⟩) (l.getD (4) ⟨0,0⟩) ?_;exact W.r [39] (.bool (decide (l.getD 0 ⟨0,0⟩=l.getD 4 ⟨0,0⟩))) ⟨by rw[←hR,aw hlen,dP],rfl⟩ bU
  ·refine aS [34] 39 ((u.n:Int)==5) (by rw[g1];simpa using fun h=>hlen (by omega)) ?_;exact W.r [39] (.bool false) ⟨by rw[←hR,ak hlen,fr],rfl⟩ bU
end
abbrev FO(fb:Nat)(cs:Sl)(bn cn dn:Nat)(most:Int)(sh:Value):List (Nat×List Value):=[(fb,[bz cs,.map (some bn),.map (some cn),.map (some dn),.int .i64 most,sh])]
def Kt:Tb:={tbM [44,45,47,48,87,89,90,28] False undef with cloc:=true}
theorem bK:Kt.Ok Tryz.prog:=⟨aB.mixed,aB.ty⟩
theorem au.mF{f:FuncId}{args:List Value}{Γ:List aE}{post:Value→List aE→Prop}(h:au tb Tryz.prog f args Γ post):au Kt Tryz.prog f args Γ post:=h
def mw(nm:List (ByteArray×Int))(x:Im):Option Int:=(iB x).map fun s=>(gJ (strOfNums s) nm).getD (-1)
def i_(nm:List (ByteArray×Int))(c:Ce):List Int:=c.i.filterMap (mw nm)
def Uq(c:Ce):Prop:=∀x∈c.i,qN x
def cf{α:Type}(l:List (α×Int)):List (α×Value):=l.map fun e=>(e.1,.int .i64 e.2)
theorem mI{α:Type} [DecidableEq α](k:α):∀l:List (α×Int),gJ k (cf l)=(gJ k l).map (Value.int .i64)
 | []=>rfl
 |(j,v)::l=>by
  show gJ k ((j,Value.int .i64 v)::cf l)=_;by_cases h:k=j
  ·simp[gJ,h]
  ·simp only[gJ,h,ea];exact mI k l
structure aaN where
 i:Nat
 z:Int
 v:Value
 O:List (Nat×List Value)
section
variable{Γ:List aE}
theorem IE(fb bn cn dn:Nat)(cs:Sl)(most:Int)(sh:Value)(c:Int){i:Nat}(hc:c=i){t:List Ce} [h:aZ (pE cs) t Γ]{x:Ce}(hx:t[i]? =some x)(hok:Uq x)(NX:x.i.length≤100000)(nm:List (ByteArray×Int)):
  dC Kt Tryz.prog 44 [fp fb,.int .i64 c] (FO fb cs bn cn dn most sh) [(bn,bM dT (cf nm))] Γ (fun v O M Δ=>∃u:Sl,u.n=(i_ nm x).length∧v=bz u∧O=FO fb cs bn cn dn most sh∧M=[(bn,bM dT (cf nm))]∧Δ=[NL u (i_ nm x)]):=by
 refine dC.of_W bK Tryz.func44 rfl ?_;obtain⟨ca,cm,cc⟩:=cs;refine W.len pG qg.x ⟨ca,cm,cc⟩ rfl (fun h1 h2 h3=>?_);simp only at h1 h2 h3;have hil:i<cm:=by rw[h1];exact(List.getElem?_eq_some_iff.1 hx).1
 refine wj ⟨ca,cm,cc⟩ hx (fun b off fh fi ha=>?_);simp only at ha;subst ha;refine W.more (Δ:=[uv fi x.i]) rfl (fun I w _ hh=>aV (aZ.p (k:=xL fh fi) (a:=x) inferInstance hh).2) ?_;obtain⟨ia,im,ic⟩:=fi;refine W.len lJ nj.x ⟨ia,im,ic⟩ rfl (fun i1 i2 i3=>?_);simp only at i1 i2 i3;refine cr [] 0 fb 0 bK ?_;refine dQ [] (FO fb ⟨some ⟨b,off,none⟩,cm,cc⟩ bn cn dn most sh) fb (0+0) 1 [.slice (some ⟨b,off,none⟩) cm cc,.map (some bn),.map (some cn),.map (some dn),.int .i64 most,sh] (.slice (some ⟨b,off,none⟩) cm cc) bK (.head _) rfl ?_;refine cA [] 2 b off cm cc .i64 i c hc bK hil ?_;refine cr [] 1 b (off+i*2) bK ?_;refine eg [] 1 b (off+i*2+1) (.slice ia im ic) bK (fun I w hd hh=>dL (T:=Kt) b (off+i*2) I w hd hh 1 _ rfl) ?_;refine j0 [] [5,21] (fun a:aaN=>[(5,a.v),(21,.int .i64 a.z)]) (fun _=>[]) (fun a=>FO fb ⟨some ⟨b,off,none⟩,cm,cc⟩ bn cn dn most sh++a.O) (fun a=>[uv ⟨ia,im,ic⟩ x.i]) (fun a=>a.z=a.i∧a.i≤im∧cG 1 a.O a.v ((x.i.take a.i).filterMap (mw nm)).length (((x.i.take a.i).filterMap (mw nm)).map (Value.int .i64))) (fun a=>im-a.i) ⟨0,0,.slice none 0 0,[]⟩ ⟨rfl,aM _,cG.nil 1⟩ (eC eK eE) ?_;rintro⟨j,z,v,O⟩ K ⟨hz,hj,hg⟩ close;simp only at hz hj hg;by_cases hlt:j<im
 ·obtain⟨y,hy⟩:∃y,x.i[j]? =some y:=⟨_,ar (by omega)⟩;have lL:=hok y (aO hy);have hlen:((x.i.take j).filterMap (mw nm)).length≤100000:=by
   have h1:=List.length_filterMap_le (mw nm) (x.i.take j);have h2:=List.length_take_le j x.i;omega
  refine Al ⟨ia,im,ic⟩ hy (fun b2 off2 yf yp ha=>?_);simp only at ha;subst ha;refine bD [] 22 (decide (z<(im:Int))) (aw (by omega)) ?_;refine cA [22] 2 b2 off2 im ic .i64 j z hz bK hlt ?_;refine de [] b2 (off2+j*2) [bz yf,bz yp] bK (dL b2 (off2+j*2)) ?_;refine aj [] (xg yf yp (x:=y) lL).mF ?_;rintro _ _ ⟨rfl,rfl⟩;cases hn:iB y with
  |none=>
   refine aS [] 30 (none:Option (List Int)).isSome rfl ?_;refine close [30] _ _ ⟨j+1,IntKind.i64.wrap (z+1),v,O⟩ (by kernel_rfl) (by kernel_rfl) ⟨by simp only[ah];omega,hlt,?_⟩ (by simp only;omega) (eC eK eE);rw[fz hy,List.filterMap_append];simpa [mw,hn]using hg
  |some nn=>
   have ab0:mw nm y=some ((gJ (strOfNums nn) nm).getD (-1)):=by unfold mw;rw[hn];rfl
   have next:∀v' O',cG 1 O' v' (((x.i.take j).filterMap (mw nm)).length+1) (((x.i.take j).filterMap (mw nm)).map (Value.int .i64)++[.int .i64 ((gJ (strOfNums nn) nm).getD (-1))])→cG 1 O' v' ((x.i.take (j+1)).filterMap (mw nm)).length (((x.i.take (j+1)).filterMap (mw nm)).map (Value.int .i64)):=fun v' O' hg'=>by
    rw[fz hy,List.filterMap_append];simpa [ab0]using hg'
   refine bD [] 30 (some nn:Option (List Int)).isSome rfl ?_;refine cr [30] 1 fb 0 bK ?_;refine dQ [] (FO fb ⟨some ⟨b,off,none⟩,cm,cc⟩ bn cn dn most sh++O) fb (0+1) 1 [.slice (some ⟨b,off,none⟩) cm cc,.map (some bn),.map (some cn),.map (some dn),.int .i64 most,sh] (.map (some bn)) bK (.head _) rfl ?_;refine ve [] dT 69 9 3 true (FO fb ⟨some ⟨b,off,none⟩,cm,cc⟩ bn cn dn most sh++O) [(bn,bM dT (cf nm))] bn (strOfNums nn) (cf nm) (.int .i64 0) bK (.head _) ?_;rw[mI];cases hk:gJ (strOfNums nn) nm with
   |none=>
    rw[hk]at next
    refine bD [] 41 true rfl ?_;refine cI [41] 1 [.int .i64 (-1)] bK (fun b8=>?_);refine W.app [] (FO fb ⟨some ⟨b,off,none⟩,cm,cc⟩ bn cn dn most sh++O) (FO fb ⟨some ⟨b,off,none⟩,cm,cc⟩ bn cn dn most sh) O [] 1 8 ((x.i.take j).filterMap (mw nm)).length 1 v (.slice (some ⟨b8,0,none⟩) 1 1) (((x.i.take j).filterMap (mw nm)).map (Value.int .i64)) [.int .i64 (-1)] bK (by simp) hg (bW b8 _ 1 1 rfl 1) (by simp[Value.oneCell']) (by omega) (by decide) (fun v' O' hg'=>?_);exact close [] _ _ ⟨j+1,IntKind.i64.wrap (z+1),v',O'⟩ (by kernel_rfl) (by simp only[af];kernel_rfl) ⟨by simp only[ah];omega,hlt,next v' O' hg'⟩ (by simp only;omega) (eC eK eE)
   |some q=>
    rw[hk]at next
    refine aS [] 41 false rfl ?_;refine cI [41] 1 [.int .i64 q] bK (fun b8=>?_);refine W.app [] (FO fb ⟨some ⟨b,off,none⟩,cm,cc⟩ bn cn dn most sh++O) (FO fb ⟨some ⟨b,off,none⟩,cm,cc⟩ bn cn dn most sh) O [] 1 8 ((x.i.take j).filterMap (mw nm)).length 1 v (.slice (some ⟨b8,0,none⟩) 1 1) (((x.i.take j).filterMap (mw nm)).map (Value.int .i64)) [.int .i64 q] bK (by simp) hg (bW b8 _ 1 1 rfl 1) (by simp[Value.oneCell']) (by omega) (by decide) (fun v' O' hg'=>?_);exact close [] _ _ ⟨j+1,IntKind.i64.wrap (z+1),v',O'⟩ (by kernel_rfl) (by simp only[af];kernel_rfl) ⟨by simp only[ah];omega,hlt,next v' O' hg'⟩ (by simp only;omega) (eC eK eE)
 ·have hx2:x.i.take j=x.i:=aW (by omega);rw[hx2]at hg;refine aS [] 22 (decide (z<(im:Int))) (ak (by omega)) ?_;obtain⟨u,rfl⟩:=iA hg;refine lR (FO fb ⟨some ⟨b,off,none⟩,cm,cc⟩ bn cn dn most sh) O [] (by rw[af O];kernel_rfl) hg (fun g5 g1 g2=>?_);exact j1 [22] (bz u) (FO fb ⟨some ⟨b,off,none⟩,cm,cc⟩ bn cn dn most sh) [(bn,bM dT (cf nm))] ⟨u,g5,rfl,rfl,rfl,rfl⟩ (eC (fun I w hd hh=>⟨g5,⟨g1,g2⟩,eK (k:=RA u.ao) I w hd hh⟩) eE)
end
end Go.Proofs.YtgaaopjagcaojaaGreat
