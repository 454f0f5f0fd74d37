import Derived.Test.YtgaaopjagcaojaaGreatLk
import Derived.Test.YtgaaopjagcaojaaGreatLs
import Derived.Test.YtgaaopjagcaojaaGreatVk
import Derived.Test.YtgaaopjagcaojaaGreatOv
set_option linter.unusedSimpArgs false
set_option linter.unusedVariables false
set_option maxHeartbeats 4000000
namespace Go.Proofs.YtgaaopjagcaojaaGreat
open Go.RowKit Go.IntWalk
def DJ(x:Im):Int:=cB x 26 0
def kA(x:Im):Rat:=match dW x 27 with
 |some r=>ou r.b
 |none=>((1:Int):Rat)
def wz(x:Im):Rat:=match dW x 28 with
 |some r=>ou r.b
 |none=>0
def gd(x:Im):Rat:=wz x/((45:Int):Rat)
def gJ(x:Im):Int:=oD (gd x) % 8
def lE(x:Im):Bool:=DJ x != 0&&DJ x != -32768
def jm(x:Im):Bool:= !lE x&&(decide (0<(kA x).num.sign)&&decide ((gd x).den=1))
def rO(x:Im):Bool:=DJ x != 0
def UM(x:Im)(v:Value)(Δ:List aD):Prop:=
 (lE x=true∧∃(n:Sl) (a:Bool) (m:Sl) (b:Bool),v=.tuple #[.bool false,qv n a m b,.int .i64 0,.bool false]∧Δ=[])∨
 (lE x=false∧∃(n:Sl) (a:Bool) (m:Sl) (b:Bool),v=.tuple #[.bool (rO x),qv n a m b,.int .i64 (gJ x),.bool (jm x)]∧Δ=[QF n a m b (50,kA x)])
theorem lP(x:Im):g_ (gJ x)=true:=by
 unfold gJ g_;simp only[aM,dp];omega
theorem Wh(x:Im):0≤gJ x∧gJ x≤7:=by
 unfold gJ;omega
theorem p9(d:Nat):(nI (d:Int) 1==0)=decide (d=1):=by
 unfold nI;by_cases h:d=1
 ·subst h;rfl
 ·rw[aj h];split
  ·rfl
  ·rw[if_neg (by omega)];rfl
theorem yV{x:Im}(h:lE x=false)(hs:¬(kA x).num.sign>0):jm x=false:=by
 unfold jm;rw[h,aj hs];rfl
theorem tQ{x:Im}(h:lE x=false)(hs:(kA x).num.sign>0):jm x=decide ((gd x).den=1):=by
 unfold jm;rw[h,au hs];rfl
section
variable{Γ:List aD}
theorem xc(f p:Sl){x:Im} [h:aW (mI f p) x Γ](hx:qQ x):aw tb Tryz.prog 84 [lY f p] Γ (UM x):=by
 obtain⟨z,hz⟩:∃z,cB x 26 0=z:=⟨_,rfl⟩;have hzb:DJ x=z:=hz;have oz:rO x=(z != 0):=by unfold rO;rw[hzb]
 have hsh:=hx.short;refine aw.of_W aB Tryz.func84 rfl ?_;refine aq [] (cU 1 (by decide) (by decide)) ?_;rintro _ _ ⟨u1,d1,rfl,rfl⟩;refine aq [] (cr u1 d1) ?_;rintro _ _ ⟨n2,a2,m2,b2,rfl,rfl⟩;refine aq [] (iE f p (x:=x) 26 0 hx (.inr (.inl rfl))) ?_;rw[hz];rintro _ _ ⟨rfl,rfl⟩;by_cases h0:z=0
 ·have iD:lE x=false:=by unfold lE;rw[hzb,h0];rfl
  refine aQ [] 26 (z != 0) (by simpa using h0) ?_;cases hm:dW x 27 with
  |none=>
   obtain⟨g,rQ⟩:∃g,kA x=g:=⟨_,rfl⟩;have AB:((1:Int):Rat)=g:=by rw[←rQ];unfold kA;rw[hm]
   cases ha:dW x 28 with
   |none=>
    obtain⟨q,jP⟩:∃q,q=gd x:=⟨_,rfl⟩;have heq:(0:Rat)/((45:Int):Rat)=q:=by rw[jP];unfold gd wz;rw[ha]
    have pq:gJ x=oD q % 8:=by unfold gJ;rw[jP]
    have hsm:g_ (oD q % 8)=true:=by have:=lP x;unfold gJ at this;rw[←jP]at this;exact this
    refine aq [29,26] (j6 f p (x:=x) 27 hsh hm) ?_;rintro _ _ ⟨rfl,rfl⟩;refine aQ [] 36 false rfl ?_;refine aq [36] (j6 f p (x:=x) 28 hsh ha) ?_;rintro _ _ ⟨rfl,rfl⟩;refine aQ [] 48 false rfl ?_;refine aq [48] (cU 45 (by decide) (by decide)) ?_;rintro _ _ ⟨u6,d6,rfl,rfl⟩;refine aq [] (cr u6 d6) ?_;rintro _ _ ⟨n7,a7,m7,b7,rfl,rfl⟩;refine gT [] (ln (L':=0)) (rZ ⟨none,0,0⟩ false ⟨none,0,0⟩ false n7 a7 m7 b7 (a:=0) (by decide)) ?_;rintro _ _ ⟨n8,a8,m8,b8,rfl,rfl⟩;rw[heq];refine aq [] (nV n8 a8 m8 b8 (q:=q)) ?_;rintro _ _ ⟨u9,d9,rfl,rfl⟩;refine aq [] (cU 8 (by decide) (by decide)) ?_;rintro _ _ ⟨u10,d10,rfl,rfl⟩;refine aq [] (i_ u9 d9 u10 d10 (x:=oD q) (y:=8) (by decide)) ?_;rintro _ _ ⟨u11,d11,v11,H9,rfl,rfl⟩;refine aq [] (jz v11 H9 (x:=oD q % 8) hsm) ?_;rintro _ _ ⟨rfl,rfl⟩;refine aq [] (iZ n2 a2 m2 b2 (q:=((1:Int):Rat))) ?_;rintro _ _ ⟨rfl,rfl⟩;rw[AB];by_cases rR:g.num.sign>0
    ·refine bj [] 82 (decide (g.num.sign>0)) (au rR) ?_;refine aq [82] (jy n8 a8 m8 b8 (q:=q)) ?_;rintro _ _ ⟨u14,d14,rfl,rfl⟩;refine aq [82] (cU 1 (by decide) (by decide)) ?_;rintro _ _ ⟨u15,d15,rfl,rfl⟩;refine aq [82] (pI u14 d14 u15 d15 (x:=(q.den:Int)) (y:=1)) ?_;rintro _ _ ⟨rfl,rfl⟩;exact W.r [82] (.tuple #[.bool (z != 0),qv n2 a2 m2 b2,.int .i64 (oD q % 8),.bool (nI (q.den:Int) 1==0)]) (.inr ⟨iD,n2,a2,m2,b2,by rw[oz,pq,tQ iD (by rw[rQ];exact rR),p9,←jP],rfl⟩) (kg (by omega) (by rw[rQ]))
    ·refine aQ [] 82 (decide (g.num.sign>0)) (aj rR) ?_;exact W.r [82] (.tuple #[.bool (z != 0),qv n2 a2 m2 b2,.int .i64 (oD q % 8),.bool false]) (.inr ⟨iD,n2,a2,m2,b2,by rw[oz,pq,yV iD (by rw[rQ];exact rR)],rfl⟩) (kg (by omega) (by rw[rQ]))
   |some ra=>
    have ha8:ra.b.length=8:=by obtain⟨_,l1,l2,l3⟩:=hx.len ha (s:=⟨5,8,1,1⟩) rfl;simp only at l1 l2 l3;omega
    obtain⟨q,jP⟩:∃q,q=gd x:=⟨_,rfl⟩;have heq:ou ra.b/((45:Int):Rat)=q:=by rw[jP];unfold gd wz;rw[ha]
    have pq:gJ x=oD q % 8:=by unfold gJ;rw[jP]
    have hsm:g_ (oD q % 8)=true:=by have:=lP x;unfold gJ at this;rw[←jP]at this;exact this
    refine aq [29,26] (j6 f p (x:=x) 27 hsh hm) ?_;rintro _ _ ⟨rfl,rfl⟩;refine aQ [] 36 false rfl ?_;refine aq [36] (j7 f p (x:=x) 28 hsh ha) ?_;rintro _ _ ⟨ua,rfl,rfl⟩;refine bj [] 48 true rfl ?_;refine W.more (Δ:=[BF ua ra.b]) (by kernel_rfl) (nh ua) ?_;refine xH ua (fun k1 k2 k3 k4=>?_);refine gT [48] (Γ':=[RA ua.ao (ra.b.map (Value.int .u8))]) (fun I w _ hh=>aS (aW.p (k:=BF ua) (a:=ra.b) inferInstance hh).2.2.2) (tT ua.ao ua.n ua.c ra.b k1 k3 k2.1) ?_;rw[show sT ra.b=0 by unfold sT;rw[if_pos ha8]];rintro _ _ ⟨na,aa,ma,ba,rfl,rfl⟩;refine aq [] (cU 45 (by decide) (by decide)) ?_;rintro _ _ ⟨u6,d6,rfl,rfl⟩;refine aq [] (cr u6 d6) ?_;rintro _ _ ⟨n7,a7,m7,b7,rfl,rfl⟩;refine aq [] (rZ na aa ma ba n7 a7 m7 b7 (a:=ou ra.b) (by decide)) ?_;rintro _ _ ⟨n8,a8,m8,b8,rfl,rfl⟩;rw[heq];refine aq [] (nV n8 a8 m8 b8 (q:=q)) ?_;rintro _ _ ⟨u9,d9,rfl,rfl⟩;refine aq [] (cU 8 (by decide) (by decide)) ?_;rintro _ _ ⟨u10,d10,rfl,rfl⟩;refine aq [] (i_ u9 d9 u10 d10 (x:=oD q) (y:=8) (by decide)) ?_;rintro _ _ ⟨u11,d11,v11,H9,rfl,rfl⟩;refine aq [] (jz v11 H9 (x:=oD q % 8) hsm) ?_;rintro _ _ ⟨rfl,rfl⟩;refine aq [] (iZ n2 a2 m2 b2 (q:=((1:Int):Rat))) ?_;rintro _ _ ⟨rfl,rfl⟩;rw[AB];by_cases rR:g.num.sign>0
    ·refine bj [] 82 (decide (g.num.sign>0)) (au rR) ?_;refine aq [82] (jy n8 a8 m8 b8 (q:=q)) ?_;rintro _ _ ⟨u14,d14,rfl,rfl⟩;refine aq [82] (cU 1 (by decide) (by decide)) ?_;rintro _ _ ⟨u15,d15,rfl,rfl⟩;refine aq [82] (pI u14 d14 u15 d15 (x:=(q.den:Int)) (y:=1)) ?_;rintro _ _ ⟨rfl,rfl⟩;exact W.r [82] (.tuple #[.bool (z != 0),qv n2 a2 m2 b2,.int .i64 (oD q % 8),.bool (nI (q.den:Int) 1==0)]) (.inr ⟨iD,n2,a2,m2,b2,by rw[oz,pq,tQ iD (by rw[rQ];exact rR),p9,←jP],rfl⟩) (kg (by omega) (by rw[rQ]))
    ·refine aQ [] 82 (decide (g.num.sign>0)) (aj rR) ?_;exact W.r [82] (.tuple #[.bool (z != 0),qv n2 a2 m2 b2,.int .i64 (oD q % 8),.bool false]) (.inr ⟨iD,n2,a2,m2,b2,by rw[oz,pq,yV iD (by rw[rQ];exact rR)],rfl⟩) (kg (by omega) (by rw[rQ]))
  |some rm=>
   have Zd:rm.b.length=8:=by obtain⟨_,l1,l2,l3⟩:=hx.len hm (s:=⟨5,8,1,1⟩) rfl;simp only at l1 l2 l3;omega
   obtain⟨g,rQ⟩:∃g,kA x=g:=⟨_,rfl⟩;have AB:ou rm.b=g:=by rw[←rQ];unfold kA;rw[hm]
   cases ha:dW x 28 with
   |none=>
    obtain⟨q,jP⟩:∃q,q=gd x:=⟨_,rfl⟩;have heq:(0:Rat)/((45:Int):Rat)=q:=by rw[jP];unfold gd wz;rw[ha]
    have pq:gJ x=oD q % 8:=by unfold gJ;rw[jP]
    have hsm:g_ (oD q % 8)=true:=by have:=lP x;unfold gJ at this;rw[←jP]at this;exact this
    refine aq [29,26] (j7 f p (x:=x) 27 hsh hm) ?_;rintro _ _ ⟨um,rfl,rfl⟩;refine bj [] 36 true rfl ?_;refine W.more (Δ:=[BF um rm.b]) (by kernel_rfl) (nh um) ?_;refine xH um (fun g1 g2 g3 g4=>?_);refine gT [36] (Γ':=[RA um.ao (rm.b.map (Value.int .u8))]) (fun I w _ hh=>aS (aW.p (k:=BF um) (a:=rm.b) inferInstance hh).2.2.2) (tT um.ao um.n um.c rm.b g1 g3 g2.1) ?_;rw[show sT rm.b=0 by unfold sT;rw[if_pos Zd]];rintro _ _ ⟨nm,am,mm,bm,rfl,rfl⟩;refine aq [] (j6 f p (x:=x) 28 hsh ha) ?_;rintro _ _ ⟨rfl,rfl⟩;refine aQ [] 48 false rfl ?_;refine aq [48] (cU 45 (by decide) (by decide)) ?_;rintro _ _ ⟨u6,d6,rfl,rfl⟩;refine aq [] (cr u6 d6) ?_;rintro _ _ ⟨n7,a7,m7,b7,rfl,rfl⟩;refine gT [] (ln (L':=0)) (rZ ⟨none,0,0⟩ false ⟨none,0,0⟩ false n7 a7 m7 b7 (a:=0) (by decide)) ?_;rintro _ _ ⟨n8,a8,m8,b8,rfl,rfl⟩;rw[heq];refine aq [] (nV n8 a8 m8 b8 (q:=q)) ?_;rintro _ _ ⟨u9,d9,rfl,rfl⟩;refine aq [] (cU 8 (by decide) (by decide)) ?_;rintro _ _ ⟨u10,d10,rfl,rfl⟩;refine aq [] (i_ u9 d9 u10 d10 (x:=oD q) (y:=8) (by decide)) ?_;rintro _ _ ⟨u11,d11,v11,H9,rfl,rfl⟩;refine aq [] (jz v11 H9 (x:=oD q % 8) hsm) ?_;rintro _ _ ⟨rfl,rfl⟩;refine aq [] (iZ nm am mm bm (q:=ou rm.b)) ?_;rintro _ _ ⟨rfl,rfl⟩;rw[AB];by_cases rR:g.num.sign>0
    ·refine bj [] 82 (decide (g.num.sign>0)) (au rR) ?_;refine aq [82] (jy n8 a8 m8 b8 (q:=q)) ?_;rintro _ _ ⟨u14,d14,rfl,rfl⟩;refine aq [82] (cU 1 (by decide) (by decide)) ?_;rintro _ _ ⟨u15,d15,rfl,rfl⟩;refine aq [82] (pI u14 d14 u15 d15 (x:=(q.den:Int)) (y:=1)) ?_;rintro _ _ ⟨rfl,rfl⟩;exact W.r [82] (.tuple #[.bool (z != 0),qv nm am mm bm,.int .i64 (oD q % 8),.bool (nI (q.den:Int) 1==0)]) (.inr ⟨iD,nm,am,mm,bm,by rw[oz,pq,tQ iD (by rw[rQ];exact rR),p9,←jP],rfl⟩) (kg (by omega) (by rw[rQ]))
    ·refine aQ [] 82 (decide (g.num.sign>0)) (aj rR) ?_;exact W.r [82] (.tuple #[.bool (z != 0),qv nm am mm bm,.int .i64 (oD q % 8),.bool false]) (.inr ⟨iD,nm,am,mm,bm,by rw[oz,pq,yV iD (by rw[rQ];exact rR)],rfl⟩) (kg (by omega) (by rw[rQ]))
   |some ra=>
    have ha8:ra.b.length=8:=by obtain⟨_,l1,l2,l3⟩:=hx.len ha (s:=⟨5,8,1,1⟩) rfl;simp only at l1 l2 l3;omega
    obtain⟨q,jP⟩:∃q,q=gd x:=⟨_,rfl⟩;have heq:ou ra.b/((45:Int):Rat)=q:=by rw[jP];unfold gd wz;rw[ha]
    have pq:gJ x=oD q % 8:=by unfold gJ;rw[jP]
    have hsm:g_ (oD q % 8)=true:=by have:=lP x;unfold gJ at this;rw[←jP]at this;exact this
    refine aq [29,26] (j7 f p (x:=x) 27 hsh hm) ?_;rintro _ _ ⟨um,rfl,rfl⟩;refine bj [] 36 true rfl ?_;refine W.more (Δ:=[BF um rm.b]) (by kernel_rfl) (nh um) ?_;refine xH um (fun g1 g2 g3 g4=>?_);refine gT [36] (Γ':=[RA um.ao (rm.b.map (Value.int .u8))]) (fun I w _ hh=>aS (aW.p (k:=BF um) (a:=rm.b) inferInstance hh).2.2.2) (tT um.ao um.n um.c rm.b g1 g3 g2.1) ?_;rw[show sT rm.b=0 by unfold sT;rw[if_pos Zd]];rintro _ _ ⟨nm,am,mm,bm,rfl,rfl⟩;refine aq [] (j7 f p (x:=x) 28 hsh ha) ?_;rintro _ _ ⟨ua,rfl,rfl⟩;refine bj [] 48 true rfl ?_;refine W.more (Δ:=[BF ua ra.b]) (by kernel_rfl) (nh ua) ?_;refine xH ua (fun k1 k2 k3 k4=>?_);refine gT [48] (Γ':=[RA ua.ao (ra.b.map (Value.int .u8))]) (fun I w _ hh=>aS (aW.p (k:=BF ua) (a:=ra.b) inferInstance hh).2.2.2) (tT ua.ao ua.n ua.c ra.b k1 k3 k2.1) ?_;rw[show sT ra.b=0 by unfold sT;rw[if_pos ha8]];rintro _ _ ⟨na,aa,ma,ba,rfl,rfl⟩;refine aq [] (cU 45 (by decide) (by decide)) ?_;rintro _ _ ⟨u6,d6,rfl,rfl⟩;refine aq [] (cr u6 d6) ?_;rintro _ _ ⟨n7,a7,m7,b7,rfl,rfl⟩;refine aq [] (rZ na aa ma ba n7 a7 m7 b7 (a:=ou ra.b) (by decide)) ?_;rintro _ _ ⟨n8,a8,m8,b8,rfl,rfl⟩;rw[heq];refine aq [] (nV n8 a8 m8 b8 (q:=q)) ?_;rintro _ _ ⟨u9,d9,rfl,rfl⟩;refine aq [] (cU 8 (by decide) (by decide)) ?_;rintro _ _ ⟨u10,d10,rfl,rfl⟩;refine aq [] (i_ u9 d9 u10 d10 (x:=oD q) (y:=8) (by decide)) ?_
    rintro _ _ ⟨u11,d11,v11,H9,rfl,rfl⟩;refine aq [] (jz v11 H9 (x:=oD q % 8) hsm) ?_;rintro _ _ ⟨rfl,rfl⟩;refine aq [] (iZ nm am mm bm (q:=ou rm.b)) ?_;rintro _ _ ⟨rfl,rfl⟩;rw[AB];by_cases rR:g.num.sign>0
    ·refine bj [] 82 (decide (g.num.sign>0)) (au rR) ?_;refine aq [82] (jy n8 a8 m8 b8 (q:=q)) ?_;rintro _ _ ⟨u14,d14,rfl,rfl⟩;refine aq [82] (cU 1 (by decide) (by decide)) ?_;rintro _ _ ⟨u15,d15,rfl,rfl⟩;refine aq [82] (pI u14 d14 u15 d15 (x:=(q.den:Int)) (y:=1)) ?_;rintro _ _ ⟨rfl,rfl⟩;exact W.r [82] (.tuple #[.bool (z != 0),qv nm am mm bm,.int .i64 (oD q % 8),.bool (nI (q.den:Int) 1==0)]) (.inr ⟨iD,nm,am,mm,bm,by rw[oz,pq,tQ iD (by rw[rQ];exact rR),p9,←jP],rfl⟩) (kg (by omega) (by rw[rQ]))
    ·refine aQ [] 82 (decide (g.num.sign>0)) (aj rR) ?_;exact W.r [82] (.tuple #[.bool (z != 0),qv nm am mm bm,.int .i64 (oD q % 8),.bool false]) (.inr ⟨iD,nm,am,mm,bm,by rw[oz,pq,yV iD (by rw[rQ];exact rR)],rfl⟩) (kg (by omega) (by rw[rQ]))
 ·refine bj [] 26 (z != 0) (by simpa using h0) ?_;by_cases h1:z= -32768
  ·have iD:lE x=false:=by unfold lE;rw[hzb,h1];rfl
   refine aQ [26] 29 (z != -32768) (by simpa using h1) ?_;cases hm:dW x 27 with
   |none=>
    obtain⟨g,rQ⟩:∃g,kA x=g:=⟨_,rfl⟩;have AB:((1:Int):Rat)=g:=by rw[←rQ];unfold kA;rw[hm]
    cases ha:dW x 28 with
    |none=>
     obtain⟨q,jP⟩:∃q,q=gd x:=⟨_,rfl⟩;have heq:(0:Rat)/((45:Int):Rat)=q:=by rw[jP];unfold gd wz;rw[ha]
     have pq:gJ x=oD q % 8:=by unfold gJ;rw[jP]
     have hsm:g_ (oD q % 8)=true:=by have:=lP x;unfold gJ at this;rw[←jP]at this;exact this
     refine aq [29] (j6 f p (x:=x) 27 hsh hm) ?_;rintro _ _ ⟨rfl,rfl⟩;refine aQ [] 36 false rfl ?_;refine aq [36] (j6 f p (x:=x) 28 hsh ha) ?_;rintro _ _ ⟨rfl,rfl⟩;refine aQ [] 48 false rfl ?_;refine aq [48] (cU 45 (by decide) (by decide)) ?_;rintro _ _ ⟨u6,d6,rfl,rfl⟩;refine aq [] (cr u6 d6) ?_;rintro _ _ ⟨n7,a7,m7,b7,rfl,rfl⟩;refine gT [] (ln (L':=0)) (rZ ⟨none,0,0⟩ false ⟨none,0,0⟩ false n7 a7 m7 b7 (a:=0) (by decide)) ?_;rintro _ _ ⟨n8,a8,m8,b8,rfl,rfl⟩;rw[heq];refine aq [] (nV n8 a8 m8 b8 (q:=q)) ?_;rintro _ _ ⟨u9,d9,rfl,rfl⟩;refine aq [] (cU 8 (by decide) (by decide)) ?_;rintro _ _ ⟨u10,d10,rfl,rfl⟩;refine aq [] (i_ u9 d9 u10 d10 (x:=oD q) (y:=8) (by decide)) ?_;rintro _ _ ⟨u11,d11,v11,H9,rfl,rfl⟩;refine aq [] (jz v11 H9 (x:=oD q % 8) hsm) ?_;rintro _ _ ⟨rfl,rfl⟩;refine aq [] (iZ n2 a2 m2 b2 (q:=((1:Int):Rat))) ?_;rintro _ _ ⟨rfl,rfl⟩;rw[AB];by_cases rR:g.num.sign>0
     ·refine bj [] 82 (decide (g.num.sign>0)) (au rR) ?_;refine aq [82] (jy n8 a8 m8 b8 (q:=q)) ?_;rintro _ _ ⟨u14,d14,rfl,rfl⟩;refine aq [82] (cU 1 (by decide) (by decide)) ?_;rintro _ _ ⟨u15,d15,rfl,rfl⟩;refine aq [82] (pI u14 d14 u15 d15 (x:=(q.den:Int)) (y:=1)) ?_;rintro _ _ ⟨rfl,rfl⟩;exact W.r [82] (.tuple #[.bool (z != 0),qv n2 a2 m2 b2,.int .i64 (oD q % 8),.bool (nI (q.den:Int) 1==0)]) (.inr ⟨iD,n2,a2,m2,b2,by rw[oz,pq,tQ iD (by rw[rQ];exact rR),p9,←jP],rfl⟩) (kg (by omega) (by rw[rQ]))
     ·refine aQ [] 82 (decide (g.num.sign>0)) (aj rR) ?_;exact W.r [82] (.tuple #[.bool (z != 0),qv n2 a2 m2 b2,.int .i64 (oD q % 8),.bool false]) (.inr ⟨iD,n2,a2,m2,b2,by rw[oz,pq,yV iD (by rw[rQ];exact rR)],rfl⟩) (kg (by omega) (by rw[rQ]))
    |some ra=>
     have ha8:ra.b.length=8:=by obtain⟨_,l1,l2,l3⟩:=hx.len ha (s:=⟨5,8,1,1⟩) rfl;simp only at l1 l2 l3;omega
     obtain⟨q,jP⟩:∃q,q=gd x:=⟨_,rfl⟩;have heq:ou ra.b/((45:Int):Rat)=q:=by rw[jP];unfold gd wz;rw[ha]
     have pq:gJ x=oD q % 8:=by unfold gJ;rw[jP]
     have hsm:g_ (oD q % 8)=true:=by have:=lP x;unfold gJ at this;rw[←jP]at this;exact this
     refine aq [29] (j6 f p (x:=x) 27 hsh hm) ?_;rintro _ _ ⟨rfl,rfl⟩;refine aQ [] 36 false rfl ?_;refine aq [36] (j7 f p (x:=x) 28 hsh ha) ?_;rintro _ _ ⟨ua,rfl,rfl⟩;refine bj [] 48 true rfl ?_;refine W.more (Δ:=[BF ua ra.b]) (by kernel_rfl) (nh ua) ?_;refine xH ua (fun k1 k2 k3 k4=>?_);refine gT [48] (Γ':=[RA ua.ao (ra.b.map (Value.int .u8))]) (fun I w _ hh=>aS (aW.p (k:=BF ua) (a:=ra.b) inferInstance hh).2.2.2) (tT ua.ao ua.n ua.c ra.b k1 k3 k2.1) ?_;rw[show sT ra.b=0 by unfold sT;rw[if_pos ha8]];rintro _ _ ⟨na,aa,ma,ba,rfl,rfl⟩;refine aq [] (cU 45 (by decide) (by decide)) ?_;rintro _ _ ⟨u6,d6,rfl,rfl⟩;refine aq [] (cr u6 d6) ?_;rintro _ _ ⟨n7,a7,m7,b7,rfl,rfl⟩;refine aq [] (rZ na aa ma ba n7 a7 m7 b7 (a:=ou ra.b) (by decide)) ?_;rintro _ _ ⟨n8,a8,m8,b8,rfl,rfl⟩;rw[heq];refine aq [] (nV n8 a8 m8 b8 (q:=q)) ?_;rintro _ _ ⟨u9,d9,rfl,rfl⟩;refine aq [] (cU 8 (by decide) (by decide)) ?_;rintro _ _ ⟨u10,d10,rfl,rfl⟩;refine aq [] (i_ u9 d9 u10 d10 (x:=oD q) (y:=8) (by decide)) ?_;rintro _ _ ⟨u11,d11,v11,H9,rfl,rfl⟩;refine aq [] (jz v11 H9 (x:=oD q % 8) hsm) ?_;rintro _ _ ⟨rfl,rfl⟩;refine aq [] (iZ n2 a2 m2 b2 (q:=((1:Int):Rat))) ?_;rintro _ _ ⟨rfl,rfl⟩;rw[AB];by_cases rR:g.num.sign>0
     ·refine bj [] 82 (decide (g.num.sign>0)) (au rR) ?_;refine aq [82] (jy n8 a8 m8 b8 (q:=q)) ?_;rintro _ _ ⟨u14,d14,rfl,rfl⟩;refine aq [82] (cU 1 (by decide) (by decide)) ?_;rintro _ _ ⟨u15,d15,rfl,rfl⟩;refine aq [82] (pI u14 d14 u15 d15 (x:=(q.den:Int)) (y:=1)) ?_;rintro _ _ ⟨rfl,rfl⟩;exact W.r [82] (.tuple #[.bool (z != 0),qv n2 a2 m2 b2,.int .i64 (oD q % 8),.bool (nI (q.den:Int) 1==0)]) (.inr ⟨iD,n2,a2,m2,b2,by rw[oz,pq,tQ iD (by rw[rQ];exact rR),p9,←jP],rfl⟩) (kg (by omega) (by rw[rQ]))
     ·refine aQ [] 82 (decide (g.num.sign>0)) (aj rR) ?_;exact W.r [82] (.tuple #[.bool (z != 0),qv n2 a2 m2 b2,.int .i64 (oD q % 8),.bool false]) (.inr ⟨iD,n2,a2,m2,b2,by rw[oz,pq,yV iD (by rw[rQ];exact rR)],rfl⟩) (kg (by omega) (by rw[rQ]))
   |some rm=>
    have Zd:rm.b.length=8:=by obtain⟨_,l1,l2,l3⟩:=hx.len hm (s:=⟨5,8,1,1⟩) rfl;simp only at l1 l2 l3;omega
    obtain⟨g,rQ⟩:∃g,kA x=g:=⟨_,rfl⟩;have AB:ou rm.b=g:=by rw[←rQ];unfold kA;rw[hm]
    cases ha:dW x 28 with
    |none=>
     obtain⟨q,jP⟩:∃q,q=gd x:=⟨_,rfl⟩;have heq:(0:Rat)/((45:Int):Rat)=q:=by rw[jP];unfold gd wz;rw[ha]
     have pq:gJ x=oD q % 8:=by unfold gJ;rw[jP]
     have hsm:g_ (oD q % 8)=true:=by have:=lP x;unfold gJ at this;rw[←jP]at this;exact this
     refine aq [29] (j7 f p (x:=x) 27 hsh hm) ?_;rintro _ _ ⟨um,rfl,rfl⟩;refine bj [] 36 true rfl ?_;refine W.more (Δ:=[BF um rm.b]) (by kernel_rfl) (nh um) ?_;refine xH um (fun g1 g2 g3 g4=>?_);refine gT [36] (Γ':=[RA um.ao (rm.b.map (Value.int .u8))]) (fun I w _ hh=>aS (aW.p (k:=BF um) (a:=rm.b) inferInstance hh).2.2.2) (tT um.ao um.n um.c rm.b g1 g3 g2.1) ?_;rw[show sT rm.b=0 by unfold sT;rw[if_pos Zd]];rintro _ _ ⟨nm,am,mm,bm,rfl,rfl⟩;refine aq [] (j6 f p (x:=x) 28 hsh ha) ?_;rintro _ _ ⟨rfl,rfl⟩;refine aQ [] 48 false rfl ?_;refine aq [48] (cU 45 (by decide) (by decide)) ?_;rintro _ _ ⟨u6,d6,rfl,rfl⟩;refine aq [] (cr u6 d6) ?_;rintro _ _ ⟨n7,a7,m7,b7,rfl,rfl⟩;refine gT [] (ln (L':=0)) (rZ ⟨none,0,0⟩ false ⟨none,0,0⟩ false n7 a7 m7 b7 (a:=0) (by decide)) ?_;rintro _ _ ⟨n8,a8,m8,b8,rfl,rfl⟩;rw[heq];refine aq [] (nV n8 a8 m8 b8 (q:=q)) ?_;rintro _ _ ⟨u9,d9,rfl,rfl⟩;refine aq [] (cU 8 (by decide) (by decide)) ?_;rintro _ _ ⟨u10,d10,rfl,rfl⟩;refine aq [] (i_ u9 d9 u10 d10 (x:=oD q) (y:=8) (by decide)) ?_;rintro _ _ ⟨u11,d11,v11,H9,rfl,rfl⟩;refine aq [] (jz v11 H9 (x:=oD q % 8) hsm) ?_;rintro _ _ ⟨rfl,rfl⟩;refine aq [] (iZ nm am mm bm (q:=ou rm.b)) ?_;rintro _ _ ⟨rfl,rfl⟩;rw[AB];by_cases rR:g.num.sign>0
     ·refine bj [] 82 (decide (g.num.sign>0)) (au rR) ?_;refine aq [82] (jy n8 a8 m8 b8 (q:=q)) ?_;rintro _ _ ⟨u14,d14,rfl,rfl⟩;refine aq [82] (cU 1 (by decide) (by decide)) ?_;rintro _ _ ⟨u15,d15,rfl,rfl⟩;refine aq [82] (pI u14 d14 u15 d15 (x:=(q.den:Int)) (y:=1)) ?_;rintro _ _ ⟨rfl,rfl⟩;exact W.r [82] (.tuple #[.bool (z != 0),qv nm am mm bm,.int .i64 (oD q % 8),.bool (nI (q.den:Int) 1==0)]) (.inr ⟨iD,nm,am,mm,bm,by rw[oz,pq,tQ iD (by rw[rQ];exact rR),p9,←jP],rfl⟩) (kg (by omega) (by rw[rQ]))
     ·refine aQ [] 82 (decide (g.num.sign>0)) (aj rR) ?_;exact W.r [82] (.tuple #[.bool (z != 0),qv nm am mm bm,.int .i64 (oD q % 8),.bool false]) (.inr ⟨iD,nm,am,mm,bm,by rw[oz,pq,yV iD (by rw[rQ];exact rR)],rfl⟩) (kg (by omega) (by rw[rQ]))
    |some ra=>
     have ha8:ra.b.length=8:=by obtain⟨_,l1,l2,l3⟩:=hx.len ha (s:=⟨5,8,1,1⟩) rfl;simp only at l1 l2 l3;omega
     obtain⟨q,jP⟩:∃q,q=gd x:=⟨_,rfl⟩;have heq:ou ra.b/((45:Int):Rat)=q:=by rw[jP];unfold gd wz;rw[ha]
     have pq:gJ x=oD q % 8:=by unfold gJ;rw[jP]
     have hsm:g_ (oD q % 8)=true:=by have:=lP x;unfold gJ at this;rw[←jP]at this;exact this
     refine aq [29] (j7 f p (x:=x) 27 hsh hm) ?_;rintro _ _ ⟨um,rfl,rfl⟩;refine bj [] 36 true rfl ?_;refine W.more (Δ:=[BF um rm.b]) (by kernel_rfl) (nh um) ?_;refine xH um (fun g1 g2 g3 g4=>?_);refine gT [36] (Γ':=[RA um.ao (rm.b.map (Value.int .u8))]) (fun I w _ hh=>aS (aW.p (k:=BF um) (a:=rm.b) inferInstance hh).2.2.2) (tT um.ao um.n um.c rm.b g1 g3 g2.1) ?_;rw[show sT rm.b=0 by unfold sT;rw[if_pos Zd]];rintro _ _ ⟨nm,am,mm,bm,rfl,rfl⟩;refine aq [] (j7 f p (x:=x) 28 hsh ha) ?_;rintro _ _ ⟨ua,rfl,rfl⟩;refine bj [] 48 true rfl ?_;refine W.more (Δ:=[BF ua ra.b]) (by kernel_rfl) (nh ua) ?_;refine xH ua (fun k1 k2 k3 k4=>?_);refine gT [48] (Γ':=[RA ua.ao (ra.b.map (Value.int .u8))]) (fun I w _ hh=>aS (aW.p (k:=BF ua) (a:=ra.b) inferInstance hh).2.2.2) (tT ua.ao ua.n ua.c ra.b k1 k3 k2.1) ?_;rw[show sT ra.b=0 by unfold sT;rw[if_pos ha8]];rintro _ _ ⟨na,aa,ma,ba,rfl,rfl⟩;refine aq [] (cU 45 (by decide) (by decide)) ?_;rintro _ _ ⟨u6,d6,rfl,rfl⟩;refine aq [] (cr u6 d6) ?_;rintro _ _ ⟨n7,a7,m7,b7,rfl,rfl⟩;refine aq [] (rZ na aa ma ba n7 a7 m7 b7 (a:=ou ra.b) (by decide)) ?_;rintro _ _ ⟨n8,a8,m8,b8,rfl,rfl⟩;rw[heq];refine aq [] (nV n8 a8 m8 b8 (q:=q)) ?_;rintro _ _ ⟨u9,d9,rfl,rfl⟩;refine aq [] (cU 8 (by decide) (by decide)) ?_;rintro _ _ ⟨u10,d10,rfl,rfl⟩;refine aq [] (i_ u9 d9 u10 d10 (x:=oD q) (y:=8) (by decide)) ?_
     rintro _ _ ⟨u11,d11,v11,H9,rfl,rfl⟩;refine aq [] (jz v11 H9 (x:=oD q % 8) hsm) ?_;rintro _ _ ⟨rfl,rfl⟩;refine aq [] (iZ nm am mm bm (q:=ou rm.b)) ?_;rintro _ _ ⟨rfl,rfl⟩;rw[AB];by_cases rR:g.num.sign>0
     ·refine bj [] 82 (decide (g.num.sign>0)) (au rR) ?_;refine aq [82] (jy n8 a8 m8 b8 (q:=q)) ?_;rintro _ _ ⟨u14,d14,rfl,rfl⟩;refine aq [82] (cU 1 (by decide) (by decide)) ?_;rintro _ _ ⟨u15,d15,rfl,rfl⟩;refine aq [82] (pI u14 d14 u15 d15 (x:=(q.den:Int)) (y:=1)) ?_;rintro _ _ ⟨rfl,rfl⟩;exact W.r [82] (.tuple #[.bool (z != 0),qv nm am mm bm,.int .i64 (oD q % 8),.bool (nI (q.den:Int) 1==0)]) (.inr ⟨iD,nm,am,mm,bm,by rw[oz,pq,tQ iD (by rw[rQ];exact rR),p9,←jP],rfl⟩) (kg (by omega) (by rw[rQ]))
     ·refine aQ [] 82 (decide (g.num.sign>0)) (aj rR) ?_;exact W.r [82] (.tuple #[.bool (z != 0),qv nm am mm bm,.int .i64 (oD q % 8),.bool false]) (.inr ⟨iD,nm,am,mm,bm,by rw[oz,pq,yV iD (by rw[rQ];exact rR)],rfl⟩) (kg (by omega) (by rw[rQ]))
  ·have iD:lE x=true:=by unfold lE;rw[hzb];simp[h0,h1]
   refine bj [26] 29 (z != -32768) (by simpa using h1) ?_;exact W.r [29] (.tuple #[.bool false,qv n2 a2 m2 b2,.int .i64 0,.bool false]) (.inl ⟨iD,n2,a2,m2,b2,rfl,rfl⟩) bT
end
def sH(x:Im):Int:=if cB x 15 0=0 then 1 else cB x 15 0
def zG(x:Im):Int:=rh (bJ x) (sH x) (cB x 33 0) (cB x 48 0) (cB x 49 0)
def t_(x:Im):Int:=if zG x=7 then 0 else zG x
def ja(x:Im):List (Sn×Sn):=if zG x=0∧cB x 15 0≠0 then sj (iC (bJ x)).1.reverse (iC (bJ x)).2.reverse (sH x) (cB x 33 0) (cB x 48 0) (cB x 49 0)else []
def zZ(x:Im)(v:Value)(Δ:List aD):Prop:=
 ∃(ao:Option Addr) (c:Nat) (l:List jF),v=.tuple #[.slice ao l.length c,.int .i64 (t_ x)]∧l.length≤c∧l.map jF.num=ja x∧Δ=[OL gi ao (130,l)]
theorem Bm(I:fQ)(w:World):aG [OL gi none (130,[])] I w:=aS ⟨fun e he=>by simp at he,RA.nil _ _ _⟩
def kN(x:Im):Bool:=
 if cJ x=8 then decide (4≤(bJ x).length)&&decide ((bJ x).getD 0 ⟨0,0⟩=(bJ x).getD ((bJ x).length-1) ⟨0,0⟩)
 else if cJ x=45 then decide ((bJ x).length=5)&&decide ((bJ x).getD 0 ⟨0,0⟩=(bJ x).getD 4 ⟨0,0⟩)
 else if cJ x=9 then t_ x==0
 else if cJ x=10 then jm x&&decide (0<(bN x).1)&&decide (0<(bN x).2)&&decide ((bJ x).length=1)
 else if cJ x=11 then jm x&&decide (0<(bN x).1)&&decide (0<(bN x).2)&&decide ((bJ x).length=3)
 else if cJ x=12 then jm x
 else true
theorem Jr(n m:Nat):((n:Int)==(m:Int))=decide (n=m):=by
 by_cases h:n=m
 ·subst h;simp
 ·rw[aj h];simp;omega
theorem uJ{α:Type}(l:List α)(i:Nat)(d:α)(h:i<l.length):l[i]? =some (l.getD i d):=by
 rw[dL,ai h];rfl
section
variable{Γ:List aD}
def PtI(u:Sl)(l:List Dp):Prop:=u.n=l.length∧(u.n≤u.c∧u.c≤9223372036854775807)∧(l≠ []→∃bb off,u.ao=some ⟨bb,off,none⟩)
theorem SC{u:Sl}{l:List Dp}{I:fQ}{w:World}(h:(zi u l).p I w):PtI u l:=by
 obtain⟨h1,h2,h4⟩:=h;refine⟨h1,h2,fun hne=>?_⟩;obtain⟨bb,off,ha,_⟩:=h4 (by cases l with|nil=>exact absurd rfl hne|cons a r=>simp[eg]);exact⟨bb,off,ha⟩
theorem oS(f p:Sl){x:Im} [h:aW (mI f p) x Γ](hx:qQ x):aw tb Tryz.prog 80 [lY f p] Γ (fun v Δ=>∃u:Sl,PtI u (bJ x)∧v=aZ u∧Δ=[zi u (bJ x)]):=by
 refine(pZ (fun v Δ=>∃u:Sl,PtI u (bJ x)∧v=aZ u∧Δ=[zi u (bJ x)]) (Pz f p (x:=x) hx) ?_).post (fun _ _ h=>h.2);rintro v Δ ⟨u,rfl,rfl⟩ I w hh;exact⟨u,SC hh.h0',rfl,rfl⟩
theorem IM(f p:Sl){x:Im} [h:aW (mI f p) x Γ](hx:qQ x):aw tb Tryz.prog 82 [lY f p] Γ (zZ x):=by
 obtain⟨E,hE⟩:∃E,zG x=E:=⟨_,rfl⟩;have hE':rh (bJ x) (sH x) (cB x 33 0) (cB x 48 0) (cB x 49 0)=E:=hE;refine aw.of_W aB Tryz.func82 rfl ?_;refine aq [] (iE f p (x:=x) 15 0 hx (.inr (.inr rfl))) ?_;rintro _ _ ⟨rfl,rfl⟩;by_cases h0:cB x 15 0=0
 ·skip
  have hw:sH x=1:=by unfold sH;rw[if_pos h0]
  refine bj [] 10 (cB x 15 0==0) (by rw[h0];decide) ?_;refine aq [10] (oS f p (x:=x) hx) ?_;rintro _ _ ⟨u2,⟨g1,g2,g3⟩,rfl,rfl⟩;refine aq [] (iE f p (x:=x) 33 0 hx (.inl rfl)) ?_;rintro _ _ ⟨rfl,rfl⟩;refine aq [] (iE f p (x:=x) 48 0 hx (.inr (.inr rfl))) ?_;rintro _ _ ⟨rfl,rfl⟩;refine aq [] (iE f p (x:=x) 49 0 hx (.inr (.inr rfl))) ?_;rintro _ _ ⟨rfl,rfl⟩;refine gT [] (Γ':=[RA u2.ao ((bJ x).flatMap eg)]) (fun I w _ hh=>aS (aW.p (k:=zi u2) (a:=bJ x) inferInstance hh).2.2) (Kd u2.ao u2.n u2.c (bJ x) 1 (cB x 33 0) (cB x 48 0) (cB x 49 0) g1) ?_;rw[←hw];rintro _ _ (⟨he,rfl,rfl⟩|⟨he,ao,c,l,rfl,hc,hl,rfl⟩)
  ·rw[hE']at he⊢;by_cases h7:E=7
   ·refine bj [] 26 (E==7) (by rw[h7];decide) ?_;exact W.r [34,30,26] (.tuple #[.slice none 0 0,.int .i64 0]) ⟨none,0,[],by unfold t_;rw[hE,if_pos h7];rfl,ak _,by unfold ja;rw[if_neg (by rw[hE];exact fun q=>he q.1)];rfl,rfl⟩ (fun I w _ _=>Bm I w)
   ·refine aQ [] 26 (E==7) (by simpa using h7) ?_;have hres:zZ x (.tuple #[.slice none 0 0,.int .i64 E]) [OL gi none (130,[])]:=⟨none,0,[],by unfold t_;rw[hE,if_neg h7];rfl,ak _,by unfold ja;rw[if_neg (by rw[hE];exact fun q=>he q.1)];rfl,rfl⟩;refine aq [26] (iE f p (x:=x) 15 0 hx (.inr (.inr rfl))) ?_;rintro _ _ ⟨rfl,rfl⟩;refine bj [26] 30 (cB x 15 0==0) (by rw[h0];decide) ?_;refine aQ [26,30] 34 (E==0) (by simpa using he) ?_;exact W.r [34] (.tuple #[.slice none 0 0,.int .i64 E]) hres (fun I w _ _=>Bm I w)
  ·rw[hE']at he;refine aQ [] 26 ((0:Int)==7) (by decide) ?_;refine aq [26] (iE f p (x:=x) 15 0 hx (.inr (.inr rfl))) ?_;rintro _ _ ⟨rfl,rfl⟩;have QS:t_ x=0:=by unfold t_;rw[hE,he];rfl
   refine bj [26] 30 (cB x 15 0==0) (by rw[h0];decide) ?_;refine bj [26,30] 34 ((0:Int)==0) (by decide) ?_;exact W.r [34] (.tuple #[.slice none 0 0,.int .i64 0]) ⟨none,0,[],by rw[QS];rfl,ak _,by unfold ja;rw[if_neg (fun q=>q.2 h0)];rfl,rfl⟩ (fun I w _ _=>Bm I w)
 ·skip
  have hw:sH x=cB x 15 0:=by unfold sH;rw[if_neg h0]
  refine aQ [] 10 (cB x 15 0==0) (by simpa using h0) ?_;refine aq [10] (oS f p (x:=x) hx) ?_;rintro _ _ ⟨u2,⟨g1,g2,g3⟩,rfl,rfl⟩;refine aq [] (iE f p (x:=x) 33 0 hx (.inl rfl)) ?_;rintro _ _ ⟨rfl,rfl⟩;refine aq [] (iE f p (x:=x) 48 0 hx (.inr (.inr rfl))) ?_;rintro _ _ ⟨rfl,rfl⟩;refine aq [] (iE f p (x:=x) 49 0 hx (.inr (.inr rfl))) ?_;rintro _ _ ⟨rfl,rfl⟩;refine gT [] (Γ':=[RA u2.ao ((bJ x).flatMap eg)]) (fun I w _ hh=>aS (aW.p (k:=zi u2) (a:=bJ x) inferInstance hh).2.2) (Kd u2.ao u2.n u2.c (bJ x) (cB x 15 0) (cB x 33 0) (cB x 48 0) (cB x 49 0) g1) ?_;rw[←hw];rintro _ _ (⟨he,rfl,rfl⟩|⟨he,ao,c,l,rfl,hc,hl,rfl⟩)
  ·rw[hE']at he⊢;by_cases h7:E=7
   ·refine bj [] 26 (E==7) (by rw[h7];decide) ?_;exact W.r [34,30,26] (.tuple #[.slice none 0 0,.int .i64 0]) ⟨none,0,[],by unfold t_;rw[hE,if_pos h7];rfl,ak _,by unfold ja;rw[if_neg (by rw[hE];exact fun q=>he q.1)];rfl,rfl⟩ (fun I w _ _=>Bm I w)
   ·refine aQ [] 26 (E==7) (by simpa using h7) ?_;have hres:zZ x (.tuple #[.slice none 0 0,.int .i64 E]) [OL gi none (130,[])]:=⟨none,0,[],by unfold t_;rw[hE,if_neg h7];rfl,ak _,by unfold ja;rw[if_neg (by rw[hE];exact fun q=>he q.1)];rfl,rfl⟩;refine aq [26] (iE f p (x:=x) 15 0 hx (.inr (.inr rfl))) ?_;rintro _ _ ⟨rfl,rfl⟩;refine aQ [26] 30 (cB x 15 0==0) (by simpa using h0) ?_;exact W.r [34,26,30] (.tuple #[.slice none 0 0,.int .i64 E]) hres (fun I w _ _=>Bm I w)
  ·rw[hE']at he;refine aQ [] 26 ((0:Int)==7) (by decide) ?_;refine aq [26] (iE f p (x:=x) 15 0 hx (.inr (.inr rfl))) ?_;rintro _ _ ⟨rfl,rfl⟩;have QS:t_ x=0:=by unfold t_;rw[hE,he];rfl
   refine aQ [26] 30 (cB x 15 0==0) (by simpa using h0) ?_;exact W.r [34,26,30] (.tuple #[.slice ao l.length c,.int .i64 0]) ⟨ao,c,l,by rw[QS],hc,by rw[hl];unfold ja;rw[if_pos ⟨by rw[hE,he],h0⟩],rfl⟩ (fun I w _ hh=>aS (aW.p (k:=OL gi ao) (a:=(130,l)) inferInstance hh))
theorem GN(f p:Sl){x:Im} [h:aW (mI f p) x Γ](hx:qQ x):aw tb Tryz.prog 85 [lY f p] Γ (jq (.bool (jm x))):=by
 refine aw.of_W aB Tryz.func85 rfl ?_;refine aq [] (xc f p (x:=x) hx) ?_;rintro _ _ (⟨hb,n,a,m,b,rfl,rfl⟩|⟨hb,n,a,m,b,rfl,rfl⟩)
 ·exact W.r [] (.bool false) ⟨by unfold jm;rw[hb];rfl,rfl⟩ bT
 ·exact W.r [] (.bool (jm x)) ⟨rfl,rfl⟩ bT
theorem SA(f p:Sl){x:Im} [h:aW (mI f p) x Γ](hx:qQ x)(hk:cJ x=8∨cJ x=9∨cJ x=10∨cJ x=11∨cJ x=12∨cJ x=21∨cJ x=45):aw tb Tryz.prog 46 [lY f p] Γ (jq (.bool (kN x))):=by
 obtain⟨R,hR⟩:∃R,kN x=R:=⟨_,rfl⟩;rw[hR];unfold kN at hR;have pk:=gC f p (x:=x) (Γ:=Γ) hx;refine aw.of_W aB Tryz.func46 rfl ?_;refine aq [] (oS f p (x:=x) hx) ?_;rintro _ _ ⟨u,⟨g1,g2,g3⟩,rfl,rfl⟩;obtain⟨l,hl⟩:∃l,bJ x=l:=⟨_,rfl⟩;rw[hl]at hR g1 g3⊢;refine aq [] (gC f p (x:=x) hx) ?_;rintro _ _ ⟨rfl,rfl⟩;obtain⟨k,Ls⟩:∃k,cJ x=k:=⟨_,rfl⟩;have FQ:∀(Γ2:List aD) [h2:aW (mI f p) x Γ2],aw tb Tryz.prog 81 [lY f p] Γ2 (jq (.int .u8 (cJ x))):=fun Γ2 h2=>gC f p (x:=x) hx;rw[Ls]at hR hk FQ⊢;rcases hk with rfl|rfl|rfl|rfl|rfl|rfl|rfl
 ·rw[if_pos rfl]at hR;by_cases hlen:4≤l.length
  ·refine bj [17] 22 (decide ((u.n:Int)≥4)) (au (by omega)) ?_;obtain⟨bb,off,hao⟩:=g3 (by rintro rfl;simp at hlen);obtain⟨ua,un,uc⟩:=u;simp only at g1 g2 hao hlen;subst hao;refine bW [22] 2 bb off un uc .i64 0 0 rfl aB (by omega) ?_;refine cV [22] bb (off+0*2) (eg (l.getD 0 ⟨0,0⟩)) aB (fun I w hd hh j v hv=>oC bb off un uc (uJ l 0 ⟨0,0⟩ (by omega)) I w hd hh j v hv) ?_;refine bW [22] 2 bb off un uc .i64 (l.length-1) (IntKind.i64.wrap ((un:Int)-1)) (by rw[af];omega) aB (by omega) ?_;refine cV [22] bb (off+(l.length-1)*2) (eg (l.getD (l.length-1) ⟨0,0⟩)) aB (fun I w hd hh j v hv=>oC bb off un uc (uJ l (l.length-1) ⟨0,0⟩ (by omega)) I w hd hh j v hv) ?_;refine EZ [22] 58 (l.getD 0 ⟨0,0⟩) (l.getD (l.length-1) ⟨0,0⟩) ?_;exact W.r [22] (.bool (decide (l.getD 0 ⟨0,0⟩=l.getD (l.length-1) ⟨0,0⟩))) ⟨by rw[←hR,au hlen,dA],rfl⟩ bT
  ·refine aQ [17] 22 (decide ((u.n:Int)≥4)) (aj (by omega)) ?_;exact W.r [22] (.bool false) ⟨by rw[←hR,aj hlen,fp],rfl⟩ bT
 ·refine aQ [17] 34 false rfl ?_;refine bj [34] 48 true rfl ?_;refine aq [48] (IM f p (x:=x) hx) ?_;rintro _ _ ⟨ao,c,l2,rfl,hc,hl2,rfl⟩;exact W.r [] (.bool (t_ x==0)) ⟨by rw[←hR];rfl,rfl⟩ bT
 ·rw[if_neg (by decide),if_neg (by decide),if_neg (by decide),if_pos rfl]at hR;refine aQ [17] 34 false rfl ?_;refine aQ [34] 48 false rfl ?_;refine bj [48] 57 true rfl ?_;refine aq [57] (tS f p (x:=x) hx) ?_;rintro _ _ ⟨rfl,rfl⟩;refine aq [] (xc f p (x:=x) hx) ?_;rintro _ _ (⟨hb,n,a,m,b,rfl,rfl⟩|⟨hb,n,a,m,b,rfl,rfl⟩)
  ·have ht:jm x=false:=by unfold jm;rw[hb];rfl
   rw[ht]at hR;refine aq [] (FQ _) ?_;rintro _ _ ⟨rfl,rfl⟩;refine aQ [74] 76 false rfl ?_;refine aQ [76] 80 false rfl ?_;refine aQ [80] 84 false rfl ?_;exact W.r [84] (.bool false) ⟨by rw[←hR];rfl,rfl⟩ bT
  ·refine aq [] (FQ _) ?_;rintro _ _ ⟨rfl,rfl⟩;refine W.d [74] 76 (jm x) (fun ht=>?_) (fun ht=>?_)
   ·rw[ht,dA]at hR;by_cases h1:0<(bN x).1
    ·refine bj [76] 80 (decide ((bN x).1>0)) (au h1) ?_;rw[au h1,dA]at hR;by_cases h2:0<(bN x).2
     ·refine bj [80] 84 (decide ((bN x).2>0)) (au h2) ?_;rw[au h2,dA]at hR;exact W.r [84] (.bool ((u.n:Int)==1)) ⟨by rw[←hR,g1];exact dH Value.bool (Jr l.length _),rfl⟩ bT
     ·refine aQ [80] 84 (decide ((bN x).2>0)) (aj h2) ?_;rw[aj h2,fp]at hR;exact W.r [84] (.bool false) ⟨by rw[←hR],rfl⟩ bT
    ·refine aQ [76] 80 (decide ((bN x).1>0)) (aj h1) ?_;rw[aj h1,fp,fp]at hR;refine aQ [80] 84 false rfl ?_;exact W.r [84] (.bool false) ⟨by rw[←hR],rfl⟩ bT
   ·rw[ht,fp,fp,fp]at hR;refine aQ [76] 80 false rfl ?_;refine aQ [80] 84 false rfl ?_;exact W.r [84] (.bool false) ⟨by rw[←hR],rfl⟩ bT
 ·rw[if_neg (by decide),if_neg (by decide),if_neg (by decide),if_neg (by decide),if_pos rfl]at hR;refine aQ [17] 34 false rfl ?_;refine aQ [34] 48 false rfl ?_;refine aQ [48] 57 false rfl ?_;refine aq [57] (tS f p (x:=x) hx) ?_;rintro _ _ ⟨rfl,rfl⟩;refine aq [] (xc f p (x:=x) hx) ?_;rintro _ _ (⟨hb,n,a,m,b,rfl,rfl⟩|⟨hb,n,a,m,b,rfl,rfl⟩)
  ·have ht:jm x=false:=by unfold jm;rw[hb];rfl
   rw[ht]at hR;refine aq [] (FQ _) ?_;rintro _ _ ⟨rfl,rfl⟩;refine aQ [74] 76 false rfl ?_;refine aQ [76] 80 false rfl ?_;refine aQ [80] 84 false rfl ?_;exact W.r [84] (.bool false) ⟨by rw[←hR];rfl,rfl⟩ bT
  ·refine aq [] (FQ _) ?_;rintro _ _ ⟨rfl,rfl⟩;refine W.d [74] 76 (jm x) (fun ht=>?_) (fun ht=>?_)
   ·rw[ht,dA]at hR;by_cases h1:0<(bN x).1
    ·refine bj [76] 80 (decide ((bN x).1>0)) (au h1) ?_;rw[au h1,dA]at hR;by_cases h2:0<(bN x).2
     ·refine bj [80] 84 (decide ((bN x).2>0)) (au h2) ?_;rw[au h2,dA]at hR;exact W.r [84] (.bool ((u.n:Int)==3)) ⟨by rw[←hR,g1];exact dH Value.bool (Jr l.length _),rfl⟩ bT
     ·refine aQ [80] 84 (decide ((bN x).2>0)) (aj h2) ?_;rw[aj h2,fp]at hR;exact W.r [84] (.bool false) ⟨by rw[←hR],rfl⟩ bT
    ·refine aQ [76] 80 (decide ((bN x).1>0)) (aj h1) ?_;rw[aj h1,fp,fp]at hR;refine aQ [80] 84 false rfl ?_;exact W.r [84] (.bool false) ⟨by rw[←hR],rfl⟩ bT
   ·rw[ht,fp,fp,fp]at hR;refine aQ [76] 80 false rfl ?_;refine aQ [80] 84 false rfl ?_;exact W.r [84] (.bool false) ⟨by rw[←hR],rfl⟩ bT
 ·refine aQ [17] 34 false rfl ?_;refine aQ [34] 48 false rfl ?_;refine aQ [48] 57 false rfl ?_;refine bj [57] 90 true rfl ?_;refine aq [90] (GN f p (x:=x) hx) ?_;rintro _ _ ⟨rfl,rfl⟩;exact W.r [] (.bool (jm x)) ⟨by rw[←hR];rfl,rfl⟩ bT
 ·refine aQ [17] 34 false rfl ?_;refine aQ [34] 48 false rfl ?_;refine aQ [48] 57 false rfl ?_;refine aQ [57] 90 false rfl ?_;exact W.r [90] (.bool true) ⟨by rw[←hR];rfl,rfl⟩ bT
 ·rw[if_neg (by decide),if_pos rfl]at hR;refine bj [17] 34 true rfl ?_;by_cases hlen:l.length=5
  ·refine bj [34] 39 ((u.n:Int)==5) (by rw[g1,hlen];decide) ?_;obtain⟨bb,off,hao⟩:=g3 (by rintro rfl;simp at hlen);obtain⟨ua,un,uc⟩:=u;simp only at g1 g2 hao hlen;subst hao;refine bW [39] 2 bb off un uc .i64 0 0 rfl aB (by omega) ?_;refine cV [39] bb (off+0*2) (eg (l.getD 0 ⟨0,0⟩)) aB (fun I w hd hh j v hv=>oC bb off un uc (uJ l 0 ⟨0,0⟩ (by omega)) I w hd hh j v hv) ?_;refine bW [39] 2 bb off un uc .i64 (4) 4 rfl aB (by omega) ?_;refine cV [39] bb (off+(4)*2) (eg (l.getD (4) ⟨0,0⟩)) aB (fun I w hd hh j v hv=>oC bb off un uc (uJ l (4) ⟨0,0⟩ (by omega)) I w hd hh j v hv) ?_;refine EZ [39] 58 (l.getD 0 ⟨0,0⟩) (l.getD (4) ⟨0,0⟩) ?_;exact W.r [39] (.bool (decide (l.getD 0 ⟨0,0⟩=l.getD 4 ⟨0,0⟩))) ⟨by rw[←hR,au hlen,dA],rfl⟩ bT
  ·refine aQ [34] 39 ((u.n:Int)==5) (by rw[g1];simpa using fun h=>hlen (by omega)) ?_;exact W.r [39] (.bool false) ⟨by rw[←hR,aj hlen,fp],rfl⟩ bT
end
abbrev FO(fb:Nat)(cs:Sl)(bn cn dn:Nat)(most:Int)(sh:Value):List (Nat×List Value):=[(fb,[aZ cs,.map (some bn),.map (some cn),.map (some dn),.int .i64 most,sh])]
def KG:Tb:={ZY [44,45,47,48,87,89,90,28] False undef with cloc:=true}
theorem bH:KG.Ok Tryz.prog:=⟨aB.mixed,aB.ty⟩
theorem aw.mF{f:FuncId}{args:List Value}{Γ:List aD}{post:Value→List aD→Prop}(h:aw tb Tryz.prog f args Γ post):aw KG Tryz.prog f args Γ post:=h
def mJ(nm:List (ByteArray×Int))(x:Im):Option Int:=(jj x).map fun s=>(gw (strOfNums s) nm).getD (-1)
def iR(nm:List (ByteArray×Int))(c:Ce):List Int:=c.i.filterMap (mJ nm)
def Ux(c:Ce):Prop:=∀x∈c.i,qQ x
def cg{α:Type}(l:List (α×Int)):List (α×Value):=l.map fun e=>(e.1,.int .i64 e.2)
theorem mT{α:Type} [DecidableEq α](k:α):∀l:List (α×Int),gw k (cg l)=(gw k l).map (Value.int .i64)
 | []=>rfl
 |(j,v)::l=>by
  show gw k ((j,Value.int .i64 v)::cg l)=_;by_cases h:k=j
  ·simp[gw,h]
  ·simp only[gw,h,d_];exact mT k l
structure aaD where
 i:Nat
 z:Int
 v:Value
 O:List (Nat×List Value)
section
variable{Γ:List aD}
theorem IK(fb bn cn dn:Nat)(cs:Sl)(most:Int)(sh:Value)(c:Int){i:Nat}(hc:c=i){t:List Ce} [h:aW (lH cs) t Γ]{x:Ce}(hx:t[i]? =some x)(hok:Ux x)(Ou:x.i.length≤100000)(nm:List (ByteArray×Int)):
  dB KG Tryz.prog 44 [fo fb,.int .i64 c] (FO fb cs bn cn dn most sh) [(bn,bM dU (cg nm))] Γ (fun v O M Δ=>∃u:Sl,u.n=(iR nm x).length∧v=aZ u∧O=FO fb cs bn cn dn most sh∧M=[(bn,bM dU (cg nm))]∧Δ=[NL u (iR nm x)]):=by
 refine dB.of_W bH Tryz.func44 rfl ?_;obtain⟨ca,cm,cc⟩:=cs;refine W.len g8 lj.x ⟨ca,cm,cc⟩ rfl (fun h1 h2 h3=>?_);simp only at h1 h2 h3;have hil:i<cm:=by rw[h1];exact(List.getElem?_eq_some_iff.1 hx).1
 refine sI ⟨ca,cm,cc⟩ hx (fun b off fh fi ha=>?_);simp only at ha;subst ha;refine W.more (Δ:=[pS fi x.i]) rfl (fun I w _ hh=>aS (aW.p (k:=yz fh fi) (a:=x) inferInstance hh).2) ?_;obtain⟨ia,im,ic⟩:=fi;refine W.len lZ mN.x ⟨ia,im,ic⟩ rfl (fun i1 i2 i3=>?_);simp only at i1 i2 i3;refine bZ [] 0 fb 0 bH ?_;refine dR [] (FO fb ⟨some ⟨b,off,none⟩,cm,cc⟩ bn cn dn most sh) fb (0+0) 1 [.slice (some ⟨b,off,none⟩) cm cc,.map (some bn),.map (some cn),.map (some dn),.int .i64 most,sh] (.slice (some ⟨b,off,none⟩) cm cc) bH (.head _) rfl ?_;refine bW [] 2 b off cm cc .i64 i c hc bH hil ?_;refine bZ [] 1 b (off+i*2) bH ?_;refine dJ [] 1 b (off+i*2+1) (.slice ia im ic) bH (fun I w hd hh=>cA (T:=KG) b (off+i*2) I w hd hh 1 _ rfl) ?_;refine gV [] [5,21] (fun a:aaD=>[(5,a.v),(21,.int .i64 a.z)]) (fun _=>[]) (fun a=>FO fb ⟨some ⟨b,off,none⟩,cm,cc⟩ bn cn dn most sh++a.O) (fun a=>[pS ⟨ia,im,ic⟩ x.i]) (fun a=>a.z=a.i∧a.i≤im∧cF 1 a.O a.v ((x.i.take a.i).filterMap (mJ nm)).length (((x.i.take a.i).filterMap (mJ nm)).map (Value.int .i64))) (fun a=>im-a.i) ⟨0,0,.slice none 0 0,[]⟩ ⟨rfl,aJ _,cF.nil 1⟩ (eC eK eE) ?_;rintro⟨j,z,v,O⟩ K ⟨hz,hj,hg⟩ close;simp only at hz hj hg;by_cases hlt:j<im
 ·obtain⟨y,hy⟩:∃y,x.i[j]? =some y:=⟨_,ai (by omega)⟩;have lV:=hok y (aK hy);have hlen:((x.i.take j).filterMap (mJ nm)).length≤100000:=by
   have h1:=List.length_filterMap_le (mJ nm) (x.i.take j);have h2:=List.length_take_le j x.i;omega
  refine wm ⟨ia,im,ic⟩ hy (fun b2 pD yf yp ha=>?_);simp only at ha;subst ha;refine bj [] 22 (decide (z<(im:Int))) (au (by omega)) ?_;refine bW [22] 2 b2 pD im ic .i64 j z hz bH hlt ?_;refine cV [] b2 (pD+j*2) [aZ yf,aZ yp] bH (cA b2 (pD+j*2)) ?_;refine aq [] (w_ yf yp (x:=y) lV).mF ?_;rintro _ _ ⟨rfl,rfl⟩;cases hn:jj y with
  |none=>
   refine aQ [] 30 (none:Option (List Int)).isSome rfl ?_;refine close [30] _ _ ⟨j+1,IntKind.i64.wrap (z+1),v,O⟩ (by kernel_rfl) (by kernel_rfl) ⟨by simp only[af];omega,hlt,?_⟩ (by simp only;omega) (eC eK eE);rw[fw hy,List.filterMap_append];simpa [mJ,hn]using hg
  |some nn=>
   have abK:mJ nm y=some ((gw (strOfNums nn) nm).getD (-1)):=by unfold mJ;rw[hn];rfl
   have next:∀v' O',cF 1 O' v' (((x.i.take j).filterMap (mJ nm)).length+1) (((x.i.take j).filterMap (mJ nm)).map (Value.int .i64)++[.int .i64 ((gw (strOfNums nn) nm).getD (-1))])→cF 1 O' v' ((x.i.take (j+1)).filterMap (mJ nm)).length (((x.i.take (j+1)).filterMap (mJ nm)).map (Value.int .i64)):=fun v' O' hg'=>by
    rw[fw hy,List.filterMap_append];simpa [abK]using hg'
   refine bj [] 30 (some nn:Option (List Int)).isSome rfl ?_;refine bZ [30] 1 fb 0 bH ?_;refine dR [] (FO fb ⟨some ⟨b,off,none⟩,cm,cc⟩ bn cn dn most sh++O) fb (0+1) 1 [.slice (some ⟨b,off,none⟩) cm cc,.map (some bn),.map (some cn),.map (some dn),.int .i64 most,sh] (.map (some bn)) bH (.head _) rfl ?_;refine vm [] dU 69 9 3 true (FO fb ⟨some ⟨b,off,none⟩,cm,cc⟩ bn cn dn most sh++O) [(bn,bM dU (cg nm))] bn (strOfNums nn) (cg nm) (.int .i64 0) bH (.head _) ?_;rw[mT];cases hk:gw (strOfNums nn) nm with
   |none=>
    rw[hk]at next
    refine bj [] 41 true rfl ?_;refine cH [41] 1 [.int .i64 (-1)] bH (fun b8=>?_);refine W.app [] (FO fb ⟨some ⟨b,off,none⟩,cm,cc⟩ bn cn dn most sh++O) (FO fb ⟨some ⟨b,off,none⟩,cm,cc⟩ bn cn dn most sh) O [] 1 8 ((x.i.take j).filterMap (mJ nm)).length 1 v (.slice (some ⟨b8,0,none⟩) 1 1) (((x.i.take j).filterMap (mJ nm)).map (Value.int .i64)) [.int .i64 (-1)] bH (by simp) hg (bX b8 _ 1 1 rfl 1) (by simp[Value.oneCell']) (by omega) (by decide) (fun v' O' hg'=>?_);exact close [] _ _ ⟨j+1,IntKind.i64.wrap (z+1),v',O'⟩ (by kernel_rfl) (by simp only[ah];kernel_rfl) ⟨by simp only[af];omega,hlt,next v' O' hg'⟩ (by simp only;omega) (eC eK eE)
   |some q=>
    rw[hk]at next
    refine aQ [] 41 false rfl ?_;refine cH [41] 1 [.int .i64 q] bH (fun b8=>?_);refine W.app [] (FO fb ⟨some ⟨b,off,none⟩,cm,cc⟩ bn cn dn most sh++O) (FO fb ⟨some ⟨b,off,none⟩,cm,cc⟩ bn cn dn most sh) O [] 1 8 ((x.i.take j).filterMap (mJ nm)).length 1 v (.slice (some ⟨b8,0,none⟩) 1 1) (((x.i.take j).filterMap (mJ nm)).map (Value.int .i64)) [.int .i64 q] bH (by simp) hg (bX b8 _ 1 1 rfl 1) (by simp[Value.oneCell']) (by omega) (by decide) (fun v' O' hg'=>?_);exact close [] _ _ ⟨j+1,IntKind.i64.wrap (z+1),v',O'⟩ (by kernel_rfl) (by simp only[ah];kernel_rfl) ⟨by simp only[af];omega,hlt,next v' O' hg'⟩ (by simp only;omega) (eC eK eE)
 ·have hx2:x.i.take j=x.i:=aU (by omega);rw[hx2]at hg;refine aQ [] 22 (decide (z<(im:Int))) (aj (by omega)) ?_;obtain⟨u,rfl⟩:=h_ hg;refine k8 (FO fb ⟨some ⟨b,off,none⟩,cm,cc⟩ bn cn dn most sh) O [] (by rw[ah O];kernel_rfl) hg (fun g5 g1 g2=>?_);exact j1 [22] (aZ u) (FO fb ⟨some ⟨b,off,none⟩,cm,cc⟩ bn cn dn most sh) [(bn,bM dU (cg nm))] ⟨u,g5,rfl,rfl,rfl,rfl⟩ (eC (fun I w hd hh=>⟨g5,⟨g1,g2⟩,eK (k:=RA u.ao) I w hd hh⟩) eE)
end
def jG(c:Ce):ByteArray:=strOfNums (oy c)
def j4(s:ByteArray):List Ce→Nat→Option Nat
 | [],_=>none
 |c::r,i=>if s=jG c then some i else j4 s r (i+1)
def kJ(t:List Ce)(s:ByteArray):Option Nat:=j4 s t 0
theorem F0{s:ByteArray}:∀{t:List Ce} {i k:Nat},j4 s t i=some k→i≤k∧k<i+t.length
 | [],i,k,h=>by simp[j4]at h
 |c::r,i,k,h=>by
  unfold j4 at h;split at h
  ·injection h with h;subst h;simp
  ·have:=F0 h;simp only[aC];omega
theorem Ox{s:ByteArray}{t:List Ce}{k:Nat}(h:kJ t s=some k):k<t.length:=by
 have:=F0 h;omega
def xY:List Ce→Nat→List (ByteArray×Int)→List (ByteArray×Int)
 | [],_,nm=>nm
 |c::r,i,nm=>xY r (i+1) (if(gw (jG c) nm).isSome then nm else lk (jG c) (i:Int) nm)
def cw(t:List Ce):List (ByteArray×Int):=xY t 0 []
theorem Cj(s:ByteArray):∀(t:List Ce) (i:Nat) (nm:List (ByteArray×Int)),gw s (xY t i nm)=match gw s nm with
  |some v=>some v
  |none=>(j4 s t i).map fun k:Nat=>(k:Int)
 | [],i,nm=>by cases h:gw s nm<;>simp[xY,j4,h]
 |c::r,i,nm=>by
  unfold xY j4;rw[Cj s r (i+1)];by_cases hs:s=jG c
  ·subst hs;cases h:gw (jG c) nm with
   |some v=>simp[h]
   |none=>simp[iq]
  ·cases h:gw (jG c) nm with
   |some v=>simp[hs]
   |none=>simp[iq,hs]
theorem vL(s:ByteArray)(t:List Ce):gw s (cw t)=(kJ t s).map fun k:Nat=>(k:Int):=by
 unfold cw;rw[Cj];rfl
def om(t:List Ce)(x:Im):Option Nat:=(jj x).bind fun s=>kJ t (strOfNums s)
def lG(t:List Ce)(c:Nat):List Im:=(t.getD c ⟨[],[]⟩).i
def fy(t:List Ce)(c:Nat):List Nat:=(lG t c).filterMap (om t)
def qp(t:List Ce)(c:Ce):Bool:=c.i.any fun x=>(jj x).isSome&&(om t x).isNone
def lost(t:List Ce):Bool:=t.any (qp t)
theorem tM(t:List Ce)(x:Im):mJ (cw t) x=(jj x).map fun s=>match kJ t (strOfNums s)with
  |some k=>(k:Int)
  |none=> -1:=by
 unfold mJ;cases jj x with
 |none=>rfl
 |some s=>
  simp only[c_,vL];cases kJ t (strOfNums s)<;>rfl
theorem Is{t:List Ce}{c:Ce}(h:qp t c=false):iR (cw t) c=(c.i.filterMap (om t)).map fun k:Nat=>(k:Int):=by
 unfold iR;unfold qp at h;rw[jd]at h;revert h;generalize c.i=l;intro h
 induction l with
 |nil=>rfl
 |cons x l ih=>
  have hx:=h x (by simp);have hl:=ih (fun y hy=>h y (by simp[hy]));cases hn:jj x with
  |none=>
   rw[List.filterMap_cons_none (by rw[tM,hn];rfl),List.filterMap_cons_none (by unfold om;rw[hn];rfl)];exact hl
  |some s=>
   cases hi:kJ t (strOfNums s)with
   |none=>unfold om at hx;simp[hn,hi]at hx
   |some k=>
    rw[List.filterMap_cons_some (b:=(k:Int)) (by rw[tM,hn];simp[hi]),List.filterMap_cons_some (b:=k) (by unfold om;rw[hn];simp[hi]),bY,hl]
theorem uL{t:List Ce}{c:Ce}:(∃k∈iR (cw t) c,k<0)↔qp t c=true:=by
 unfold iR qp;simp only[List.mem_filterMap,List.any_eq_true,tM];constructor
 ·rintro⟨k,⟨x,hx,hk⟩,h0⟩;refine⟨x,hx,?_⟩;unfold om;cases hn:jj x with
  |none=>rw[hn]at hk;simp at hk
  |some s=>
   rw[hn]at hk;simp only[c_,ar,k7,oZ,dA]at hk⊢;cases hi:kJ t (strOfNums s)with
   |none=>rfl
   |some j=>
    rw[hi]at hk;simp only at hk;omega
 ·rintro⟨x,hx,h⟩;cases hn:jj x with
  |none=>rw[hn]at h;simp at h
  |some s=>
   unfold om at h;rw[hn]at h;simp only[k7,oZ,dA]at h;have hi:kJ t (strOfNums s)=none:=by simpa using h
   exact⟨-1,⟨x,hx,by rw[hn];simp[hi]⟩,by decide⟩
def yF(t:List Ce):List Ce→Nat→Bool
 | [],_=>false
 |c::r,i=> !(kJ t (jG c)==some i)||yF t r (i+1)
def abg(t:List Ce):Bool:=yF t t 0
theorem AJ{s:ByteArray}:∀{t:List Ce} {i:Nat},(∃c∈t,jG c=s)→∃k,j4 s t i=some k
 | [],i,h=>by obtain⟨c,hc,_⟩:=h;simp at hc
 |c::r,i,h=>by
  unfold j4;split
  ·exact⟨_,rfl⟩
  ·rename_i hne;obtain⟨d,hd,he⟩:=h;simp only[aF]at hd;rcases hd with rfl|hd
   ·exact absurd he.symm hne
   ·exact AJ ⟨d,hd,he⟩
def jE(g:Nat→Option Nat):List Nat→Nat→Option Nat
 | [],m=>some m
 |k::r,m=>match g k with
  |some d=>jE g r (max m d)
  |none=>none
def dep(t:List Ce):Nat→Nat→Option Nat
 |0,_=>none
 |n+1,c=>(jE (dep t n) (fy t c) 0).map (· +1)
theorem mg{g:Nat→Option Nat}:∀{l:List Nat} {m r:Nat},jE g l m=some r→m≤r∧∀k∈l,∃d,g k=some d∧d≤r
 | [],m,r,h=>by
  simp only[jE,ar]at h;subst h;exact⟨ak _,fun k hk=>by simp at hk⟩
 |k::l,m,r,h=>by
  unfold jE at h;cases hg:g k with
  |none=>rw[hg]at h;simp at h
  |some d=>
   rw[hg]at h;obtain⟨h1,h2⟩:=mg h;refine⟨by omega,fun j hj=>?_⟩;simp only[aF]at hj;rcases hj with rfl|hj
   ·exact⟨d,hg,by omega⟩
   ·exact h2 j hj
theorem o8{g g':Nat→Option Nat}:∀{l:List Nat} {m:Nat},(∀k∈l,g k=g' k)→jE g l m=jE g' l m
 | [],m,_=>rfl
 |k::l,m,h=>by
  unfold jE;rw[h k (by simp)];cases g' k with
  |none=>rfl
  |some d=>exact o8 fun j hj=>h j (by simp[hj])
theorem FC{t:List Ce}:∀{n c d:Nat},dep t n c=some d→dep t (n+1) c=some d
 |0,c,d,h=>by simp[dep]at h
 |n+1,c,d,h=>by
  unfold dep at h⊢;rw[←h];have hs:∃r,jE (dep t n) (fy t c) 0=some r:=by
   cases hq:jE (dep t n) (fy t c) 0 with
   |none=>rw[hq]at h;simp at h
   |some r=>exact⟨r,rfl⟩
  obtain⟨r,hr⟩:=hs;congr 1;refine o8 fun k hk=>?_;obtain⟨d',h1,h2⟩:=(mg hr).2 k hk;rw[h1];exact FC h1
theorem nL{t:List Ce}{n c d:Nat}(h:dep t n c=some d):∀{m:Nat},n≤m→dep t m c=some d
 |m,hm=>by
  induction m with
  |zero=>
   obtain rfl:n=0:=by omega
   exact h
  |succ m ih=>
   by_cases hnm:n≤m
   ·exact FC (ih hnm)
   ·obtain rfl:n=m+1:=by omega
    exact h
theorem Nq{t:List Ce}{n m c d e:Nat}(h:dep t n c=some d)(g:dep t m c=some e):d=e:=by
 have h1:=nL h (m:=max n m) (by omega);have h2:=nL g (m:=max n m) (by omega);rw[h1]at h2;exact Option.some.inj h2
theorem DP{t:List Ce}{n c d:Nat}(h:dep t n c=some d):0<d:=by
 cases n with
 |zero=>simp[dep]at h
 |succ n=>
  unfold dep at h;cases hq:jE (dep t n) (fy t c) 0 with
  |none=>rw[hq]at h;simp at h
  |some r=>
   rw[hq]at h;simp only[c_,ar]at h;omega
theorem Np{t:List Ce}:∀{n c d:Nat},dep t n c=some d→d≤n
 |0,c,d,h=>by simp[dep]at h
 |n+1,c,d,h=>by
  unfold dep at h;cases hq:jE (dep t n) (fy t c) 0 with
  |none=>rw[hq]at h;simp at h
  |some r=>
   rw[hq]at h;simp only[c_,ar]at h;have key:∀(l:List Nat) (m:Nat),jE (dep t n) l m=some r→r≤max m n:=by
    intro l
    induction l with
    |nil=>intro m hm;simp only[jE,ar]at hm;omega
    |cons k l ih=>
     intro m hm;unfold jE at hm;cases hg:dep t n k with
     |none=>rw[hg]at hm;simp at hm
     |some e=>
      rw[hg]at hm;have:=ih _ hm;have:=Np hg;omega
   have:=key _ _ hq;omega
def sY(t:List Ce)(c d:Nat):Prop:=∃n,dep t n c=some d
theorem sY.kid{t:List Ce}{c d k:Nat}(h:sY t c d)(hk:k∈fy t c):∃e,sY t k e∧e<d:=by
 obtain⟨n,h⟩:=h;cases n with
 |zero=>simp[dep]at h
 |succ n=>
  unfold dep at h;cases hq:jE (dep t n) (fy t c) 0 with
  |none=>rw[hq]at h;simp at h
  |some r=>
   rw[hq]at h;simp only[c_,ar]at h;obtain⟨e,h1,h2⟩:=(mg hq).2 k hk;exact⟨e,⟨n,h1⟩,by omega⟩
theorem sY.uniq{t:List Ce}{c d e:Nat}(h:sY t c d)(g:sY t c e):d=e:=by
 obtain⟨n,h⟩:=h;obtain⟨m,g⟩:=g;exact Nq h g
theorem sY.of{t:List Ce}{c:Nat}{g:Nat→Option Nat}{r:Nat}(h:jE g (fy t c) 0=some r)(hg:∀k d,g k=some d→sY t k d):sY t c (r+1):=by
 have key:∀(l:List Nat) (m:Nat),jE g l m=some r→∃n,jE (dep t n) l m=some r:=by
  intro l
  induction l with
  |nil=>intro m hm;exact⟨0,hm⟩
  |cons k l ih=>
   intro m hm;unfold jE at hm;cases hk:g k with
   |none=>rw[hk]at hm;simp at hm
   |some d=>
    rw[hk]at hm;obtain⟨n1,h1⟩:=ih _ hm;obtain⟨n2,h2⟩:=hg k d hk;refine⟨max n1 n2,?_⟩;unfold jE;rw[nL h2 (by omega)];simp only;rw[←h1];refine o8 fun j hj=>?_;obtain⟨e,h3,_⟩:=(mg h1).2 j hj;rw[h3];exact nL h3 (by omega)
 obtain⟨n,hn⟩:=key _ _ h;exact⟨n+1,by unfold dep;rw[hn];rfl⟩
theorem FA{g:Nat→Option Nat}:∀{l:List Nat} {a m:Nat},jE g l a=some m→m=a∨∃k∈l,g k=some m
 | [],a,m,h=>by
  simp only[jE,ar]at h;exact .inl h.symm
 |k::l,a,m,h=>by
  unfold jE at h;cases hg:g k with
  |none=>rw[hg]at h;simp at h
  |some d=>
   rw[hg]at h;rcases FA h with h|⟨j,hj,hm⟩
   ·by_cases hd:d≤a
    ·exact .inl (by omega)
    ·exact .inr ⟨k,by simp,by rw[hg,h];congr 1;omega⟩
   ·exact .inr ⟨j,by simp[hj],hm⟩
theorem sY.some_kid{t:List Ce}{c d:Nat}(h:sY t c d):(d=1)∨(fy t c≠ []∧∃k∈fy t c,∃e,sY t k e∧d=e+1):=by
 obtain⟨n,h⟩:=h;cases n with
 |zero=>simp[dep]at h
 |succ n=>
  unfold dep at h;cases hq:jE (dep t n) (fy t c) 0 with
  |none=>rw[hq]at h;simp at h
  |some r=>
   rw[hq]at h;simp only[c_,ar]at h;rcases FA hq with h0|⟨k,hk,hm⟩
   ·exact .inl (by omega)
   ·exact .inr ⟨fun e=>by rw[e]at hk;simp at hk,k,hk,r,⟨n,hm⟩,h.symm⟩
theorem ss{f g:Nat→Nat}{c a:Nat}:∀{l:List Nat},c∈l→(∀j∈l,f j≤g j)→f c+a≤g c→(l.map f).sum+a≤(l.map g).sum
 | [],h,_,_=>by simp at h
 |j::l,h,h1,h2=>by
  have hle:∀l':List Nat,(∀j∈l',f j≤g j)→(l'.map f).sum≤(l'.map g).sum:=by
   intro l'
   induction l' with
   |nil=>intro _;exact ak _
   |cons x l' ih=>
    intro hx;have:=hx x (by simp);have:=ih fun y hy=>hx y (by simp[hy]);simp only[bY,ec];omega
  simp only[bY,ec];simp only[aF]at h;rcases h with rfl|h
  ·have:=hle l fun y hy=>h1 y (by simp[hy]);omega
  ·have:=ss h (fun y hy=>h1 y (by simp[hy])) h2;have:=h1 j (by simp);omega
open Classical in
theorem RC{t:List Ce}{w:Nat→Nat}{A B:Nat}(hA:∀j,j<t.length→fy t j≠ []→A≤w j)(hB:∀j,j<t.length→B≤w j)(hk:∀c k,k∈fy t c→k<t.length):
  ∀(d c:Nat),c<t.length→sY t c d→A*(d-1)+B≤((List.range t.length).map fun j=>if ∃e,e≤d∧sY t j e then w j else 0).sum:=by
 intro d
 induction d with
 |zero=>
  intro c _ ⟨n,hd⟩;have:=DP hd;omega
 |succ d ih=>
  intro c hc hd;rcases hd.some_kid with h1|⟨hne,k,hkm,e,hke,Ih⟩
  ·have:=ss (f:=fun _=>0) (g:=fun j=>if ∃e,e≤d+1∧sY t j e then w j else 0) (c:=c) (a:=B) (l:=List.range t.length) (by simpa using hc) (fun j _=>aJ _) (by
    simp only[bQ];rw[if_pos ⟨d+1,ak _,hd⟩];exact hB c hc)
   obtain rfl:d=0:=by omega
   simp at this⊢;omega
  ·obtain rfl:e=d:=by omega
   have h2:=ih k (hk c k hkm) hke;have h3:=ss (f:=fun j=>if ∃e',e'≤e∧sY t j e' then w j else 0) (g:=fun j=>if ∃e',e'≤e+1∧sY t j e' then w j else 0) (c:=c) (a:=A) (l:=List.range t.length) (by simpa using hc) (fun j _=>by
    by_cases hj:∃e',e'≤e∧sY t j e'
    ·obtain⟨e',h4,h5⟩:=hj;rw[if_pos ⟨e',h4,h5⟩,if_pos ⟨e',by omega,h5⟩];exact ak _
    ·rw[if_neg hj];exact aJ _) (by
    have hno:¬ ∃e',e'≤e∧sY t c e':=fun⟨e',h4,h5⟩=>by
     have:=hd.uniq h5;omega
    rw[if_neg hno,if_pos ⟨e+1,ak _,hd⟩,bQ];exact hA c hc hne)
   obtain⟨n,hn⟩:=hke;have hp:=DP hn;have e1:A*(e+1-1)=A*(e-1)+A:=by
    obtain⟨q,rfl⟩:∃q,e=q+1:=⟨e-1,by omega⟩;simp[fA]
   omega
theorem wU{t:List Ce}{c k:Nat}(h:k∈fy t c):k<t.length:=by
 unfold fy at h;obtain⟨x,_,hx⟩:=List.mem_filterMap.1 h;unfold om at hx;cases hn:jj x with
 |none=>rw[hn]at hx;simp at hx
 |some s=>
  rw[hn]at hx;exact Ox hx
open Classical in
theorem La{t:List Ce}{c d:Nat}(hc:c<t.length)(h:sY t c d):d≤t.length:=by
 have h1:=RC (t:=t) (w:=fun _=>1) (A:=1) (B:=1) (fun _ _ _=>ak _) (fun _ _=>ak _) (fun c k hk=>wU hk) d c hc h;have h2:∀l:List Nat,(l.map fun j=>if ∃e,e≤d∧sY t j e then 1 else 0).sum≤l.length:=by
  intro l
  induction l with
  |nil=>exact ak _
  |cons x l ih=>
   simp only[bY,ec,aC];split<;>omega
 have:=h2 (List.range t.length);rw[kD]at this;omega
inductive MU(t:List Ce):Nat→Nat→Prop
 |one {a b:Nat}:b∈fy t a→MU t a b
 |more {a b c:Nat}:b∈fy t a→MU t b c→MU t a c
theorem MU.trans{t:List Ce}{a b c:Nat}(h:MU t a b)(g:MU t b c):MU t a c:=by
 induction h with
 |one h=>exact .more h g
 |more h _ ih=>exact .more h (ih g)
theorem MU.dep{t:List Ce}{a b d:Nat}(h:MU t a b)(hd:sY t a d):∃e,sY t b e∧e<d:=by
 induction h generalizing d with
 |one h=>exact hd.kid h
 |more h _ ih=>
  obtain⟨e,h1,h2⟩:=hd.kid h;obtain⟨e',h3,h4⟩:=ih h1;exact⟨e',h3,by omega⟩
theorem JT{t:List Ce}{a d:Nat}(h:MU t a a):¬sY t a d:=fun hd=>by
 obtain⟨e,h1,h2⟩:=h.dep hd;have:=hd.uniq h1;omega
def Ys(t:List Ce):Prop:=∃c,c<t.length∧∀d,¬sY t c d
def TB(t:List Ce):Prop:=∃c,c<t.length∧dep t 64 c=none
def ka(t:List Ce)(g:Nat→Int)(x:Im):Int:=
 if cJ x=8∨cJ x=45 then 1 else if cJ x=9 then(if ja x=[]then 0 else 1)
 else if cJ x=10∨cJ x=11 then(match om t x with
  |some k=>g k*(bN x).1*(bN x).2
  |none=>0)else 0
def k9(t:List Ce):Nat→Nat→Int
 |0,_=>0
 |n+1,c=>((lG t c).map (ka t (k9 t n))).sum
structure Sh where
 a:Int
 k:Int
 p:List Dp
abbrev LR:=Except Int (List Sh)
def nX{α:Type}(f:α→LR):List α→LR
 | []=>.ok []
 |a::l=>match f a with
  | .error e=>.error e
  | .ok s=>match nX f l with
   | .error e=>.error e
   | .ok s'=>.ok (s++s')
def jn:List (Sn×Sn)→Except Int (List Dp)
 | []=>.ok []
 |p::r=>if AK p.1.nr∧AK p.2.nr then(match jn r with
   | .ok l=>.ok (⟨p.1.nr,p.2.nr⟩::l)
   | .error e=>.error e)else .error 26
def iT(x:Im)(l:List (Sn×Sn)):LR:=match jn l with
 | .ok p=>.ok [⟨cB x 13 0,if cJ x=45 then cB x 46 0 else cB x 14 0,p⟩]
 | .error e=>.error e
def farP(V:On)(p:Sn×Sn):Option (Sn×Sn):=
 if p.1.m≤2∧p.1.n≤2 then
  some (r2 (V.u0 p.1.n0 p.1.n1 p.2.n0 p.2.n1) (V.u1 p.1.n0 p.1.n1 p.2.n0 p.2.n1),r2 (V.v0 p.1.n0 p.1.n1 p.2.n0 p.2.n1) (V.v1 p.1.n0 p.1.n1 p.2.n0 p.2.n1))
 else if V.o % 2≠0∨V.b≠0∨V.d≠0 then none
 else some (V.farX p.1 p.2,V.farY p.1 p.2)
def vf(V:On):List (Sn×Sn)→List (Sn×Sn)×Bool
 | []=>([],true)
 |p::r=>match farP V p with
  |some q=>(q::(vf V r).1,(vf V r).2)
  |none=>([],false)
def FJ(a b:Int):Rat:=Rat.divInt a b
def pY(of:Dp→Int)(p:List Dp)(eW rows i k:Int):Rat:=
 if p.length=3 then((of (p.getD 0 ⟨0,0⟩):Rat)+FJ ((of (p.getD 1 ⟨0,0⟩)-of (p.getD 0 ⟨0,0⟩))*i) eW)+FJ ((of (p.getD 2 ⟨0,0⟩)-of (p.getD 0 ⟨0,0⟩))*k) rows
 else(of (p.getD 0 ⟨0,0⟩):Rat)
def x7(x:Im)(i k:Int):On:=⟨rO x,gJ x,kA x,pY Dp.x (bJ x) (bN x).1 (bN x).2 i k,0,pY Dp.y (bJ x) (bN x).1 (bN x).2 i k,0⟩
def pO(t:List Ce)(n:Nat)(g:Nat→On→LR)(x:Im)(V:On):LR:=
 match om t x with
  |none=>.ok []
  |some c=>if k9 t n c=0 then .ok []
   else nX (fun k:Nat=>nX (fun i:Nat=>g c ((x7 x i k).then V)) (List.range (bN x).1.toNat)) (List.range (bN x).2.toNat)
def BP(V:On)(p:Dp):Sn×Sn:=(V.X p.x p.y,V.Y p.x p.y)
def j5(t:List Ce)(n:Nat)(g:Nat→On→LR)(V:On)(x:Im):LR:=
 if cJ x=8∨cJ x=45 then iT x ((bJ x).dropLast.map (BP V))
 else if cJ x=9 then
  (if(vf V (ja x)).2=true then(if ja x=[]then .ok []else iT x (vf V (ja x)).1)
   else match jn (vf V (ja x)).1 with
   | .ok _=>.error 25
   | .error e=>.error e)
 else if cJ x=10∨cJ x=11 then pO t n g x V
 else .ok []
def gH(t:List Ce):Nat→Nat→On→LR
 |0,_,_=>.ok []
 |n+1,c,V=>nX (j5 t n (gH t n) V) (lG t c)
def rV(t:List Ce)(c:Nat):Bool:=(List.range t.length).any fun a=>(fy t a).contains c
def JB(t:List Ce):Bool:=abg t||t.any fun c=>c.i.any fun x=> !kN x
def qF(t:List Ce)(c:Nat):Int:=if rV t c=true then 0 else k9 t 64 c
def Dn(t:List Ce):Int:=((List.range t.length).map (qF t)).sum
def Ix(t:List Ce)(c:Nat):LR:=if rV t c=true then .ok []else gH t 64 c Wr
def VT(t:List Ce):LR:=nX (Ix t) (List.range t.length)
open Classical in
noncomputable def vt (t:List Ce) (n:Int):LR:=
 if lost t=true then .error 23 else if Ys t then .error 24 else if JB t=true∨TB t then .error 25 else if Dn t>n then .error 27 else VT t
open Classical in
noncomputable def qX (t:Li) (n:Int):LR:=
 if n<0∨n>100000 then .error 1 else if jo t=false then .error 20 else vt t.c n
theorem lL{p q:n_ (List Re)}{l x m:List Re}(h:fF p q l=some (x,m)):∃a b m1,p l=some (a,m1)∧q m1=some (b,m)∧x=a++b:=by
 unfold fF at h;split at h
 ·rename_i a m1 h1;split at h
  ·rename_i b m2 h2;simp only[ar,aH]at h;obtain⟨rfl,rfl⟩:=h;exact⟨a,b,m1,h1,h2,rfl⟩
  ·simp at h
 ·simp at h
theorem nf{k:Int}{ks:List Int}{l x m:List Re}(hk:0≤k∧k<256)(h:dj (k::ks) l=some (x,m)):∃r x',x=r::x'∧r.k=k∧fk r=true:=by
 unfold dj at h;rw[if_pos (.inl hk.2)]at h;split at h
 ·rename_i r m1 h1;split at h
  ·rename_i rs m2 h2;simp only[ar,aH]at h;obtain⟨rfl,rfl⟩:=h;obtain⟨_,h3,h4⟩:=fE h1;exact⟨r,rs,rfl,by omega,h4⟩
  ·simp at h
 ·simp at h
theorem jw.fields{x:Im}(h:jw x):∃r f m,x.f=r::f∧pr r.k=true∧fF (dj [r.k,294,303]) (gD r.k) (fH x)=some (x.f,m):=by
 obtain⟨h1,h2⟩:=h;cases hl:fH x with
 |nil=>rw[hl]at h1;simp[ea]at h1
 |cons r l=>
  rw[hl]at h1 h2;simp only[ea]at h1;unfold fT at h2;split at h2
  ·rename_i f m1 hf;obtain⟨⟨f',rfl⟩,g1⟩:=xk h1 hf;split at h2
   ·rename_i p m2 hp;split at h2
    ·rename_i r' m3 hm;simp only[ar,aH]at h2;obtain⟨rfl,rfl⟩:=h2;exact⟨r,f',m1,rfl,h1,hf⟩
    ·simp at h2
   ·simp at h2
  ·simp at h2
theorem jw.im{x:Im}(h:jw x):qQ x:=by
 obtain⟨r,f,m,hf,_,hp⟩:=h.fields;exact⟨by rw[hf];simp,(fU (cR _) (pJ _)).2 _ _ _ hp⟩
theorem jw.kind{x:Im}(h:jw x):cJ x=8∨cJ x=9∨cJ x=10∨cJ x=11∨cJ x=12∨cJ x=21∨cJ x=45:=by
 obtain⟨r,f,m,hf,hk,_⟩:=h.fields;unfold cJ;rw[hf];simp only[pr,eu,jM]at hk;simp only[List.headD_cons];omega
theorem NM{l:List Re}{k:Int}(h:∃r∈l,r.k=k):∃r,l.find? (fun r=>r.k==k)=some r:=by
 obtain⟨r,hr,hk⟩:=h;cases hf:l.find? (fun r=>r.k==k)with
 |some q=>exact⟨q,rfl⟩
 |none=>
  have:=List.find?_eq_none.1 hf r hr;simp[hk]at this
theorem jw.ref{x:Im}(h:jw x)(hk:cJ x=10∨cJ x=11):∃s,jj x=some s:=by
 obtain⟨r,f,m,hf,_,hp⟩:=h.fields;have hr:r.k=cJ x:=by unfold cJ;rw[hf];rfl
 obtain⟨a,b,m1,_,h2,hx⟩:=lL hp;have key:∀q,fF (dj [18]) q m1=some (b,m)→∃s,jj x=some s:=by
  intro q hq;obtain⟨c,d,m2,h3,_,rfl⟩:=lL hq;obtain⟨r',c',rfl,hk',_⟩:=nf (by decide) h3;obtain⟨s,hs⟩:=NM (l:=x.f) (k:=18) ⟨r',by rw[hx];simp,hk'⟩;exact⟨fI s.b,by unfold jj dW;rw[hs];rfl⟩
 rcases hk with hk|hk<;>rw[hr,hk]at h2
 ·exact key _ h2
 ·exact key _ h2
def ME(r:Re):Prop:=kW r.b
def Xt(c:Ce):Prop:=∀x∈c.i,∀r∈x.f,ME r
theorem WV{a b:Int}(ha:0≤a∧a<256)(hb:0≤b∧b<256): -32768≤WU a b∧WU a b≤32767:=by
 unfold WU;split<;>omega
theorem WY{a b c d:Int}(ha:0≤a∧a<256)(hb:0≤b∧b<256)(hc:0≤c∧c<256)(hd:0≤d∧d<256): -2147483648≤WX a b c d∧WX a b c d≤2147483647:=by
 unfold WX;split<;>omega
theorem Dj:∀{l:List Int},kW l→∀z∈dT l,-32768≤z∧z≤32767
 | [],_,z,h=>by simp[dT]at h
 | [_],_,z,h=>by simp[dT]at h
 |a::b::r,hb,z,h=>by
  simp only[dT,aF]at h;rcases h with rfl|h
  ·exact WV (hb a (by simp)) (hb b (by simp))
  ·exact Dj (fun y hy=>hb y (by simp[hy])) z h
theorem Gg:∀{l:List Int},kW l→∀z∈fj l,-2147483648≤z∧z≤2147483647
 | [],_,z,h=>by simp[fj]at h
 | [_],_,z,h=>by simp[fj]at h
 | [_,_],_,z,h=>by simp[fj]at h
 | [_,_,_],_,z,h=>by simp[fj]at h
 |a::b::c::d::r,hb,z,h=>by
  simp only[fj,aF]at h;rcases h with rfl|h
  ·exact WY (hb a (by simp)) (hb b (by simp)) (hb c (by simp)) (hb d (by simp))
  ·exact Gg (fun y hy=>hb y (by simp[hy])) z h
theorem FN{l:List Int}{A B:Int}(h:∀z∈l,A≤z∧z≤B)(h0:A≤0∧0≤B)(k:Nat):A≤l.getD k 0∧l.getD k 0≤B:=by
 rw[dL];cases hk:l[k]? with
 |none=>simpa using h0
 |some z=>exact h z (aK hk)
theorem wN{x:Im}(h:∀r∈x.f,ME r):(bN x).1≤32767∧(bN x).2≤32767:=by
 unfold bN;cases hf:dW x 19 with
 |none=>exact⟨by decide,by decide⟩
 |some r=>
  have hb:=Dj (h r (kS hf).1);have h0:=FN hb (by decide) 0;have h1:=FN hb (by decide) 1;simp only;refine⟨?_,h1.2⟩;cases hs:dT r.b with
  |nil=>simp
  |cons a l=>rw[hs]at h0;simpa using h0.2
theorem GR{A B:Int}:∀{l:List Int},(∀z∈l,A≤z∧z≤B)→∀d∈kj l,(A≤d.x∧d.x≤B)∧A≤d.y∧d.y≤B
 | [],_,d,h=>by simp[kj]at h
 | [_],_,d,h=>by simp[kj]at h
 |a::b::r,hb,d,h=>by
  simp only[kj,aF]at h;rcases h with rfl|h
  ·exact⟨hb a (by simp),hb b (by simp)⟩
  ·exact GR (fun y hy=>hb y (by simp[hy])) d h
theorem uS{x:Im}(h:∀r∈x.f,ME r):∀d∈bJ x,(-2147483648≤d.x∧d.x≤2147483647)∧ -2147483648≤d.y∧d.y≤2147483647:=by
 unfold bJ;cases hf:dW x 16 with
 |none=>intro d hd;simp at hd
 |some r=>exact GR (Gg (h r (kS hf).1))
theorem rj{x:Im}(h:kN x=true)(hk:cJ x=10∨cJ x=11):jm x=true∧0<(bN x).1∧0<(bN x).2∧((bJ x).length=1∨(bJ x).length=3):=by
 unfold kN at h;rcases hk with hk|hk<;>rw[hk]at h<;>simp at h
 ·exact⟨h.1.1.1,h.1.1.2,h.1.2,.inl h.2⟩
 ·exact⟨h.1.1.1,h.1.1.2,h.1.2,.inr h.2⟩
theorem xt{x:Im}(h:kN x=true)(hk:cJ x=8∨cJ x=45):4≤(bJ x).length:=by
 unfold kN at h;rcases hk with hk|hk<;>rw[hk]at h<;>simp at h
 ·exact h.1
 ·omega
theorem I_{x:Im}(h:jm x=true):lE x=false∧0<(kA x).num.sign:=by
 unfold jm at h;simp only[aM,cD,dp]at h;exact⟨h.1,h.2.1⟩
theorem Am{t:List Ce}:∀{n c d:Nat},dep t n c=some d→k9 t (n+1) c=k9 t n c
 |0,c,d,h=>by simp[dep]at h
 |n+1,c,d,h=>by
  have hr:∃r,jE (dep t n) (fy t c) 0=some r:=by
   unfold dep at h;cases hq:jE (dep t n) (fy t c) 0 with
   |none=>rw[hq]at h;simp at h
   |some r=>exact⟨r,rfl⟩
  obtain⟨r,hr⟩:=hr;unfold k9;congr 1;refine List.map_congr_left fun x hx=>?_;unfold ka;cases hk:om t x with
  |none=>rfl
  |some k=>
   have hkm:k∈fy t c:=List.mem_filterMap.2 ⟨x,hx,hk⟩;obtain⟨e,he,_⟩:=(mg hr).2 k hkm;simp only;rw[Am he]
section
variable{N M K J:Nat}{p q r s:Rat}
theorem cq.int{z:Int}(h:z.natAbs≤K):cq 1 K (z:Rat):=⟨z,by rw[show((1:Nat):Rat)=1 from rfl,sS],h⟩
theorem cq.zero(N K:Nat):cq N K 0:=⟨0,by rw[Rat.zero_mul];rfl,aJ _⟩
theorem zo{z:Int}(M:Nat)(h:z.natAbs≤K):cq M (M*K) (z:Rat):=by
 have:=(cq.int h).scale M
 rwa [fK]at this
theorem cq.mulI{z:Int}(hq:cq M K q)(h:z.natAbs≤J):cq M (K*J) (q*(z:Rat)):=by
 have:=hq.mul (cq.int h)
 rwa [fK]at this
theorem xM{z:Int}(h:0<z):cq z.toNat 1 (Rat.divInt 1 z):=⟨1,by
 have e:((z.toNat:Nat):Rat)=(z:Rat):=by
  have:((z.toNat:Nat):Int)=z:=Int.toNat_of_nonneg (Int.le_of_lt h)
  calc((z.toNat:Nat):Rat)=(((z.toNat:Nat):Int):Rat):=rfl
   _=(z:Rat):=by rw[this]
 have hne:(z:Rat)≠0:=fun e0=>by
  have:z=0:=Rat.intCast_inj.1 e0;omega
 rw[e,je,lC,Rat.mul_assoc,Rat.inv_mul_cancel _ hne,sS],by decide⟩
end
def cS(N K:Nat)(S:Sn):Prop:=cq N K S.p∧cq N K S.q∧cq N K S.r∧cq N K S.s
theorem cS.neg{N K:Nat}{S:Sn}(h:cS N K S):cS N K S.neg:=⟨h.1.neg,h.2.1.neg,h.2.2.1.neg,h.2.2.2.neg⟩
structure MD(P:Sn×Sn):Prop where
 em:P.2.m=P.1.m
 en:P.2.n=P.1.n
 m0:0≤P.1.m
 n0:0≤P.1.n
 mb:P.1.m.natAbs<2^67
 nb:P.1.n.natAbs<2^67
 c:∃M,0<M∧M≤2^136∧cS M (2^170) P.1∧cS M (2^170) P.2
structure XV(M:Nat)(q:Pa):Prop where
 x:q.d.x.natAbs<2^34
 y:q.d.y.natAbs<2^34
 a:cq M (2^101) q.a
 b:cq M (2^101) q.b
 c:cq M (2^101) q.c
 e:cq M (2^101) q.e
theorem tY{M:Nat}(hM:M≤2^136){q r s:Rat}{d e:Int}(hq:cq M (2^167) q)(hr:cq M (2^101) r)(hs:cq M (2^101) s)(hd:d.natAbs<2^34)(he:e.natAbs<2^34):cq M (2^170) (q+r*(d:Rat)+s*(e:Rat)):=
 ((hq.add (hr.mulI (fW hd))).add (hs.mulI (fW he))).mono (by decide)
theorem qt{M:Nat}(hM:M≤2^136){q r:Rat}{d:Int}(hq:cq M (2^167) q)(hr:cq M (2^101) r)(hd:d.natAbs<2^34):cq M (2^170) (q+r*(d:Rat)):=
 (hq.add (hr.mulI (fW hd))).mono (by decide)
theorem JO{M:Nat}(hM:M≤2^136){z:Int}(h: -2147483648≤z∧z≤2147483648):cq M (2^167) (z:Rat):=
 (zo M (K:=2^31) (by show z.natAbs≤2147483648;omega)).mono (aP (aY hM (ak _)) (by decide))
theorem HI{M:Nat}(h0:0<M)(hM:M≤2^136){m n:Int}{p:Dp}{u v:Pa}(hm0:0≤m)(hn0:0≤n)(hm:m.natAbs<2^67)(hn:n.natAbs<2^67)(hp:iu 2147483648 p)(hu:XV M u)(hv:XV M v):MD (al m n p [u,v]):=by
 unfold iu at hp;have px:=JO hM (z:=p.x) (by omega);have py:=JO hM (z:=p.y) (by omega);have z0:=cq.zero M (2^167);exact⟨rfl,rfl,hm0,hn0,hm,hn,M,h0,hM,⟨tY hM px hu.a hv.a hu.x hv.x,tY hM z0 hu.b hv.b hu.x hv.x,tY hM z0 hu.c hv.c hu.x hv.x,tY hM z0 hu.e hv.e hu.x hv.x⟩,
  ⟨tY hM py hu.a hv.a hu.y hv.y,tY hM z0 hu.b hv.b hu.y hv.y,tY hM z0 hu.c hv.c hu.y hv.y,tY hM z0 hu.e hv.e hu.y hv.y⟩⟩
theorem Yd{M:Nat}(h0:0<M)(hM:M≤2^136){m n:Int}{p:Dp}{u:Pa}(hm0:0≤m)(hn0:0≤n)(hm:m.natAbs<2^67)(hn:n.natAbs<2^67)(hp:iu 2147483648 p)(hu:XV M u):MD (al m n p [u]):=by
 unfold iu at hp;have px:=JO hM (z:=p.x) (by omega);have py:=JO hM (z:=p.y) (by omega);have z0:=cq.zero M (2^167);exact⟨rfl,rfl,hm0,hn0,hm,hn,M,h0,hM,⟨qt hM px hu.a hu.x,qt hM z0 hu.b hu.x,qt hM z0 hu.c hu.x,qt hM z0 hu.e hu.x⟩,
  ⟨qt hM py hu.a hu.y,qt hM z0 hu.b hu.y,qt hM z0 hu.c hu.y,qt hM z0 hu.e hu.y⟩⟩
def B_(d:Dp):Nat:=2*(2*(kE d).toNat)
theorem EK{d e:Dp}{q:Rat}(hd:iu 4294967296 d)(h0:0<kE d)(he:kE d=kE e)(hq:cq 2 (2^34) q):XV (B_ e) (jI d q):=by
 have g:cq (B_ e) (2^101) (q*Rat.divInt 1 (kE d)):=by
  have:=(hq.mul (xM h0)).scale 2;rw[he]at this⊢;exact this.mono (by decide)
 exact⟨(lN hd).1,(lN hd).2,cq.zero _ _,g,cq.zero _ _,cq.zero _ _⟩
theorem EH{d e:Dp}{q:Rat}(hd:iu 4294967296 d)(h0:0<kE d)(he:kE d=kE e)(hq:cq 2 (2^34) q):XV (B_ e) (lM d q):=by
 have g:cq (B_ e) (2^101) (q*Rat.divInt 1 (kE d*2)):=by
  have:=hq.mul (xM (show 0<kE d*2 by omega));rw[show 2*(kE d*2).toNat=B_ e by unfold B_;omega]at this;exact this.mono (by decide)
 exact⟨(lN hd).1,(lN hd).2,cq.zero _ _,cq.zero _ _,cq.zero _ _,g⟩
theorem Up{p d:Dp}(hp:iu 2147483648 p)(hd:iu 4294967296 d)(h0:kE d≠0){h b:Rat}(hh:cq 2 (2^34) h)(hb:cq 2 (2^34) b)(r:Bool):∀P∈mC p d h b r,MD P:=by
 have hm:=BC hd;have oH:0<kE d:=by have:=v_ d;omega
 have t1:=zN hd;obtain⟨s1,s2⟩:=SL d;have h2:(2:Int).natAbs<2^67:=by decide
 have g0:0<B_ d:=by unfold B_;omega
 have gM:B_ d≤2^136:=by
  have:(kE d).toNat<2^67:=by omega
  unfold B_;exact aP (aY (ak 2) (aY (ak 2) (fW this))) (by decide)
 have ud:=EK hd oH rfl hb;have uh:=EK hd oH rfl hh;have ul:=EK t1.1 (by rw[s1];exact oH) s1 hh;have ur:=EK t1.2.1 (by rw[s2];exact oH) s2 hh;have sd:=EH hd oH rfl hh;have sl:=EH t1.1 (by rw[s1];exact oH) s1 hh;have sr:=EH t1.2.1 (by rw[s2];exact oH) s2 hh;have e0:0≤kE d:=Int.le_of_lt oH;have e2:(0:Int)≤2:=by decide
 intro P hP;unfold mC at hP;cases r with
 |false=>
  simp only[aF,iv,d_,az,aE,bL]at hP;rcases hP with rfl|rfl
  ·exact HI g0 gM e0 e2 hm h2 hp ud ul
  ·exact HI g0 gM e0 e2 hm h2 hp ud ur
 |true=>
  simp only[aF,e8,dI,aE,bL]at hP;rcases hP with rfl|(rfl|rfl|rfl)|rfl
  ·exact HI g0 gM e0 e2 hm h2 hp ud ul
  ·exact HI g0 gM e0 e2 hm h2 hp sd sl
  ·exact Yd g0 gM e0 e2 hm h2 hp uh
  ·exact HI g0 gM e0 e2 hm h2 hp sd sr
  ·exact HI g0 gM e0 e2 hm h2 hp ud ur
theorem Sa{p d e:Dp}(hp:iu 2147483648 p)(hd:iu 4294967296 d)(he:iu 4294967296 e)(h0:qG (eS d) e≠0){h:Rat}(hh:cq 2 (2^34) h):MD (gf p d e h):=by
 have hm:=BC hd;have hn:=BC he;have ht:=Cv hd he;have tl:=zN hd;have te:=zN he;have hc:=Cv tl.1 he;obtain⟨C,hC⟩:∃C,C=qG (eS d) e*qG (eS d) e:=⟨_,rfl⟩;have hC0:0<C:=by
  rw[hC];rcases Int.lt_or_gt_of_ne h0 with h|h
  ·exact Int.mul_pos_of_neg_of_neg h h
  ·exact Int.mul_pos h h
 have hCb:C.toNat≤2^134:=by
  have e1:C.toNat=(qG (eS d) e).natAbs*(qG (eS d) e).natAbs:=by rw[←cK,←hC];omega
  rw[e1];exact aP (aY (fW hc) (fW hc)) (by decide)
 have hk:cq (2*C.toNat) (2^34) (h/(C:Rat)):=by
  have e1:h/(C:Rat)=h*Rat.divInt 1 C:=by
   rw[je,lC,lC,show((1:Int):Rat)=1 from rfl,Rat.one_mul]
  rw[e1];exact hh.mul (xM hC0)
 rw[hC]at hk;have i1:∀{z:Int},z.natAbs<2^67→cq (2*C.toNat) (2^101) (h/((qG (eS d) e*qG (eS d) e:Int):Rat)*(z:Rat)):=fun hz=>by
  rw[←hC]at hk⊢;exact(hk.mulI (fW hz)).mono (by decide)
 have AG:(-(qG d e)).natAbs<2^67:=by rw[Int.natAbs_neg];exact ht
 exact HI (by omega) (aP (aY (ak 2) hCb) (by decide)) (v_ d) (v_ e) hm hn hp ⟨(lN tl.1).1,(lN tl.1).2,cq.zero _ _,i1 hn,i1 AG,cq.zero _ _⟩ ⟨(lN te.1).1,(lN te.1).2,cq.zero _ _,i1 AG,i1 hm,cq.zero _ _⟩
theorem AX{h:Rat}(hh:cq 2 (2^34) h):∀(c w:List Dp),(∀p∈c,iu 2147483648 p)→(∀d∈w,iu 4294967296 d)→(∀(i:Nat) (d e:Dp),w[i]? =some d→w[i+1]? =some e→qG (eS d) e≠0)→∀P∈gy h c w,MD P
 |p::c,d::e::w,hc,hw,hx=>fun P hP=>by
  simp only[gy,aF]at hP;rcases hP with rfl|hP
  ·exact Sa (hc p (by simp)) (hw d (by simp)) (hw e (by simp)) (hx 0 d e rfl rfl) hh
  ·exact AX hh c (e::w) (fun q hq=>hc q (cN _ hq)) (fun q hq=>hw q (cN _ hq)) (fun i a b ha hb=>hx (i+1) a b ha hb) P hP
 | [],_,_,_,_=>fun P hP=>by simp[gy]at hP
 |_::_,[],_,_,_=>fun P hP=>by simp[gy]at hP
 |_::_,[_],_,_,_=>fun P hP=>by simp[gy]at hP
theorem Vu{w:Int}(h:1≤w∧w≤2147483647):cq 2 (2^34) (Rat.divInt w 2):=by
 have:=(xM (show(0:Int)<2 by decide)).mulI (z:=w) (J:=2^34) (by show w.natAbs≤17179869184;omega);have e:Rat.divInt 1 2*(w:Rat)=Rat.divInt w 2:=by
  rw[je,je,lC,lC,show((1:Int):Rat)=1 from rfl,Rat.one_mul,Rat.mul_comm]
 rw[e,iQ]at this;exact this
theorem PQ{c w:List Dp}(hf:KN c w)(hw:0<w.length)(hb:¬ ∃(i:Nat) (d e:Dp),w[i]? =some d∧w[i+1]? =some e∧e=jk d)(hc:∀p∈c,iu 2147483648 p){width kind bg en:Int}(h1:1≤width)(h2:width≤2147483647)(h3: -2147483647≤bg∧bg≤2147483647)(h4: -2147483647≤en∧en≤2147483647):∀P∈sj c w width kind bg en,MD P:=by
 have hl:=hf.len;have nQ:∀(i:Nat) (d:Dp),w[i]? =some d→∃a b,a∈c∧b∈c∧a≠b∧d=gl a b:=fun i d hd=>by
  have hi:=(List.getElem?_eq_some_iff.1 hd).1;obtain⟨n1,e1⟩:=hf.way i _ _ d (ai (by omega)) (ai (by omega)) hd;exact⟨_,_,dY _,dY _,n1,e1⟩
 have Og:∀(i:Nat) (d:Dp),w[i]? =some d→mi d=1:=fun i d hd=>by
  obtain⟨a,b,_,_,h,e⟩:=nQ i d hd;rw[e];exact G2 h
 have hin:∀d∈w,iu 4294967296 d:=fun d hd=>by
  obtain⟨i,hi⟩:=mP hd;obtain⟨a,b,ha,hb,h,e⟩:=nQ i d hi;rw[e];exact QK (hc a ha) (hc b hb) h
 have Ig:∀(i:Nat) (d e:Dp),w[i]? =some d→w[i+1]? =some e→qG (eS d) e≠0:=fun i d e hd he=>
  Fz (Og i d hd) (Og (i+1) e he) (hf.turn i d e hd he) (fun h=>hb ⟨i,d,e,hd,he,h⟩)
 have hh:=Vu ⟨h1,h2⟩;have ei:∀z:Int,-2147483647≤z∧z≤2147483647→cq 2 (2^34) (z:Rat):=fun z hz=>(zo 2 (K:=2^31) (by show z.natAbs≤2147483648;omega)).mono (by decide);have e1:cq 2 (2^34) (o_ kind bg en (Rat.divInt width 2)).1∧cq 2 (2^34) (o_ kind bg en (Rat.divInt width 2)).2:=by
  unfold o_;split
  ·exact⟨hh,hh⟩
  ·split
   ·exact⟨ei bg h3,ei en h4⟩
   ·exact⟨cq.zero _ _,cq.zero _ _⟩
 have g0:∀k,k<c.length→iu 2147483648 (c.getD k ⟨0,0⟩):=fun k hk=>by
  rw[dL,ai hk];exact hc _ (dY _)
 have g1:∀k,k<w.length→iu 4294967296 (w.getD k ⟨0,0⟩)∧kE (w.getD k ⟨0,0⟩)≠0:=fun k hk=>by
  rw[dL,ai hk];exact⟨hin _ (dY _),I6 (Ed (Og k _ (ai hk)))⟩
 have s0:kE (jk (w.getD 0 ⟨0,0⟩))≠0:=by
  have:=(g1 0 hw).2;unfold kE jk at*;simp only[s8];exact this
 have t0:=Up (g0 0 (by omega)) (zN (g1 0 hw).1).2.2 s0 hh e1.1 (kind==1);have t1:=Up (g0 (c.length-1) (by omega)) (g1 (w.length-1) (by omega)).1 (g1 (w.length-1) (by omega)).2 hh e1.2 (kind==1);have ht:∀p∈c.tail,iu 2147483648 p:=fun p hp=>hc p (List.mem_of_mem_tail hp);intro P hP;unfold sj at hP;simp only[dI,List.mem_reverse]at hP;rcases hP with(((hP|hP)|hP)|hP)|hP
 ·exact t0 P (sR hP)
 ·exact AX hh _ _ ht hin Ig P hP
 ·exact t1 P hP
 ·exact AX hh.neg _ _ ht hin Ig P hP
 ·exact t0 P (fe hP)
theorem Fx:∀(f_:List Dp) (s:List Dp×List Dp),(∀p∈f_,iu 2147483648 p)→(∀p∈s.1,iu 2147483648 p)→∀p∈(f_.foldl push s).1,iu 2147483648 p
 | [],_,_,h=>h
 |q::r,s,hq,h=>Fx r (push s q) (fun p hp=>hq p (cN _ hp)) (fun p hp=>by
  obtain⟨R,w⟩:=s
  match R,h with
  | [],h=>
   simp[push]at hp;subst hp;exact hq _ oY
  |l::R',h=>
   simp only[push]at hp;split at hp
   ·exact h p hp
   ·split at hp
    ·rcases List.mem_cons.1 hp with rfl|hp
     ·exact hq _ oY
     ·exact h p (cN _ hp)
    ·rcases List.mem_cons.1 hp with rfl|hp
     ·exact hq _ oY
     ·exact h p hp)
theorem Ye{ps:List Dp}{width kind bg en:Int}(h0:rh ps width kind bg en=0):(∀P∈sj (iC ps).1.reverse (iC ps).2.reverse width kind bg en,MD P)∧(sj (iC ps).1.reverse (iC ps).2.reverse width kind bg en).length≤40000:=by
 obtain⟨h8,hb,ho,hc2,YJ⟩:=LM h0;have hok:j8 (iC ps).1 (iC ps).2:=zm ps ([],[]) rfl;have hne:(iC ps).1≠ []:=fun e=>by rw[e]at hc2;simp at hc2
 have hf:=NR hok hne;have hl:=hf.len;have hw:0<(iC ps).2.reverse.length:=by
  rw[fz]at hl;omega
 have hin:∀p∈(iC ps).1.reverse,iu 2147483648 p:=fun p hp=>Fx ps ([],[]) (TX ho) (by simp) p (List.mem_reverse.1 hp);have hnb:¬ ∃(i:Nat) (d e:Dp),(iC ps).2.reverse[i]? =some d∧(iC ps).2.reverse[i+1]? =some e∧e=jk d:=fun h=>by
  rw[(Jo _).2 h]at YJ;simp at YJ
 obtain⟨_,w1,w2,w3,w4,w5,w6⟩:=E9.1 hb;refine⟨PQ hf hw hnb hin w1 w2 ⟨w3,w4⟩ ⟨w5,w6⟩,?_⟩;have hcl:(iC ps).1.reverse.tail.length=(iC ps).2.reverse.length:=by rw[List.length_tail,hl];omega
 have hwl:(iC ps).2.reverse.length≤8191:=by
  have:=Fy ps ([],[]);simp only[a_,bQ]at this;rw[fz];exact aP this h8
 have a1:=xz ((iC ps).1.reverse.getD 0 ⟨0,0⟩) (jk ((iC ps).2.reverse.getD 0 ⟨0,0⟩)) (Rat.divInt width 2) (o_ kind bg en (Rat.divInt width 2)).1 (kind==1);have a2:=xz ((iC ps).1.reverse.getD ((iC ps).1.reverse.length-1) ⟨0,0⟩) ((iC ps).2.reverse.getD ((iC ps).2.reverse.length-1) ⟨0,0⟩) (Rat.divInt width 2) (o_ kind bg en (Rat.divInt width 2)).2 (kind==1);have m1:=pA (Rat.divInt width 2) _ _ hcl;have m2:=pA (-(Rat.divInt width 2)) _ _ hcl;unfold sj;simp only[aA,fz,iw,dG]at a1 a2 m1 m2 hwl⊢;omega
theorem WO{x:Im}:(∀P∈ja x,MD P)∧(ja x).length≤40000:=by
 unfold ja;split
 ·rename_i h;exact Ye h.1
 ·exact⟨fun P hP=>by simp at hP,aJ _⟩
def M(s:Rat)(e:Nat):Rat:=s*Rc (4*(78-(e:Int)))
def ebytes(neg:Bool)(e:Nat)(n:Int):List Int:=[(if neg then 128 else 0)+e,n/281474976710656 % 256,n/1099511627776 % 256,n/4294967296 % 256,n/16777216 % 256,n/65536 % 256,n/256 % 256,n % 256]
section
variable{Γ:List aD}{L:Nat}{fin:VS→List aD→Prop}
end
section
variable{Γ:List aD}{L:Nat}{fin:VS→List aD→Prop}
end
theorem Yt{zs:List Int}(h:zs.length=8):∃z0 z1 z2 z3 z4 z5 z6 z7,zs=[z0,z1,z2,z3,z4,z5,z6,z7]:=by
 match zs,h with
 | [_,_,_,_,_,_,_,_],_=>exact⟨_,_,_,_,_,_,_,_,rfl⟩
theorem M7{zs:List Int}(h:zs.length=8)(hb:kW zs):0≤be (zs.drop 1)∧be (zs.drop 1)<72057594037927936:=by
 obtain⟨z0,z1,z2,z3,z4,z5,z6,z7,rfl⟩:=Yt h;have b1:=hb z1 (by simp);have b2:=hb z2 (by simp);have b3:=hb z3 (by simp);have b4:=hb z4 (by simp);have b5:=hb z5 (by simp);have b6:=hb z6 (by simp);have b7:=hb z7 (by simp);simp only[be,List.drop_succ_cons,gX,oM,List.foldl_nil];omega
section
variable{Γ:List aD}{L:Nat}{fin:VS→List aD→Prop}
end
theorem cO.ap{N K M J:Nat}{V:On}(h:cO N K V)(hK:N≤K){x y z w:Rat}(hx:cq M J x)(hy:cq M J y)(hz:cq M J z)(hw:cq M J w):
  cq (2*(M*N)) (8*(J*K)+2*(M*K)) (V.u0 x y z w)∧cq (2*(M*N)) (8*(J*K)+2*(M*K)) (V.u1 x y z w)∧cq (2*(M*N)) (8*(J*K)+2*(M*K)) (V.v0 x y z w)∧cq (2*(M*N)) (8*(J*K)+2*(M*K)) (V.v1 x y z w):=by
 have hm:=h.mag hK;obtain⟨_,h2,h3,h4,h5⟩:=h;have c1:=WQ V.o;have c2:=WR V.o;have c3:=PM V.o;have c4:=PS V.o;have x:=hx.mul hm;have y:=hy.mul hm;have z:=(hz.sg (V:=V)).mul hm;have w:=(hw.sg (V:=V)).mul hm;have l2:=(h2.scale M).scale 2;have l3:=(h3.scale M).scale 2;have l4:=(h4.scale M).scale 2;have l5:=(h5.scale M).scale 2;generalize J*K=P at*;generalize M*K=Q at*;refine⟨?_,?_,?_,?_⟩
 ·exact(((tz x y c1 c3).add (tz z w c2 c4).neg).add l2).mono (by omega)
 ·exact(((tA x y c1 c3).add (tA z w c2 c4).neg).add l3).mono (by omega)
 ·exact(((tz x y c2 c4).add (tz z w c1 c3)).add l4).mono (by omega)
 ·exact(((tA x y c2 c4).add (tA z w c1 c3)).add l5).mono (by omega)
theorem zk{M A E k e:Nat}(hM:M≤A)(hE:E≤2^e)(hA:A≤2^k):M*E≤2^(e+k):=by
 rw[cP,fg (2^e)];exact aY (aP hM hA) hE
theorem Jm{e M J:Nat}{V:On}(h:sG e V)(h0:0<M)(hM:M≤2^136)(hJ:J≤2^174){x y z w:Rat}(hx:cq M J x)(hy:cq M J y)(hz:cq M J z)(hw:cq M J w):
  bq (e+179) (V.u0 x y z w)∧bq (e+179) (V.u1 x y z w)∧bq (e+179) (V.v0 x y z w)∧bq (e+179) (V.v1 x y z w):=by
 obtain⟨N,K,n0,nK,hK,hc⟩:=h;obtain⟨g1,g2,g3,g4⟩:=hc.ap nK hx hy hz hw;have a1:0<2*(M*N):=hY (by decide) (hY h0 n0);have a2:2*(M*N)≤2^(e+178):=by
  rw[←lW];exact zk (aY (ak 2) hM) (aP nK hK) (by decide)
 have a3:8*(J*K)+2*(M*K)≤2^(e+178):=by
  rw[←lW,←lW,←dM];exact zk (Nat.add_le_add (aY (ak 8) hJ) (aY (ak 2) hM)) hK (by decide)
 exact⟨g1.bq a1 a2 a3,g2.bq a1 a2 a3,g3.bq a1 a2 a3,g4.bq a1 a2 a3⟩
theorem Rs{e:Nat}{V:On}(h:sG e V){x y:Int}(hx:x.natAbs≤2^31)(hy:y.natAbs≤2^31):bS (e+190) (V.X x y)∧bS (e+190) (V.Y x y):=by
 obtain⟨g1,g2,g3,g4⟩:=Jm h (M:=1) (J:=2^31) (by decide) (by decide) (by decide) (cq.int hx) (cq.zero 1 (2^31)) (cq.int hy) (cq.zero 1 (2^31));exact⟨bS.r2 (g1.mono (by omega)) (g2.mono (by omega)) (by omega),bS.r2 (g3.mono (by omega)) (g4.mono (by omega)) (by omega)⟩
theorem Qe{n:Int}(h:0≤n∧n≤2):∃a b:Int,ER n=(a:Rat)∧ES n=(b:Rat)∧(0≤a∧a≤1)∧0≤b∧b≤1:=by
 by_cases h2:n=2
 ·exact⟨0,1,by unfold ER;rw[if_pos h2];rfl,by unfold ES;rw[if_pos h2];rfl,by decide,by decide⟩
 ·exact⟨n,0,by unfold ER;rw[if_neg h2],by unfold ES;rw[if_neg h2];rfl,by omega,by decide⟩
theorem n_C{M:Nat}{S:Sn}(h:cS M (2^170) S)(hm:0≤S.m∧S.m≤2)(hn:0≤S.n∧S.n≤2):cq M (2^174) S.n0∧cq M (2^174) S.n1:=by
 obtain⟨a,b,ha,hb,a1,b1⟩:=Qe hm;obtain⟨c,d,hc,hd,c1,d1⟩:=Qe hn;have e1:Q0 (a:Rat) b c d=((a*c+2*(b*d):Int):Rat):=by
  unfold Q0;rw[lT,dQ,dQ,dQ];grind
 have e2:Q_ (a:Rat) b c d=((a*d+b*c:Int):Rat):=by
  unfold Q_;rw[lT,dQ,dQ]
 have p1:0≤a*c∧a*c≤1:=⟨eT a1.1 c1.1,ve (qB a1.2 c1.2 c1.1 (by decide)) (by decide)⟩;have p2:0≤b*d∧b*d≤1:=⟨eT b1.1 d1.1,ve (qB b1.2 d1.2 d1.1 (by decide)) (by decide)⟩;have p3:0≤a*d∧a*d≤1:=⟨eT a1.1 d1.1,ve (qB a1.2 d1.2 d1.1 (by decide)) (by decide)⟩;have p4:0≤b*c∧b*c≤1:=⟨eT b1.1 c1.1,ve (qB b1.2 c1.2 c1.1 (by decide)) (by decide)⟩;obtain⟨h1,h2,h3,h4⟩:=h;have n0:S.n0=S.p*((1:Int):Rat)+S.q*(a:Rat)+S.r*(c:Rat)+S.s*((a*c+2*(b*d):Int):Rat):=by
  unfold Sn.n0;rw[ha,hb,hc,hd,e1,e2];generalize((a*c+2*(b*d):Int):Rat)=u;generalize((a*d+b*c:Int):Rat)=v;unfold Q0;grind
 have n1:S.n1=S.p*((0:Int):Rat)+S.q*(b:Rat)+S.r*(d:Rat)+S.s*((a*d+b*c:Int):Rat):=by
  unfold Sn.n1;rw[ha,hb,hc,hd,e1,e2];generalize((a*c+2*(b*d):Int):Rat)=u;generalize((a*d+b*c:Int):Rat)=v;unfold Q_;have z:((0:Int):Rat)=0:=rfl;rw[z];grind
 have one:∀{q:Rat} {z:Int},cq M (2^170) q→z.natAbs≤3→cq M (2^170*3) (q*(z:Rat)):=fun hq hz=>hq.mulI hz;rw[n0,n1];exact⟨((((one h1 (by decide)).add (one h2 (by omega))).add (one h3 (by omega))).add (one h4 (by omega))).mono (by decide),((((one h1 (by decide)).add (one h2 (by omega))).add (one h3 (by omega))).add (one h4 (by omega))).mono (by decide)⟩
theorem V9(S:Sn)(m n:Int)(g:Rat):S.mul ⟨m,n,g,0,0,0⟩=⟨S.m,S.n,S.p*g,S.q*g,S.r*g,S.s*g⟩:=Sn.ext' rfl rfl (by simp only[Sn.mul];grind) (by simp only[Sn.mul];grind) (by simp only[Sn.mul];grind) (by simp only[Sn.mul];grind)
theorem Ul{N K:Nat}{m n:Int}:∀(k:Nat) {X Y:Sn},cS N K X∧X.m=m∧X.n=n→cS N K Y∧Y.m=m∧Y.n=n→(cS N K (Dc k X Y).1∧(Dc k X Y).1.m=m∧(Dc k X Y).1.n=n)∧cS N K (Dc k X Y).2∧(Dc k X Y).2.m=m∧(Dc k X Y).2.n=n
 |0,_,_,h,g=>⟨h,g⟩
 |k+1,_,_,h,g=>Ul k ⟨g.1.neg,g.2.1,g.2.2⟩ h
structure Cb(e:Nat)(q:Sn×Sn):Prop where
 b1:bS (e+190) q.1
 b2:bS (e+190) q.2
 f:(0≤q.1.m∧0≤q.1.n)∧0≤q.2.m∧0≤q.2.n
theorem MY{e:Nat}{V:On}(h:sG e V){d:Dp}(hx:d.x.natAbs≤2^31)(hy:d.y.natAbs≤2^31):Cb e (BP V d):=by
 obtain⟨g1,g2⟩:=Rs h hx hy;exact⟨g1,g2,⟨show(0:Int)≤2 by decide,show(0:Int)≤0 by decide⟩,show(0:Int)≤2 by decide,show(0:Int)≤0 by decide⟩
theorem NH{e:Nat}{V:On}{P q:Sn×Sn}(h:sG e V)(hP:MD P)(hq:farP V P=some q):Cb e q:=by
 obtain⟨em,en,m0,n0,mb,nb,M,hM0,hM,h1,h2⟩:=hP;unfold farP at hq;split at hq
 ·rename_i hs;injection hq with hq;subst hq;obtain⟨x0,x1⟩:=n_C h1 ⟨m0,hs.1⟩ ⟨n0,hs.2⟩;obtain⟨y0,y1⟩:=n_C h2 (by omega) (by omega);obtain⟨g1,g2,g3,g4⟩:=Jm h hM0 hM (ak _) x0 x1 y0 y1;exact⟨bS.r2 (g1.mono (by omega)) (g2.mono (by omega)) (by omega),bS.r2 (g3.mono (by omega)) (g4.mono (by omega)) (by omega),⟨show(0:Int)≤2 by decide,show(0:Int)≤0 by decide⟩,show(0:Int)≤2 by decide,show(0:Int)≤0 by decide⟩
 ·split at hq
  ·simp at hq
  ·injection hq with hq;subst hq;obtain⟨N,K,k0,nK,hK,hc⟩:=h;have hm:=hc.mag nK;obtain⟨_,c2,c3,c4,c5⟩:=hc;have sc:∀{S:Sn},cS M (2^170) S→cS (M*N) (2^170*K) (S.mul ⟨P.1.m,P.1.n,V.mag,0,0,0⟩):=fun{S} hS=>by
    rw[V9];exact⟨hS.1.mul hm,hS.2.1.mul hm,hS.2.2.1.mul hm,hS.2.2.2.mul hm⟩
   have s1:=sc h1;have s2:cS (M*N) (2^170*K) (if V.f then(P.2.mul ⟨P.1.m,P.1.n,V.mag,0,0,0⟩).neg else P.2.mul ⟨P.1.m,P.1.n,V.mag,0,0,0⟩)∧(if V.f then(P.2.mul ⟨P.1.m,P.1.n,V.mag,0,0,0⟩).neg else P.2.mul ⟨P.1.m,P.1.n,V.mag,0,0,0⟩).m=P.1.m∧(if V.f then(P.2.mul ⟨P.1.m,P.1.n,V.mag,0,0,0⟩).neg else P.2.mul ⟨P.1.m,P.1.n,V.mag,0,0,0⟩).n=P.1.n:=by
    split
    ·exact⟨(sc h2).neg,em,en⟩
    ·exact⟨sc h2,em,en⟩
   obtain⟨⟨r1,r2',r3⟩,r4,r5,r6⟩:=Ul (V.o/2).toNat ⟨s1,rfl,rfl⟩ s2;have a1:0<M*N:=hY hM0 k0;have a2:M*N≤2^(e+189):=zk hM (aP nK hK) (by decide);have a3:2^170*K+M*K≤2^(e+189):=by
    rw[←dM];exact zk (Nat.add_le_add (ak _) hM) hK (by decide)
   have fin:∀{p c:Rat},cq (M*N) (2^170*K) p→cq N K c→bq (e+190) (p+c):=fun hp hcc=>(hp.add (hcc.scale M)).bq a1 a2 a3;have z:=cq.zero N K;have mm:∀{z:Int},z.natAbs<2^67→z.natAbs<2^(e+190):=fun hz=>cM hz (fu (by omega));refine⟨⟨?_,?_,fin r1.1 c2,fin r1.2.1 c3,fin r1.2.2.1 z,fin r1.2.2.2 z⟩,⟨?_,?_,fin r4.1 c4,fin r4.2.1 c5,fin r4.2.2.1 z,fin r4.2.2.2 z⟩,⟨?_,?_⟩,?_,?_⟩
   ·show(Dc _ _ _).1.m.natAbs<_;rw[r2'];exact mm mb
   ·show(Dc _ _ _).1.n.natAbs<_;rw[r3];exact mm nb
   ·show(Dc _ _ _).2.m.natAbs<_;rw[r5];exact mm mb
   ·show(Dc _ _ _).2.n.natAbs<_;rw[r6];exact mm nb
   ·show 0≤(Dc _ _ _).1.m;rw[r2'];exact m0
   ·show 0≤(Dc _ _ _).1.n;rw[r3];exact n0
   ·show 0≤(Dc _ _ _).2.m;rw[r5];exact m0
   ·show 0≤(Dc _ _ _).2.n;rw[r6];exact n0
theorem WT{zs:List Int}(hb:kW zs){e:Nat}(he:e=312):∃N,0<N∧N≤2^e∧cq N (2^e) (ou zs):=by
 by_cases hl:zs.length=8
 ·obtain⟨b0,b1⟩:=M7 hl hb;obtain⟨k,hk⟩:∃k,zs.getD 0 0 % 128-78=k:=⟨_,rfl⟩;have hkb: -78≤k∧k≤49:=by omega
  obtain⟨z,hz,hzb⟩:∃z:Int,(if 127<zs.getD 0 0 then-1 else 1)*(be (zs.drop 1):Rat)=(z:Rat)∧z.natAbs≤2^56:=by
   split
   ·exact⟨-be (zs.drop 1),by rw[s_];grind,by show(-be (zs.drop 1)).natAbs≤72057594037927936;omega⟩
   ·exact⟨be (zs.drop 1),by rw[Rat.one_mul],by show(be (zs.drop 1)).natAbs≤72057594037927936;omega⟩
  have hv:ou zs=(z:Rat)*Rc (4*k):=by unfold ou;rw[if_pos hl,hz,hk]
  rw[hv];by_cases h0:0≤k
  ·obtain⟨j,rfl⟩:∃j:Nat,k=j:=⟨k.toNat,by omega⟩;refine⟨1,by decide,vI,?_⟩;rw[show 4*(j:Int)=((4*j:Nat):Int)by omega,PT];refine((cq.int hzb).mulI (J:=2^196) ?_).mono (by rw[←cP];exact fu (by omega));rw[Int.natAbs_natCast];exact fu (by omega)
  ·obtain⟨j,hj⟩:∃j:Nat,k= -(j:Int):=⟨(-k).toNat,by omega⟩;have hp:=Qv (4*j);refine⟨2^(4*j),kr _,fu (by omega),?_⟩;rw[hj,show 4*(-(j:Int))= -((4*j:Nat):Int)by omega,PU];have:=(cq.int hzb).mul (xM hp);rw[jc,iQ,fK]at this;exact this.mono (fu (by omega))
 ·exact⟨1,by decide,vI,by unfold ou;rw[if_neg hl];exact cq.zero _ _⟩
theorem Zp{x:Im}(h:∀r∈x.f,ME r){e:Nat}(he:e=312):∃N,0<N∧N≤2^e∧cq N (2^e) (kA x):=by
 unfold kA;cases hf:dW x 27 with
 |none=>exact⟨1,by decide,vI,cq.int (show(1:Int).natAbs≤2^e from vI)⟩
 |some r=>exact WT (h r (kS hf).1) he
theorem JG{a b:Int}(hb:0<b){A:Nat}(ha:a.natAbs≤A):cq b.toNat A (FJ a b):=by
 have:=(xM hb).mulI ha;have e:Rat.divInt 1 b*(a:Rat)=FJ a b:=by
  unfold FJ;rw[je,je,lC,lC,show((1:Int):Rat)=1 from rfl,Rat.one_mul,Rat.mul_comm]
 rwa [e,iQ]at this
theorem Ei{of:Dp→Int}{p:List Dp}(hp:∀k,(of (p.getD k ⟨0,0⟩)).natAbs≤2^31){eW rows i k:Int}(hc:0<eW∧eW≤32767)(hr:0<rows∧rows≤32767)(hi:0≤i∧i<eW)(hk:0≤k∧k<rows):cq (eW.toNat*rows.toNat) (2^64) (pY of p eW rows i k):=by
 have p0:=hp 0;have p1:=hp 1;have p2:=hp 2;have hcn:eW.toNat≤2^15:=by show eW.toNat≤32768;omega
 have hrn:rows.toNat≤2^15:=by show rows.toNat≤32768;omega
 have TC:∀{a b c:Int},a.natAbs≤2^31→b.natAbs≤2^31→0≤c∧c<32767→((a-b)*c).natAbs≤2^47:=fun{a b c} h1 h2 h3=>by
  have e1:(2:Nat)^31=2147483648:=by decide
  rw[e1]at h1 h2;rw[cK];refine aP (aY (show(a-b).natAbs≤2^32 from ?_) (show c.natAbs≤2^15 from ?_)) (by decide)
  ·show(a-b).natAbs≤4294967296;omega
  ·show c.natAbs≤32768;omega
 have g0:cq (eW.toNat*rows.toNat) (2^61) ((of (p.getD 0 ⟨0,0⟩):Int):Rat):=(zo _ p0).mono (aP (aY (aY hcn hrn) (ak _)) (by decide));unfold pY;split
 ·have g1:=(JG hc.1 (TC p1 p0 (c:=i) (by omega))).scale rows.toNat;have g2:=(JG hr.1 (TC p2 p0 (c:=k) (by omega))).scale eW.toNat;rw[fg]at g1;have g1':=g1.mono (J:=2^62) (aP (aY hrn (ak _)) (by decide));have g2':=g2.mono (J:=2^62) (aP (aY hcn (ak _)) (by decide));exact((g0.add g1').add g2').mono (by decide)
 ·exact g0.mono (by decide)
theorem Ex{x:Im}(h:∀r∈x.f,ME r)(k:Nat):(((bJ x).getD k ⟨0,0⟩).x).natAbs≤2^31∧(((bJ x).getD k ⟨0,0⟩).y).natAbs≤2^31:=by
 have e1:(2:Nat)^31=2147483648:=by decide
 rw[e1,dL];cases hk:(bJ x)[k]? with
 |none=>exact⟨by decide,by decide⟩
 |some d=>
  have:=uS h d (aK hk);simp only[jD];omega
theorem Pd{E:Nat}(hE:E=376){x:Im}(h:∀r∈x.f,ME r)(hc:0<(bN x).1)(hr:0<(bN x).2){i k:Int}(hi:0≤i∧i<(bN x).1)(hk:0≤k∧k<(bN x).2):sG E (x7 x i k):=by
 obtain⟨g1,g2⟩:=wN h;obtain⟨e,he⟩:∃e:Nat,e=312:=⟨_,rfl⟩;obtain⟨N,n0,nb,hm⟩:=Zp h he;have cx:=Ei (of:=Dp.x) (fun k=>(Ex h k).1) ⟨hc,g1⟩ ⟨hr,g2⟩ hi hk;have cy:=Ei (of:=Dp.y) (fun k=>(Ex h k).2) ⟨hc,g1⟩ ⟨hr,g2⟩ hi hk;obtain⟨D,hD⟩:∃D,(bN x).1.toNat*(bN x).2.toNat=D:=⟨_,rfl⟩;rw[hD]at cx cy;have hD0:0<D:=by rw[←hD];exact hY (by omega) (by omega)
 have YG:D≤2^30:=by
  rw[←hD];exact aP (aY (show(bN x).1.toNat≤2^15 from by show _≤32768;omega) (show(bN x).2.toNat≤2^15 from by show _≤32768;omega)) (by decide)
 have hm':=(hm.scale D).mono (J:=2^E) (aP (aY YG (ak _)) (by rw[←cP];exact fu (by omega)));have cx':=(cx.scale N).mono (J:=2^E) (aP (aY nb (ak _)) (by rw[←cP];exact fu (by omega)));have cy':=(cy.scale N).mono (J:=2^E) (aP (aY nb (ak _)) (by rw[←cP];exact fu (by omega)));rw[fg]at cx' cy';exact⟨D*N,2^E,hY hD0 n0,aP (aY YG nb) (by rw[←cP];exact fu (by omega)),ak _,hm',cx',cq.zero _ _,cy',cq.zero _ _⟩
theorem LS{x:Im}(h:∀r∈x.f,ME r)(XD:dW x 27=none)(hc:0<(bN x).1)(hr:0<(bN x).2){i k:Int}(hi:0≤i∧i<(bN x).1)(hk:0≤k∧k<(bN x).2):sG 64 (x7 x i k):=by
 obtain⟨g1,g2⟩:=wN h;have cx:=Ei (of:=Dp.x) (fun k=>(Ex h k).1) ⟨hc,g1⟩ ⟨hr,g2⟩ hi hk;have cy:=Ei (of:=Dp.y) (fun k=>(Ex h k).2) ⟨hc,g1⟩ ⟨hr,g2⟩ hi hk;obtain⟨D,hD⟩:∃D,(bN x).1.toNat*(bN x).2.toNat=D:=⟨_,rfl⟩;rw[hD]at cx cy;have hD0:0<D:=by rw[←hD];exact hY (by omega) (by omega)
 have YG:D≤2^30:=by
  rw[←hD];exact aP (aY (show(bN x).1.toNat≤2^15 from by show _≤32768;omega) (show(bN x).2.toNat≤2^15 from by show _≤32768;omega)) (by decide)
 have hm:cq D (2^64) (kA x):=by
  unfold kA;rw[XD];exact(zo D (K:=1) (by decide)).mono (aP (aY YG (ak _)) (by decide))
 exact⟨D,2^64,hD0,aP YG (by decide),ak _,hm,cx,cq.zero _ _,cy,cq.zero _ _⟩
structure XX where
 j:Nat
 z:Int
 x:Sw
 y:Sw
 S:Sn
 T:Sn
theorem KC{q:Rat}(h:q≠0):(q.num.sign != 0)=true:=by
 have:q.num≠0:=fun e=>h (Rat.num_eq_zero.1 e);have h2:q.num.sign≠0:=fun e=>this (Int.sign_eq_zero_iff_zero.1 e);simp[bne,h2]
section
variable{fin:VS→List aD→Prop}{Γ:List aD}{L M K:Nat}
theorem aw.farT{f:FuncId}{args:List Value}{X Y:Sn}{k:Nat}(h:aw tb Tryz.prog f args Γ (wj L X Y))(h1:bS k X)(h2:bS k Y):aw tb Tryz.prog f args Γ (wj (k/32+1) X Y):=
 h.entH (fun v Δ ⟨x,y,e1,e2⟩=>⟨_,⟨x,y,e1,rfl⟩,fun I w hh=>by
  subst e2;exact aG.cons (SF.tight (hh (SF x (L,X)) (List.Mem.head _)) h1) (aS (SF.tight (hh (SF y (L,Y)) (List.Mem.tail _ (List.Mem.head _))) h2))⟩)
theorem Ss(V:On)(t:Q5)(x y:Sw){X Y:Sn}{L1:Nat} [aW (OF t) (L1,V) Γ] [aW (SF x) (L,X) Γ] [aW (SF y) (M,Y) Γ](ho:0≤V.o∧V.o≤7)(hn:V.o % 2≠0∨V.b≠0∨V.d≠0)(h0:0≤X.m∧0≤X.n)(hmn:2<X.m∨2<X.n)(em:X.m=Y.m)(en:X.n=Y.n)(hL:L≤2000∧M≤2000∧L1≤10000:=by omega):
  aw tb Tryz.prog 88 [Hs V t,Bn x y] Γ (jq (.tuple #[Bn BY BY,.int .i64 6])):=by
 refine aw.of_W aB Tryz.func88 rfl ?_;refine Cg t rfl ?_;refine td x rfl ?_;refine aq [] (Em x y em en) ?_;rintro _ _ ⟨rfl,rfl⟩;refine aq [24] (A_ x h0 hmn) ?_;rintro _ _ ⟨rfl,rfl⟩;refine xI [32] .i64 V.o 2 (V.o % 2) (by decide) (fJ ho.1) ?_;by_cases h2:V.o % 2≠0
 ·refine bj [] 63 (V.o % 2 != 0) (by simpa using h2) ?_;exact W.r [76,70,63] (.tuple #[Bn BY BY,.int .i64 6]) ⟨rfl,rfl⟩ bT
 refine aQ [] 63 (V.o % 2 != 0) (by simpa using h2) ?_;refine aq [63] (iZ t.b.n t.b.a t.b.m t.b.b) ?_;rintro _ _ ⟨rfl,rfl⟩;by_cases hb:V.b≠0
 ·refine bj [63] 70 (V.b.num.sign != 0) (KC hb) ?_;exact W.r [76,70] (.tuple #[Bn BY BY,.int .i64 6]) ⟨rfl,rfl⟩ bT
 refine aQ [63] 70 (V.b.num.sign != 0) (by simp only[ne_eq,Decidable.not_not]at hb;rw[hb];decide+kernel) ?_;refine aq [70] (iZ t.d.n t.d.a t.d.m t.d.b) ?_;rintro _ _ ⟨rfl,rfl⟩;have hd:V.d≠0:=by
  rcases hn with h|h|h
  ·exact absurd h h2
  ·exact absurd h hb
  ·exact h
 refine bj [70] 76 (V.d.num.sign != 0) (KC hd) ?_;exact W.r [76] (.tuple #[Bn BY BY,.int .i64 6]) ⟨rfl,rfl⟩ bT
theorem Sr(V:On)(t:Q5)(x y:Sw){X Y:Sn}{L1:Nat} [aW (OF t) (L1,V) Γ] [aW (SF x) (L,X) Γ] [aW (SF y) (M,Y) Γ](ho:0≤V.o∧V.o≤7)(h2:V.o % 2=0)(hb:V.b=0)(hd:V.d=0)(h0:0≤X.m∧0≤X.n)(hmn:2<X.m∨2<X.n)(em:X.m=Y.m)(en:X.n=Y.n)(hL:L≤2000∧M≤2000∧L1≤10000:=by omega):
  aw tb Tryz.prog 88 [Hs V t,Bn x y] Γ (wj 80000 (V.farX X Y) (V.farY X Y)):=by
 have fin:∀(R:Sn×Sn),R=V.farP X Y→R.1.add ⟨X.m,X.n,V.a,V.b,0,0⟩=V.farX X Y∧R.2.add ⟨X.m,X.n,V.c,V.d,0,0⟩=V.farY X Y:=fun R h=>by rw[h];exact⟨rfl,rfl⟩
 unfold On.farP at fin;obtain⟨k,hk⟩:∃k:Nat,V.o/2=k:=⟨(V.o/2).toNat,by omega⟩;rw[hk,jc]at fin;refine aw.of_W aB Tryz.func88 rfl ?_;refine Cg t rfl ?_;refine td x rfl ?_;refine aq [] (Em x y em en) ?_;rintro _ _ ⟨rfl,rfl⟩;refine aq [24] (A_ x h0 hmn) ?_;rintro _ _ ⟨rfl,rfl⟩;refine xI [32] .i64 V.o 2 0 (by decide) (by rw[fJ ho.1,h2]) ?_;refine aQ [] 63 ((0:Int) != 0) (by decide) ?_;refine aq [63] (iZ t.b.n t.b.a t.b.m t.b.b) ?_;rintro _ _ ⟨rfl,rfl⟩;refine aQ [63] 70 (V.b.num.sign != 0) (by rw[hb];decide+kernel) ?_;refine aq [70] (iZ t.d.n t.d.a t.d.m t.d.b) ?_;rintro _ _ ⟨rfl,rfl⟩;refine aQ [70] 76 (V.d.num.sign != 0) (by rw[hd];decide+kernel) ?_;refine aq [76] (Bf x) ?_;rintro _ _ ⟨rfl,rfl⟩;refine aq [] (vX V.f V.o t.g t.a t.b t.c t.d (V:=V)) ?_;rintro _ _ ⟨g7,rfl,rfl⟩;obtain⟨qm,hq⟩:∃qm,V.mag=qm:=⟨_,rfl⟩;rw[hq]at fin⊢;refine cH [] 1 ([(⟨g7.n,g7.a,g7.m,g7.b,qm⟩:QE)].flatMap QR.cells) aB (fun b8=>?_);refine aq [] (Bg x.u x.d x.v x.e b8 ⟨g7.n,g7.a,g7.m,g7.b⟩ h0.1 h0.2) ?_;rintro _ _ ⟨X9,rfl,rfl⟩;refine aq [] (PI (S:=X) (T:=⟨X.m,X.n,qm,0,0,0⟩) x X9 rfl rfl) ?_;rintro _ _ ⟨Z9,rfl,rfl⟩;refine aq [] (PI (S:=Y) (T:=⟨X.m,X.n,qm,0,0,0⟩) y X9 em.symm en.symm) ?_;rintro _ _ ⟨X11,rfl,rfl⟩;cases hf:V.f with
 |true=>
  rw[hf]at fin;refine bj [] 108 V.f hf ?_;refine aq [108] (Et X11) ?_;rintro _ _ ⟨X12,rfl,rfl⟩;refine W.quo [] V.o 2 (k:Int) (by decide) (by rw[Int.tdiv_eq_ediv_of_nonneg ho.1,hk,af];omega) ?_;refine zd [] [114] (fun a:XX=>[(114,.int .i64 a.z)]) (fun a=>[(18,jg a.x),(20,jg a.y)]) (fun a=>[SF a.x (65000,a.S),SF a.y (65000,a.T),OF t (L1,V),SF x (L,X)]) (fun a=>a.z=a.j∧a.j≤k∧(a.S.m=X.m∧a.S.n=X.n∧a.T.m=X.m∧a.T.n=X.n)∧Dc (k-a.j) a.S a.T=Dc k (X.mul ⟨X.m,X.n,qm,0,0,0⟩) (Y.mul ⟨X.m,X.n,qm,0,0,0⟩).neg) (fun a=>k-a.j) ⟨0,0,Z9,X12,X.mul ⟨X.m,X.n,qm,0,0,0⟩,(Y.mul ⟨X.m,X.n,qm,0,0,0⟩).neg⟩ ⟨rfl,aJ _,⟨rfl,rfl,em.symm,en.symm⟩,rfl⟩ (mh (qg (x:=Z9) (by omega) rfl) (mh (qg (x:=X12) (by omega) rfl) (eC eK (eC eK eE)))) ?_;rintro⟨j,z,A,B,S,T⟩ R ⟨hz,hj,⟨m1,m2,m3,m4⟩,hr⟩ close;simp only at hz hj hr m1 m2 m3 m4;by_cases hlt:j<k
  ·refine bj [] 115 (decide (z<(k:Int))) (au (by omega)) ?_;refine aq [115] (Et B) ?_;rintro _ _ ⟨C,rfl,rfl⟩;refine close [] _ _ ⟨j+1,IntKind.i64.wrap (z+1),C,A,T.neg,S⟩ (by kernel_rfl) (by kernel_rfl) ⟨by simp only[af];omega,hlt,⟨m3,m4,m1,m2⟩,?_⟩ (by simp only;omega) (eC eK (eC eK (eC eK (eC eK eE))));rw[←hr,show k-j=(k-(j+1))+1 by omega];rfl
  ·obtain rfl:j=k:=by omega
   rw[nA]at hr;obtain⟨f1,f2⟩:=fin (S,T) hr;refine Cg t rfl ?_;refine td x rfl ?_;refine aQ [] 115 (decide (z<(j:Int))) (aj (by omega)) ?_;refine aq [115] (lQ x.u x.d x.v x.e t.a t.b h0.1 h0.2) ?_;rintro _ _ ⟨X20,rfl,rfl⟩;refine aq [] (pH (S:=S) (T:=⟨X.m,X.n,V.a,V.b,0,0⟩) A X20 m1 m2) ?_;rintro _ _ ⟨X21,rfl,rfl⟩;refine aq [] (lQ x.u x.d x.v x.e t.c t.d h0.1 h0.2) ?_;rintro _ _ ⟨X22,rfl,rfl⟩;refine aq [] (pH (S:=T) (T:=⟨X.m,X.n,V.c,V.d,0,0⟩) B X22 m3 m4) ?_;rintro _ _ ⟨X23,rfl,rfl⟩;exact W.r [] (.tuple #[Bn X21 X23,.int .i64 0]) ⟨_,_,rfl,rfl⟩ (Jx (by omega) f1 f2)
 |false=>
  rw[hf]at fin;refine aQ [] 108 V.f hf ?_;refine W.quo [108] V.o 2 (k:Int) (by decide) (by rw[Int.tdiv_eq_ediv_of_nonneg ho.1,hk,af];omega) ?_;refine zd [] [114] (fun a:XX=>[(114,.int .i64 a.z)]) (fun a=>[(18,jg a.x),(20,jg a.y)]) (fun a=>[SF a.x (65000,a.S),SF a.y (65000,a.T),OF t (L1,V),SF x (L,X)]) (fun a=>a.z=a.j∧a.j≤k∧(a.S.m=X.m∧a.S.n=X.n∧a.T.m=X.m∧a.T.n=X.n)∧Dc (k-a.j) a.S a.T=Dc k (X.mul ⟨X.m,X.n,qm,0,0,0⟩) (Y.mul ⟨X.m,X.n,qm,0,0,0⟩)) (fun a=>k-a.j) ⟨0,0,Z9,X11,X.mul ⟨X.m,X.n,qm,0,0,0⟩,(Y.mul ⟨X.m,X.n,qm,0,0,0⟩)⟩ ⟨rfl,aJ _,⟨rfl,rfl,em.symm,en.symm⟩,rfl⟩ (mh (qg (x:=Z9) (by omega) rfl) (mh (qg (x:=X11) (by omega) rfl) (eC eK (eC eK eE)))) ?_;rintro⟨j,z,A,B,S,T⟩ R ⟨hz,hj,⟨m1,m2,m3,m4⟩,hr⟩ close;simp only at hz hj hr m1 m2 m3 m4;by_cases hlt:j<k
  ·refine bj [] 115 (decide (z<(k:Int))) (au (by omega)) ?_;refine aq [115] (Et B) ?_;rintro _ _ ⟨C,rfl,rfl⟩;refine close [] _ _ ⟨j+1,IntKind.i64.wrap (z+1),C,A,T.neg,S⟩ (by kernel_rfl) (by kernel_rfl) ⟨by simp only[af];omega,hlt,⟨m3,m4,m1,m2⟩,?_⟩ (by simp only;omega) (eC eK (eC eK (eC eK (eC eK eE))));rw[←hr,show k-j=(k-(j+1))+1 by omega];rfl
  ·obtain rfl:j=k:=by omega
   rw[nA]at hr;obtain⟨f1,f2⟩:=fin (S,T) hr;refine Cg t rfl ?_;refine td x rfl ?_;refine aQ [] 115 (decide (z<(j:Int))) (aj (by omega)) ?_;refine aq [115] (lQ x.u x.d x.v x.e t.a t.b h0.1 h0.2) ?_;rintro _ _ ⟨X20,rfl,rfl⟩;refine aq [] (pH (S:=S) (T:=⟨X.m,X.n,V.a,V.b,0,0⟩) A X20 m1 m2) ?_;rintro _ _ ⟨X21,rfl,rfl⟩;refine aq [] (lQ x.u x.d x.v x.e t.c t.d h0.1 h0.2) ?_;rintro _ _ ⟨X22,rfl,rfl⟩;refine aq [] (pH (S:=T) (T:=⟨X.m,X.n,V.c,V.d,0,0⟩) B X22 m3 m4) ?_;rintro _ _ ⟨X23,rfl,rfl⟩;exact W.r [] (.tuple #[Bn X21 X23,.int .i64 0]) ⟨_,_,rfl,rfl⟩ (Jx (by omega) f1 f2)
theorem Sv(V:On)(t:Q5)(x y:Sw){P q:Sn×Sn}{L1 e:Nat} [aW (OF t) (L1,V) Γ] [aW (SF x) (L,P.1) Γ] [aW (SF y) (M,P.2) Γ](ho:0≤V.o∧V.o≤7)(hP:MD P)(hw:sG e V)(hq:farP V P=some q)(hL:L≤2000∧M≤2000∧L1≤10000:=by omega):
  aw tb Tryz.prog 88 [Hs V t,Bn x y] Γ (wj ((e+190)/32+1) q.1 q.2):=by
 have hok:=NH hw hP hq;unfold farP at hq;split at hq
 ·rename_i hs;injection hq with hq;subst hq;exact(St V t x y ho hP.em.symm hP.en.symm ⟨hP.m0,hs.1⟩ ⟨hP.n0,hs.2⟩ hL).farT hok.b1 hok.b2
 ·rename_i hs;split at hq
  ·simp at hq
  ·rename_i hn;injection hq with hq;subst hq;have hb:V.b=0:=Decidable.byContradiction fun h=>hn (.inr (.inl h));have hd:V.d=0:=Decidable.byContradiction fun h=>hn (.inr (.inr h));exact(Sr V t x y ho (Decidable.byContradiction fun h=>hn (.inl h)) hb hd ⟨hP.m0,hP.n0⟩ (by omega) hP.em.symm hP.en.symm hL).farT hok.b1 hok.b2
theorem Su(V:On)(t:Q5)(x y:Sw){P:Sn×Sn}{L1:Nat} [aW (OF t) (L1,V) Γ] [aW (SF x) (L,P.1) Γ] [aW (SF y) (M,P.2) Γ](ho:0≤V.o∧V.o≤7)(hP:MD P)(hq:farP V P=none)(hL:L≤2000∧M≤2000∧L1≤10000:=by omega):
  aw tb Tryz.prog 88 [Hs V t,Bn x y] Γ (jq (.tuple #[Bn BY BY,.int .i64 6])):=by
 unfold farP at hq;split at hq
 ·simp at hq
 ·rename_i hs;split at hq
  ·rename_i hn;exact Ss V t x y ho hn ⟨hP.m0,hP.n0⟩ (by omega) hP.em.symm hP.en.symm hL
  ·simp at hq
end
def Rf(t:List Ce)(dm:List (Int×Int)):Prop:=∀k v,gw k dm=some v→∃j:Nat,k=j∧(v=0∨∃d:Nat,v=(d:Int)∧sY t j d)
def vu(t:List Ce)(dm:List (Int×Int)):Nat:=(List.range t.length).countP fun j:Nat=>(gw (j:Int) dm).isNone
theorem Cs{α:Type}{p q:α→Bool}:∀{l:List α},(∀x∈l,p x=true→q x=true)→(∃x∈l,q x=true∧p x=false)→l.countP p<l.countP q
 | [],_,h=>by obtain⟨x,hx,_⟩:=h;simp at hx
 |a::l,h1,⟨x,hx,hq,hp⟩=>by
  have hle:l.countP p≤l.countP q:=List.countP_mono_left fun y hy=>h1 y (by simp[hy]);simp only[List.countP_cons];simp only[aF]at hx;rcases hx with rfl|hx
  ·rw[hq,hp];simp;omega
  ·have ih:=Cs (fun y hy=>h1 y (by simp[hy])) ⟨x,hx,hq,hp⟩;have ha:=h1 a (by simp);cases Zj:p a<;>cases QT:q a<;>simp<;>first|omega|(rw[Zj,QT]at ha;simp at ha)
theorem NP{t:List Ce}{dm:List (Int×Int)}(k v:Int):vu t (lk k v dm)≤vu t dm:=List.countP_mono_left fun j _=>by
 rw[iq];by_cases h:(j:Int)=k<;>simp[h]
theorem NQ{t:List Ce}{dm:List (Int×Int)}{i:Nat}(hi:i<t.length)(h:gw (i:Int) dm=none)(v:Int):vu t (lk (i:Int) v dm)<vu t dm:=
 Cs (fun j _=>by
  rw[iq];by_cases h:(j:Int)=i<;>simp[h]) ⟨i,by simpa using hi,by rw[h];rfl,by rw[iq];simp⟩
theorem qU{α:Type} [DecidableEq α](k:α)(v:Int):∀l:List (α×Int),lk k (Value.int .i64 v) (cg l)=cg (lk k v l)
 | []=>rfl
 |(j,u)::l=>by
  show lk k (Value.int .i64 v) ((j,Value.int .i64 u)::cg l)=_;unfold lk;by_cases h:k=j
  ·rw[if_pos h,if_pos h];rfl
  ·rw[if_neg h,if_neg h,qU k v l];rfl
def Xv(t:List Ce)(l:List Nat)(m:Nat):Prop:=∃n,jE (dep t n) l 0=some m
theorem Ct{g:Nat→Option Nat}{k:Nat}:∀{l:List Nat} {m:Nat},jE g (l++[k]) m=match jE g l m with
  |some r=>(g k).map (max r)
  |none=>none
 | [],m=>by
  simp only[az,jE];cases g k<;>rfl
 |j::l,m=>by
  simp only[cT,jE];cases g j with
  |none=>rfl
  |some d=>exact Ct
theorem Xv.snoc{t:List Ce}{l:List Nat}{m k d:Nat}(h:Xv t l m)(hd:sY t k d):Xv t (l++[k]) (max m d):=by
 obtain⟨n1,h⟩:=h;obtain⟨n2,hd⟩:=hd;refine⟨max n1 n2,?_⟩;rw[Ct,nL hd (by omega)];have:jE (dep t (max n1 n2)) l 0=some m:=by
  rw[←h];refine o8 fun j hj=>?_;obtain⟨e,h3,_⟩:=(mg h).2 j hj;rw[h3];exact nL h3 (by omega)
 rw[this];rfl
theorem Xv.dep{t:List Ce}{c m:Nat}(h:Xv t (fy t c) m):sY t c (m+1):=by
 obtain⟨n,h⟩:=h;exact sY.of h (fun k d hk=>⟨n,hk⟩)
theorem D9{t:List Ce}(h:lost t=false){i:Nat}{x:Ce}(hx:t[i]? =some x):iR (cw t) x=(fy t i).map fun k:Nat=>(k:Int):=by
 have:qp t x=false:=by
  unfold lost at h;rw[jd]at h;simpa using h x (aK hx)
 rw[Is this];unfold fy lG;rw[dL,hx];rfl
def S_(t:List Ce)(dm:List (Int×Int))(i:Nat):Prop:=∀j:Nat,gw (j:Int) dm=some 0→MU t j i
def XL(t:List Ce)(i:Nat)(dm:List (Int×Int))(d:Int)(b:Bool)(Lc:List (Int×Int)):Prop:=
 (b=true→∃e:Nat,d=e∧sY t i e∧Rf t Lc∧(∀j:Nat,gw (j:Int) Lc=some 0→gw (j:Int) dm=some 0)∧vu t Lc≤vu t dm)∧(b=false→Ys t)
def UA(t:List Ce)(i:Nat)(dm:List (Int×Int))(FO':List (Nat×List Value))(bm:Nat×List (Value×Value))(dn:Nat)(v:Value)(O:List (Nat×List Value))(M:List (Nat×List (Value×Value)))(Δ:List aD):Prop:=
 ∃(d:Int) (b:Bool) (Lc:List (Int×Int)),XL t i dm d b Lc∧v=.tuple #[.int .i64 d,.bool b]∧O=FO'∧M=[bm,(dn,bM dw (cg Lc))]∧Δ=[]
structure aaB where
 j:Nat
 z:Int
 m:Nat
 dm:List (Int×Int)
def dpU(fb:Nat)(c:Int)(u:Sl):aaB→List (Nat×SV):=fun a=>[(0,.val (fo fb)),(1,.val (.int .i64 c)),(33,.val (aZ u)),(34,.val (.int .i64 u.n)),(4,.val (.int .i64 0)),(5,.val (.bool false)),(8,.val (.int .i64 a.m)),(35,.val (.int .i64 a.z))]
section
theorem Sj(fb bn cn dn:Nat)(cs:Sl)(most:Int)(sh:Value){t:List Ce}(hok:∀c∈t,Ux c)(hlen:∀c∈t,c.i.length≤100000)(CH:lost t=false)(htl:t.length≤100000):
  ∀(n:Nat) (Γ:List aD) [aW (lH cs) t Γ] (c:Int) (i:Nat),c=i→i<t.length→∀dm:List (Int×Int),Rf t dm→S_ t dm i→vu t dm≤n→
  dB KG Tryz.prog 45 [fo fb,.int .i64 c] (FO fb cs bn cn dn most sh) [(bn,bM dU (cg (cw t))),(dn,bM dw (cg dm))] Γ (UA t i dm (FO fb cs bn cn dn most sh) (bn,bM dU (cg (cw t))) dn):=by
 intro n
 induction n using Nat.strongRecOn with
 |ind n ih=>
 intro Γ hcs c i hc hi dm hdm how ade;obtain⟨x,hx⟩:∃x,t[i]? =some x:=⟨_,ai hi⟩;refine dB.of_W bH Tryz.func45 rfl ?_;refine bZ [] 3 fb 0 bH ?_;refine dR [] (FO fb cs bn cn dn most sh) fb (0+3) 1 [aZ cs,.map (some bn),.map (some cn),.map (some dn),.int .i64 most,sh] (.map (some dn)) bH (.head _) rfl ?_;refine vm [] dw 70 3 3 true (FO fb cs bn cn dn most sh) [(bn,bM dU (cg (cw t))),(dn,bM dw (cg dm))] dn c (cg dm) (.int .i64 0) bH (.tail _ (.head _)) ?_;rw[mT];cases hg:gw c dm with
 |some d=>
  refine bj [] 22 true rfl ?_;refine j1 [22] (.tuple #[.int .i64 d,.bool (decide (d>0))]) (FO fb cs bn cn dn most sh) [(bn,bM dU (cg (cw t))),(dn,bM dw (cg dm))] ⟨d,decide (d>0),dm,⟨fun hb=>?_,fun hb=>?_⟩,rfl,rfl,rfl,rfl⟩ bT
  ·have hd0:d>0:=by simpa using hb
   obtain⟨j,hj,hv⟩:=hdm c d hg;obtain rfl:j=i:=by omega
   rcases hv with h0|⟨e,he,Ih⟩
   ·omega
   ·exact⟨e,he,Ih,hdm,fun _ h=>h,ak _⟩
  ·have hd0:¬d>0:=by simpa using hb
   obtain⟨j,hj,hv⟩:=hdm c d hg;obtain rfl:j=i:=by omega
   rcases hv with h0|⟨e,he,Ih⟩
   ·rw[h0,hc]at hg;exact⟨j,hi,fun e he=>JT (how j hg) he⟩
   ·obtain⟨m,hm⟩:=Ih;have:=DP hm;omega
 |none=>
  rw[hc]at hg;have hlt:=NQ hi hg 0;refine aQ [] 22 false rfl ?_;refine bZ [22] 3 fb 0 bH ?_;refine dR [] (FO fb cs bn cn dn most sh) fb (0+3) 1 [aZ cs,.map (some bn),.map (some cn),.map (some dn),.int .i64 most,sh] (.map (some dn)) bH (.head _) rfl ?_;refine Cf [] dw 70 3 3 (FO fb cs bn cn dn most sh) [(bn,bM dU (cg (cw t)))] [] dn c (.int .i64 0) (cg dm) ?_;rw[qU];refine cZ [] [] (FO fb cs bn cn dn most sh) [] [] [(bn,bM dU (cg (cw t)))] [(dn,bM dw (cg (lk c 0 dm)))] ⟨rfl,by rfl,trivial⟩ (IK fb bn cn dn cs most sh c (i:=i) hc (t:=t) hx (hok x (aK hx)) (hlen x (aK hx)) (cw t)) ?_;rintro _ _ _ _ ⟨u,hu,rfl,rfl,rfl,rfl⟩;have RO:=D9 CH hx;have hul:u.n=(fy t i).length:=by rw[hu,RO,bI]
  rw[RO];obtain⟨ua,un,uc⟩:=u;simp only at hul;refine j0 [] Tryz.f45 0 60 60 [0,1,33,34,4,5,8,35] [] (dpU fb c ⟨ua,un,uc⟩) (fun _=>[]) (fun _=>FO fb cs bn cn dn most sh) (fun a=>[(bn,bM dU (cg (cw t))),(dn,bM dw (cg a.dm))]) (fun a=>[NL ⟨ua,un,uc⟩ ((fy t i).map fun k:Nat=>(k:Int)),lH cs t]) (fun a=>a.z=a.j∧a.j≤un∧Xv t ((fy t i).take a.j) a.m∧Rf t a.dm∧(∀j:Nat,gw (j:Int) a.dm=some 0→gw (j:Int) (lk c 0 dm)=some 0)∧vu t a.dm<vu t dm) (fun a=>un-a.j) ⟨0,0,0,lk c 0 dm⟩ ⟨rfl,aJ _,⟨0,rfl⟩,?_,fun _ h=>h,by rw[hc];exact hlt⟩ (eC eK (eC eK eE)) ?_
  ·intro k v hk;rw[iq]at hk;split at hk
   ·injection hk with hk;exact⟨i,by omega,.inl hk.symm⟩
   ·exact hdm k v hk
  rintro⟨j,z,m,em⟩ K ⟨hz,hj,hmx,JJ,hze,hfe⟩ close;simp only at hz hj hmx JJ hze hfe;refine MQ ⟨ua,un,uc⟩ (l:=(fy t i).map fun k:Nat=>(k:Int)) rfl (fun _ hu2 hu3=>?_);simp only at hu2 hu3;by_cases hlt2:j<un
  ·obtain⟨k,hk⟩:∃k,(fy t i)[j]? =some k:=⟨_,ai (by omega)⟩;have hkm:=aK hk;obtain⟨bb,off,hao⟩:=hu3 (by intro e;rw[List.map_eq_nil_iff]at e;rw[e]at hkm;simp at hkm);subst hao;refine bj [] 36 (decide (z<(un:Int))) (au (by omega)) ?_;refine bW [36] 1 bb off un uc .i64 j z hz bH hlt2 ?_;refine dJ [] 1 bb (off+j*1) (.int .i64 (k:Int)) bH (sL bb off un uc (by rw[bK,hk];rfl)) ?_;have nQ:S_ t em k:=fun q hq=>by
    have h1:=hze q hq;rw[hc,iq]at h1;split at h1
    ·rename_i hqi;obtain rfl:q=i:=by omega
     exact .one hkm
    ·exact(how q h1).trans (.one hkm)
   refine cZ [] [] (FO fb cs bn cn dn most sh) [] [] [(bn,bM dU (cg (cw t))),(dn,bM dw (cg em))] [] ⟨rfl,by rfl,trivial⟩ (ih (n-1) (by omega) _ (k:Int) k rfl (wU hkm) em JJ nQ (by omega)) ?_;rintro _ _ _ _ ⟨d,b,Lc,⟨ht,hf⟩,rfl,rfl,rfl,rfl⟩;cases b with
   |false=>
    refine bj [] 46 (!false) rfl ?_;exact j1 [46] (.tuple #[.int .i64 0,.bool false]) (FO fb cs bn cn dn most sh) [(bn,bM dU (cg (cw t))),(dn,bM dw (cg Lc))] ⟨0,false,Lc,⟨fun h=>by simp at h,fun _=>hf rfl⟩,rfl,rfl,rfl,rfl⟩ bT
   |true=>
    obtain⟨e,rfl,Ih,hd1,hd2,hd3⟩:=ht rfl;refine aQ [] 46 (!true) rfl ?_;refine MO [46] .i64 (m:Int) (e:Int) ((max m e:Nat):Int) (by omega) ?_;refine close [] _ _ ⟨j+1,IntKind.i64.wrap (z+1),max m e,Lc⟩ (by kernel_rfl) (by kernel_rfl) ⟨by simp only[af];omega,hlt2,?_,hd1,fun q hq=>hze q (hd2 q hq),by simp only;omega⟩ (by simp only;omega) (eC eK (eC eK eE));rw[List.take_add_one,hk];exact hmx.snoc Ih
  ·have htk:(fy t i).take j=fy t i:=aU (by omega);rw[htk]at hmx;have sU:=hmx.dep;have aeF:=La hi sU;have hw:IntKind.i64.wrap ((m:Int)+1)=((m+1:Nat):Int):=by rw[af];omega
   refine aQ [] 36 (decide (z<(un:Int))) (aj (by omega)) ?_;refine bZ [36] 3 fb 0 bH ?_;refine dR [] (FO fb cs bn cn dn most sh) fb (0+3) 1 [aZ cs,.map (some bn),.map (some cn),.map (some dn),.int .i64 most,sh] (.map (some dn)) bH (.head _) rfl ?_;refine Cf [] dw 70 3 3 (FO fb cs bn cn dn most sh) [(bn,bM dU (cg (cw t)))] [] dn c (.int .i64 (IntKind.i64.wrap ((m:Int)+1))) (cg em) ?_;rw[qU,hw];refine j1 [] (.tuple #[.int .i64 ((m+1:Nat):Int),.bool true]) (FO fb cs bn cn dn most sh) [(bn,bM dU (cg (cw t))),(dn,bM dw (cg (lk c ((m+1:Nat):Int) em)))] (h:=(by rw[←hw];kernel_rfl)) ⟨((m+1:Nat):Int),true,lk c ((m+1:Nat):Int) em,⟨fun _=>⟨m+1,rfl,sU,?_,?_,?_⟩,fun h=>by simp at h⟩,rfl,rfl,rfl,rfl⟩ bT
   ·intro k v hk;rw[iq]at hk;split at hk
    ·injection hk with hk;exact⟨i,by omega,.inr ⟨m+1,hk.symm,sU⟩⟩
    ·exact JJ k v hk
   ·intro q hq;rw[iq]at hq;split at hq
    ·injection hq with hq;omega
    ·rename_i hne;have h1:=hze q hq;rw[iq,if_neg hne]at h1;exact h1
   ·have:=NP (t:=t) (dm:=em) c ((m+1:Nat):Int);omega
end
end Go.Proofs.YtgaaopjagcaojaaGreat
