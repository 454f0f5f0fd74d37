import Derived.Test.YtgaaopjagcaojaaGreatVy
import Derived.Lib.Bytealg
import Derived.Test.YtgaaopjagcaojaaGreatNatU
import Derived.Test.YtgaaopjagcaojaaGreatProg
import Derived.Deep.DeepCutAuto
set_option linter.unusedSimpArgs false
set_option linter.unusedVariables false
set_option maxHeartbeats 4000000
namespace Go.Proofs.YtgaaopjagcaojaaGreat
open Go.RowKit Go.IntWalk
def vM(x y:Rat):Int:=if x<y then-1 else if x=y then 0 else 1
def oD(q:Rat):Int:=q.num/q.den
theorem R_{x y:Int}(hy:0<y):(Rat.divInt x y).num=x/(Nat.gcd x.natAbs y.natAbs:Nat)∧((Rat.divInt x y).den:Int)=y/(Nat.gcd x.natAbs y.natAbs:Nat):=by
 have hg:Int.gcd y x=Nat.gcd x.natAbs y.natAbs:=by rw[Int.gcd_comm];rfl
 refine⟨?_,?_⟩
 ·rw[Rat.num_divInt,hg,fV hy,Int.one_mul]
 ·rw[Rat.den_divInt,if_neg (by omega),hg,kZ,show((y.natAbs:Nat):Int)=y by omega]
theorem R9{x y:Int}(hy:y<0):(Rat.divInt x y).num= -(x/(Nat.gcd x.natAbs y.natAbs:Nat))∧((Rat.divInt x y).den:Int)= -(y/(Nat.gcd x.natAbs y.natAbs:Nat)):=by
 have hg:Int.gcd y x=Nat.gcd x.natAbs y.natAbs:=by rw[Int.gcd_comm];rfl
 have d1:((Nat.gcd x.natAbs y.natAbs:Nat):Int)∣x:=Int.ofNat_dvd_left.2 (Nat.gcd_dvd_left _ _);have d2:((Nat.gcd x.natAbs y.natAbs:Nat):Int)∣y:=Int.ofNat_dvd_left.2 (Nat.gcd_dvd_right _ _);refine⟨?_,?_⟩
 ·rw[Rat.num_divInt,hg,jK hy,Int.neg_one_mul,Int.neg_ediv_of_dvd d1]
 ·rw[Rat.den_divInt,if_neg (by omega),hg,kZ,show((y.natAbs:Nat):Int)= -y by omega,Int.neg_ediv_of_dvd d2]
theorem yC{x:Int}{g:Nat}(h:(g:Int)∣x)(hg:0<g):(x/(g:Int)).natAbs≤x.natAbs:=by
 obtain⟨k,rfl⟩:=h;rw[Int.mul_ediv_cancel_left _ (by omega),cK];show k.natAbs≤g*k.natAbs;exact Nat.le_mul_of_pos_left _ hg
theorem gB(q:Rat):(0:Int)<q.den:=by
 have:=q.den_pos;omega
theorem PV(a b:Rat):Rat.divInt (a.num*b.den+b.num*a.den) (a.den*b.den)=a+b:=by
 rw[Rat.add_def',←dP,Rat.divInt_ofNat]
theorem PW(a b:Rat):Rat.divInt (a.num*b.num) (a.den*b.den)=a*b:=by
 rw[Rat.mul_def',←dP,Rat.divInt_ofNat]
theorem ZS(a b:Rat):Rat.divInt (a.num*b.den) (a.den*b.num)=a/b:=by
 rw[lC]
 conv=>rhs;rw[←lJ a,←lJ b,Rat.inv_divInt,l9]
theorem oT(x:Int):Rat.divInt x 1=(x:Rat):=by
 rw[show(1:Int)=((1:Nat):Int)from rfl,Rat.divInt_ofNat,Rat.mkRat_one]
theorem xj{n d:Int}{q:Rat}(hd:0<d)(h:q=Rat.divInt n d):∃g:Int,0<g∧n=q.num*g∧d=q.den*g:=by
 obtain⟨hn,hdd⟩:=(show(Rat.divInt n d).num=n/(Nat.gcd n.natAbs d.natAbs:Nat)∧((Rat.divInt n d).den:Int)=d/(Nat.gcd n.natAbs d.natAbs:Nat)by
  have hg:Int.gcd d n=Nat.gcd n.natAbs d.natAbs:=by rw[Int.gcd_comm];rfl
  refine⟨?_,?_⟩
  ·rw[Rat.num_divInt,hg,fV hd,Int.one_mul]
  ·rw[Rat.den_divInt,if_neg (by omega),hg,kZ,show((d.natAbs:Nat):Int)=d by omega])
 subst h;have hgp:0<Nat.gcd n.natAbs d.natAbs:=Nat.gcd_pos_of_pos_right _ (by omega);refine⟨(Nat.gcd n.natAbs d.natAbs:Nat),by omega,?_,?_⟩
 ·rw[hn];exact(Int.ediv_mul_cancel (Int.ofNat_dvd_left.2 (Nat.gcd_dvd_left _ _))).symm
 ·rw[hdd];exact(Int.ediv_mul_cancel (Int.ofNat_dvd_left.2 (Nat.gcd_dvd_right _ _))).symm
theorem H6{n d m e:Int}{a b:Rat}(hd:0<d)(he:0<e)(ha:a=Rat.divInt n d)(hb:b=Rat.divInt m e):nI (n*e) (m*d)=vM a b:=by
 obtain⟨g,hg,rfl,rfl⟩:=xj hd ha;obtain⟨k,hk,rfl,rfl⟩:=xj he hb;have e1:a.num*g*(b.den*k)=(a.num*b.den)*(g*k):=by grind
 have e2:b.num*k*(a.den*g)=(b.num*a.den)*(g*k):=by grind
 have hgk:0<g*k:=Int.mul_pos hg hk;have h1:(a.num*b.den*(g*k)<b.num*a.den*(g*k))↔a<b:=by
  rw[Rat.lt_iff];exact⟨fun h=>Int.lt_of_mul_lt_mul_right h (Int.le_of_lt hgk),fun h=>Int.mul_lt_mul_of_pos_right h hgk⟩
 have h2:(a.num*b.den*(g*k)=b.num*a.den*(g*k))↔a=b:=by
  rw[Int.mul_eq_mul_right_iff (by omega),Rat.eq_iff_mul_eq_mul]
 unfold nI vM;rw[e1,e2];simp only[h1,h2]
theorem H7(a b:Rat):nI (a.num*b.den) (b.num*a.den)=vM a b:=H6 (gB a) (gB b) (lJ a).symm (lJ b).symm
theorem Hc{q:Rat}:q.num.sign=vM q 0:=by
 unfold vM;by_cases h:q<0
 ·rw[if_pos h];rw[Rat.lt_iff]at h;exact jK (by simpa using h)
 ·rw[if_neg h];by_cases h0:q=0
  ·rw[if_pos h0,h0];rfl
  ·rw[if_neg h0];rw[Rat.lt_iff]at h;have:q.num≠0:=fun e=>h0 (Rat.num_eq_zero.1 e);have h:¬q.num<0:=by simpa using h
   exact fV (by omega)
abbrev qv(n:Sl)(nb:Bool)(d:Sl)(db:Bool):Value:=.agg #[.slice n.ao n.n n.c,.bool nb,.slice d.ao d.n d.c,.bool db]
abbrev pv(S:Int)(s:Sl)(R:Int)(t:Sl):Value:=.agg #[.int .i64 S,.slice s.ao s.n s.c,.int .i64 R,.slice t.ao t.n t.c]
def acz(s:ByteArray):Nat:=(bs s).findIdx (· ==47)
def over(s:ByteArray):ByteArray:=s.extract 0 (acz s)
def QF(n:Sl)(nb:Bool)(d:Sl)(db:Bool)(a:Nat×Rat):aD where
 p I w:=∃y:Int,(ZF n nb (a.1,a.2.num)).p I w∧(ZF d db (a.1,y)).p I w∧(y=a.2.den∨(y=0∧a.2.den=1))
 up:=by
  rintro I I' w w' ⟨y,h,h',hy⟩ h1 h2 h3;exact⟨y,(ZF n nb _).up h h1 h2 h3,(ZF d db _).up h' h1 h2 h3,hy⟩
def s9(L:Nat)(q:Rat)(v:Value)(Δ:List aD):Prop:=∃(n:Sl) (nb:Bool) (d:Sl) (db:Bool),v=qv n nb d db∧Δ=[QF n nb d db (L,q)]
def Ta(L:Nat)(q:Rat)(v:Value)(Δ:List aD):Prop:=∃(n:Sl) (nb:Bool) (d:Sl) (db:Bool),v=.tuple #[qv n nb d db,.int .i64 0]∧Δ=[QF n nb d db (L,q)]
section
variable{fin:VS→List aD→Prop}{Γ:List aD}{L M:Nat}
theorem X_{P:Program}{c:fG}(n:Sl)(nb:Bool)(d:Sl)(db:Bool){q:Rat} [h:aW (QF n nb d db) (L,q) Γ](hm:dD c.k=false)
  (hk:∀y:Int,(y=q.den∨(y=0∧q.den=1))→W tb P fin c (ZF n nb (L,q.num)::ZF d db (L,y)::Γ)):W tb P fin c Γ:=
 W.elim (α:=Int) (fun y=>y=q.den∨(y=0∧q.den=1)) (fun y=>[ZF n nb (L,q.num),ZF d db (L,y)]) hm (fun I w _ hh=>by
  obtain⟨y,h1,h2,h3⟩:=h.p hh;exact⟨y,h3,aG.cons h1 (aS h2)⟩) hk
theorem Aa{P:Program}{c:fG}(n:Sl)(nb:Bool)(d:Sl)(db:Bool){q:Rat} [h:aW (QF n nb d db) (L,q) Γ](hm:dD c.k=false)
  (hk:W tb P fin c (ZF n nb (L,q.num)::Γ)):W tb P fin c Γ:=
 W.elim (α:=Unit) (fun _=>True) (fun _=>[ZF n nb (L,q.num)]) hm (fun I w _ hh=>by
  obtain⟨y,h1,h2,h3⟩:=h.p hh;exact⟨(),trivial,aS h1⟩) (fun _ _=>hk)
theorem kg{n d:Sl}{nb db:Bool}{L':Nat}{q q':Rat} [h:aW (QF n nb d db) (L,q) Γ](hL:L≤L')(hq:q=q'):∀(I:fQ) (w:World),br tb I w→aG Γ I w→aG [QF n nb d db (L',q')] I w:=fun I w _ hh=>by
 subst hq;obtain⟨y,⟨⟨h1,h2,h3⟩,h4⟩,⟨⟨g1,g2,g3⟩,g4⟩,hy⟩:=h.p hh;exact aS ⟨y,⟨⟨h1,h2,aP h3 hL⟩,h4⟩,⟨⟨g1,g2,aP g3 hL⟩,g4⟩,hy⟩
theorem Jy{n d:Sl}{nb db:Bool}{L':Nat}{x y:Int}{q:Rat} [h:aW (ZF n nb) (L,x) Γ] [h':aW (ZF d db) (M,y) Γ](hL:L≤L')(hM:M≤L')(hx:x=q.num)(hy:y=q.den∨(y=0∧q.den=1)):∀(I:fQ) (w:World),br tb I w→aG Γ I w→aG [QF n nb d db (L',q)] I w:=fun I w _ hh=>by
 subst hx;obtain⟨⟨h1,h2,h3⟩,h4⟩:=h.p hh;obtain⟨⟨g1,g2,g3⟩,g4⟩:=h'.p hh;exact aS ⟨y,⟨⟨h1,h2,aP h3 hL⟩,h4⟩,⟨⟨g1,g2,aP g3 hM⟩,g4⟩,hy⟩
theorem ln{L':Nat}:∀(I:fQ) (w:World),br tb I w→aG Γ I w→aG [QF ⟨none,0,0⟩ false ⟨none,0,0⟩ false (L',0)] I w:=fun I w hd hh=>
 aS ⟨0,(zx (L':=L') I w hd hh).h0',(zx (L':=L') I w hd hh).h0',.inr ⟨rfl,rfl⟩⟩
theorem Yw{I:fQ}{w:World}{u t:Sl}{d c:Bool}{L M L':Nat}{x y:Int}(h:(ZF u d (L,x)).p I w)(h':(ZF t c (M,y)).p I w)(hx:x.natAbs≤y.natAbs)(hL:M≤L'):(ZF u d (L',x)).p I w:=by
 obtain⟨⟨h1,h2,h3⟩,h4⟩:=h;obtain⟨⟨g1,g2,g3⟩,g4⟩:=h';have h1:dV w u x.natAbs:=h1;have g1:dV w t y.natAbs:=g1;have:=h1.n_le g1 hx;simp only at g3;exact⟨⟨h1,h2,by simp only;omega⟩,h4⟩
theorem TG{n d u t:Sl}{nb db ub tb':Bool}{L' L1 M1:Nat}{x y a b:Int}{q:Rat} [h1:aW (ZF u ub) (L1,a) Γ] [h2:aW (ZF t tb') (M1,b) Γ] [h3:aW (ZF n nb) (L,x) Γ] [h4:aW (ZF d db) (M,y) Γ]
  (ha:a=q.num)(hb:b=q.den)(hx:a.natAbs≤x.natAbs)(hy:b.natAbs≤y.natAbs)(hL:L≤L')(hM:M≤L'):∀(I:fQ) (w:World),br tb I w→aG Γ I w→aG [QF u ub t tb' (L',q)] I w:=fun I w _ hh=>by
 refine aS ⟨b,?_,Yw (h2.p hh) (h4.p hh) hy hM,.inl hb⟩;rw[←ha];exact Yw (h1.p hh) (h3.p hh) hx hL
theorem x8(n:Sl)(nb:Bool)(d:Sl)(db:Bool){x y:Int} [hn:aW (ZF n nb) (L,x) Γ] [hd:aW (ZF d db) (M,y) Γ](hy:y≠0)(hL:L≤1000000000:=by omega)(hM:M≤1000000000:=by omega):
  aw tb Tryz.prog 215 [zv n nb,zv d db] Γ (s9 (max L M) (Rat.divInt x y)):=by
 have hgp:0<Nat.gcd x.natAbs y.natAbs:=Nat.gcd_pos_of_pos_right _ (by omega);have d1:((Nat.gcd x.natAbs y.natAbs:Nat):Int)∣x:=Int.ofNat_dvd_left.2 (Nat.gcd_dvd_left _ _);have d2:((Nat.gcd x.natAbs y.natAbs:Nat):Int)∣y:=Int.ofNat_dvd_left.2 (Nat.gcd_dvd_right _ _);have b1:=yC d1 hgp;have b2:=yC d2 hgp;have l1:=fun h=>R_ (x:=x) (y:=y) h;have l2:=fun h=>R9 (x:=x) (y:=y) h;obtain⟨g,hg⟩:∃g,g=Nat.gcd x.natAbs y.natAbs:=⟨_,rfl⟩;rw[←hg]at hgp d1 d2 b1 b2 l1 l2;have hs:(y/(g:Int)).sign=y.sign:=by
  obtain⟨k,hk⟩:=d2;rw[hk,Int.mul_ediv_cancel_left _ (by omega),Int.sign_mul,show(g:Int).sign=1 from fV (by omega),Int.one_mul]
 refine aw.of_W aB Tryz.func215 rfl ?_;refine aq [] (Bh n nb) ?_;rintro _ _ ⟨rfl,rfl⟩;refine aq [] (Bh d db) ?_;rintro _ _ ⟨rfl,rfl⟩;refine aq [] (ZH n d) ?_;rintro _ _ ⟨u3,rfl,rfl⟩;rw[←hg];refine aq [] (CZ 1 1 rfl (by omega)) ?_;rintro _ _ ⟨u4,rfl,rfl⟩;refine aq [] (Pm u3 u4) ?_;rintro _ _ ⟨rfl,rfl⟩;refine W.d [] 16 ((mV g 1) != 0) (fun hb=>?_) (fun hb=>?_)
 ·refine aq [16] (vY u3) ?_;rintro _ _ ⟨u6,d6,rfl,rfl⟩;refine aq [] (i_ n nb u6 d6 (by omega)) ?_;rintro _ _ ⟨u7,d7,v7,e7,rfl,rfl⟩;refine aq [] (vY u3) ?_;rintro _ _ ⟨u8,d8,rfl,rfl⟩;refine aq [] (i_ d db u8 d8 (by omega)) ?_;rintro _ _ ⟨u9,d9,v9,e9,rfl,rfl⟩;refine aq [] (ns u9 d9) ?_;rintro _ _ ⟨rfl,rfl⟩;rw[hs];by_cases hn0:y<0
  ·refine bj [] 35 (decide (y.sign<0)) (by rw[fM,zM];exact hn0) ?_;refine aq [35] (r_ u7 d7) ?_;rintro _ _ ⟨u11,d11,rfl,rfl⟩;refine aq [] (r_ u9 d9) ?_;rintro _ _ ⟨u12,d12,rfl,rfl⟩;exact W.r [] (qv u11 d11 u12 d12) ⟨_,_,_,_,rfl,rfl⟩ (TG (n:=n) (nb:=nb) (d:=d) (db:=db) (l2 hn0).1.symm (l2 hn0).2.symm (by omega) (by omega) (by omega) (by omega))
  ·refine aQ [] 35 (decide (y.sign<0)) (by rw[aX,zM];exact hn0) ?_;exact W.r [35] (qv u7 d7 u9 d9) ⟨_,_,_,_,rfl,rfl⟩ (TG (n:=n) (nb:=nb) (d:=d) (db:=db) (l1 (by omega)).1.symm (l1 (by omega)).2.symm (by omega) (by omega) (by omega) (by omega))
 ·have hg1:g=1:=by
   have:=eq_of_beq (show mV g 1==0 by simpa using hb);rw[Nh,DN]at this;omega
  subst hg1;simp only[Int.natCast_one,Int.ediv_one,Int.cast_ofNat_Int]at l1 l2;refine aq [16] (ns d db) ?_;rintro _ _ ⟨rfl,rfl⟩;by_cases hn0:y<0
  ·refine bj [] 35 (decide (y.sign<0)) (by rw[fM,zM];exact hn0) ?_;refine aq [35] (r_ n nb) ?_;rintro _ _ ⟨u14,d14,rfl,rfl⟩;refine aq [] (r_ d db) ?_;rintro _ _ ⟨u15,d15,rfl,rfl⟩;exact W.r [] (qv u14 d14 u15 d15) ⟨_,_,_,_,rfl,rfl⟩ (Jy (by omega) (by omega) (l2 hn0).1.symm (.inl (l2 hn0).2.symm))
  ·refine aQ [] 35 (decide (y.sign<0)) (by rw[aX,zM];exact hn0) ?_;exact W.r [35] (qv n nb d db) ⟨_,_,_,_,rfl,rfl⟩ (Jy (by omega) (by omega) (l1 (by omega)).1.symm (.inl (l1 (by omega)).2.symm))
theorem zD(n:Sl)(nb:Bool)(d:Sl)(db:Bool){x y:Int} [hn:aW (ZF n nb) (L,x) Γ] [hd:aW (ZF d db) (M,y) Γ](hy:y≠0)(hL:L≤1000000000:=by omega)(hM:M≤1000000000:=by omega):
  aw tb Tryz.prog 197 [zv n nb,zv d db] Γ (Ta (max L M) (Rat.divInt x y)):=by
 refine aw.of_W aB Tryz.func197 rfl ?_;refine aq [] (ns d db) ?_;rintro _ _ ⟨rfl,rfl⟩;refine aQ [] 8 (y.sign==0) (by rw[ed,ne_eq,yj];exact hy) ?_;refine aq [8] (x8 n nb d db hy) ?_;rintro _ _ ⟨n2,a2,m2,b2,rfl,rfl⟩;exact W.r [] (.tuple #[qv n2 a2 m2 b2,.int .i64 0]) ⟨_,_,_,_,rfl,rfl⟩ (kg (ak _) rfl)
theorem Bb(a b:Int)(hb:b≠0)(h1: -9223372036854775808≤a)(h2:a<9223372036854775808)(h3: -9223372036854775808≤b)(h4:b<9223372036854775808):
  aw tb Tryz.prog 154 [.int .i64 a,.int .i64 b] Γ (Ta 2 (Rat.divInt a b)):=by
 refine aw.of_W aB Tryz.func154 rfl ?_;refine aq [] (cU a h1 h2) ?_;rintro _ _ ⟨u1,d1,rfl,rfl⟩;refine aq [] (cU b h3 h4) ?_;rintro _ _ ⟨u2,d2,rfl,rfl⟩;refine aq [] (zD u1 d1 u2 d2 hb) ?_;rintro _ _ ⟨n3,a3,m3,b3,rfl,rfl⟩;exact W.r [] (.tuple #[qv n3 a3 m3 b3,.int .i64 0]) ⟨_,_,_,_,rfl,rfl⟩ (kg (by omega) rfl)
theorem cr(n:Sl)(nb:Bool){x:Int} [hn:aW (ZF n nb) (L,x) Γ]:
  aw tb Tryz.prog 130 [zv n nb] Γ (s9 (max L 2) (x:Rat)):=by
 refine aw.of_W aB Tryz.func130 rfl ?_;refine aq [] (cU 1 (by omega) (by omega)) ?_;rintro _ _ ⟨u1,d1,rfl,rfl⟩;exact W.r [] (qv n nb u1 d1) ⟨_,_,_,_,rfl,rfl⟩ (Jy (by omega) (by omega) rfl (.inl rfl))
theorem PA(n:Sl)(nb:Bool)(d:Sl)(db:Bool){q:Rat} [hn:aW (QF n nb d db) (L,q) Γ]:
  aw tb Tryz.prog 273 [qv n nb d db] Γ (o0 L q.num):=by
 refine aw.of_W aB Tryz.func273 rfl ?_;refine Aa n nb d db rfl ?_;exact W.r [] (zv n nb) ⟨_,_,rfl,rfl⟩ (lq (ak _) rfl)
theorem jy(n:Sl)(nb:Bool)(d:Sl)(db:Bool){q:Rat} [hn:aW (QF n nb d db) (L,q) Γ](hL:L≤1000000000:=by omega):
  aw tb Tryz.prog 138 [qv n nb d db] Γ (o0 (max L 2) (q.den:Int)):=by
 refine aw.of_W aB Tryz.func138 rfl ?_;refine X_ n nb d db rfl ?_;rintro y hy;refine aq [] (ns d db) ?_;rintro _ _ ⟨rfl,rfl⟩;have hp:=gB q;refine W.d [] 6 (y.sign==0) (fun hb=>?_) (fun hb=>?_)
 ·have h0:=yj.1 (eq_of_beq hb);refine aq [6] (cU 1 (by omega) (by omega)) ?_;rintro _ _ ⟨u2,d2,rfl,rfl⟩;exact W.r [] (zv u2 d2) ⟨_,_,rfl,rfl⟩ (lq (by omega) (by omega))
 ·have h0:y≠0:=fun h=>(kB hb) (yj.2 h);exact W.r [6] (zv d db) ⟨_,_,rfl,rfl⟩ (lq (by omega) (by omega))
theorem iZ(n:Sl)(nb:Bool)(d:Sl)(db:Bool){q:Rat} [hn:aW (QF n nb d db) (L,q) Γ](hL:L≤1000000000:=by omega):
  aw tb Tryz.prog 137 [qv n nb d db] Γ (jq (.int .i64 q.num.sign)):=by
 refine aw.of_W aB Tryz.func137 rfl ?_;refine Aa n nb d db rfl ?_;refine aq [] (ns n nb) ?_;rintro _ _ ⟨rfl,rfl⟩;exact W.r [] (.int .i64 (q.num).sign) ⟨rfl,rfl⟩ bT
theorem WC(n:Sl)(nb:Bool)(d:Sl)(db:Bool)(m:Sl)(mb:Bool)(e:Sl)(eb:Bool){a b:Rat} [hn:aW (QF n nb d db) (L,a) Γ] [hm:aW (QF m mb e eb) (M,b) Γ](hL:L≤1000000:=by omega)(hM:M≤1000000:=by omega):
  aw tb Tryz.prog 275 [qv n nb d db,qv m mb e eb] Γ (jq (.int .i64 (vM a b))):=by
 refine aw.of_W aB Tryz.func275 rfl ?_;refine Aa n nb d db rfl ?_;refine Aa m mb e eb rfl ?_;refine aq [] (jy m mb e eb) ?_;rintro _ _ ⟨u1,d1,rfl,rfl⟩;refine aq [] (mw n nb u1 d1) ?_;rintro _ _ ⟨u2,d2,rfl,rfl⟩;refine aq [] (jy n nb d db) ?_;rintro _ _ ⟨u3,d3,rfl,rfl⟩;refine aq [] (mw m mb u3 d3) ?_;rintro _ _ ⟨u4,d4,rfl,rfl⟩;refine aq [] (pI u2 d2 u4 d4) ?_;rintro _ _ ⟨rfl,rfl⟩;exact W.r [] (.int .i64 (nI (a.num*(b.den:Int)) (b.num*(a.den:Int)))) ⟨by rw[H7],rfl⟩ bT
theorem pG(n:Sl)(nb:Bool)(d:Sl)(db:Bool){q:Rat} [hn:aW (QF n nb d db) (L,q) Γ](hL:L≤1000000000:=by omega):
  aw tb Tryz.prog 191 [qv n nb d db] Γ (s9 L (-q)):=by
 refine aw.of_W aB Tryz.func191 rfl ?_;refine X_ n nb d db rfl ?_;rintro y hy;refine aq [] (r_ n nb) ?_;rintro _ _ ⟨u1,d1,rfl,rfl⟩;exact W.r [] (qv u1 d1 d db) ⟨_,_,_,_,rfl,rfl⟩ (Jy (by omega) (by omega) (by rw[Rat.neg_num]) (by rw[Rat.neg_den];exact hy))
theorem ft(n:Sl)(nb:Bool)(d:Sl)(db:Bool)(m:Sl)(mb:Bool)(e:Sl)(eb:Bool){a b:Rat} [hn:aW (QF n nb d db) (L,a) Γ] [hm:aW (QF m mb e eb) (M,b) Γ](hL:L≤1000000:=by omega)(hM:M≤1000000:=by omega):
  aw tb Tryz.prog 155 [qv n nb d db,qv m mb e eb] Γ (s9 (L+M+5) (a+b)):=by
 refine aw.of_W aB Tryz.func155 rfl ?_;refine Aa n nb d db rfl ?_;refine Aa m mb e eb rfl ?_;refine aq [] (jy m mb e eb) ?_;rintro _ _ ⟨u1,d1,rfl,rfl⟩;refine aq [] (mw n nb u1 d1) ?_;rintro _ _ ⟨u2,d2,rfl,rfl⟩;refine aq [] (jy n nb d db) ?_;rintro _ _ ⟨u3,d3,rfl,rfl⟩;refine aq [] (mw m mb u3 d3) ?_;rintro _ _ ⟨u4,d4,rfl,rfl⟩;refine aq [] (mu u2 d2 u4 d4) ?_;rintro _ _ ⟨u5,d5,rfl,rfl⟩;refine aq [] (jy n nb d db) ?_;rintro _ _ ⟨u6,d6,rfl,rfl⟩;refine aq [] (jy m mb e eb) ?_;rintro _ _ ⟨u7,d7,rfl,rfl⟩;refine aq [] (mw u6 d6 u7 d7) ?_;rintro _ _ ⟨u8,d8,rfl,rfl⟩;refine aq [] (x8 u5 d5 u8 d8 (kn (by have:=gB a;omega) (by have:=gB b;omega))) ?_;rintro _ _ ⟨n9,a9,m9,b9,rfl,rfl⟩;exact W.r [] (qv n9 a9 m9 b9) ⟨_,_,_,_,rfl,rfl⟩ (kg (by omega) (PV a b))
theorem En(n:Sl)(nb:Bool)(d:Sl)(db:Bool)(m:Sl)(mb:Bool)(e:Sl)(eb:Bool){a b:Rat} [hn:aW (QF n nb d db) (L,a) Γ] [hm:aW (QF m mb e eb) (M,b) Γ](hL:L≤1000000:=by omega)(hM:M≤1000000:=by omega):
  aw tb Tryz.prog 255 [qv n nb d db,qv m mb e eb] Γ (s9 (L+M+5) (a-b)):=by
 refine aw.of_W aB Tryz.func255 rfl ?_;refine aq [] (pG m mb e eb) ?_;rintro _ _ ⟨n1,a1,m1,b1,rfl,rfl⟩;refine aq [] (ft n nb d db n1 a1 m1 b1) ?_;rintro _ _ ⟨n2,a2,m2,b2,rfl,rfl⟩;exact W.r [] (qv n2 a2 m2 b2) ⟨_,_,_,_,rfl,rfl⟩ (kg (by omega) (Rat.sub_eq_add_neg _ _).symm)
theorem bU(n:Sl)(nb:Bool)(d:Sl)(db:Bool)(m:Sl)(mb:Bool)(e:Sl)(eb:Bool){a b:Rat} [hn:aW (QF n nb d db) (L,a) Γ] [hm:aW (QF m mb e eb) (M,b) Γ](hL:L≤1000000:=by omega)(hM:M≤1000000:=by omega):
  aw tb Tryz.prog 195 [qv n nb d db,qv m mb e eb] Γ (s9 (L+M+5) (a*b)):=by
 refine aw.of_W aB Tryz.func195 rfl ?_;refine Aa n nb d db rfl ?_;refine Aa m mb e eb rfl ?_;refine aq [] (mw n nb m mb) ?_;rintro _ _ ⟨u1,d1,rfl,rfl⟩;refine aq [] (jy n nb d db) ?_;rintro _ _ ⟨u2,d2,rfl,rfl⟩;refine aq [] (jy m mb e eb) ?_;rintro _ _ ⟨u3,d3,rfl,rfl⟩;refine aq [] (mw u2 d2 u3 d3) ?_;rintro _ _ ⟨u4,d4,rfl,rfl⟩;refine aq [] (x8 u1 d1 u4 d4 (kn (by have:=gB a;omega) (by have:=gB b;omega))) ?_;rintro _ _ ⟨n5,a5,m5,b5,rfl,rfl⟩;exact W.r [] (qv n5 a5 m5 b5) ⟨_,_,_,_,rfl,rfl⟩ (kg (by omega) (PW a b))
theorem rZ(n:Sl)(nb:Bool)(d:Sl)(db:Bool)(m:Sl)(mb:Bool)(e:Sl)(eb:Bool){a b:Rat} [hn:aW (QF n nb d db) (L,a) Γ] [hm:aW (QF m mb e eb) (M,b) Γ](hb:b≠0)(hL:L≤1000000:=by omega)(hM:M≤1000000:=by omega):
  aw tb Tryz.prog 133 [qv n nb d db,qv m mb e eb] Γ (Ta (L+M+5) (a/b)):=by
 refine aw.of_W aB Tryz.func133 rfl ?_;refine Aa n nb d db rfl ?_;refine Aa m mb e eb rfl ?_;refine aq [] (jy m mb e eb) ?_;rintro _ _ ⟨u1,d1,rfl,rfl⟩;refine aq [] (mw n nb u1 d1) ?_;rintro _ _ ⟨u2,d2,rfl,rfl⟩;refine aq [] (jy n nb d db) ?_;rintro _ _ ⟨u3,d3,rfl,rfl⟩;refine aq [] (mw u3 d3 m mb) ?_;rintro _ _ ⟨u4,d4,rfl,rfl⟩;refine aq [] (zD u2 d2 u4 d4 (kn (by have:=gB a;omega) (fun h=>hb (Rat.num_eq_zero.1 h)))) ?_;rintro _ _ ⟨n5,a5,m5,b5,rfl,rfl⟩;exact W.r [] (.tuple #[qv n5 a5 m5 b5,.int .i64 0]) ⟨_,_,_,_,rfl,rfl⟩ (kg (by omega) (ZS a b))
theorem nV(n:Sl)(nb:Bool)(d:Sl)(db:Bool){q:Rat} [hn:aW (QF n nb d db) (L,q) Γ](hL:L≤1000000:=by omega):
  aw tb Tryz.prog 134 [qv n nb d db] Γ (o0 (L+3) (oD q)):=by
 refine aw.of_W aB Tryz.func134 rfl ?_;refine Aa n nb d db rfl ?_;refine aq [] (jy n nb d db) ?_;rintro _ _ ⟨u1,d1,rfl,rfl⟩;refine aq [] (i_ n nb u1 d1 (by have:=gB q;omega)) ?_;rintro _ _ ⟨u2,d2,v2,e2,rfl,rfl⟩;exact W.r [] (zv u2 d2) ⟨_,_,rfl,rfl⟩ (lq (by omega) rfl)
end
section
variable{fin:VS→List aD→Prop}{Γ:List aD}{L M:Nat}
end
theorem RU(b:UInt8)(l:List UInt8)(c:UInt8):Lib.indexByte (b::l) c=if b==c then 0 else if Lib.indexByte l c== -1 then-1 else Lib.indexByte l c+1:=by rw[Lib.indexByte]
section
variable{fin:VS→List aD→Prop}{Γ:List aD}{L M:Nat}
end
section
variable{fin:VS→List aD→Prop}{Γ:List aD}{L M:Nat}
end
structure QE where
 n:Sl
 nb:Bool
 d:Sl
 db:Bool
 q:Rat
def QR:kG QE where
 z:=4
 cells e:=[.slice e.n.ao e.n.n e.n.c,.bool e.nb,.slice e.d.ao e.d.n e.d.c,.bool e.db]
 len _:=rfl
 fact L e:=QF e.n e.nb e.d e.db (L,e.q)
section
variable{Γ:List aD}{L M:Nat}
end
open Go.RowKit
def Kx(T:Tb)(e:Ev):Option (Nat×Nat×Value×Option Value×Option Value):=
 match e with
 | .read o c=>match o.op with
  | .slice ty x lo hi none=>match T.get ty,c.s.ev x,QO c.s lo,QO c.s hi with
   |some t,.val a,some l,some h=>bif (Nat.beq t.kind 4&& !Nat.beq t.esize 0)then some (t.alen,t.esize,a,l,h)else none
   |_,_,_,_=>none
  |_=>none
 |_=>none
def P6(T:Tb)(e:Ev):Option (Nat×Value):=
 match e with
 | .read o c=>match o.op with
  | .fieldAddr ty x f=>match T.get ty,c.s.ev x with
   |some t,.val a=>match t.fields[f]? with
    |some (o,sz,_)=>bif Nat.beq sz 0 then none else some (o,a)
    |none=>none
   |_,_=>none
  |_=>none
 |_=>none
def Kq(T:Tb)(e:Ev):Option (List (Nat×List Value)×Nat×Value×Value):=
 match e with
 | .own o c=>match o.op with
  | .call cl=>match cl.callee,cl.args.toList,cl.argTypes.toList with
   | .builtin .copy,[sx,xx],[t1,t2]=>match c.s.ev sx,c.s.ev xx,T.get t1 with
    | .val a,.val b,some y1=>bif (Nat.beq y1.kind 3&& !Nat.beq y1.esize 0)then some (c.s.own,y1.esize,a,b)else none
    |_,_,_=>none
   |_,_,_=>none
  |_=>none
 |_=>none
def uU(T:Tb)(e:Ev):Option (Bool×Nat×Value×List (Nat×List Value)):=
 match e with
 | .read o c=>match o.op with
  | .load ty x=>match T.get ty,c.s.ev x with
   |some t,.val a=>some (t.agg,t.size,a,c.s.own)
   |_,_=>none
  |_=>none
 |_=>none
section
variable{T:Tb}{P:Program}{fin:VS→List aD→Prop}{c:fG}{Γ:List aD}
theorem wv(D:List Nat)(alen z b off:Nat)(lo hi:Option Value)(l r:Nat)(hT:T.Ok P)
  (hl:lo=some (.int .i64 (l:Int))∨(lo=none∧l=0))(hr:hi=some (.int .i64 (r:Int))∨(hi=none∧r=alen))(hlr:l≤r)(hrs:r≤alen)(hla:l<alen)
  (hk:W T P fin (gg (aL T (bh T D 999 c)) (.slice (some ⟨b,off+l*z,none⟩) (r-l) (alen-l))) Γ)(h:Kx T (aL T (bh T D 999 c))=some (alen,z,.pointer (some ⟨b,off,none⟩),lo,hi):=by kernel_rfl):W T P fin c Γ:=by
 refine eD D 999 ?_;generalize bh T D 999 c=c1 at*;unfold Kx at h;split at h
 ·rename_i o c' he;rw[he]at hk;split at h
  ·rename_i ty x lo' hi' hop;split at h
   ·rename_i t a l' h' ht ha hlo hhi;cases hkd:(Nat.beq t.kind 4&& !Nat.beq t.esize 0)with
    |false=>simp[hkd]at h
    |true=>
     simp only[hkd,bV,ar,aH]at h;obtain⟨rfl,rfl,rfl,rfl,rfl⟩:=h;simp only[aM]at hkd;refine W.read _ he (.any ?_) hk;intro w;obtain⟨hd,hes⟩:=pz hT ht (aI hkd.1);have hie:∃ie,P.info? t.elem=some ie∧ie.size=t.esize:=by
      cases hie:P.info? t.elem with
      |none=>
       simp[hie]at hes;rw[←hes]at hkd;simp at hkd
      |some ie=>exact⟨ie,rfl,by simp[hie]at hes;omega⟩
     obtain⟨ie,hie,hin⟩:=hie;have hrho:∀(q:Option Operand) (z:Option Value),QO c'.s q=some z→q.map c'.s.rho=z:=by
      intro q z hq;cases q with
      |none=>simp[QO]at hq;exact hq
      |some x=>
       simp only[QO]at hq;split at hq
       ·rename_i v hv;injection hq with hq;subst hq;simp[cC hv]
       ·simp at hq
     have hm1:=hrho _ _ hlo;have hm2:=hrho _ _ hhi;have hne:¬t.alen=l:=by omega
     have hla':l≤t.alen:=by omega
     simp only[execOp,hop,Instr.sliceAt,cz,cL hd,bB,cC ha,hm1,hm2];rcases hl with rfl|⟨rfl,rfl⟩<;>rcases hr with rfl|⟨rfl,rfl⟩<;>simp[Instr.sureAddr,Instr.sliceBounds,Instr.sliceBound,asIntOf,hlr,hrs,hla',hne,iI hie,hin,gP]
   ·simp at h
  ·simp at h
 ·simp at h
theorem bZ(D:List Nat)(ofs b off:Nat)(hT:T.Ok P)
  (hk:W T P fin (gg (aL T (bh T D 999 c)) (.pointer (some ⟨b,off+ofs,none⟩))) Γ)(h:P6 T (aL T (bh T D 999 c))=some (ofs,.pointer (some ⟨b,off,none⟩)):=by kernel_rfl):W T P fin c Γ:=by
 refine eD D 999 ?_;generalize bh T D 999 c=c1 at*;unfold P6 at h;split at h
 ·rename_i o c' he;rw[he]at hk;split at h
  ·rename_i ty x f hop;split at h
   ·rename_i t a ht ha;split at h
    ·rename_i ofs' sz ag hf;cases hsz:Nat.beq sz 0 with
     |true=>simp[hsz]at h
     |false=>
      simp only[hsz,cI,ar,aH]at h;obtain⟨rfl,rfl⟩:=h;refine W.read _ he (.any ?_) hk;intro w;have hsz':sz≠0:=by
       rintro rfl;simp at hsz
      obtain⟨fs,hd,hfs⟩:=oL hT ht (vr hT ht hf);rw[hfs,bK]at hf;cases hff:fs.toList[f]? with
      |none=>rw[hff]at hf;simp at hf
      |some fl=>
       rw[hff]at hf;simp only[c_,ar,aH]at hf;obtain⟨hf1,hf2,hf3⟩:=hf;have hff':fs[f]? =some fl:=by rw[←eO];exact hff
       cases hfi:P.info? fl.type with
       |none=>simp[hfi]at hf2;exact absurd hf2.symm hsz'
       |some fi=>
        simp[hfi]at hf2;have hne:¬fi.size=0:=by rw[hf2];exact hsz'
        simp[execOp,hop,Instr.fieldAt,cL hd,hff',Instr.sureAddr,cC ha,fieldPlace,iI hfi,hne,gP,hf1]
    ·simp at h
   ·simp at h
  ·simp at h
 ·simp at h
theorem wu(D:List Nat)(own:List (Nat×List Value))(b off n:Nat)(row cs:List Value)(hT:T.Ok P)
  (hm:(b,row)∈own)(hcs:(row.drop off).take n=cs)(hn:cs.length=n)
  (hk:W T P fin (gg (aL T (bh T D 999 c)) (.agg cs.toArray)) Γ)(h:uU T (aL T (bh T D 999 c))=some (true,n,.pointer (some ⟨b,off,none⟩),own):=by kernel_rfl):W T P fin c Γ:=by
 refine eD D 999 ?_;generalize bh T D 999 c=c1 at*;unfold uU at h;split at h
 ·rename_i o c' he;rw[he]at hk;split at h
  ·rename_i ty u hop;split at h
   ·rename_i t a ht ha;simp only[ar,aH]at h;obtain⟨hag,hsz,rfl,rfl⟩:=h;refine W.read _ he (.look (by simp[iY,hop]) ?_) hk;intro I w hd hh ho;obtain⟨e',_,hblk⟩:=ho b row hm;obtain⟨i,d,hi,hdd,hz,hsz',hag',_⟩:=e_ (hT.ty _ _ ht);have hl:=run_loadCells_list (P:=P) w ⟨b,off,none⟩ cs (fun j v hj=>by
     rw[gP,nH hblk];rw[←hcs,dF]at hj;split at hj
     ·rw[List.getElem?_drop]at hj;exact hj
     ·simp at hj)
    rw[hn,←hsz,←hsz']at hl;simp only[execOp,hop,Instr.loadAt,Instr.sureAddr,cC ha,loadVar,cz,Sem.run_map,dS,Sem.run_ite,bB,kV hdd,hag',hag,e8,iI hi,hl]
   ·simp at h
  ·simp at h
 ·simp at h
theorem CX{O1 O2:List (Nat×List Value)}{g:Nat}{row:List Value}(h:((O1++(g,row)::O2).map (·.1)).Nodup):∀b cs,((b,cs)∈O1∨(b,cs)∈O2)→b≠g:=by
 rintro b cs hb rfl;simp only[aT,bY,fC,ko]at h;obtain⟨_,⟨h2,_⟩,h3⟩:=h;rcases hb with hb|hb
 ·exact h3 _ (List.mem_map.2 ⟨(b,cs),hb,rfl⟩) _ (by simp) rfl
 ·exact h2 (List.mem_map.2 ⟨(b,cs),hb,rfl⟩)
theorem X8(D:List Nat)(own O1 O2:List (Nat×List Value))(z g off dl dc m:Nat)(row:List Value)(x:Value)(news:List Value)(hT:T.Ok P)
   (ho:own=O1++(g,row)::O2)(hx:p5 T Γ own x m z news)(h1:∀u∈news,u.oneCell'=true)
  (hm:m≤dl)(hfit:off+news.length≤row.length)
  (hk:W T P fin (mz (aL T (bh T D 999 c)) (O1++(g,row.take off++news++row.drop (off+news.length))::O2) (.int .i64 (m:Nat))) Γ)(h:Kq T (aL T (bh T D 999 c))=some (own,z,.slice (some ⟨g,off,none⟩) dl dc,x):=by kernel_rfl):W T P fin c Γ:=by
 refine eD D 999 ?_;generalize bh T D 999 c=c1 at*;unfold Kq at h;split at h
 ·rename_i o c' he;rw[he]at hk;split at h
  ·rename_i cl hop;split at h
   ·rename_i sx xx t1 t2 hcal hargs htys;split at h
    ·rename_i a b y1 ha hbv hy;cases hc:(Nat.beq y1.kind 3&& !Nat.beq y1.esize 0)with
     |false=>simp[hc]at h
     |true=>
      simp only[hc,bV,ar,aH]at h;obtain⟨hown,rfl,rfl,rfl⟩:=h;simp only[aM,cD]at hc;obtain⟨c2,c3⟩:=hc;have hne:y1.esize≠0:=by
       intro e0;rw[e0]at c3;simp at c3
      obtain⟨e,hd,hsz⟩:=vV hT hy (aI c2);have hie:∃ie,P.info? e=some ie∧ie.size=y1.esize:=by
       cases hie:P.info? e with
       |none=>simp[hie]at hsz;exact absurd hsz.symm hne
       |some ie=>exact⟨ie,rfl,by simp[hie]at hsz;omega⟩
      obtain⟨ie,hie,hin⟩:=hie;have hcargs:cl.args= #[sx,xx]:=by rw[←fx];exact hargs
      have hctys:cl.argTypes= #[t1,t2]:=by rw[←fx];exact htys
      obtain⟨ao,cc,rfl,hnl,hrd⟩:=hx;refine W.own (fun v' iN Δ=>v'=.int .i64 (m:Nat)∧iN=O1++(g,row.take off++news++row.drop (off+news.length))::O2∧Δ=[]) he (fun I w hdo hh hoa hnod _=>?_) ?_
      ·rw[hown]at hoa hnod;obtain⟨e',he',hblk⟩:=hoa g row (by rw[ho];simp);have hst:=run_storeCells_at P g off e' news 0 row.toArray w hblk (by simpa using hfit) h1;simp only[ff]at hst;have hf:(Builtin.firstCells y1.esize m (.slice ao m cc)).run P w=.ok news.toArray w:=by
        by_cases hm0:m=0
        ·subst hm0;obtain rfl:news=[]:=aN (by simpa using hnl);cases ao<;>simp[Builtin.firstCells,loadCells,loadCellsFrom]
        ·obtain⟨ad,rfl,hrd2⟩:=hrd (by omega);exact run_firstCells_some (P:=P) w y1.esize m ad m cc news hnl (hrd2 I w hdo hh hoa)
       have hmin:Nat.min m dl=m:=fr hm;have hrun:(Builtin.copy_ #[t1,t2] o.type #[.slice (some ⟨g,off,none⟩) dl dc,.slice ao m cc]).run P w=.ok (goInt m) (w.setRow g (row.take off++news++row.drop (off+news.length)).toArray):=by
        simp[Builtin.copy_,cL hd,Builtin.lenOf,hmin,iI hie,hin,hf,hst]
       have hexec:(execOp c'.s.rho o).run P w=.ok (.value (goInt m)) (w.setRow g (row.take off++news++row.drop (off+news.length)).toArray):=by
        simp[execOp,hop,resolve,invoke,builtin,hcal,hcargs,hctys,cC ha,cC hbv,hrun]
       refine⟨_,_,[],_,_,hexec,.inl rfl,⟨rfl,rfl,rfl⟩,fun q hq _=>⟨rfl,rfl,rfl,by simp,fun k hk=>oE w g k _ (by have:=hq g row (by rw[hown,ho];simp);omega)⟩,by simp,fun k hk hk'=>oE w g k _ (by rintro rfl;exact hk' row (by rw[hown,ho];simp)),fun b cs hb=>?_,fun b cs hb=>?_,?_,aG.nil _ _⟩
       ·have hother:((b,cs)∈O1∨(b,cs)∈O2)→∃e,T.dat e=false∧(w.setRow g (row.take off++news++row.drop (off+news.length)).toArray).heap[b]? =some (Obj.cells cs.toArray e (0,0)):=by
         intro hb;have hbg:=CX (by rw[←ho];exact hnod) b cs hb;obtain⟨e,he2,hc⟩:=hoa b cs (by rw[ho];rcases hb with h|h<;>simp[h]);exact⟨e,he2,by rw[oE w g b _ hbg];exact hc⟩
        rcases List.mem_append.1 hb with hb|hb
        ·exact hother (.inl hb)
        ·rcases List.mem_cons.1 hb with hb|hb
         ·injection hb with h1' h2';subst h1' h2';exact⟨e',he',by simpa using setRow_heap w b _ _ e' _ hblk⟩
         ·exact hother (.inr hb)
       ·rcases List.mem_append.1 hb with hb|hb
        ·exact .inl ⟨cs,by rw[hown,ho];simp[hb]⟩
        ·rcases List.mem_cons.1 hb with hb|hb
         ·injection hb with h1' h2';subst h1' h2';exact .inl ⟨row,by rw[hown,ho];simp⟩
         ·exact .inl ⟨cs,by rw[hown,ho];simp[hb]⟩
       ·rw[ho]at hnod;simpa using hnod
      ·rintro v' iN Δ ⟨rfl,rfl,rfl⟩;exact hk
    ·simp at h
   ·simp at h
  ·simp at h
 ·simp at h
def qK(T:Tb)(t:Nat):Nat→fG→fG
 |0,c=>c
 |n+1,c=>bif ((c.s.boxes.getD t none).isSome&& !dD c.k)then c else match aL T c with
  | .next c'=>qK T t n c'
  |_=>c
theorem DF(t:Nat):∀(n:Nat) {c:fG},W T P fin (qK T t n c) Γ→W T P fin c Γ
 |0,_,h=>h
 |n+1,c,h=>by
  unfold qK at h;cases hb:((c.s.boxes.getD t none).isSome&& !dD c.k)with
  |true=>simp only[hb,bV]at h;exact h
  |false=>
   simp only[hb,cI]at h;split at h
   ·rename_i c' hc;exact W.next hc (DF t n h)
   ·exact h
def Kz(t:Nat)(c:fG):Bool:=(c.s.boxes.getD t none).isSome&& !dD c.k
def acy(t b:Nat)(c:fG):fG:=⟨c.s.reveal t b,c.k⟩
theorem vn(t:Nat)(hk:∀b,W T P fin (acy t b (qK T t 999 c)) Γ)(h:Kz t (qK T t 999 c)=true:=by kernel_rfl):W T P fin c Γ:=by
 refine DF t 999 ?_;generalize qK T t 999 c=c1 at*;obtain⟨s,k⟩:=c1;unfold Kz at h;rw[aM,cD]at h;exact W.reveal t h.2 h.1 hk
def revp(t b:Nat)(c:fG):fG:=⟨⟨nv t b c.s.tmps,c.s.boxes.set t none,c.s.own,c.s.maps⟩,c.k⟩
theorem W.revp(t:Nat)(row:List Value)
  (hk:∀b,W T P fin (YtgaaopjagcaojaaGreat.revp t b (qK T t 999 c)) (ek b row::Γ))(h:Kz t (qK T t 999 c)=true:=by kernel_rfl)(hr:(qK T t 999 c).s.boxes.getD t none=some row:=by kernel_rfl):W T P fin c Γ:=by
 refine DF t 999 ?_;generalize qK T t 999 c=c1 at*;obtain⟨s,k⟩:=c1;unfold Kz at h;rw[aM,cD]at h;refine W.reveal t h.2 h.1 (fun b=>?_);have e:s.reveal t b=⟨nv t b s.tmps,s.boxes.set t none,[]++(b,row)::s.own,s.maps⟩:=by
  unfold VS.reveal;rw[hr];rfl
 rw[e];exact W.pub (O1:=[]) (O2:=s.own) (b:=b) (cs:=row) h.2 rfl (hk b)
theorem ju(D:List Nat)(b off:Nat){row:List Value}(cs:List Value) [hr:aW (ek b) row Γ](hT:T.Ok P)
  (hcs:(row.drop off).take cs.length=cs)
  (hk:W T P fin (gg (aL T (bh T D 999 c)) (.agg cs.toArray)) Γ)(h:Bt T (aL T (bh T D 999 c))=some (true,cs.length,.pointer (some ⟨b,off,none⟩)):=by kernel_rfl):W T P fin c Γ:=
 cV D b off cs hT (h:=h) (fun I w _ hh j v hv=>by
  rw[oU (hr.p hh)];rw[←hcs,dF]at hv;split at hv
  ·rw[List.getElem?_drop]at hv;exact hv
  ·simp at hv) hk
theorem gT(D:List Nat){f:FuncId}{args:List Value}{Γ':List aD}{post:Value→List aD→Prop}(hs:∀I w,br T I w→aG Γ I w→aG Γ' I w)(hp:aw T P f args (Γ'++Γ) post)
  (hk:∀v Δ,post v Δ→W T P fin (gg (aL T (bh T D 999 c)) v) (Δ++Γ))(h:rI (aL T (bh T D 999 c))=some (f,args):=by kernel_rfl):W T P fin c Γ:=
 Jj D 999 h hp (fun I w hd hh F hF=>by
  rcases List.mem_append.1 hF with h|h
  ·exact hs I w hd hh F h
  ·exact hh F h) hk
theorem W.more{Δ:List aD}(hm:dD c.k=false)(hs:∀I w,br T I w→aG Γ I w→aG Δ I w)(hk:W T P fin c (Δ++Γ)):W T P fin c Γ:=
 W.elim (α:=Unit) (fun _=>True) (fun _=>Δ) hm (fun I w hd hh=>⟨(),trivial,hs I w hd hh⟩) (fun _ _=>hk)
def dN(T:Tb):Nat→fG→fG
 |0,c=>c
 |n+1,c=>bif dD c.k then(match aL T c with
  | .next c'=>dN T n c'
  |_=>c)else c
theorem W.code:∀(n:Nat) {c:fG},W T P fin (dN T n c) Γ→W T P fin c Γ
 |0,_,h=>h
 |n+1,c,h=>by
  unfold dN at h;cases hb:dD c.k with
  |false=>simp only[hb,cI]at h;exact h
  |true=>
   simp only[hb,bV]at h;split at h
   ·rename_i c' hc;exact W.next hc (W.code n h)
   ·exact h
end
theorem ZX(x z:Nat):4*(x*z)≤(x+z)*(x+z):=by
 rcases Nat.le_total x z with h|h
 ·obtain⟨d,rfl⟩:∃d,z=x+d:=⟨z-x,by omega⟩;have e:(x+(x+d))*(x+(x+d))=4*(x*(x+d))+d*d:=by grind
  omega
 ·obtain⟨d,rfl⟩:∃d,x=z+d:=⟨x-z,by omega⟩;have e:(z+d+z)*(z+d+z)=4*((z+d)*z)+d*d:=by grind
  omega
theorem L_{a x:Nat}(hx:0<x):a<((x+a/x)/2+1)*((x+a/x)/2+1):=by
 have h1:a<x*(a/x+1):=by
  have:=fP a x;have:=fB a hx;rw[fA];omega
 generalize a/x=q at*;have h2:=ZX x (q+1);have h3:x+(q+1)≤2*((x+q)/2+1):=by omega
 generalize(x+q)/2+1=y at*;have h4:(x+(q+1))*(x+(q+1))≤2*y*(2*y):=aY h3 h3;have e:2*y*(2*y)=4*(y*y):=by grind
 omega
theorem Qd{a x:Nat}(hx:0<x)(h:x≤(x+a/x)/2):x*x≤a:=by
 have h1:x≤a/x:=by omega
 exact(jZ hx).1 h1
theorem I3{a b k:Nat}(h:a<2^b)(hk:b≤2*k):a<(2^k+1)*(2^k+1):=by
 have h1:2^b≤2^(2*k):=cY (by omega) hk;have e:2^(2*k)=2^k*2^k:=by rw[Nat.two_mul,cP]
 have:2^k*2^k≤(2^k+1)*(2^k+1):=aY (by omega) (by omega);omega
def lD(w:World)(s:Sl)(x b4 B:Nat)(k:Nat)(wr:World):Prop:=∃sx:Sl,
 wr.heap[w.heap.size]? =some (.cells #[.slice s.ao s.n s.c] 110 (0,0))∧wr.heap[w.heap.size+1]? =some (.cells #[.slice none 0 0] 110 (0,0))∧
 wr.heap[w.heap.size+1+1]? =some (.cells #[.slice none 0 0] 110 (0,0))∧wr.heap[b4]? =some (.cells #[.slice sx.ao sx.n sx.c] 110 (0,0))∧
 dV wr s x∧dV wr sx k∧0<k∧x<(k+1)*(k+1)∧sx.n≤B∧Below w.heap.size w wr
theorem Wq(w:World):Calls Tryz.prog 193 #[.int .u64 1] w fun e w'=>
   ∃u:Sl,e=.returned (.agg #[.slice u.ao u.n u.c])∧dV w' u 1∧u.n≤2∧Below w.heap.size w w':=Ef 1 w (by omega)
def MG(w:World)(s:Sl)(x:Nat)(e:Ending)(w':World):Prop:=
 ∃(u v:Sl) (r:Nat),e=.returned (.tuple #[.agg #[.slice u.ao u.n u.c],.agg #[.slice v.ao v.n v.c]])∧dV w' u r∧dV w' v (x-r*r)∧r*r≤x∧x<(r+1)*(r+1)∧u.n≤s.n∧v.n≤s.n∧Below w.heap.size w w'
theorem Na{w:World}{s:Sl}{x:Nat}(h:dV w s x):bl x≤32*s.n:=by
 rw[qV];obtain⟨l,k1,k2,k3,k4⟩:=h;have k5:=mE 4294967296 l k2;rw[Kl,←k1.1,k4]at k5;exact k5
def eM(w:World)(s:Sl)(x:Nat)(w':World):Prop:=
 w'.heap[w.heap.size]? =some (.cells #[.slice s.ao s.n s.c] 110 (0,0))∧w'.heap[w.heap.size+1]? =some (.cells #[.slice none 0 0] 110 (0,0))∧
 w'.heap[w.heap.size+1+1]? =some (.cells #[.slice none 0 0] 110 (0,0))∧dV w' s x∧Below w.heap.size w w'
theorem eM.up{w:World}{s:Sl}{x:Nat}{w' w'':World}(h:eM w s x w')(hb:Below w'.heap.size w' w''):eM w s x w'':=
 ⟨bG hb h.1,bG hb h.2.1,bG hb h.2.2.1,h.2.2.2.1.up hb,h.2.2.2.2.trans (hb.mono h.2.2.2.2.size)⟩
theorem eM.alloc{w:World}{s:Sl}{x:Nat}{w':World}(h:eM w s x w')(o:Obj):eM w s x (w'.alloc o):=h.up ((bD _ _).alloc (ak _) o)
theorem eM.drew{w:World}{s:Sl}{x:Nat}{w':World}(h:eM w s x w'):eM w s x w'.drew:=⟨h.1,h.2.1,h.2.2.1,h.2.2.2.1,h.2.2.2.2.drew⟩
theorem eM.cell{w:World}{s:Sl}{x:Nat}{w':World}(h:eM w s x w'):w'.cell? ⟨w.heap.size,0,none⟩=some (.slice s.ao s.n s.c):=bR h.1 0
theorem eM.both{w:World}{s:Sl}{x:Nat}{w':World}(h:eM w s x w'):w'.cell? ⟨w.heap.size,0,none⟩=some (.slice s.ao s.n s.c)∧eM w s x w':=⟨h.cell,h⟩
theorem eM.set{w:World}{s:Sl}{x:Nat}{w':World}(h:eM w s x w'){b:Nat}{c:Array Value}(hc:w'.heap[b]? =some (.cells c 110 (0,0)))(hb:w.heap.size+1+1<b)(v:Value):eM w s x (w'.setCell ⟨b,0,none⟩ v):=
 ⟨cE h.1 (by simp;omega) v,cE h.2.1 (by simp;omega) v,cE h.2.2.1 (by simp;omega) v,h.2.2.2.1.kp ((Kp.refl _).setCell hc (by decide) v),h.2.2.2.2.setCell (by simp;omega) v⟩
theorem eM.setNew{w:World}{s:Sl}{x:Nat}{w':World}{c:Array Value}(h:eM w s x (w'.alloc (.cells c 110)))(hb:w.heap.size+1+1<w'.heap.size)(v:Value):eM w s x ((w'.alloc (.cells c 110)).setCell ⟨w'.heap.size,0,none⟩ v):=h.set (lF _ _) hb v
theorem eM.re{w:World}{s:Sl}{x:Nat}{w':World}{v0 v:Value}(h:eM w s x (w'.alloc (.cells #[v0] 110)))(hb:w.heap.size+1+1<w'.heap.size):eM w s x (w'.alloc (.cells #[v] 110)):=by
 have h1:=h.setNew hb v;have e:(w'.alloc (.cells #[v0] 110)).setCell ⟨w'.heap.size,0,none⟩ v=w'.alloc (.cells #[v] 110):=by simp[go_sem]
 rwa [e]at h1
theorem zc{w:World}{s:Sl}{x:Nat}{w':World}(h:eM w s x w')(o:Obj):eM w s x (w'.alloc o).drew:=(h.alloc o).drew
theorem eM.lt{w:World}{s:Sl}{x:Nat}{w' w'':World}(h:eM w s x w')(hb:Below w'.heap.size w' w''):w.heap.size+1+1<w''.heap.size:=cM (rL h.2.2.1) hb.size
theorem L7{w w':World}{s:Sl}{x:Nat}(h:eM w s x w')(hn:s.n≤2000):
  Calls Tryz.prog 244 #[.agg #[.slice s.ao s.n s.c]] w' fun e w''=>e=.returned (.int .i64 (bl x:Int))∧Below w'.heap.size w' w'':=Cn h.2.2.2.1 (by omega)
theorem SI{w:World}{o:Sl}{k:Nat}{v:Int}(h:dV w o 1)(hn:o.n≤2)(hk:k≤32000)(hv:v=(k:Int)):
  Calls Tryz.prog 246 #[.agg #[.slice o.ao o.n o.c],.int .i64 v] w fun e w'=>
   ∃u:Sl,e=.returned (.tuple #[.agg #[.slice u.ao u.n u.c],.int .i64 0])∧dV w' u (2^k)∧u.n≤2000∧Below w.heap.size w w':=by
 subst hv;refine(zO k h (by omega) (by omega)).mono ?_;rintro e w' ⟨u,h1,h2,h3,h4⟩;exact⟨u,h1,by simpa using h2,by omega,h4⟩
theorem lD.mk{w:World}{s sx:Sl}{x b4 B k:Nat}{wr:World}(h:eM w s x wr)(hb:wr.heap[b4]? =some (.cells #[.slice sx.ao sx.n sx.c] 110 (0,0)))(hx:dV wr sx k)(hk:0<k∧x<(k+1)*(k+1))(hn:sx.n≤B):lD w s x b4 B k wr:=
 ⟨sx,h.1,h.2.1,h.2.2.1,hb,h.2.2.2.1,hx,hk.1,hk.2,hn,h.2.2.2.2⟩
theorem BQ{w:World}{s sx:Sl}{x b4 B k:Nat}{wr:World}{v0:Value}(h:eM w s x (wr.setCell ⟨b4,0,none⟩ (.slice sx.ao sx.n sx.c)))(hb:wr.heap[b4]? =some (.cells #[v0] 110 (0,0)))(hx:dV wr sx k)(hk:0<k∧x<(k+1)*(k+1))(hn:sx.n≤B):lD w s x b4 B k (wr.setCell ⟨b4,0,none⟩ (.slice sx.ao sx.n sx.c)):=
 lD.mk h (qh hb _) (hx.kp ((Kp.refl _).setCell hb (by decide) _)) hk hn
theorem zb{w:World}{s sx:Sl}{x B k:Nat}{wr:World}(h:eM w s x (wr.alloc (.cells #[.slice sx.ao sx.n sx.c] 110)))(hx:dV wr sx k)(hk:0<k∧x<(k+1)*(k+1))(hn:sx.n≤B):lD w s x wr.heap.size B k (wr.alloc (.cells #[.slice sx.ao sx.n sx.c] 110)):=
 lD.mk h (lF _ _) (hx.alloc _) hk hn
theorem ED{a b:Nat}(h:a≤b)(h':b≤2000):a≤1000000000000:=by omega
def jt(w:World)(s sx:Sl)(x k b4:Nat)(w':World):Prop:=
 w'.heap[w.heap.size]? =some (.cells #[.slice s.ao s.n s.c] 110 (0,0))∧(∃v,w'.heap[w.heap.size+1]? =some (.cells #[v] 110 (0,0)))∧
 (∃v,w'.heap[w.heap.size+1+1]? =some (.cells #[v] 110 (0,0)))∧w'.heap[b4]? =some (.cells #[.slice sx.ao sx.n sx.c] 110 (0,0))∧dV w' s x∧dV w' sx k∧Below w.heap.size w w'
theorem jt.up{w:World}{s sx:Sl}{x k b4:Nat}{w' w'':World}(h:jt w s sx x k b4 w')(hb:Below w'.heap.size w' w''):jt w s sx x k b4 w'':=by
 obtain⟨h1,⟨v2,h2⟩,⟨v3,h3⟩,h4,h5,h6,h7⟩:=h;exact⟨bG hb h1,⟨v2,bG hb h2⟩,⟨v3,bG hb h3⟩,bG hb h4,h5.up hb,h6.up hb,h7.trans (hb.mono h7.size)⟩
theorem jt.drew{w:World}{s sx:Sl}{x k b4:Nat}{w':World}(h:jt w s sx x k b4 w'):jt w s sx x k b4 w'.drew:=⟨h.1,h.2.1,h.2.2.1,h.2.2.2.1,h.2.2.2.2.1,h.2.2.2.2.2.1,h.2.2.2.2.2.2.drew⟩
theorem jt.both{w:World}{s sx:Sl}{x k b4:Nat}{w':World}(h:jt w s sx x k b4 w'):w'.cell? ⟨w.heap.size,0,none⟩=some (.slice s.ao s.n s.c)∧w'.cell? ⟨b4,0,none⟩=some (.slice sx.ao sx.n sx.c)∧jt w s sx x k b4 w':=⟨bR h.1 0,bR h.2.2.2.1 0,h⟩
theorem Hy{w:World}{s sx:Sl}{x k b4:Nat}{w':World}(h:jt w s sx x k b4 w')(hb4:w.heap.size+1+1<b4)(v:Value):jt w s sx x k b4 (w'.setCell ⟨w.heap.size+1,0,none⟩ v):=by
 obtain⟨h1,⟨v2,h2⟩,⟨v3,h3⟩,h4,h5,h6,h7⟩:=h;exact⟨cE h1 (by simp) v,⟨v,qh h2 v⟩,⟨v3,cE h3 (by simp) v⟩,cE h4 (by simp;omega) v,h5.kp ((Kp.refl _).setCell h2 (by decide) v),h6.kp ((Kp.refl _).setCell h2 (by decide) v),h7.setCell (by simp) v⟩
theorem Hz{w:World}{s sx:Sl}{x k b4:Nat}{w':World}(h:jt w s sx x k b4 w')(hb4:w.heap.size+1+1<b4)(v:Value):jt w s sx x k b4 (w'.setCell ⟨w.heap.size+1+1,0,none⟩ v):=by
 obtain⟨h1,⟨v2,h2⟩,⟨v3,h3⟩,h4,h5,h6,h7⟩:=h;exact⟨cE h1 (by simp;omega) v,⟨v2,cE h2 (by simp) v⟩,⟨v,qh h3 v⟩,cE h4 (by simp;omega) v,h5.kp ((Kp.refl _).setCell h3 (by decide) v),h6.kp ((Kp.refl _).setCell h3 (by decide) v),h7.setCell (by simp;omega) v⟩
theorem L8{w:World}{s:Sl}{x:Nat}(h:dV w s x)(hn:s.n≤2000):
  Calls Tryz.prog 274 #[.agg #[.slice s.ao s.n s.c]] w (MG w s x):=by
 have hE:=lO w (.cells #[.slice s.ao s.n s.c] 110) (.cells #[.slice none 0 0] 110) (.cells #[.slice none 0 0] 110);have hbx:Below w.heap.size w _:=(((bD w.heap.size w).alloc (ak _) (.cells #[.slice s.ao s.n s.c] 110)).alloc (by simp) (.cells #[.slice none 0 0] 110)).alloc (by simp;omega) (.cells #[.slice none 0 0] 110);by_cases h0:s.n=0
 ·have hx:x=0:=by have:=h.zero_iff;omega
  subst hx;obtain⟨ao,n,c⟩:=s;simp only at h0;subst h0
  go_enter Tryz.func274,Tryz.ntmps274
  go_wp2
  refine eY (v:=.tuple #[.agg #[.slice none 0 0],.agg #[.slice none 0 0]]) (by simp[results,Tryz.results274,go_sem]) rfl ⟨⟨none,0,0⟩,⟨none,0,0⟩,0,rfl,dV.nil _ _ _ (by omega),dV.nil _ _ _ (by omega),by omega,by omega,by simp,by simp,?_⟩;exact hbx
 ·have hn0:((s.n:Int)==0)=false:=by simp;omega
  have hx1:=h.up hbx;have hx0:0<x:=by have:=h.zero_iff;omega
  have hE1:=hE.1;have hE2:=hE.2.1;have hE3:=hE.2.2.1;have hsz:=hE.2.2.2;have hbl:bl x≤64000:=by have:=Na h;omega
  have Hsz:=bk hsz;clear hE hsz
  go_enter Tryz.func274,Tryz.ntmps274
  go_wp2
  generalize hW3:(((w.alloc (.cells #[.slice s.ao s.n s.c] 110)).alloc (.cells #[.slice none 0 0] 110)).alloc (.cells #[.slice none 0 0] 110))=W3 at*;clear hW3;obtain⟨k0,hk0⟩:∃k0,k0=(bl x+1)/2:=⟨_,rfl⟩;have hbit:((bl x:Int)+1)/2=(k0:Int):=by omega
  have hk1:bl x≤2*k0:=by omega
  have hk2:k0≤32000:=by omega
  have hK:IntKind.i64.wrap ((IntKind.i64.wrap ((bl x:Int)+1)).tdiv 2)=(k0:Int):=by
   rw[IntWalk.i64_in ((bl x:Int)+1) (by omega),IntWalk.i64_quo _ _ (by omega),hbit]
  have hk0p:0<2^k0∧x<(2^k0+1)*(2^k0+1):=⟨kr _,I3 ((qV x (bl x)).1 (ak _)) hk1⟩;clear hk0 hbit;have hS0:eM w s x W3:=⟨hE1,hE2,hE3,hx1,hbx⟩;have hsz0:w.heap.size+1+1<W3.heap.size:=rL hE3;clear hE1 hE2 hE3 hx1 hbx
  go_upto_region 3 with fail
  go_cut [4] (fun s4 wx=>∃b4:Nat,s4=.pointer (some ⟨b4,0,none⟩)∧lD w s x b4 (max s.n 2000) (2^k0) wx∧w.heap.size+1+1<b4)
  case first=>
   have hsz0':w.heap.size+1+1<W3.drew.heap.size:=hsz0
   go_region_held3 (fun w'=>w'.cell? ⟨w.heap.size,0,none⟩=some (.slice s.ao s.n s.c)∧eM w s x w')
    (first
     |with_reducible exact hS0.drew.both
     |with_reducible exact(eM.re (‹_∧eM w s x _›).2 (by assumption)).both
     |with_reducible exact(zc hS0 _).both
     |with_reducible exact(eM.alloc (‹_∧eM w s x _›).2 _).both
     |with_reducible exact(eM.set (‹_∧eM w s x _›).2 hc (by assumption) _).both
     |with_reducible exact(eM.up (‹_∧eM w s x _›).2 ‹Below _ _ _›).both)
    (first
     |(go_at_call 193;refine(Wq _).mono ?_;rintro e w1 ⟨o,rfl,ho,hon,hb1⟩;(have hl1:=eM.lt (‹_∧eM w s x _›).2 hb1);(first|with_reducible have hc:=Aj hb1|skip))
     |(go_at_call 244;refine(L7 (‹_∧eM w s x _›).2 hn).mono ?_;rintro e w2 ⟨rfl,hb2⟩;(have hl2:=eM.lt (‹_∧eM w s x _›).2 hb2);(first|with_reducible have hc:=Co hb2|with_reducible have hc:=bG hb2 hc|skip))
     |(go_at_call 246;refine(SI (o:=o) (k:=k0) (v:=_) ?_ hon hk2 ?_).mono ?_;(first|with_reducible exact ho|with_reducible exact ho.up hb2|with_reducible exact(ho.up hb2).alloc _|with_reducible exact ho.alloc _|with_reducible exact(ho.alloc _).up hb2);with_reducible rfl
       rintro e w3 ⟨sx,rfl,hsx,hsxn,hb3⟩;(have hl3:=eM.lt (‹_∧eM w s x _›).2 hb3);(first|with_reducible have hc:=Co hb3|with_reducible have hc:=bG hb3 hc|skip);(try with_reducible have hcc:=Nd hc);(try with_reducible have hcf:=dX hc 0)))
   all_goals go_wp2
   all_goals go_meet
   all_goals first
    |exact⟨_,rfl,zb (‹_∧eM w s x _›).2 hsx hk0p (aP hsxn (Nat.le_max_right _ _)),hl3⟩
    |exact⟨_,rfl,BQ (‹_∧eM w s x _›).2 hc hsx hk0p (aP hsxn (Nat.le_max_right _ _)),by assumption⟩
  case rest=>
   clear hS0 hsz0 hk1 hk2 hK hbl Hsz;obtain⟨b4,rfl,hR,hb4⟩:=hcut;have hB:max s.n 2000≤2000:=by omega
   generalize max s.n 2000=B at*;have h2k:=hk0p;obtain⟨g0,hg0⟩:∃g0,g0=2^k0:=⟨_,rfl⟩;rw[←hg0]at hR;clear hg0 h2k hk0p
   go_wp2
   go_loopg [9] g0 (fun k _ wr=>lD w s x b4 B k wr)
   case atStart=>exact hR
   case round=>
    clear hR;obtain⟨sx,hE1,hE2,hE3,hE4,hs,hsx,hk,hkx,hxn,hbl⟩:=hrel;have hA:=bR hE1 0;have hC:=bR hE4 0
    go_upto_region 5 with(go_at_call 199;refine(Ap hs hsx (by omega) (by omega) hk).mono ?_;rintro e w2 ⟨u,v,rfl,hu,hv,hun,hvn,hvn2,hb2⟩;have hF1:=bG hb2 hE1;have hF2:=bG hb2 hE2;have hF3:=bG hb2 hE3;have hF4:=bG hb2 hE4;clear hA hC)
    have hbX:Below w2.heap.size w2 ((w2.alloc (.cells #[.slice u.ao u.n u.c] 110)).alloc (.cells #[.slice v.ao v.n v.c] 110)):=((bD _ _).alloc (ak _) _).alloc (by simp) _;have K1:=bG hbX hF1;have K2:=bG hbX hF2;have K3:=bG hbX hF3;have K4:=bG hbX hF4;have K6:((w2.alloc (.cells #[.slice u.ao u.n u.c] 110)).alloc (.cells #[.slice v.ao v.n v.c] 110)).heap[w2.heap.size]? =some (.cells #[.slice u.ao u.n u.c] 110 (0,0)):=kR (lF _ _) _;have hu':=hu.up hbX;have hsx':=(hsx.up hb2).up hbX;have hs':=(hs.up hb2).up hbX;have hblX:Below w.heap.size w ((w2.alloc (.cells #[.slice u.ao u.n u.c] 110)).alloc (.cells #[.slice v.ao v.n v.c] 110)):=(hbl.trans (hb2.mono hbl.size)).trans (hbX.mono (by have:=hbl.size;have:=hb2.size;omega));generalize hXd:((w2.alloc (.cells #[.slice u.ao u.n u.c] 110)).alloc (.cells #[.slice v.ao v.n v.c] 110))=X at*;have c6:=bR K6 0;have c4:=bR K4 0;clear hXd hbX hF1 hF2 hF3 hF4 hE1 hE2 hE3 hE4 hu hv hb2 hbl hsx hs
    go_upto_region 6 with(first
     |(go_at_call 252;refine(E3 hsx' hu' (by omega) (by omega)).mono ?_;rintro e w3 ⟨a,rfl,ha,han,hb3⟩)
     |(go_at_call 251;refine(Cw 1 ha (by omega) (by omega)).mono ?_;rintro e w4 ⟨d,rfl,hd,hdn,hb4'⟩))
    have hd1:dV w4 d ((gk+x/gk)/2):=hd;have hbY:Below w4.heap.size w4 (w4.alloc (.cells #[.slice d.ao d.n d.c] 110)):=(bD _ _).alloc (ak _) _;have L1:=bG hbY (bG hb4' (bG hb3 K1));have L2:=bG hbY (bG hb4' (bG hb3 K2));have L3:=bG hbY (bG hb4' (bG hb3 K3));have L4:=bG hbY (bG hb4' (bG hb3 K4));have L9:=lF w4 (.cells #[.slice d.ao d.n d.c] 110);have hd2:=hd1.up hbY;have hsx2:=((hsx'.up hb3).up hb4').up hbY;have hs2:=((hs'.up hb3).up hb4').up hbY;have hblY:Below w.heap.size w _:=((hblX.trans (hb3.mono hblX.size)).trans (hb4'.mono (by have:=hblX.size;have:=hb3.size;omega))).trans (hbY.mono (by have:=hblX.size;have:=hb3.size;have:=hb4'.size;omega));generalize hYd:(w4.alloc (.cells #[.slice d.ao d.n d.c] 110))=Y at*;have c9:=bR L9 0;have c4':=bR L4 0;have hstep:=L_ (a:=x) hk;have hend:=Qd (a:=x) hk;clear hYd hbY c6 c4 K1 K2 K3 K4 K6 hu' hsx' hs' hd hd1 ha hb3 hb4' hblX;generalize w4.heap.size=b9 at*;obtain⟨g1,hg1⟩:∃g1,g1=(gk+x/gk)/2:=⟨_,rfl⟩;rw[←hg1]at hd2 hstep hend;have hg1q:0<g1:=by
     rcases iM 1 gk with hgk|hgk
     ·generalize x/gk=Z at hg1;omega
     ·have hgk1:gk=1:=by omega
      rw[hgk1,Nat.div_one]at hg1;omega
    clear hg1;by_cases hge:gk≤g1
    ·have hcmp:decide ((0:Int)≤mV g1 gk)=true:=by
      rcases iM gk g1 with hlt|hlt
      ·rw[uE hlt];decide
      ·rw[show gk=g1 by omega,wG];decide
     go_upto_region 7 with(go_at_call 204;refine(nJ hd2 hsx2 (by omega) (by omega)).mono ?_;rintro e w5 ⟨rfl,hb5⟩;have M1:=bG hb5 L1;have M2:=bG hb5 L2;have M3:=bG hb5 L3;have M4:=bG hb5 L4;clear c9 c4')
     have hS5:jt w s sx x gk b4 w5:=⟨M1,⟨_,M2⟩,⟨_,M3⟩,M4,hs2.up hb5,hsx2.up hb5,hblY.trans (hb5.mono hblY.size)⟩;clear M1 M4 hs2 hsx2 hb5 hblY hcmp hd2 L1 L2 L3 L4 L9 hstep
     go_region_held3 (fun w'=>w'.cell? ⟨w.heap.size,0,none⟩=some (.slice s.ao s.n s.c)∧w'.cell? ⟨b4,0,none⟩=some (.slice sx.ao sx.n sx.c)∧jt w s sx x gk b4 w')
      (first
       |with_reducible exact hS5.drew.both
       |with_reducible exact(Hy (‹_∧_∧jt w s sx x gk b4 _›).2.2 hb4 _).both
       |with_reducible exact(Hz (‹_∧_∧jt w s sx x gk b4 _›).2.2 hb4 _).both
       |with_reducible exact(jt.up (‹_∧_∧jt w s sx x gk b4 _›).2.2 ‹Below _ _ _›).both)
      (first
       |(go_at_call 247;refine(Gu (‹_∧_∧jt w s sx x gk b4 _›).2.2.2.2.2.2.2.1 (‹_∧_∧jt w s sx x gk b4 _›).2.2.2.2.2.2.2.1 (ED hxn hB) (ED hxn hB)).mono ?_;rintro e w6 ⟨m,rfl,hm,hmn,hb6⟩)
       |(go_at_call 267;refine(CO (‹_∧_∧jt w s sx x gk b4 _›).2.2.2.2.2.2.1 hm (ED (ak _) hn) (hend hge)).mono ?_;rintro e w7 ⟨l,rfl,hl,hln,hb7⟩;(have N2:=bG hb7 (bG (mc hb6) M2));(have N3:=bG hb7 (bG (mc hb6) M3));(have q2:=bR N2 0);(have q3:=bR N3 0);(have f2:=dX N2 0);(have f3:=dX N3 0)))
     have hE9:=(‹_∧_∧jt w s sx x gk b4 _›).2.2;have P2:=cE (a:=⟨w.heap.size+1+1,0,none⟩) (qh (i:=0) N2 (.slice sx.ao sx.n sx.c)) (by simp) (.slice l.ao l.n l.c);have P3':=cE (a:=⟨w.heap.size+1,0,none⟩) N3 (by simp) (.slice sx.ao sx.n sx.c);have P3:=qh (i:=0) P3' (.slice l.ao l.n l.c);have hl9:=(hl.kp ((Kp.refl _).setCell (a:=⟨w.heap.size+1,0,none⟩) N2 (by decide) (.slice sx.ao sx.n sx.c))).kp ((Kp.refl _).setCell (a:=⟨w.heap.size+1+1,0,none⟩) P3' (by decide) (.slice l.ao l.n l.c));have r2:=bR P2 0;have r3:=bR P3 0;clear q2 q3 f2 f3 N2 N3 P2 P3 P3' hl hm hS5 M2 M3 hb6 hb7;have hks:gk≤x:=aP (Nat.le_mul_of_pos_left gk hk) (hend hge);generalize hW9:((w7.setCell ⟨w.heap.size+1,0,none⟩ (.slice sx.ao sx.n sx.c)).setCell ⟨w.heap.size+1+1,0,none⟩ (.slice l.ao l.n l.c))=W9 at*;clear hW9
     go_wp2
     refine eY (v:=.tuple #[.agg #[.slice sx.ao sx.n sx.c],.agg #[.slice l.ao l.n l.c]]) (by simp[results,Tryz.results274,go_sem,r2,r3]) rfl ⟨sx,l,gk,rfl,hE9.2.2.2.2.2.1,hl9,hend hge,hkx,hE9.2.2.2.2.2.1.n_le hE9.2.2.2.2.1 hks,hln,hE9.2.2.2.2.2.2⟩
    ·have hcmp:decide ((0:Int)≤mV g1 gk)=false:=by rw[wH (by omega)];decide
     have hdn2:d.n≤sx.n:=hd2.n_le hsx2 (by omega)
     go_wp2_with (go_at_call 204;refine(nJ hd2 hsx2 (by omega) (by omega)).mono ?_;rintro e w5 ⟨rfl,hb5⟩;have M4:=bG hb5 L4;have m9:=bR (bG hb5 L9) 0;have m4:=bR M4 0;have f4:=dX M4 0;clear c9 c4')
     go_roundg g1
     case measure=>omega
     case rel=>
      refine⟨d,cE (bG hb5 L1) (by simp;omega) _,cE (bG hb5 L2) (by simp;omega) _,cE (bG hb5 L3) (by simp;omega) _,qh M4 _,?_,?_,hg1q,hstep,by omega,?_⟩
      ·exact(hs2.up hb5).kp ((Kp.refl _).setCell M4 (by decide) _)
      ·exact(hd2.up hb5).kp ((Kp.refl _).setCell M4 (by decide) _)
      ·exact(hblY.trans (hb5.mono hblY.size)).setCell (by simp;omega) _
def F7:Nat→Nat→Nat
 |0,_=>0
 |k+1,n=>let r:=2*F7 k (n/4);if(r+1)*(r+1)≤n then r+1 else r
def xS(n:Nat):Nat:=F7 (n.log2+1) n
theorem CL:∀(k n:Nat),n<4^k→F7 k n*F7 k n≤n∧n<(F7 k n+1)*(F7 k n+1)
 |0,n,h=>by
  have:n=0:=by simpa using h
  subst this;decide
 |k+1,n,h=>by
  obtain⟨h1,h2⟩:=CL k (n/4) (by rw[eA]at h;omega);simp only[F7];generalize F7 k (n/4)=r at*;have e1:(2*r)*(2*r)=4*(r*r):=by grind
  have e2:(2*r+1+1)*(2*r+1+1)=4*((r+1)*(r+1)):=by grind
  split
  ·refine⟨by assumption,?_⟩;rw[e2];omega
  ·refine⟨by rw[e1];omega,by omega⟩
theorem wS(n:Nat):xS n*xS n≤n∧n<(xS n+1)*(xS n+1):=by
 refine CL _ _ (cM (Nat.lt_log2_self) ?_);exact Nat.pow_le_pow_left (by omega) _
theorem Ir{n r:Nat}(h1:r*r≤n)(h2:n<(r+1)*(r+1)):xS n=r:=by
 obtain⟨g1,g2⟩:=wS n;rcases Nat.lt_trichotomy (xS n) r with h|h|h
 ·have:(xS n+1)*(xS n+1)≤r*r:=aY h h;omega
 ·exact h
 ·have:(r+1)*(r+1)≤xS n*xS n:=aY h h;omega
section
variable{Γ:List aD}{L M x y:Nat}
theorem WH(s:Sl) [ha:aW (NF s) (L,x) Γ](hL:L≤2000:=by omega):
  aw tb Tryz.prog 274 [mv s] Γ (fun v Δ=>∃u t:Sl,v=.tuple #[mv u,mv t]∧Δ=[NF u (L,xS x),NF t (L,x-xS x*xS x)]):=
 ⟨⟨_,Tryz.func274,by kernel_rfl,by kernel_rfl⟩,fun I w hd hh=>by
  obtain⟨h1,h2,h3⟩:=ha.p hh;refine(L8 h1 (aP h3 hL)).mono ?_;rintro e w' ⟨u,v,r,rfl,hu,hv,hr1,hr2,hn1,hn2,hb⟩;obtain rfl:=Ir hr1 hr2;exact⟨_,_,rfl,⟨u,v,rfl,rfl⟩,hb,aG.cons (hu.fact hd hb (by simp only at h3;omega)) (aS (hv.fact hd hb (by simp only at h3;omega)))⟩⟩
end
structure Qw where
 n:Sl
 a:Bool
 m:Sl
 b:Bool
structure Sw where
 u:Sl
 d:Bool
 v:Sl
 e:Bool
 p:Qw
 q:Qw
 r:Qw
 s:Qw
structure Sn where
 m:Int
 n:Int
 p:Rat
 q:Rat
 r:Rat
 s:Rat
abbrev QG(x:Qw):Nat×Rat→aD:=QF x.n x.a x.m x.b
abbrev sv(x:Sw):Value:=.agg #[.slice x.u.ao x.u.n x.u.c,.bool x.d,.slice x.v.ao x.v.n x.v.c,.bool x.e,
 .slice x.p.n.ao x.p.n.n x.p.n.c,.bool x.p.a,.slice x.p.m.ao x.p.m.n x.p.m.c,.bool x.p.b,.slice x.q.n.ao x.q.n.n x.q.n.c,.bool x.q.a,.slice x.q.m.ao x.q.m.n x.q.m.c,.bool x.q.b,
 .slice x.r.n.ao x.r.n.n x.r.n.c,.bool x.r.a,.slice x.r.m.ao x.r.m.n x.r.m.c,.bool x.r.b,.slice x.s.n.ao x.s.n.n x.s.n.c,.bool x.s.a,.slice x.s.m.ao x.s.m.n x.s.m.c,.bool x.s.b]
abbrev ptv(x:Sw):Value:=.agg #[
 .slice x.p.n.ao x.p.n.n x.p.n.c,.bool x.p.a,.slice x.p.m.ao x.p.m.n x.p.m.c,.bool x.p.b,.slice x.q.n.ao x.q.n.n x.q.n.c,.bool x.q.a,.slice x.q.m.ao x.q.m.n x.q.m.c,.bool x.q.b,
 .slice x.r.n.ao x.r.n.n x.r.n.c,.bool x.r.a,.slice x.r.m.ao x.r.m.n x.r.m.c,.bool x.r.b,.slice x.s.n.ao x.s.n.n x.s.n.c,.bool x.s.a,.slice x.s.m.ao x.s.m.n x.s.m.c,.bool x.s.b]
abbrev b_:Qw:=⟨⟨none,0,0⟩,false,⟨none,0,0⟩,false⟩
def BY:Sw:=⟨⟨none,0,0⟩,false,⟨none,0,0⟩,false,b_,b_,b_,b_⟩
def SF(x:Sw)(a:Nat×Sn):aD where
 p I w:=(ZF x.u x.d (a.1,a.2.m)).p I w∧(ZF x.v x.e (a.1,a.2.n)).p I w∧(QG x.p (a.1,a.2.p)).p I w∧(QG x.q (a.1,a.2.q)).p I w∧(QG x.r (a.1,a.2.r)).p I w∧(QG x.s (a.1,a.2.s)).p I w
 up:=by
  rintro I I' w w' ⟨g1,g2,g3,g4,g5,g6⟩ h1 h2 h3;exact⟨(ZF x.u x.d _).up g1 h1 h2 h3,(ZF x.v x.e _).up g2 h1 h2 h3,(QG x.p _).up g3 h1 h2 h3,(QG x.q _).up g4 h1 h2 h3,(QG x.r _).up g5 h1 h2 h3,(QG x.s _).up g6 h1 h2 h3⟩
def Td(L:Nat)(S:Sn)(v:Value)(Δ:List aD):Prop:=∃x:Sw,v=sv x∧Δ=[SF x (L,S)]
def Xx(L:Nat)(S:Sn)(v:Value)(Δ:List aD):Prop:=∃x:Sw,v=.tuple #[sv x,.int .i64 0]∧Δ=[SF x (L,S)]
structure Pw where
 n:Int
 a:Sl
 m:Int
 b:Sl
structure Tw where
 d:Int
 u:Sl
 e:Int
 v:Sl
 p:Pw
 q:Pw
 r:Pw
 s:Pw
abbrev tv(x:Tw):Value:=.agg #[.int .i64 x.d,.slice x.u.ao x.u.n x.u.c,.int .i64 x.e,.slice x.v.ao x.v.n x.v.c,
 .int .i64 x.p.n,.slice x.p.a.ao x.p.a.n x.p.a.c,.int .i64 x.p.m,.slice x.p.b.ao x.p.b.n x.p.b.c,.int .i64 x.q.n,.slice x.q.a.ao x.q.a.n x.q.a.c,.int .i64 x.q.m,.slice x.q.b.ao x.q.b.n x.q.b.c,
 .int .i64 x.r.n,.slice x.r.a.ao x.r.a.n x.r.a.c,.int .i64 x.r.m,.slice x.r.b.ao x.r.b.n x.r.b.c,.int .i64 x.s.n,.slice x.s.a.ao x.s.a.n x.s.a.c,.int .i64 x.s.m,.slice x.s.b.ao x.s.b.n x.s.b.c]
section
variable{fin:VS→List aD→Prop}{Γ:List aD}{L:Nat}
theorem td{P:Program}{c:fG}(x:Sw){S:Sn} [h:aW (SF x) (L,S) Γ](hm:dD c.k=false)
  (hk:W tb P fin c (ZF x.u x.d (L,S.m)::ZF x.v x.e (L,S.n)::QG x.p (L,S.p)::QG x.q (L,S.q)::QG x.r (L,S.r)::QG x.s (L,S.s)::Γ)):W tb P fin c Γ:=
 W.elim (α:=Unit) (fun _=>True) (fun _=>[ZF x.u x.d (L,S.m),ZF x.v x.e (L,S.n),QG x.p (L,S.p),QG x.q (L,S.q),QG x.r (L,S.r),QG x.s (L,S.s)]) hm (fun I w _ hh=>by
  obtain⟨g1,g2,g3,g4,g5,g6⟩:=h.p hh;exact⟨(),trivial,aG.cons g1 (aG.cons g2 (aG.cons g3 (aG.cons g4 (aG.cons g5 (aS g6)))))⟩) (fun _ _=>hk)
theorem QF.up2{n m:Sl}{a b:Bool}{L L':Nat}{q:Rat}{I:fQ}{w:World}(h:(QF n a m b (L,q)).p I w)(hL:L≤L'):(QF n a m b (L',q)).p I w:=by
 obtain⟨y,⟨⟨h1,h2,h3⟩,h4⟩,⟨⟨g1,g2,g3⟩,g4⟩,hy⟩:=h;exact⟨y,⟨⟨h1,h2,aP h3 hL⟩,h4⟩,⟨⟨g1,g2,aP g3 hL⟩,g4⟩,hy⟩
theorem ZF.up2{n:Sl}{a:Bool}{L L':Nat}{q:Int}{I:fQ}{w:World}(h:(ZF n a (L,q)).p I w)(hL:L≤L'):(ZF n a (L',q)).p I w:=by
 obtain⟨⟨h1,h2,h3⟩,h4⟩:=h;exact⟨⟨h1,h2,aP h3 hL⟩,h4⟩
theorem Lf{x:Sw}{L' L1 L2 L3 L4 L5 L6:Nat}{m n:Int}{p q r s:Rat}{S:Sn} [h1:aW (ZF x.u x.d) (L1,m) Γ] [h2:aW (ZF x.v x.e) (L2,n) Γ] [h3:aW (QG x.p) (L3,p) Γ] [h4:aW (QG x.q) (L4,q) Γ] [h5:aW (QG x.r) (L5,r) Γ] [h6:aW (QG x.s) (L6,s) Γ]
  (hm:m=S.m)(hn:n=S.n)(hp:p=S.p)(hq:q=S.q)(hr:r=S.r)(hs:s=S.s)(hL:L1≤L'∧L2≤L'∧L3≤L'∧L4≤L'∧L5≤L'∧L6≤L'):∀(I:fQ) (w:World),br tb I w→aG Γ I w→aG [SF x (L',S)] I w:=fun I w _ hh=>by
 subst hm hn hp hq hr hs;obtain⟨l1,l2,l3,l4,l5,l6⟩:=hL;exact aS ⟨ZF.up2 (h1.p hh) l1,ZF.up2 (h2.p hh) l2,QF.up2 (h3.p hh) l3,QF.up2 (h4.p hh) l4,QF.up2 (h5.p hh) l5,QF.up2 (h6.p hh) l6⟩
theorem qg{x:Sw}{L':Nat}{S S':Sn} [h:aW (SF x) (L,S) Γ](hL:L≤L')(hS:S=S'):∀(I:fQ) (w:World),br tb I w→aG Γ I w→aG [SF x (L',S')] I w:=fun I w _ hh=>by
 subst hS;obtain⟨g1,g2,g3,g4,g5,g6⟩:=h.p hh;exact aS ⟨ZF.up2 g1 hL,ZF.up2 g2 hL,QF.up2 g3 hL,QF.up2 g4 hL,QF.up2 g5 hL,QF.up2 g6 hL⟩
end
def Sn.neg(S:Sn):Sn:=⟨S.m,S.n,-S.p,-S.q,-S.r,-S.s⟩
def Sn.add(S T:Sn):Sn:=⟨S.m,S.n,S.p+T.p,S.q+T.q,S.r+T.r,S.s+T.s⟩
def Sn.sub(S T:Sn):Sn:=⟨S.m,S.n,S.p-T.p,S.q-T.q,S.r-T.r,S.s-T.s⟩
def Sn.mul(S T:Sn):Sn:=⟨S.m,S.n,
 S.p*T.p+S.m*(S.q*T.q)+S.n*(S.r*T.r)+S.m*S.n*(S.s*T.s),
 S.p*T.q+S.q*T.p+S.n*(S.r*T.s+S.s*T.r),
 S.p*T.r+S.r*T.p+S.m*(S.q*T.s+S.s*T.q),
 S.p*T.s+S.s*T.p+S.q*T.r+S.r*T.q⟩
def BB(x y:Rat)(m:Int):Int:=
 let s:=x.num.sign
 let t:=if m.sign=0 then 0 else y.num.sign
 if t=0∨s=t then s else if s=0 then t else s*vM (x*x) (y*y*m)
def Sn.sg(S:Sn):Int:=
 let s:=BB S.p S.q S.m
 let t:=if S.n.sign=0 then 0 else BB S.r S.s S.m
 if t=0∨s=t then s else if s=0 then t else
  s*BB (S.p*S.p+S.m*S.q*S.q-S.n*(S.r*S.r+S.m*S.s*S.s)) (2*(S.p*S.q-S.n*S.r*S.s)) S.m
theorem Sn.ext'{S T:Sn}(h1:S.m=T.m)(h2:S.n=T.n)(h3:S.p=T.p)(h4:S.q=T.q)(h5:S.r=T.r)(h6:S.s=T.s):S=T:=by
 cases S;cases T;simp_all
theorem Sn.mul_comm{S T:Sn}(hm:T.m=S.m)(hn:T.n=S.n):S.mul T=T.mul S:=by
 refine Sn.ext' hm.symm hn.symm ?_ ?_ ?_ ?_ <;>simp only[Sn.mul,hm,hn]<;>grind
theorem KQ(S T:Sn):S.add T.neg=S.sub T:=by
 refine Sn.ext' rfl rfl ?_ ?_ ?_ ?_ <;>simp only[Sn.add,Sn.neg,Sn.sub]<;>grind
def lg(x:Rat)(root:Int)(k:Nat):Int:=
 let q:Int:=(xS (x.num.natAbs*x.num.natAbs*root.natAbs*2^(2*k)):Nat)/(x.den:Int)
 if x.num.sign<0 then-q else q
def Sn.lessq(S:Sn)(q:Int):Sn:=⟨S.m,S.n,S.p-q,S.q,S.r,S.s⟩
def Sn.low(S:Sn):Int:=(0+lg S.p 1 8+lg S.q S.m 8+lg S.r S.n 8+lg S.s (S.m*S.n) 8)/256
def Sn.up(S:Sn)(h:Rat):Sn:=⟨S.m,S.n,S.p+h,S.q,S.r,S.s⟩
def Sn.half(S:Sn):Sn:=S.up (Rat.divInt 1 2)
def Mk(z:Int):Prop:=z= -1∨z=0∨z=1
theorem Uv{a b:Int}(ha:Mk a)(hb:Mk b):IntKind.i64.wrap (a*b)=a*b:=by
 rcases ha with rfl|rfl|rfl<;>rcases hb with rfl|rfl|rfl<;>rfl
theorem Ql(z:Int):Mk z.sign:=by
 unfold Mk;rcases Int.lt_trichotomy z 0 with h|h|h
 ·exact .inl (jK h)
 ·subst h;exact .inr (.inl rfl)
 ·exact .inr (.inr (fV h))
theorem TA(a b:Rat):Mk (vM a b):=by unfold Mk vM;grind
theorem SO{a b:Int}(ha:Mk a)(hb:Mk b):Mk (a*b):=by
 rcases ha with rfl|rfl|rfl<;>rcases hb with rfl|rfl|rfl<;>unfold Mk<;>decide
theorem Un(x y:Rat)(m:Int):Mk (BB x y m):=by
 unfold BB;have h1:=Ql x.num;have h2:=Ql y.num;have h3:=SO h1 (TA (x*x) (y*y*m));have h0:Mk 0:=.inr (.inl rfl);simp only
 (repeat' split)<;>assumption
section
variable{fin:VS→List aD→Prop}{Γ:List aD}{L M K:Nat}
theorem Bf(x:Sw):
  aw tb Tryz.prog 147 [sv x] Γ (jq (.tuple #[zv x.u x.d,zv x.v x.e])):=by
 refine aw.of_W aB Tryz.func147 rfl ?_;exact W.r [] (.tuple #[zv x.u x.d,zv x.v x.e]) ⟨rfl,rfl⟩ bT
theorem xg(x:Sw):
  aw tb Tryz.prog 213 [sv x] Γ (jq (ptv x)):=by
 refine aw.of_W aB Tryz.func213 rfl ?_;exact W.r [] (ptv x) ⟨rfl,rfl⟩ bT
theorem Ki(x:Sw){S:Sn} [aW (SF x) (L,S) Γ](y:Sw){T:Sn} [aW (SF y) (M,T) Γ](hm:S.m=T.m)(hn:S.n=T.n)(hL:L≤100000:=by omega)(hM:M≤100000:=by omega):
  aw tb Tryz.prog 214 [sv x,sv y] Γ (jq (.bool true)):=by
 refine aw.of_W aB Tryz.func214 rfl ?_;refine td x rfl ?_;refine td y rfl ?_;refine aq [] (pI x.u x.d y.u y.d) ?_;rintro _ _ ⟨rfl,rfl⟩;refine bj [] 13 ((nI S.m T.m)==0) (by rw[jM,DN];exact hm) ?_;refine aq [13] (pI x.v x.e y.v y.e) ?_;rintro _ _ ⟨rfl,rfl⟩;exact W.r [13] (.bool ((nI S.n T.n)==0)) ⟨by rw[DN.2 hn];rfl,rfl⟩ bT
theorem Et(x:Sw){S:Sn} [aW (SF x) (L,S) Γ](hL:L≤100000:=by omega):
  aw tb Tryz.prog 151 [sv x] Γ (Td L S.neg):=by
 refine aw.of_W aB Tryz.func151 rfl ?_;refine td x rfl ?_;refine j2 [] 6 ?_;refine aq [8] (pG x.p.n x.p.a x.p.m x.p.b) ?_;rintro _ _ ⟨n1,a1,m1,b1,rfl,rfl⟩;refine aq [8] (pG x.q.n x.q.a x.q.m x.q.b) ?_;rintro _ _ ⟨n2,a2,m2,b2,rfl,rfl⟩;refine aq [8] (pG x.r.n x.r.a x.r.m x.r.b) ?_;rintro _ _ ⟨n3,a3,m3,b3,rfl,rfl⟩;refine aq [8] (pG x.s.n x.s.a x.s.m x.s.b) ?_;rintro _ _ ⟨n4,a4,m4,b4,rfl,rfl⟩;exact W.r [8] (sv ⟨x.u,x.d,x.v,x.e,⟨n1,a1,m1,b1⟩,⟨n2,a2,m2,b2⟩,⟨n3,a3,m3,b3⟩,⟨n4,a4,m4,b4⟩⟩) ⟨_,rfl,rfl⟩ (Lf rfl rfl rfl rfl rfl rfl (by omega))
theorem pH(x:Sw){S:Sn} [aW (SF x) (L,S) Γ](y:Sw){T:Sn} [aW (SF y) (M,T) Γ](hm:S.m=T.m)(hn:S.n=T.n)(hL:L≤100000:=by omega)(hM:M≤100000:=by omega):
  aw tb Tryz.prog 152 [sv x,sv y] Γ (Xx (L+M+5) (S.add T)):=by
 refine aw.of_W aB Tryz.func152 rfl ?_;refine td x rfl ?_;refine td y rfl ?_;refine aq [] (Ki x y hm hn) ?_;rintro _ _ ⟨rfl,rfl⟩;refine j2 [11] 6 ?_;refine aq [16] (ft x.p.n x.p.a x.p.m x.p.b y.p.n y.p.a y.p.m y.p.b) ?_;rintro _ _ ⟨n2,a2,m2,b2,rfl,rfl⟩;refine aq [16] (ft x.q.n x.q.a x.q.m x.q.b y.q.n y.q.a y.q.m y.q.b) ?_;rintro _ _ ⟨n3,a3,m3,b3,rfl,rfl⟩;refine aq [16] (ft x.r.n x.r.a x.r.m x.r.b y.r.n y.r.a y.r.m y.r.b) ?_;rintro _ _ ⟨n4,a4,m4,b4,rfl,rfl⟩;refine aq [16] (ft x.s.n x.s.a x.s.m x.s.b y.s.n y.s.a y.s.m y.s.b) ?_;rintro _ _ ⟨n5,a5,m5,b5,rfl,rfl⟩;exact W.r [16] (.tuple #[sv ⟨x.u,x.d,x.v,x.e,⟨n2,a2,m2,b2⟩,⟨n3,a3,m3,b3⟩,⟨n4,a4,m4,b4⟩,⟨n5,a5,m5,b5⟩⟩,.int .i64 0]) ⟨_,rfl,rfl⟩ (Lf rfl rfl rfl rfl rfl rfl (by omega))
theorem WM(x:Sw){S:Sn} [aW (SF x) (L,S) Γ](y:Sw){T:Sn} [aW (SF y) (M,T) Γ](hm:S.m=T.m)(hn:S.n=T.n)(hL:L≤100000:=by omega)(hM:M≤100000:=by omega):
  aw tb Tryz.prog 210 [sv x,sv y] Γ (Xx (L+M+5) (S.sub T)):=by
 refine aw.of_W aB Tryz.func210 rfl ?_;refine aq [] (Et y) ?_;rintro _ _ ⟨X1,rfl,rfl⟩;refine aq [] (pH x X1 (by exact hm) (by exact hn)) ?_;rintro _ _ ⟨X2,rfl,rfl⟩;exact W.r [] (.tuple #[sv X2,.int .i64 0]) ⟨_,rfl,rfl⟩ (qg (by omega) (KQ _ _))
theorem PI(x:Sw){S:Sn} [aW (SF x) (L,S) Γ](y:Sw){T:Sn} [aW (SF y) (M,T) Γ](hm:S.m=T.m)(hn:S.n=T.n)(hL:L≤100000:=by omega)(hM:M≤100000:=by omega):
  aw tb Tryz.prog 150 [sv x,sv y] Γ (Xx (4*L+4*M+8*max L 2+200) (S.mul T)):=by
 refine aw.of_W aB Tryz.func150 rfl ?_;refine td x rfl ?_;refine td y rfl ?_;refine W.more rfl (ln (L':=0)) ?_;refine aq [] (Ki x y hm hn) ?_;rintro _ _ ⟨rfl,rfl⟩;refine aq [17] (cr x.u x.d) ?_;rintro _ _ ⟨n2,a2,m2,b2,rfl,rfl⟩;refine aq [] (cr x.v x.e) ?_;rintro _ _ ⟨n3,a3,m3,b3,rfl,rfl⟩;refine aq [] (cU 1 (by omega) (by omega)) ?_;rintro _ _ ⟨u4,d4,rfl,rfl⟩;refine aq [] (cr u4 d4) ?_;rintro _ _ ⟨n5,a5,m5,b5,rfl,rfl⟩;refine aq [] (bU n2 a2 m2 b2 n3 a3 m3 b3) ?_;rintro _ _ ⟨n6,a6,m6,b6,rfl,rfl⟩;refine j2 [] 6 ?_;refine j2 [38] 6 ?_;refine aq [44] (bU x.p.n x.p.a x.p.m x.p.b y.p.n y.p.a y.p.m y.p.b) ?_;rintro _ _ ⟨n7,a7,m7,b7,rfl,rfl⟩;refine aq [] (bU n7 a7 m7 b7 n5 a5 m5 b5) ?_;rintro _ _ ⟨n8,a8,m8,b8,rfl,rfl⟩;refine aq [] (ft ⟨none,0,0⟩ false ⟨none,0,0⟩ false n8 a8 m8 b8) ?_;rintro _ _ ⟨n9,a9,m9,b9,rfl,rfl⟩;refine aq [44] (bU x.p.n x.p.a x.p.m x.p.b y.q.n y.q.a y.q.m y.q.b) ?_;rintro _ _ ⟨n10,a10,m10,b10,rfl,rfl⟩;refine aq [] (bU n10 a10 m10 b10 n5 a5 m5 b5) ?_;rintro _ _ ⟨n11,a11,m11,b11,rfl,rfl⟩;refine aq [] (ft ⟨none,0,0⟩ false ⟨none,0,0⟩ false n11 a11 m11 b11) ?_;rintro _ _ ⟨n12,a12,m12,b12,rfl,rfl⟩;refine aq [44] (bU x.p.n x.p.a x.p.m x.p.b y.r.n y.r.a y.r.m y.r.b) ?_;rintro _ _ ⟨n13,a13,m13,b13,rfl,rfl⟩;refine aq [] (bU n13 a13 m13 b13 n5 a5 m5 b5) ?_;rintro _ _ ⟨n14,a14,m14,b14,rfl,rfl⟩
 refine aq [] (ft ⟨none,0,0⟩ false ⟨none,0,0⟩ false n14 a14 m14 b14) ?_;rintro _ _ ⟨n15,a15,m15,b15,rfl,rfl⟩;refine aq [44] (bU x.p.n x.p.a x.p.m x.p.b y.s.n y.s.a y.s.m y.s.b) ?_;rintro _ _ ⟨n16,a16,m16,b16,rfl,rfl⟩;refine aq [] (bU n16 a16 m16 b16 n5 a5 m5 b5) ?_;rintro _ _ ⟨n17,a17,m17,b17,rfl,rfl⟩;refine aq [] (ft ⟨none,0,0⟩ false ⟨none,0,0⟩ false n17 a17 m17 b17) ?_;rintro _ _ ⟨n18,a18,m18,b18,rfl,rfl⟩;refine j2 [38,44] 6 ?_;refine aq [44] (bU x.q.n x.q.a x.q.m x.q.b y.p.n y.p.a y.p.m y.p.b) ?_;rintro _ _ ⟨n19,a19,m19,b19,rfl,rfl⟩;refine aq [] (bU n19 a19 m19 b19 n5 a5 m5 b5) ?_;rintro _ _ ⟨n20,a20,m20,b20,rfl,rfl⟩;refine aq [] (ft n12 a12 m12 b12 n20 a20 m20 b20) ?_;rintro _ _ ⟨n21,a21,m21,b21,rfl,rfl⟩;refine aq [44] (bU x.q.n x.q.a x.q.m x.q.b y.q.n y.q.a y.q.m y.q.b) ?_;rintro _ _ ⟨n22,a22,m22,b22,rfl,rfl⟩;refine aq [] (bU n22 a22 m22 b22 n2 a2 m2 b2) ?_;rintro _ _ ⟨n23,a23,m23,b23,rfl,rfl⟩;refine aq [] (ft n9 a9 m9 b9 n23 a23 m23 b23) ?_;rintro _ _ ⟨n24,a24,m24,b24,rfl,rfl⟩;refine aq [44] (bU x.q.n x.q.a x.q.m x.q.b y.r.n y.r.a y.r.m y.r.b) ?_;rintro _ _ ⟨n25,a25,m25,b25,rfl,rfl⟩;refine aq [] (bU n25 a25 m25 b25 n5 a5 m5 b5) ?_;rintro _ _ ⟨n26,a26,m26,b26,rfl,rfl⟩;refine aq [] (ft n18 a18 m18 b18 n26 a26 m26 b26) ?_;rintro _ _ ⟨n27,a27,m27,b27,rfl,rfl⟩;refine aq [44] (bU x.q.n x.q.a x.q.m x.q.b y.s.n y.s.a y.s.m y.s.b) ?_
 rintro _ _ ⟨n28,a28,m28,b28,rfl,rfl⟩;refine aq [] (bU n28 a28 m28 b28 n2 a2 m2 b2) ?_;rintro _ _ ⟨n29,a29,m29,b29,rfl,rfl⟩;refine aq [] (ft n15 a15 m15 b15 n29 a29 m29 b29) ?_;rintro _ _ ⟨n30,a30,m30,b30,rfl,rfl⟩;refine j2 [38,44] 6 ?_;refine aq [44] (bU x.r.n x.r.a x.r.m x.r.b y.p.n y.p.a y.p.m y.p.b) ?_;rintro _ _ ⟨n31,a31,m31,b31,rfl,rfl⟩;refine aq [] (bU n31 a31 m31 b31 n5 a5 m5 b5) ?_;rintro _ _ ⟨n32,a32,m32,b32,rfl,rfl⟩;refine aq [] (ft n30 a30 m30 b30 n32 a32 m32 b32) ?_;rintro _ _ ⟨n33,a33,m33,b33,rfl,rfl⟩;refine aq [44] (bU x.r.n x.r.a x.r.m x.r.b y.q.n y.q.a y.q.m y.q.b) ?_;rintro _ _ ⟨n34,a34,m34,b34,rfl,rfl⟩;refine aq [] (bU n34 a34 m34 b34 n5 a5 m5 b5) ?_;rintro _ _ ⟨n35,a35,m35,b35,rfl,rfl⟩;refine aq [] (ft n27 a27 m27 b27 n35 a35 m35 b35) ?_;rintro _ _ ⟨n36,a36,m36,b36,rfl,rfl⟩;refine aq [44] (bU x.r.n x.r.a x.r.m x.r.b y.r.n y.r.a y.r.m y.r.b) ?_;rintro _ _ ⟨n37,a37,m37,b37,rfl,rfl⟩;refine aq [] (bU n37 a37 m37 b37 n3 a3 m3 b3) ?_;rintro _ _ ⟨n38,a38,m38,b38,rfl,rfl⟩;refine aq [] (ft n24 a24 m24 b24 n38 a38 m38 b38) ?_;rintro _ _ ⟨n39,a39,m39,b39,rfl,rfl⟩;refine aq [44] (bU x.r.n x.r.a x.r.m x.r.b y.s.n y.s.a y.s.m y.s.b) ?_;rintro _ _ ⟨n40,a40,m40,b40,rfl,rfl⟩;refine aq [] (bU n40 a40 m40 b40 n3 a3 m3 b3) ?_;rintro _ _ ⟨n41,a41,m41,b41,rfl,rfl⟩;refine aq [] (ft n21 a21 m21 b21 n41 a41 m41 b41) ?_
 rintro _ _ ⟨n42,a42,m42,b42,rfl,rfl⟩;refine j2 [38,44] 6 ?_;refine aq [44] (bU x.s.n x.s.a x.s.m x.s.b y.p.n y.p.a y.p.m y.p.b) ?_;rintro _ _ ⟨n43,a43,m43,b43,rfl,rfl⟩;refine aq [] (bU n43 a43 m43 b43 n5 a5 m5 b5) ?_;rintro _ _ ⟨n44,a44,m44,b44,rfl,rfl⟩;refine aq [] (ft n36 a36 m36 b36 n44 a44 m44 b44) ?_;rintro _ _ ⟨n45,a45,m45,b45,rfl,rfl⟩;refine aq [44] (bU x.s.n x.s.a x.s.m x.s.b y.q.n y.q.a y.q.m y.q.b) ?_;rintro _ _ ⟨n46,a46,m46,b46,rfl,rfl⟩;refine aq [] (bU n46 a46 m46 b46 n2 a2 m2 b2) ?_;rintro _ _ ⟨n47,a47,m47,b47,rfl,rfl⟩;refine aq [] (ft n33 a33 m33 b33 n47 a47 m47 b47) ?_;rintro _ _ ⟨n48,a48,m48,b48,rfl,rfl⟩;refine aq [44] (bU x.s.n x.s.a x.s.m x.s.b y.r.n y.r.a y.r.m y.r.b) ?_;rintro _ _ ⟨n49,a49,m49,b49,rfl,rfl⟩;refine aq [] (bU n49 a49 m49 b49 n3 a3 m3 b3) ?_;rintro _ _ ⟨n50,a50,m50,b50,rfl,rfl⟩;refine aq [] (ft n42 a42 m42 b42 n50 a50 m50 b50) ?_;rintro _ _ ⟨n51,a51,m51,b51,rfl,rfl⟩;refine aq [44] (bU x.s.n x.s.a x.s.m x.s.b y.s.n y.s.a y.s.m y.s.b) ?_;rintro _ _ ⟨n52,a52,m52,b52,rfl,rfl⟩;refine aq [] (bU n52 a52 m52 b52 n6 a6 m6 b6) ?_;rintro _ _ ⟨n53,a53,m53,b53,rfl,rfl⟩;refine aq [] (ft n39 a39 m39 b39 n53 a53 m53 b53) ?_;rintro _ _ ⟨n54,a54,m54,b54,rfl,rfl⟩;exact W.r [38,44] (.tuple #[sv ⟨x.u,x.d,x.v,x.e,⟨n54,a54,m54,b54⟩,⟨n51,a51,m51,b51⟩,⟨n48,a48,m48,b48⟩,⟨n45,a45,m45,b45⟩⟩,.int .i64 0]) ⟨_,rfl,rfl⟩ (Lf rfl rfl (by simp only[Sn.mul];grind) (by simp only[Sn.mul];grind) (by simp only[Sn.mul];grind) (by simp only[Sn.mul];grind) (by omega))
theorem IQ(n:Sl)(a:Bool)(m:Sl)(b:Bool)(k:Sl)(c:Bool)(l:Sl)(d:Bool)(u:Sl)(e:Bool){x y:Rat}{z:Int} [aW (QF n a m b) (L,x) Γ] [aW (QF k c l d) (M,y) Γ] [aW (ZF u e) (K,z) Γ](hL:L≤400000:=by omega)(hM:M≤290000:=by omega)(hK:K≤400000:=by omega):
  aw tb Tryz.prog 270 [qv n a m b,qv k c l d,zv u e] Γ (jq (.int .i64 (BB x y z))):=by
 refine aw.of_W aB Tryz.func270 rfl ?_;refine aq [] (iZ n a m b) ?_;rintro _ _ ⟨rfl,rfl⟩;refine aq [] (iZ k c l d) ?_;rintro _ _ ⟨rfl,rfl⟩;refine aq [] (ns u e) ?_;rintro _ _ ⟨rfl,rfl⟩;refine W.d [] 15 ((z).sign==0) (fun hb=>?_) (fun hb=>?_)
 ·skip
  exact W.r [16,19,15] (.int .i64 x.num.sign) ⟨dH _ (by unfold BB;grind),rfl⟩ bT
 ·skip
  refine W.d [15] 19 (y.num.sign==0) (fun hb=>?_) (fun hb=>?_)
  ·skip
   exact W.r [16,19] (.int .i64 x.num.sign) ⟨dH _ (by unfold BB;grind),rfl⟩ bT
  ·skip
   refine W.d [19] 16 (x.num.sign==y.num.sign) (fun hb=>?_) (fun hb=>?_)
   ·skip
    exact W.r [16] (.int .i64 x.num.sign) ⟨dH _ (by unfold BB;grind),rfl⟩ bT
   ·skip
    refine W.d [16] 25 (x.num.sign==0) (fun hb=>?_) (fun hb=>?_)
    ·skip
     exact W.r [25] (.int .i64 y.num.sign) ⟨dH _ (by unfold BB;grind),rfl⟩ bT
    ·skip
     refine aq [25] (bU n a m b n a m b) ?_;rintro _ _ ⟨n4,a4,m4,b4,rfl,rfl⟩;refine aq [] (bU k c l d k c l d) ?_;rintro _ _ ⟨n5,a5,m5,b5,rfl,rfl⟩;refine aq [] (cr u e) ?_;rintro _ _ ⟨n6,a6,m6,b6,rfl,rfl⟩;refine aq [] (bU n5 a5 m5 b5 n6 a6 m6 b6) ?_;rintro _ _ ⟨n7,a7,m7,b7,rfl,rfl⟩;refine aq [] (WC n4 a4 m4 b4 n7 a7 m7 b7) ?_;rintro _ _ ⟨rfl,rfl⟩;exact W.r [] (.int .i64 (IntKind.i64.wrap (x.num.sign*(vM (x*x) ((y*y)*(z:Rat)))))) ⟨dH _ (by rw[Uv (Ql _) (TA _ _)];unfold BB;grind),rfl⟩ bT
theorem Kk(x:Sw){S:Sn} [aW (SF x) (L,S) Γ](hL:L≤10000:=by omega):
  aw tb Tryz.prog 256 [sv x] Γ (jq (.int .i64 S.sg)):=by
 refine aw.of_W aB Tryz.func256 rfl ?_;refine td x rfl ?_;refine W.revp 1 ((sv x).cells.toList) ?_;intro b0;refine bZ [] 4 b0 0 aB ?_;refine wv [] 4 4 b0 4 none (some (.int .i64 ((2:Nat):Int))) 0 2 aB (.inr ⟨rfl,rfl⟩) (.inl rfl) (by decide) (by decide) (by decide) ?_;refine bZ [] 4 b0 0 aB ?_;refine wv [] 4 4 b0 4 (some (.int .i64 ((2:Nat):Int))) none 2 4 aB (.inl rfl) (.inr ⟨rfl,rfl⟩) (by decide) (by decide) (by decide) ?_;refine bW [] 4 b0 4 2 4 .i64 0 0 rfl aB (by decide) ?_;refine ju [] b0 4 [.slice x.p.n.ao x.p.n.n x.p.n.c,.bool x.p.a,.slice x.p.m.ao x.p.m.n x.p.m.c,.bool x.p.b] aB rfl ?_;refine bW [] 4 b0 4 2 4 .i64 1 1 rfl aB (by decide) ?_;refine ju [] b0 8 [.slice x.q.n.ao x.q.n.n x.q.n.c,.bool x.q.a,.slice x.q.m.ao x.q.m.n x.q.m.c,.bool x.q.b] aB rfl ?_;refine bZ [] 0 b0 0 aB ?_;refine bZ [] 0 b0 0 aB ?_;refine ju [] b0 0 [.slice x.u.ao x.u.n x.u.c,.bool x.d] aB rfl ?_;refine bW [] 4 b0 12 2 2 .i64 0 0 rfl aB (by decide) ?_;refine ju [] b0 12 [.slice x.r.n.ao x.r.n.n x.r.n.c,.bool x.r.a,.slice x.r.m.ao x.r.m.n x.r.m.c,.bool x.r.b] aB rfl ?_;refine bW [] 4 b0 12 2 2 .i64 1 1 rfl aB (by decide) ?_;refine ju [] b0 16 [.slice x.s.n.ao x.s.n.n x.s.n.c,.bool x.s.a,.slice x.s.m.ao x.s.m.n x.s.m.c,.bool x.s.b] aB rfl ?_;refine bZ [] 0 b0 0 aB ?_;refine bZ [] 0 b0 0 aB ?_;refine ju [] b0 0 [.slice x.u.ao x.u.n x.u.c,.bool x.d] aB rfl ?_;refine aq [] (IQ x.p.n x.p.a x.p.m x.p.b x.q.n x.q.a x.q.m x.q.b x.u x.d) ?_
 rintro _ _ ⟨rfl,rfl⟩;refine aq [] (IQ x.r.n x.r.a x.r.m x.r.b x.s.n x.s.a x.s.m x.s.b x.u x.d) ?_;rintro _ _ ⟨rfl,rfl⟩;refine bZ [] 0 b0 0 aB ?_;refine bZ [] 2 b0 0 aB ?_;refine ju [] b0 2 [.slice x.v.ao x.v.n x.v.c,.bool x.e] aB rfl ?_;refine aq [] (ns x.v x.e) ?_;rintro _ _ ⟨rfl,rfl⟩;refine W.d [] 40 ((S.n).sign==0) (fun hb=>?_) (fun hb=>?_)
 ·skip
  exact W.r [41,44,40] (.int .i64 (BB S.p S.q S.m)) ⟨dH _ (by unfold Sn.sg;grind),rfl⟩ bT
 ·skip
  refine W.d [40] 44 ((BB S.r S.s S.m)==0) (fun hb=>?_) (fun hb=>?_)
  ·skip
   exact W.r [41,44] (.int .i64 (BB S.p S.q S.m)) ⟨dH _ (by unfold Sn.sg;grind),rfl⟩ bT
  ·skip
   refine W.d [44] 41 ((BB S.p S.q S.m)==(BB S.r S.s S.m)) (fun hb=>?_) (fun hb=>?_)
   ·skip
    exact W.r [41] (.int .i64 (BB S.p S.q S.m)) ⟨dH _ (by unfold Sn.sg;grind),rfl⟩ bT
   ·skip
    refine W.d [41] 50 ((BB S.p S.q S.m)==0) (fun hb=>?_) (fun hb=>?_)
    ·skip
     exact W.r [50] (.int .i64 (BB S.r S.s S.m)) ⟨dH _ (by unfold Sn.sg;grind),rfl⟩ bT
    ·skip
     refine bZ [50] 0 b0 0 aB ?_;refine bZ [] 0 b0 0 aB ?_;refine ju [] b0 0 [.slice x.u.ao x.u.n x.u.c,.bool x.d] aB rfl ?_;refine bZ [] 0 b0 0 aB ?_;refine bZ [] 2 b0 0 aB ?_;refine ju [] b0 2 [.slice x.v.ao x.v.n x.v.c,.bool x.e] aB rfl ?_;refine aq [] (cr x.u x.d) ?_;rintro _ _ ⟨n4,a4,m4,b4,rfl,rfl⟩;refine aq [] (cr x.v x.e) ?_;rintro _ _ ⟨n5,a5,m5,b5,rfl,rfl⟩;refine aq [] (cU 2 (by omega) (by omega)) ?_;rintro _ _ ⟨u6,d6,rfl,rfl⟩;refine aq [] (cr u6 d6) ?_;rintro _ _ ⟨n7,a7,m7,b7,rfl,rfl⟩;refine bW [] 4 b0 4 2 4 .i64 0 0 rfl aB (by decide) ?_;refine ju [] b0 4 [.slice x.p.n.ao x.p.n.n x.p.n.c,.bool x.p.a,.slice x.p.m.ao x.p.m.n x.p.m.c,.bool x.p.b] aB rfl ?_;refine bW [] 4 b0 4 2 4 .i64 0 0 rfl aB (by decide) ?_;refine ju [] b0 4 [.slice x.p.n.ao x.p.n.n x.p.n.c,.bool x.p.a,.slice x.p.m.ao x.p.m.n x.p.m.c,.bool x.p.b] aB rfl ?_;refine bW [] 4 b0 4 2 4 .i64 1 1 rfl aB (by decide) ?_;refine ju [] b0 8 [.slice x.q.n.ao x.q.n.n x.q.n.c,.bool x.q.a,.slice x.q.m.ao x.q.m.n x.q.m.c,.bool x.q.b] aB rfl ?_;refine bW [] 4 b0 4 2 4 .i64 1 1 rfl aB (by decide) ?_;refine ju [] b0 8 [.slice x.q.n.ao x.q.n.n x.q.n.c,.bool x.q.a,.slice x.q.m.ao x.q.m.n x.q.m.c,.bool x.q.b] aB rfl ?_;refine bW [] 4 b0 12 2 2 .i64 0 0 rfl aB (by decide) ?_;refine ju [] b0 12 [.slice x.r.n.ao x.r.n.n x.r.n.c,.bool x.r.a,.slice x.r.m.ao x.r.m.n x.r.m.c,.bool x.r.b] aB rfl ?_
     refine bW [] 4 b0 12 2 2 .i64 0 0 rfl aB (by decide) ?_;refine ju [] b0 12 [.slice x.r.n.ao x.r.n.n x.r.n.c,.bool x.r.a,.slice x.r.m.ao x.r.m.n x.r.m.c,.bool x.r.b] aB rfl ?_;refine bW [] 4 b0 12 2 2 .i64 1 1 rfl aB (by decide) ?_;refine ju [] b0 16 [.slice x.s.n.ao x.s.n.n x.s.n.c,.bool x.s.a,.slice x.s.m.ao x.s.m.n x.s.m.c,.bool x.s.b] aB rfl ?_;refine bW [] 4 b0 12 2 2 .i64 1 1 rfl aB (by decide) ?_;refine ju [] b0 16 [.slice x.s.n.ao x.s.n.n x.s.n.c,.bool x.s.a,.slice x.s.m.ao x.s.m.n x.s.m.c,.bool x.s.b] aB rfl ?_;refine aq [] (bU x.p.n x.p.a x.p.m x.p.b x.p.n x.p.a x.p.m x.p.b) ?_;rintro _ _ ⟨n8,a8,m8,b8,rfl,rfl⟩;refine aq [] (bU n4 a4 m4 b4 x.q.n x.q.a x.q.m x.q.b) ?_;rintro _ _ ⟨n9,a9,m9,b9,rfl,rfl⟩;refine aq [] (bU n9 a9 m9 b9 x.q.n x.q.a x.q.m x.q.b) ?_;rintro _ _ ⟨n10,a10,m10,b10,rfl,rfl⟩;refine aq [] (ft n8 a8 m8 b8 n10 a10 m10 b10) ?_;rintro _ _ ⟨n11,a11,m11,b11,rfl,rfl⟩;refine aq [] (bU x.r.n x.r.a x.r.m x.r.b x.r.n x.r.a x.r.m x.r.b) ?_;rintro _ _ ⟨n12,a12,m12,b12,rfl,rfl⟩;refine aq [] (bU n4 a4 m4 b4 x.s.n x.s.a x.s.m x.s.b) ?_;rintro _ _ ⟨n13,a13,m13,b13,rfl,rfl⟩;refine aq [] (bU n13 a13 m13 b13 x.s.n x.s.a x.s.m x.s.b) ?_;rintro _ _ ⟨n14,a14,m14,b14,rfl,rfl⟩;refine aq [] (ft n12 a12 m12 b12 n14 a14 m14 b14) ?_;rintro _ _ ⟨n15,a15,m15,b15,rfl,rfl⟩;refine aq [] (bU n5 a5 m5 b5 n15 a15 m15 b15) ?_;rintro _ _ ⟨n16,a16,m16,b16,rfl,rfl⟩
     refine aq [] (En n11 a11 m11 b11 n16 a16 m16 b16) ?_;rintro _ _ ⟨n17,a17,m17,b17,rfl,rfl⟩;refine bW [] 4 b0 4 2 4 .i64 0 0 rfl aB (by decide) ?_;refine ju [] b0 4 [.slice x.p.n.ao x.p.n.n x.p.n.c,.bool x.p.a,.slice x.p.m.ao x.p.m.n x.p.m.c,.bool x.p.b] aB rfl ?_;refine bW [] 4 b0 4 2 4 .i64 1 1 rfl aB (by decide) ?_;refine ju [] b0 8 [.slice x.q.n.ao x.q.n.n x.q.n.c,.bool x.q.a,.slice x.q.m.ao x.q.m.n x.q.m.c,.bool x.q.b] aB rfl ?_;refine bW [] 4 b0 12 2 2 .i64 0 0 rfl aB (by decide) ?_;refine ju [] b0 12 [.slice x.r.n.ao x.r.n.n x.r.n.c,.bool x.r.a,.slice x.r.m.ao x.r.m.n x.r.m.c,.bool x.r.b] aB rfl ?_;refine bW [] 4 b0 12 2 2 .i64 1 1 rfl aB (by decide) ?_;refine ju [] b0 16 [.slice x.s.n.ao x.s.n.n x.s.n.c,.bool x.s.a,.slice x.s.m.ao x.s.m.n x.s.m.c,.bool x.s.b] aB rfl ?_;refine aq [] (bU x.p.n x.p.a x.p.m x.p.b x.q.n x.q.a x.q.m x.q.b) ?_;rintro _ _ ⟨n18,a18,m18,b18,rfl,rfl⟩;refine aq [] (bU n5 a5 m5 b5 x.r.n x.r.a x.r.m x.r.b) ?_;rintro _ _ ⟨n19,a19,m19,b19,rfl,rfl⟩;refine aq [] (bU n19 a19 m19 b19 x.s.n x.s.a x.s.m x.s.b) ?_;rintro _ _ ⟨n20,a20,m20,b20,rfl,rfl⟩;refine aq [] (En n18 a18 m18 b18 n20 a20 m20 b20) ?_;rintro _ _ ⟨n21,a21,m21,b21,rfl,rfl⟩;refine aq [] (bU n7 a7 m7 b7 n21 a21 m21 b21) ?_;rintro _ _ ⟨n22,a22,m22,b22,rfl,rfl⟩;refine bZ [] 0 b0 0 aB ?_;refine bZ [] 0 b0 0 aB ?_;refine ju [] b0 0 [.slice x.u.ao x.u.n x.u.c,.bool x.d] aB rfl ?_
     refine aq [] (IQ n17 a17 m17 b17 n22 a22 m22 b22 x.u x.d) ?_;rintro _ _ ⟨rfl,rfl⟩;exact W.r [] (.int .i64 (IntKind.i64.wrap ((BB S.p S.q S.m)*(BB (((S.p*S.p)+(((S.m:Rat)*S.q)*S.q))-((S.n:Rat)*((S.r*S.r)+(((S.m:Rat)*S.s)*S.s)))) ((2:Rat)*((S.p*S.q)-(((S.n:Rat)*S.r)*S.s))) S.m)))) ⟨dH _ (by rw[Uv (Un _ _ _) (Un _ _ _)];unfold Sn.sg;grind),rfl⟩ bT
theorem uQ(x:Sw){S:Sn} [aW (SF x) (L,S) Γ](u:Sl)(e:Bool){q:Int} [aW (ZF u e) (M,q) Γ](hL:L≤4000:=by omega)(hM:M≤4000:=by omega):
  aw tb Tryz.prog 269 [sv x,zv u e] Γ (jq (.bool (decide ((S.lessq q).sg<0)))):=by
 refine aw.of_W aB Tryz.func269 rfl ?_;refine td x rfl ?_;refine aq [] (cr u e) ?_;rintro _ _ ⟨n1,a1,m1,b1,rfl,rfl⟩;refine aq [] (En x.p.n x.p.a x.p.m x.p.b n1 a1 m1 b1) ?_;rintro _ _ ⟨n2,a2,m2,b2,rfl,rfl⟩;refine gT [] (Lf (x:=⟨x.u,x.d,x.v,x.e,⟨n2,a2,m2,b2⟩,x.q,x.r,x.s⟩) (L':=L+max M 2+10) (S:=(S.lessq q)) rfl rfl rfl rfl rfl rfl (by omega)) (Kk ⟨x.u,x.d,x.v,x.e,⟨n2,a2,m2,b2⟩,x.q,x.r,x.s⟩) ?_;rintro _ _ ⟨rfl,rfl⟩;exact W.r [] (.bool (decide ((S.lessq q).sg<0))) ⟨rfl,rfl⟩ bT
theorem xe(n:Sl)(a:Bool)(m:Sl)(b:Bool)(u:Sl)(e:Bool)(k:Int)(hk:k=8){x:Rat}{r:Int} [aW (QF n a m b) (L,x) Γ] [hr:aW (ZF u e) (M,r) Γ](hL:L≤600:=by omega)(hM:M≤700:=by omega):
  aw tb Tryz.prog 268 [qv n a m b,zv u e,.int .i64 k] Γ (o0 (2*L+M+10) (lg x r 8)):=by
 subst hk;refine aw.of_W aB Tryz.func268 rfl ?_;refine aq [] (PA n a m b) ?_;rintro _ _ ⟨u1,d1,rfl,rfl⟩;refine aq [] (Bh u1 d1) ?_;rintro _ _ ⟨rfl,rfl⟩;refine aq [] (PA n a m b) ?_;rintro _ _ ⟨u3,d3,rfl,rfl⟩;refine aq [] (Bh u3 d3) ?_;rintro _ _ ⟨rfl,rfl⟩;refine aq [] (Pr u1 u3) ?_;rintro _ _ ⟨u5,rfl,rfl⟩;refine aq [] (Bh u e) ?_;rintro _ _ ⟨rfl,rfl⟩;refine aq [] (Pr u5 u) ?_;rintro _ _ ⟨u7,rfl,rfl⟩;refine aq [] (ZK u7 16 (by omega)) ?_;rintro _ _ ⟨u8,rfl,rfl⟩;refine aq [] (WH u8) ?_;rintro _ _ ⟨u9,t9,rfl,rfl⟩;refine aq [] (vY u9) ?_;rintro _ _ ⟨u10,d10,rfl,rfl⟩;refine aq [] (jy n a m b) ?_;rintro _ _ ⟨u11,d11,rfl,rfl⟩;refine aq [] (i_ u10 d10 u11 d11 (by have:=gB x;omega)) ?_;rintro _ _ ⟨u12,d12,v12,e12,rfl,rfl⟩;refine aq [] (iZ n a m b) ?_;rintro _ _ ⟨rfl,rfl⟩;refine W.d [] 46 (decide (x.num.sign<0)) (fun hb=>?_) (fun hb=>?_)
 ·refine aq [46] (r_ u12 d12) ?_;rintro _ _ ⟨u14,d14,rfl,rfl⟩;exact W.r [] (zv u14 d14) ⟨_,_,rfl,rfl⟩ (lq (by omega) (by unfold lg;simp only;rw[if_pos (jf hb)]))
 ·exact W.r [46] (zv u12 d12) ⟨_,_,rfl,rfl⟩ (lq (by omega) (by unfold lg;simp only;rw[if_neg (eJ hb)]))
end
def Km(l:List QE)(i:Nat):Qw:=match l[i]? with
 |some e=>⟨e.n,e.nb,e.d,e.db⟩
 |none=>b_
def XJ(l:List QE)(i:Nat):Rat:=match l[i]? with
 |some e=>e.q
 |none=>0
theorem xl{l:List QE}{L L':Nat}{I:fQ}{w:World}(hd:br tb I w)(h:∀e∈l,(QR.fact L e).p I w)(hL:L≤L')(i:Nat):(QG (Km l i) (L',XJ l i)).p I w:=by
 unfold Km XJ;cases hi:l[i]? with
 |none=>exact(ln (Γ:=[]) (L':=L') I w hd (aG.nil _ _)).h0'
 |some e=>
  have:=h e (aK hi);exact QF.up2 this hL
section
variable{fin:VS→List aD→Prop}{Γ:List aD}{L M K:Nat}
theorem PJ(u:Sl)(d:Bool)(v:Sl)(e:Bool)(ao:Option Addr)(n c:Nat){l:List QE}{p q:Int} [hu:aW (ZF u d) (L,p) Γ] [hv:aW (ZF v e) (M,q) Γ] [h:aW (OL QR ao) (K,l) Γ](hn:n=l.length)(hl:n≤4)(hp:0≤p)(hq:0≤q)
  (hL:L≤100000:=by omega)(hM:M≤100000:=by omega):
  aw tb Tryz.prog 148 [zv u d,zv v e,.slice ao n c] Γ (Xx (max (max L M) K) ⟨p,q,XJ l 0,XJ l 1,XJ l 2,XJ l 3⟩):=by
 subst hn;refine aw.of_W aB Tryz.func148 rfl ?_;refine W.more (Δ:=[RA ao (l.flatMap QR.cells)]) rfl (fun I w _ hh=>aS (h.p hh).2) ?_;refine qD (l.flatMap QR.cells≠ []→∃b off,ao=some ⟨b,off,none⟩) rfl (fun I w _ hh hne=>by
  obtain⟨b,off,ha,_⟩:=(h.p (fun F hF=>hh F (by simp[hF]))).2 hne;exact⟨b,off,ha⟩) (fun hao=>?_)
 refine aq [] (ns u d) ?_;rintro _ _ ⟨rfl,rfl⟩;refine aQ [] 12 (decide ((p).sign<0)) (by rw[aX,Int.sign_neg_iff];omega) ?_;refine aq [12] (ns v e) ?_;rintro _ _ ⟨rfl,rfl⟩;refine aQ [12] 17 (decide ((q).sign<0)) (by rw[aX,Int.sign_neg_iff];omega) ?_;refine aQ [17] 21 (decide (((l.length:Nat):Int)>4)) (by rw[aX];omega) ?_;refine vn 8 (fun b=>?_);refine bZ [] 4 b 0 aB ?_;refine wv [] 4 4 b 4 none none 0 4 aB (.inr ⟨rfl,rfl⟩) (.inr ⟨rfl,rfl⟩) (by decide) (by decide) (by decide) ?_;have hone:∀z∈l.flatMap QR.cells,z.oneCell'=true:=by
  intro z hz;obtain⟨e,_,hz⟩:=List.mem_flatMap.1 hz;simp[QR]at hz;rcases hz with rfl|rfl|rfl|rfl<;>rfl
 have hlen:=qy QR l;have hz:QR.z=4:=rfl;refine X8 [] [(b,(sv ⟨u,d,v,e,b_,b_,b_,b_⟩).cells.toList)] [] [] 4 b 4 4 4 l.length (sv ⟨u,d,v,e,b_,b_,b_,b_⟩).cells.toList (.slice ao l.length c) (l.flatMap QR.cells) aB rfl
  (xq ao _ l.length 4 c hlen (fun h0=>hao (by intro e;have h2:=dH List.length e;rw[hlen,hz]at h2;simp only[a_]at h2;omega))) hone hl (by rw[hlen,hz];show _≤20;omega) ?_
 have key:∀(X:Sw),X=⟨u,d,v,e,Km l 0,Km l 1,Km l 2,Km l 3⟩→((((sv ⟨u,d,v,e,b_,b_,b_,b_⟩).cells.toList.take 4++l.flatMap QR.cells++(sv ⟨u,d,v,e,b_,b_,b_,b_⟩).cells.toList.drop (4+(l.flatMap QR.cells).length)).drop 0).take 20=(sv X).cells.toList):=by
  rintro X rfl;rcases l with _|⟨e0,_|⟨e1,_|⟨e2,_|⟨e3,_|⟨e4,l⟩⟩⟩⟩⟩
  ·rfl
  ·rfl
  ·rfl
  ·rfl
  ·rfl
  ·simp at hl
 refine wu [] ([]++(b,(sv ⟨u,d,v,e,b_,b_,b_,b_⟩).cells.toList.take 4++l.flatMap QR.cells++(sv ⟨u,d,v,e,b_,b_,b_,b_⟩).cells.toList.drop (4+(l.flatMap QR.cells).length))::[]) b 0 20 _ (sv ⟨u,d,v,e,Km l 0,Km l 1,Km l 2,Km l 3⟩).cells.toList aB (by simp) (key _ rfl) rfl ?_;exact W.r [] (.tuple #[sv ⟨u,d,v,e,Km l 0,Km l 1,Km l 2,Km l 3⟩,.int .i64 0]) ⟨_,rfl,rfl⟩ (fun I w hd hh=>by
  have f1:=aW.p (k:=ZF u d) (a:=(L,p)) inferInstance hh;have f2:=aW.p (k:=ZF v e) (a:=(M,q)) inferInstance hh;have f3:=(aW.p (k:=OL QR ao) (a:=(K,l)) inferInstance hh).1;exact aS ⟨ZF.up2 f1 (by omega),ZF.up2 f2 (by omega),xl hd f3 (by omega) 0,xl hd f3 (by omega) 1,xl hd f3 (by omega) 2,xl hd f3 (by omega) 3⟩)
end
section
variable{fin:VS→List aD→Prop}{Γ:List aD}{L M K:Nat}
theorem aw.entH{f:FuncId}{args:List Value}{Γ:List aD}{post post':Value→List aD→Prop}(h:aw tb Tryz.prog f args Γ post)(hp:∀v Δ,post v Δ→∃Δ',post' v Δ'∧∀I w,aG Δ I w→aG Δ' I w):aw tb Tryz.prog f args Γ post':=
 ⟨h.1,fun I w hd hh=>(h.2 I w hd hh).mono fun _ _ ⟨v,Δ,h1,h2,h3,h4⟩=>by
  obtain⟨Δ',g1,g2⟩:=hp v Δ h2;exact⟨v,Δ',h1,g1,h3,g2 _ _ h4⟩⟩
end
end Go.Proofs.YtgaaopjagcaojaaGreat
