import Derived.Test.YtgaaopjagcaojaaGreatVy
import Derived.Lib.Bytealg
import Derived.Test.YtgaaopjagcaojaaGreatMaths
import Derived.Test.YtgaaopjagcaojaaGreatProg
import Derived.Test.YtgaaopjagcaojaaGreatNatU
import Derived.Test.YtgaaopjagcaojaaGreatNatV
import Derived.Deep.DeepCutAuto
set_option linter.unusedSimpArgs false
set_option linter.unusedVariables false
namespace Go.Proofs.YtgaaopjagcaojaaGreat
open Go.RowKit Go.IntWalk
def vI(x y:Rat):Int:=if x<y then-1 else if x=y then 0 else 1
def om(q:Rat):Int:=q.num/q.den
theorem RG{x y:Int}(hy:0<y):(Rat.divInt x y).num=x/(Nat.gcd x.natAbs y.natAbs:Nat)∧((Rat.divInt x y).den:Int)=y/(Nat.gcd x.natAbs y.natAbs:Nat):=by
 have hg:Int.gcd y x=Nat.gcd x.natAbs y.natAbs:=by rw[Int.gcd_comm];rfl
 refine⟨?_,?_⟩
 ·rw[Rat.num_divInt,hg,gd hy,Int.one_mul]
 ·rw[Rat.den_divInt,if_neg (by omega),hg,kP,show((y.natAbs:Nat):Int)=y by omega]
theorem RE{x y:Int}(hy:y<0):(Rat.divInt x y).num= -(x/(Nat.gcd x.natAbs y.natAbs:Nat))∧((Rat.divInt x y).den:Int)= -(y/(Nat.gcd x.natAbs y.natAbs:Nat)):=by
 have hg:Int.gcd y x=Nat.gcd x.natAbs y.natAbs:=by rw[Int.gcd_comm];rfl
 have d1:((Nat.gcd x.natAbs y.natAbs:Nat):Int)∣x:=Int.ofNat_dvd_left.2 (Nat.gcd_dvd_left _ _);have d2:((Nat.gcd x.natAbs y.natAbs:Nat):Int)∣y:=Int.ofNat_dvd_left.2 (Nat.gcd_dvd_right _ _);refine⟨?_,?_⟩
 ·rw[Rat.num_divInt,hg,jO hy,Int.neg_one_mul,Int.neg_ediv_of_dvd d1]
 ·rw[Rat.den_divInt,if_neg (by omega),hg,kP,show((y.natAbs:Nat):Int)= -y by omega,Int.neg_ediv_of_dvd d2]
theorem yJ{x:Int}{g:Nat}(h:(g:Int)∣x)(hg:0<g):(x/(g:Int)).natAbs≤x.natAbs:=by
 obtain⟨k,rfl⟩:=h;rw[Int.mul_ediv_cancel_left _ (by omega),cK];show k.natAbs≤g*k.natAbs;exact Nat.le_mul_of_pos_left _ hg
theorem gO(q:Rat):(0:Int)<q.den:=by
 have:=q.den_pos;omega
theorem Pp(a b:Rat):Rat.divInt (a.num*b.den+b.num*a.den) (a.den*b.den)=a+b:=by
 rw[Rat.add_def',←dp,Rat.divInt_ofNat]
theorem Pq(a b:Rat):Rat.divInt (a.num*b.num) (a.den*b.den)=a*b:=by
 rw[Rat.mul_def',←dp,Rat.divInt_ofNat]
theorem Z_(a b:Rat):Rat.divInt (a.num*b.den) (a.den*b.num)=a/b:=by
 rw[lg]
 conv=>rhs;rw[←lr a,←lr b,Rat.inv_divInt,lP]
theorem oK(x:Int):Rat.divInt x 1=(x:Rat):=by
 rw[show(1:Int)=((1:Nat):Int)from rfl,Rat.divInt_ofNat,Rat.mkRat_one]
theorem xu{n d:Int}{q:Rat}(hd:0<d)(h:q=Rat.divInt n d):∃g:Int,0<g∧n=q.num*g∧d=q.den*g:=by
 obtain⟨hn,hdd⟩:=(show(Rat.divInt n d).num=n/(Nat.gcd n.natAbs d.natAbs:Nat)∧((Rat.divInt n d).den:Int)=d/(Nat.gcd n.natAbs d.natAbs:Nat)by
  have hg:Int.gcd d n=Nat.gcd n.natAbs d.natAbs:=by rw[Int.gcd_comm];rfl
  refine⟨?_,?_⟩
  ·rw[Rat.num_divInt,hg,gd hd,Int.one_mul]
  ·rw[Rat.den_divInt,if_neg (by omega),hg,kP,show((d.natAbs:Nat):Int)=d by omega])
 subst h;have hgp:0<Nat.gcd n.natAbs d.natAbs:=Nat.gcd_pos_of_pos_right _ (by omega);refine⟨(Nat.gcd n.natAbs d.natAbs:Nat),by omega,?_,?_⟩
 ·rw[hn];exact(Int.ediv_mul_cancel (Int.ofNat_dvd_left.2 (Nat.gcd_dvd_left _ _))).symm
 ·rw[hdd];exact(Int.ediv_mul_cancel (Int.ofNat_dvd_left.2 (Nat.gcd_dvd_right _ _))).symm
theorem H9{n d m e:Int}{a b:Rat}(hd:0<d)(he:0<e)(ha:a=Rat.divInt n d)(hb:b=Rat.divInt m e):nu (n*e) (m*d)=vI a b:=by
 obtain⟨g,hg,rfl,rfl⟩:=xu hd ha;obtain⟨k,hk,rfl,rfl⟩:=xu he hb;have e1:a.num*g*(b.den*k)=(a.num*b.den)*(g*k):=by grind
 have e2:b.num*k*(a.den*g)=(b.num*a.den)*(g*k):=by grind
 have hgk:0<g*k:=Int.mul_pos hg hk;have h1:(a.num*b.den*(g*k)<b.num*a.den*(g*k))↔a<b:=by
  rw[Rat.lt_iff];exact⟨fun h=>Int.lt_of_mul_lt_mul_right h (qi hgk),fun h=>Int.mul_lt_mul_of_pos_right h hgk⟩
 have h2:(a.num*b.den*(g*k)=b.num*a.den*(g*k))↔a=b:=by
  rw[Int.mul_eq_mul_right_iff (by omega),Rat.eq_iff_mul_eq_mul]
 unfold nu vI;rw[e1,e2];simp only[h1,h2]
theorem H_(a b:Rat):nu (a.num*b.den) (b.num*a.den)=vI a b:=H9 (gO a) (gO b) (lr a).symm (lr b).symm
theorem Hi{q:Rat}:q.num.sign=vI q 0:=by
 unfold vI;by_cases h:q<0
 ·rw[if_pos h];rw[Rat.lt_iff]at h;exact jO (by simpa using h)
 ·rw[if_neg h];by_cases h0:q=0
  ·rw[if_pos h0,h0];rfl
  ·rw[if_neg h0];rw[Rat.lt_iff]at h;have:q.num≠0:=fun e=>h0 (Rat.num_eq_zero.1 e);have h:¬q.num<0:=by simpa using h
   exact gd (by omega)
abbrev qv(n:Sl)(nb:Bool)(d:Sl)(db:Bool):Value:=.agg #[.slice n.ao n.n n.c,.bool nb,.slice d.ao d.n d.c,.bool db]
abbrev pv(S:Int)(s:Sl)(R:Int)(t:Sl):Value:=.agg #[.int .i64 S,.slice s.ao s.n s.c,.int .i64 R,.slice t.ao t.n t.c]
def ac0(s:ByteArray):Nat:=(bs s).findIdx (· ==47)
def over(s:ByteArray):ByteArray:=s.extract 0 (ac0 s)
def QF(n:Sl)(nb:Bool)(d:Sl)(db:Bool)(a:Nat×Rat):aE where
 p I w:=∃y:Int,(ZF n nb (a.1,a.2.num)).p I w∧(ZF d db (a.1,y)).p I w∧(y=a.2.den∨(y=0∧a.2.den=1))
 up:=by
  rintro I I' w w' ⟨y,h,h',hy⟩ h1 h2 h3;exact⟨y,(ZF n nb _).up h h1 h2 h3,(ZF d db _).up h' h1 h2 h3,hy⟩
def sY(L:Nat)(q:Rat)(v:Value)(Δ:List aE):Prop:=∃(n:Sl) (nb:Bool) (d:Sl) (db:Bool),v=qv n nb d db∧Δ=[QF n nb d db (L,q)]
def SU(L:Nat)(q:Rat)(v:Value)(Δ:List aE):Prop:=∃(n:Sl) (nb:Bool) (d:Sl) (db:Bool),v=.tuple #[qv n nb d db,.int .i64 0]∧Δ=[QF n nb d db (L,q)]
section
variable{fin:VS→List aE→Prop}{Γ:List aE}{L M:Nat}
theorem Yd{P:Program}{c:fM}(n:Sl)(nb:Bool)(d:Sl)(db:Bool){q:Rat} [h:aZ (QF n nb d db) (L,q) Γ](hm:dG c.k=false)
  (hk:∀y:Int,(y=q.den∨(y=0∧q.den=1))→W tb P fin c (ZF n nb (L,q.num)::ZF d db (L,y)::Γ)):W tb P fin c Γ:=
 W.elim (α:=Int) (fun y=>y=q.den∨(y=0∧q.den=1)) (fun y=>[ZF n nb (L,q.num),ZF d db (L,y)]) hm (fun I w _ hh=>by
  obtain⟨y,h1,h2,h3⟩:=h.p hh;exact⟨y,h3,aG.cons h1 (aV h2)⟩) hk
theorem Am{P:Program}{c:fM}(n:Sl)(nb:Bool)(d:Sl)(db:Bool){q:Rat} [h:aZ (QF n nb d db) (L,q) Γ](hm:dG c.k=false)
  (hk:W tb P fin c (ZF n nb (L,q.num)::Γ)):W tb P fin c Γ:=
 W.elim (α:=Unit) (fun _=>True) (fun _=>[ZF n nb (L,q.num)]) hm (fun I w _ hh=>by
  obtain⟨y,h1,h2,h3⟩:=h.p hh;exact⟨(),trivial,aV h1⟩) (fun _ _=>hk)
theorem j9{n d:Sl}{nb db:Bool}{L':Nat}{q q':Rat} [h:aZ (QF n nb d db) (L,q) Γ](hL:L≤L')(hq:q=q'):∀(I:f_) (w:World),bB tb I w→aG Γ I w→aG [QF n nb d db (L',q')] I w:=fun I w _ hh=>by
 subst hq;obtain⟨y,⟨⟨h1,h2,h3⟩,h4⟩,⟨⟨g1,g2,g3⟩,g4⟩,hy⟩:=h.p hh;exact aV ⟨y,⟨⟨h1,h2,aP h3 hL⟩,h4⟩,⟨⟨g1,g2,aP g3 hL⟩,g4⟩,hy⟩
theorem Jt{n d:Sl}{nb db:Bool}{L':Nat}{x y:Int}{q:Rat} [h:aZ (ZF n nb) (L,x) Γ] [h':aZ (ZF d db) (M,y) Γ](hL:L≤L')(hM:M≤L')(hx:x=q.num)(hy:y=q.den∨(y=0∧q.den=1)):∀(I:f_) (w:World),bB tb I w→aG Γ I w→aG [QF n nb d db (L',q)] I w:=fun I w _ hh=>by
 subst hx;obtain⟨⟨h1,h2,h3⟩,h4⟩:=h.p hh;obtain⟨⟨g1,g2,g3⟩,g4⟩:=h'.p hh;exact aV ⟨y,⟨⟨h1,h2,aP h3 hL⟩,h4⟩,⟨⟨g1,g2,aP g3 hM⟩,g4⟩,hy⟩
theorem kW{L':Nat}:∀(I:f_) (w:World),bB tb I w→aG Γ I w→aG [QF ⟨none,0,0⟩ false ⟨none,0,0⟩ false (L',0)] I w:=fun I w hd hh=>
 aV ⟨0,(zJ (L':=L') I w hd hh).h0',(zJ (L':=L') I w hd hh).h0',.inr ⟨rfl,rfl⟩⟩
theorem YE{I:f_}{w:World}{u t:Sl}{d c:Bool}{L M L':Nat}{x y:Int}(h:(ZF u d (L,x)).p I w)(h':(ZF t c (M,y)).p I w)(hx:x.natAbs≤y.natAbs)(hL:M≤L'):(ZF u d (L',x)).p I w:=by
 obtain⟨⟨h1,h2,h3⟩,h4⟩:=h;obtain⟨⟨g1,g2,g3⟩,g4⟩:=h';have h1:dU w u x.natAbs:=h1;have g1:dU w t y.natAbs:=g1;have:=h1.n_le g1 hx;simp only at g3;exact⟨⟨h1,h2,by simp only;omega⟩,h4⟩
theorem Tt{n d u t:Sl}{nb db ub tb':Bool}{L' L1 M1:Nat}{x y a b:Int}{q:Rat} [h1:aZ (ZF u ub) (L1,a) Γ] [h2:aZ (ZF t tb') (M1,b) Γ] [h3:aZ (ZF n nb) (L,x) Γ] [h4:aZ (ZF d db) (M,y) Γ]
  (ha:a=q.num)(hb:b=q.den)(hx:a.natAbs≤x.natAbs)(hy:b.natAbs≤y.natAbs)(hL:L≤L')(hM:M≤L'):∀(I:f_) (w:World),bB tb I w→aG Γ I w→aG [QF u ub t tb' (L',q)] I w:=fun I w _ hh=>by
 refine aV ⟨b,?_,YE (h2.p hh) (h4.p hh) hy hM,.inl hb⟩;rw[←ha];exact YE (h1.p hh) (h3.p hh) hx hL
theorem yh(n:Sl)(nb:Bool)(d:Sl)(db:Bool){x y:Int} [hn:aZ (ZF n nb) (L,x) Γ] [hd:aZ (ZF d db) (M,y) Γ](hy:y≠0)(hL:L≤1000000000:=by omega)(hM:M≤1000000000:=by omega):
  au tb Tryz.prog 215 [zv n nb,zv d db] Γ (sY (max L M) (Rat.divInt x y)):=by
 have hgp:0<Nat.gcd x.natAbs y.natAbs:=Nat.gcd_pos_of_pos_right _ (by omega);have d1:((Nat.gcd x.natAbs y.natAbs:Nat):Int)∣x:=Int.ofNat_dvd_left.2 (Nat.gcd_dvd_left _ _);have d2:((Nat.gcd x.natAbs y.natAbs:Nat):Int)∣y:=Int.ofNat_dvd_left.2 (Nat.gcd_dvd_right _ _);have b1:=yJ d1 hgp;have b2:=yJ d2 hgp;have l1:=fun h=>RG (x:=x) (y:=y) h;have l2:=fun h=>RE (x:=x) (y:=y) h;obtain⟨g,hg⟩:∃g,g=Nat.gcd x.natAbs y.natAbs:=⟨_,rfl⟩;rw[←hg]at hgp d1 d2 b1 b2 l1 l2;have hs:(y/(g:Int)).sign=y.sign:=by
  obtain⟨k,hk⟩:=d2;rw[hk,Int.mul_ediv_cancel_left _ (by omega),Int.sign_mul,show(g:Int).sign=1 from gd (by omega),Int.one_mul]
 refine au.of_W aB Tryz.func215 rfl ?_;refine aj [] (Br n nb) ?_;rintro _ _ ⟨rfl,rfl⟩;refine aj [] (Br d db) ?_;rintro _ _ ⟨rfl,rfl⟩;refine aj [] (Z0 n d) ?_;rintro _ _ ⟨u3,rfl,rfl⟩;rw[←hg];refine aj [] (C_ 1 1 rfl (by omega)) ?_;rintro _ _ ⟨u4,rfl,rfl⟩;refine aj [] (ON u3 u4) ?_;rintro _ _ ⟨rfl,rfl⟩;refine W.d [] 16 ((mK g 1) != 0) (fun hb=>?_) (fun hb=>?_)
 ·refine aj [16] (vU u3) ?_;rintro _ _ ⟨u6,d6,rfl,rfl⟩;refine aj [] (jh n nb u6 d6 (by omega)) ?_;rintro _ _ ⟨u7,d7,v7,e7,rfl,rfl⟩;refine aj [] (vU u3) ?_;rintro _ _ ⟨u8,d8,rfl,rfl⟩;refine aj [] (jh d db u8 d8 (by omega)) ?_;rintro _ _ ⟨u9,d9,v9,e9,rfl,rfl⟩;refine aj [] (nf u9 d9) ?_;rintro _ _ ⟨rfl,rfl⟩;rw[hs];by_cases hn0:y<0
  ·refine bD [] 35 (decide (y.sign<0)) (by rw[fQ,zZ];exact hn0) ?_;refine aj [35] (rU u7 d7) ?_;rintro _ _ ⟨u11,d11,rfl,rfl⟩;refine aj [] (rU u9 d9) ?_;rintro _ _ ⟨u12,d12,rfl,rfl⟩;exact W.r [] (qv u11 d11 u12 d12) ⟨_,_,_,_,rfl,rfl⟩ (Tt (n:=n) (nb:=nb) (d:=d) (db:=db) (l2 hn0).1.symm (l2 hn0).2.symm (by omega) (by omega) (by omega) (by omega))
  ·refine aS [] 35 (decide (y.sign<0)) (by rw[aY,zZ];exact hn0) ?_;exact W.r [35] (qv u7 d7 u9 d9) ⟨_,_,_,_,rfl,rfl⟩ (Tt (n:=n) (nb:=nb) (d:=d) (db:=db) (l1 (by omega)).1.symm (l1 (by omega)).2.symm (by omega) (by omega) (by omega) (by omega))
 ·have hg1:g=1:=by
   have:=eq_of_beq (show mK g 1==0 by simpa using hb);rw[MY,DW]at this;omega
  subst hg1;simp only[Int.natCast_one,Int.ediv_one,Int.cast_ofNat_Int]at l1 l2;refine aj [16] (nf d db) ?_;rintro _ _ ⟨rfl,rfl⟩;by_cases hn0:y<0
  ·refine bD [] 35 (decide (y.sign<0)) (by rw[fQ,zZ];exact hn0) ?_;refine aj [35] (rU n nb) ?_;rintro _ _ ⟨u14,d14,rfl,rfl⟩;refine aj [] (rU d db) ?_;rintro _ _ ⟨u15,d15,rfl,rfl⟩;exact W.r [] (qv u14 d14 u15 d15) ⟨_,_,_,_,rfl,rfl⟩ (Jt (by omega) (by omega) (l2 hn0).1.symm (.inl (l2 hn0).2.symm))
  ·refine aS [] 35 (decide (y.sign<0)) (by rw[aY,zZ];exact hn0) ?_;exact W.r [35] (qv n nb d db) ⟨_,_,_,_,rfl,rfl⟩ (Jt (by omega) (by omega) (l1 (by omega)).1.symm (.inl (l1 (by omega)).2.symm))
theorem zR(n:Sl)(nb:Bool)(d:Sl)(db:Bool){x y:Int} [hn:aZ (ZF n nb) (L,x) Γ] [hd:aZ (ZF d db) (M,y) Γ](hy:y≠0)(hL:L≤1000000000:=by omega)(hM:M≤1000000000:=by omega):
  au tb Tryz.prog 197 [zv n nb,zv d db] Γ (SU (max L M) (Rat.divInt x y)):=by
 refine au.of_W aB Tryz.func197 rfl ?_;refine aj [] (nf d db) ?_;rintro _ _ ⟨rfl,rfl⟩;refine aS [] 8 (y.sign==0) (by rw[fE,ne_eq,yC];exact hy) ?_;refine aj [8] (yh n nb d db hy) ?_;rintro _ _ ⟨n2,a2,m2,b2,rfl,rfl⟩;exact W.r [] (.tuple #[qv n2 a2 m2 b2,.int .i64 0]) ⟨_,_,_,_,rfl,rfl⟩ (j9 (ai _) rfl)
theorem Bm(a b:Int)(hb:b≠0)(h1: -9223372036854775808≤a)(h2:a<9223372036854775808)(h3: -9223372036854775808≤b)(h4:b<9223372036854775808):
  au tb Tryz.prog 154 [.int .i64 a,.int .i64 b] Γ (SU 2 (Rat.divInt a b)):=by
 refine au.of_W aB Tryz.func154 rfl ?_;refine aj [] (cV a h1 h2) ?_;rintro _ _ ⟨u1,d1,rfl,rfl⟩;refine aj [] (cV b h3 h4) ?_;rintro _ _ ⟨u2,d2,rfl,rfl⟩;refine aj [] (zR u1 d1 u2 d2 hb) ?_;rintro _ _ ⟨n3,a3,m3,b3,rfl,rfl⟩;exact W.r [] (.tuple #[qv n3 a3 m3 b3,.int .i64 0]) ⟨_,_,_,_,rfl,rfl⟩ (j9 (by omega) rfl)
theorem cj(n:Sl)(nb:Bool){x:Int} [hn:aZ (ZF n nb) (L,x) Γ]:
  au tb Tryz.prog 130 [zv n nb] Γ (sY (max L 2) (x:Rat)):=by
 refine au.of_W aB Tryz.func130 rfl ?_;refine aj [] (cV 1 (by omega) (by omega)) ?_;rintro _ _ ⟨u1,d1,rfl,rfl⟩;exact W.r [] (qv n nb u1 d1) ⟨_,_,_,_,rfl,rfl⟩ (Jt (by omega) (by omega) rfl (.inl rfl))
theorem O8(n:Sl)(nb:Bool)(d:Sl)(db:Bool){q:Rat} [hn:aZ (QF n nb d db) (L,q) Γ]:
  au tb Tryz.prog 273 [qv n nb d db] Γ (oS L q.num):=by
 refine au.of_W aB Tryz.func273 rfl ?_;refine Am n nb d db rfl ?_;exact W.r [] (zv n nb) ⟨_,_,rfl,rfl⟩ (kX (ai _) rfl)
theorem jB(n:Sl)(nb:Bool)(d:Sl)(db:Bool){q:Rat} [hn:aZ (QF n nb d db) (L,q) Γ](hL:L≤1000000000:=by omega):
  au tb Tryz.prog 138 [qv n nb d db] Γ (oS (max L 2) (q.den:Int)):=by
 refine au.of_W aB Tryz.func138 rfl ?_;refine Yd n nb d db rfl ?_;rintro y hy;refine aj [] (nf d db) ?_;rintro _ _ ⟨rfl,rfl⟩;have hp:=gO q;refine W.d [] 6 (y.sign==0) (fun hb=>?_) (fun hb=>?_)
 ·have h0:=yC.1 (eq_of_beq hb);refine aj [6] (cV 1 (by omega) (by omega)) ?_;rintro _ _ ⟨u2,d2,rfl,rfl⟩;exact W.r [] (zv u2 d2) ⟨_,_,rfl,rfl⟩ (kX (by omega) (by omega))
 ·have h0:y≠0:=fun h=>(kn hb) (yC.2 h);exact W.r [6] (zv d db) ⟨_,_,rfl,rfl⟩ (kX (by omega) (by omega))
theorem jg(n:Sl)(nb:Bool)(d:Sl)(db:Bool){q:Rat} [hn:aZ (QF n nb d db) (L,q) Γ](hL:L≤1000000000:=by omega):
  au tb Tryz.prog 137 [qv n nb d db] Γ (jv (.int .i64 q.num.sign)):=by
 refine au.of_W aB Tryz.func137 rfl ?_;refine Am n nb d db rfl ?_;refine aj [] (nf n nb) ?_;rintro _ _ ⟨rfl,rfl⟩;exact W.r [] (.int .i64 (q.num).sign) ⟨rfl,rfl⟩ bU
theorem WA(n:Sl)(nb:Bool)(d:Sl)(db:Bool)(m:Sl)(mb:Bool)(e:Sl)(eb:Bool){a b:Rat} [hn:aZ (QF n nb d db) (L,a) Γ] [hm:aZ (QF m mb e eb) (M,b) Γ](hL:L≤1000000:=by omega)(hM:M≤1000000:=by omega):
  au tb Tryz.prog 275 [qv n nb d db,qv m mb e eb] Γ (jv (.int .i64 (vI a b))):=by
 refine au.of_W aB Tryz.func275 rfl ?_;refine Am n nb d db rfl ?_;refine Am m mb e eb rfl ?_;refine aj [] (jB m mb e eb) ?_;rintro _ _ ⟨u1,d1,rfl,rfl⟩;refine aj [] (l_ n nb u1 d1) ?_;rintro _ _ ⟨u2,d2,rfl,rfl⟩;refine aj [] (jB n nb d db) ?_;rintro _ _ ⟨u3,d3,rfl,rfl⟩;refine aj [] (l_ m mb u3 d3) ?_;rintro _ _ ⟨u4,d4,rfl,rfl⟩;refine aj [] (pq u2 d2 u4 d4) ?_;rintro _ _ ⟨rfl,rfl⟩;exact W.r [] (.int .i64 (nu (a.num*(b.den:Int)) (b.num*(a.den:Int)))) ⟨by rw[H_],rfl⟩ bU
theorem ph(n:Sl)(nb:Bool)(d:Sl)(db:Bool){q:Rat} [hn:aZ (QF n nb d db) (L,q) Γ](hL:L≤1000000000:=by omega):
  au tb Tryz.prog 191 [qv n nb d db] Γ (sY L (-q)):=by
 refine au.of_W aB Tryz.func191 rfl ?_;refine Yd n nb d db rfl ?_;rintro y hy;refine aj [] (rU n nb) ?_;rintro _ _ ⟨u1,d1,rfl,rfl⟩;exact W.r [] (qv u1 d1 d db) ⟨_,_,_,_,rfl,rfl⟩ (Jt (by omega) (by omega) (by rw[Rat.neg_num]) (by rw[Rat.neg_den];exact hy))
theorem fw(n:Sl)(nb:Bool)(d:Sl)(db:Bool)(m:Sl)(mb:Bool)(e:Sl)(eb:Bool){a b:Rat} [hn:aZ (QF n nb d db) (L,a) Γ] [hm:aZ (QF m mb e eb) (M,b) Γ](hL:L≤1000000:=by omega)(hM:M≤1000000:=by omega):
  au tb Tryz.prog 155 [qv n nb d db,qv m mb e eb] Γ (sY (L+M+5) (a+b)):=by
 refine au.of_W aB Tryz.func155 rfl ?_;refine Am n nb d db rfl ?_;refine Am m mb e eb rfl ?_;refine aj [] (jB m mb e eb) ?_;rintro _ _ ⟨u1,d1,rfl,rfl⟩;refine aj [] (l_ n nb u1 d1) ?_;rintro _ _ ⟨u2,d2,rfl,rfl⟩;refine aj [] (jB n nb d db) ?_;rintro _ _ ⟨u3,d3,rfl,rfl⟩;refine aj [] (l_ m mb u3 d3) ?_;rintro _ _ ⟨u4,d4,rfl,rfl⟩;refine aj [] (l9 u2 d2 u4 d4) ?_;rintro _ _ ⟨u5,d5,rfl,rfl⟩;refine aj [] (jB n nb d db) ?_;rintro _ _ ⟨u6,d6,rfl,rfl⟩;refine aj [] (jB m mb e eb) ?_;rintro _ _ ⟨u7,d7,rfl,rfl⟩;refine aj [] (l_ u6 d6 u7 d7) ?_;rintro _ _ ⟨u8,d8,rfl,rfl⟩;refine aj [] (yh u5 d5 u8 d8 (kg (by have:=gO a;omega) (by have:=gO b;omega))) ?_;rintro _ _ ⟨n9,a9,m9,b9,rfl,rfl⟩;exact W.r [] (qv n9 a9 m9 b9) ⟨_,_,_,_,rfl,rfl⟩ (j9 (by omega) (Pp a b))
theorem Eu(n:Sl)(nb:Bool)(d:Sl)(db:Bool)(m:Sl)(mb:Bool)(e:Sl)(eb:Bool){a b:Rat} [hn:aZ (QF n nb d db) (L,a) Γ] [hm:aZ (QF m mb e eb) (M,b) Γ](hL:L≤1000000:=by omega)(hM:M≤1000000:=by omega):
  au tb Tryz.prog 255 [qv n nb d db,qv m mb e eb] Γ (sY (L+M+5) (a-b)):=by
 refine au.of_W aB Tryz.func255 rfl ?_;refine aj [] (ph m mb e eb) ?_;rintro _ _ ⟨n1,a1,m1,b1,rfl,rfl⟩;refine aj [] (fw n nb d db n1 a1 m1 b1) ?_;rintro _ _ ⟨n2,a2,m2,b2,rfl,rfl⟩;exact W.r [] (qv n2 a2 m2 b2) ⟨_,_,_,_,rfl,rfl⟩ (j9 (by omega) (Rat.sub_eq_add_neg _ _).symm)
theorem bR(n:Sl)(nb:Bool)(d:Sl)(db:Bool)(m:Sl)(mb:Bool)(e:Sl)(eb:Bool){a b:Rat} [hn:aZ (QF n nb d db) (L,a) Γ] [hm:aZ (QF m mb e eb) (M,b) Γ](hL:L≤1000000:=by omega)(hM:M≤1000000:=by omega):
  au tb Tryz.prog 195 [qv n nb d db,qv m mb e eb] Γ (sY (L+M+5) (a*b)):=by
 refine au.of_W aB Tryz.func195 rfl ?_;refine Am n nb d db rfl ?_;refine Am m mb e eb rfl ?_;refine aj [] (l_ n nb m mb) ?_;rintro _ _ ⟨u1,d1,rfl,rfl⟩;refine aj [] (jB n nb d db) ?_;rintro _ _ ⟨u2,d2,rfl,rfl⟩;refine aj [] (jB m mb e eb) ?_;rintro _ _ ⟨u3,d3,rfl,rfl⟩;refine aj [] (l_ u2 d2 u3 d3) ?_;rintro _ _ ⟨u4,d4,rfl,rfl⟩;refine aj [] (yh u1 d1 u4 d4 (kg (by have:=gO a;omega) (by have:=gO b;omega))) ?_;rintro _ _ ⟨n5,a5,m5,b5,rfl,rfl⟩;exact W.r [] (qv n5 a5 m5 b5) ⟨_,_,_,_,rfl,rfl⟩ (j9 (by omega) (Pq a b))
theorem rS(n:Sl)(nb:Bool)(d:Sl)(db:Bool)(m:Sl)(mb:Bool)(e:Sl)(eb:Bool){a b:Rat} [hn:aZ (QF n nb d db) (L,a) Γ] [hm:aZ (QF m mb e eb) (M,b) Γ](hb:b≠0)(hL:L≤1000000:=by omega)(hM:M≤1000000:=by omega):
  au tb Tryz.prog 133 [qv n nb d db,qv m mb e eb] Γ (SU (L+M+5) (a/b)):=by
 refine au.of_W aB Tryz.func133 rfl ?_;refine Am n nb d db rfl ?_;refine Am m mb e eb rfl ?_;refine aj [] (jB m mb e eb) ?_;rintro _ _ ⟨u1,d1,rfl,rfl⟩;refine aj [] (l_ n nb u1 d1) ?_;rintro _ _ ⟨u2,d2,rfl,rfl⟩;refine aj [] (jB n nb d db) ?_;rintro _ _ ⟨u3,d3,rfl,rfl⟩;refine aj [] (l_ u3 d3 m mb) ?_;rintro _ _ ⟨u4,d4,rfl,rfl⟩;refine aj [] (zR u2 d2 u4 d4 (kg (by have:=gO a;omega) (fun h=>hb (Rat.num_eq_zero.1 h)))) ?_;rintro _ _ ⟨n5,a5,m5,b5,rfl,rfl⟩;exact W.r [] (.tuple #[qv n5 a5 m5 b5,.int .i64 0]) ⟨_,_,_,_,rfl,rfl⟩ (j9 (by omega) (Z_ a b))
theorem nI(n:Sl)(nb:Bool)(d:Sl)(db:Bool){q:Rat} [hn:aZ (QF n nb d db) (L,q) Γ](hL:L≤1000000:=by omega):
  au tb Tryz.prog 134 [qv n nb d db] Γ (oS (L+3) (om q)):=by
 refine au.of_W aB Tryz.func134 rfl ?_;refine Am n nb d db rfl ?_;refine aj [] (jB n nb d db) ?_;rintro _ _ ⟨u1,d1,rfl,rfl⟩;refine aj [] (jh n nb u1 d1 (by have:=gO q;omega)) ?_;rintro _ _ ⟨u2,d2,v2,e2,rfl,rfl⟩;exact W.r [] (zv u2 d2) ⟨_,_,rfl,rfl⟩ (kX (by omega) rfl)
end
section
variable{fin:VS→List aE→Prop}{Γ:List aE}{L M:Nat}
end
theorem Rt(b:UInt8)(l:List UInt8)(c:UInt8):Lib.indexByte (b::l) c=if b==c then 0 else if Lib.indexByte l c== -1 then-1 else Lib.indexByte l c+1:=by rw[Lib.indexByte]
section
variable{fin:VS→List aE→Prop}{Γ:List aE}{L M:Nat}
end
section
variable{fin:VS→List aE→Prop}{Γ:List aE}{L M:Nat}
end
structure QE where
 n:Sl
 nb:Bool
 d:Sl
 db:Bool
 q:Rat
def QR:kT QE where
 z:=4
 cells e:=[.slice e.n.ao e.n.n e.n.c,.bool e.nb,.slice e.d.ao e.d.n e.d.c,.bool e.db]
 len _:=rfl
 fact L e:=QF e.n e.nb e.d e.db (L,e.q)
section
variable{Γ:List aE}{L M:Nat}
end
open Go.RowKit
def Km(T:Tb)(e:Ev):Option (Nat×Nat×Value×Option Value×Option Value):=
 match e with
 | .read o c=>match o.op with
  | .slice ty x lo hi none=>match T.get ty,c.s.ev x,Qm c.s lo,Qm c.s hi with
   |some t,.val a,some l,some h=>bif (Nat.beq t.kind 4&& !Nat.beq t.esize 0)then some (t.alen,t.esize,a,l,h)else none
   |_,_,_,_=>none
  |_=>none
 |_=>none
def Pv(T:Tb)(e:Ev):Option (Nat×Value):=
 match e with
 | .read o c=>match o.op with
  | .fieldAddr ty x f=>match T.get ty,c.s.ev x with
   |some t,.val a=>match t.fields[f]? with
    |some (o,sz,_)=>bif Nat.beq sz 0 then none else some (o,a)
    |none=>none
   |_,_=>none
  |_=>none
 |_=>none
def Kg(T:Tb)(e:Ev):Option (List (Nat×List Value)×Nat×Value×Value):=
 match e with
 | .own o c=>match o.op with
  | .call cl=>match cl.callee,cl.args.toList,cl.argTypes.toList with
   | .builtin .copy,[sx,xx],[t1,t2]=>match c.s.ev sx,c.s.ev xx,T.get t1 with
    | .val a,.val b,some y1=>bif (Nat.beq y1.kind 3&& !Nat.beq y1.esize 0)then some (c.s.own,y1.esize,a,b)else none
    |_,_,_=>none
   |_,_,_=>none
  |_=>none
 |_=>none
def uO(T:Tb)(e:Ev):Option (Bool×Nat×Value×List (Nat×List Value)):=
 match e with
 | .read o c=>match o.op with
  | .load ty x=>match T.get ty,c.s.ev x with
   |some t,.val a=>some (t.agg,t.size,a,c.s.own)
   |_,_=>none
  |_=>none
 |_=>none
section
variable{T:Tb}{P:Program}{fin:VS→List aE→Prop}{c:fM}{Γ:List aE}
theorem wm(D:List Nat)(alen z b off:Nat)(lo hi:Option Value)(l r:Nat)(hT:T.Ok P)
  (hl:lo=some (.int .i64 (l:Int))∨(lo=none∧l=0))(hr:hi=some (.int .i64 (r:Int))∨(hi=none∧r=alen))(hlr:l≤r)(hrs:r≤alen)(hla:l<alen)
  (hk:W T P fin (gy (aJ T (bh T D 999 c)) (.slice (some ⟨b,off+l*z,none⟩) (r-l) (alen-l))) Γ)(h:Km T (aJ T (bh T D 999 c))=some (alen,z,.pointer (some ⟨b,off,none⟩),lo,hi):=by kernel_rfl):W T P fin c Γ:=by
 refine eF D 999 ?_;generalize bh T D 999 c=c1 at*;unfold Km at h;split at h
 ·rename_i o c' he;rw[he]at hk;split at h
  ·rename_i ty x lo' hi' hop;split at h
   ·rename_i t a l' h' ht ha hlo hhi;cases hkd:(Nat.beq t.kind 4&& !Nat.beq t.esize 0)with
    |false=>simp[hkd]at h
    |true=>
     simp only[hkd,bT,aq,aI]at h;obtain⟨rfl,rfl,rfl,rfl,rfl⟩:=h;simp only[aK]at hkd;refine W.read _ he (.any ?_) hk;intro w;obtain⟨hd,hes⟩:=o7 hT ht (aH hkd.1);have hie:∃ie,P.info? t.elem=some ie∧ie.size=t.esize:=by
      cases hie:P.info? t.elem with
      |none=>
       simp[hie]at hes;rw[←hes]at hkd;simp at hkd
      |some ie=>exact⟨ie,rfl,by simp[hie]at hes;omega⟩
     obtain⟨ie,hie,hin⟩:=hie;have hrho:∀(q:Option Operand) (z:Option Value),Qm c'.s q=some z→q.map c'.s.rho=z:=by
      intro q z hq;cases q with
      |none=>simp[Qm]at hq;exact hq
      |some x=>
       simp only[Qm]at hq;split at hq
       ·rename_i v hv;injection hq with hq;subst hq;simp[cE hv]
       ·simp at hq
     have hm1:=hrho _ _ hlo;have hm2:=hrho _ _ hhi;have hne:¬t.alen=l:=by omega
     have hla':l≤t.alen:=by omega
     simp only[execOp,hop,Instr.sliceAt,cB,cP hd,bC,cE ha,hm1,hm2];rcases hl with rfl|⟨rfl,rfl⟩<;>rcases hr with rfl|⟨rfl,rfl⟩<;>simp[Instr.sureAddr,Instr.sliceBounds,Instr.sliceBound,asIntOf,hlr,hrs,hla',hne,iT hie,hin,gp]
   ·simp at h
  ·simp at h
 ·simp at h
theorem cr(D:List Nat)(ofs b off:Nat)(hT:T.Ok P)
  (hk:W T P fin (gy (aJ T (bh T D 999 c)) (.pointer (some ⟨b,off+ofs,none⟩))) Γ)(h:Pv T (aJ T (bh T D 999 c))=some (ofs,.pointer (some ⟨b,off,none⟩)):=by kernel_rfl):W T P fin c Γ:=by
 refine eF D 999 ?_;generalize bh T D 999 c=c1 at*;unfold Pv at h;split at h
 ·rename_i o c' he;rw[he]at hk;split at h
  ·rename_i ty x f hop;split at h
   ·rename_i t a ht ha;split at h
    ·rename_i ofs' sz ag hf;cases hsz:Nat.beq sz 0 with
     |true=>simp[hsz]at h
     |false=>
      simp only[hsz,cN,aq,aI]at h;obtain⟨rfl,rfl⟩:=h;refine W.read _ he (.any ?_) hk;intro w;have hsz':sz≠0:=by
       rintro rfl;simp at hsz
      obtain⟨fs,hd,hfs⟩:=oD hT ht (vg hT ht hf);rw[hfs,bN]at hf;cases hff:fs.toList[f]? with
      |none=>rw[hff]at hf;simp at hf
      |some fl=>
       rw[hff]at hf;simp only[dq,aq,aI]at hf;obtain⟨hf1,hf2,hf3⟩:=hf;have hff':fs[f]? =some fl:=by rw[←eT];exact hff
       cases hfi:P.info? fl.type with
       |none=>simp[hfi]at hf2;exact absurd hf2.symm hsz'
       |some fi=>
        simp[hfi]at hf2;have hne:¬fi.size=0:=by rw[hf2];exact hsz'
        simp[execOp,hop,Instr.fieldAt,cP hd,hff',Instr.sureAddr,cE ha,fieldPlace,iT hfi,hne,gp,hf1]
    ·simp at h
   ·simp at h
  ·simp at h
 ·simp at h
theorem wk(D:List Nat)(own:List (Nat×List Value))(b off n:Nat)(row cs:List Value)(hT:T.Ok P)
  (hm:(b,row)∈own)(hcs:(row.drop off).take n=cs)(hn:cs.length=n)
  (hk:W T P fin (gy (aJ T (bh T D 999 c)) (.agg cs.toArray)) Γ)(h:uO T (aJ T (bh T D 999 c))=some (true,n,.pointer (some ⟨b,off,none⟩),own):=by kernel_rfl):W T P fin c Γ:=by
 refine eF D 999 ?_;generalize bh T D 999 c=c1 at*;unfold uO at h;split at h
 ·rename_i o c' he;rw[he]at hk;split at h
  ·rename_i ty u hop;split at h
   ·rename_i t a ht ha;simp only[aq,aI]at h;obtain⟨hag,hsz,rfl,rfl⟩:=h;refine W.read _ he (.look (by simp[jf,hop]) ?_) hk;intro I w hd hh ho;obtain⟨e',_,hblk⟩:=ho b row hm;obtain⟨i,d,hi,hdd,hz,hsz',hag',_⟩:=fk (hT.ty _ _ ht);have hl:=run_loadCells_list (P:=P) w ⟨b,off,none⟩ cs (fun j v hj=>by
     rw[gp,ns hblk];rw[←hcs,di]at hj;split at hj
     ·rw[vA]at hj;exact hj
     ·simp at hj)
    rw[hn,←hsz,←hsz']at hl;simp only[execOp,hop,Instr.loadAt,Instr.sureAddr,cE ha,loadVar,cB,Sem.run_map,dS,Sem.run_ite,bC,kN hdd,hag',hag,eW,iT hi,hl]
   ·simp at h
  ·simp at h
 ·simp at h
theorem C8{O1 O2:List (Nat×List Value)}{g:Nat}{row:List Value}(h:((O1++(g,row)::O2).map (·.1)).Nodup):∀b cs,((b,cs)∈O1∨(b,cs)∈O2)→b≠g:=by
 rintro b cs hb rfl;simp only[aX,b_,fG,kh]at h;obtain⟨_,⟨h2,_⟩,h3⟩:=h;rcases hb with hb|hb
 ·exact h3 _ (List.mem_map.2 ⟨(b,cs),hb,rfl⟩) _ (by simp) rfl
 ·exact h2 (List.mem_map.2 ⟨(b,cs),hb,rfl⟩)
theorem Yc(D:List Nat)(own O1 O2:List (Nat×List Value))(z g off dl dc m:Nat)(row:List Value)(x:Value)(news:List Value)(hT:T.Ok P)
   (ho:own=O1++(g,row)::O2)(hx:qP T Γ own x m z news)(h1:∀u∈news,u.oneCell'=true)
  (hm:m≤dl)(hfit:off+news.length≤row.length)
  (hk:W T P fin (nh (aJ T (bh T D 999 c)) (O1++(g,row.take off++news++row.drop (off+news.length))::O2) (.int .i64 (m:Nat))) Γ)(h:Kg T (aJ T (bh T D 999 c))=some (own,z,.slice (some ⟨g,off,none⟩) dl dc,x):=by kernel_rfl):W T P fin c Γ:=by
 refine eF D 999 ?_;generalize bh T D 999 c=c1 at*;unfold Kg at h;split at h
 ·rename_i o c' he;rw[he]at hk;split at h
  ·rename_i cl hop;split at h
   ·rename_i sx xx t1 t2 hcal hargs htys;split at h
    ·rename_i a b y1 ha hbv hy;cases hc:(Nat.beq y1.kind 3&& !Nat.beq y1.esize 0)with
     |false=>simp[hc]at h
     |true=>
      simp only[hc,bT,aq,aI]at h;obtain⟨hown,rfl,rfl,rfl⟩:=h;simp only[aK,cF]at hc;obtain⟨c2,c3⟩:=hc;have hne:y1.esize≠0:=by
       intro e0;rw[e0]at c3;simp at c3
      obtain⟨e,hd,hsz⟩:=vR hT hy (aH c2);have hie:∃ie,P.info? e=some ie∧ie.size=y1.esize:=by
       cases hie:P.info? e with
       |none=>simp[hie]at hsz;exact absurd hsz.symm hne
       |some ie=>exact⟨ie,rfl,by simp[hie]at hsz;omega⟩
      obtain⟨ie,hie,hin⟩:=hie;have hcargs:cl.args= #[sx,xx]:=by rw[←fZ];exact hargs
      have hctys:cl.argTypes= #[t1,t2]:=by rw[←fZ];exact htys
      obtain⟨ao,cc,rfl,hnl,hrd⟩:=hx;refine W.own (fun v' iX Δ=>v'=.int .i64 (m:Nat)∧iX=O1++(g,row.take off++news++row.drop (off+news.length))::O2∧Δ=[]) he (fun I w hdo hh hoa hnod _=>?_) ?_
      ·rw[hown]at hoa hnod;obtain⟨e',he',hblk⟩:=hoa g row (by rw[ho];simp);have hst:=run_storeCells_at P g off e' news 0 row.toArray w hblk (by simpa using hfit) h1;simp only[fm]at hst;have hf:(Builtin.firstCells y1.esize m (.slice ao m cc)).run P w=.ok news.toArray w:=by
        by_cases hm0:m=0
        ·subst hm0;obtain rfl:news=[]:=aL (by simpa using hnl);cases ao<;>simp[Builtin.firstCells,loadCells,loadCellsFrom]
        ·obtain⟨ad,rfl,hrd2⟩:=hrd (by omega);exact run_firstCells_some (P:=P) w y1.esize m ad m cc news hnl (hrd2 I w hdo hh hoa)
       have hmin:Nat.min m dl=m:=fu hm;have hrun:(Builtin.copy_ #[t1,t2] o.type #[.slice (some ⟨g,off,none⟩) dl dc,.slice ao m cc]).run P w=.ok (goInt m) (w.setRow g (row.take off++news++row.drop (off+news.length)).toArray):=by
        simp[Builtin.copy_,cP hd,Builtin.lenOf,hmin,iT hie,hin,hf,hst]
       have hexec:(execOp c'.s.rho o).run P w=.ok (.value (goInt m)) (w.setRow g (row.take off++news++row.drop (off+news.length)).toArray):=by
        simp[execOp,hop,resolve,invoke,builtin,hcal,hcargs,hctys,cE ha,cE hbv,hrun]
       refine⟨_,_,[],_,_,hexec,.inl rfl,⟨rfl,rfl,rfl⟩,fun q hq _=>⟨rfl,rfl,rfl,by simp,fun k hk=>oq w g k _ (by have:=hq g row (by rw[hown,ho];simp);omega)⟩,by simp,fun k hk hk'=>oq w g k _ (by rintro rfl;exact hk' row (by rw[hown,ho];simp)),fun b cs hb=>?_,fun b cs hb=>?_,?_,aG.nil _ _⟩
       ·have hother:((b,cs)∈O1∨(b,cs)∈O2)→∃e,T.dat e=false∧(w.setRow g (row.take off++news++row.drop (off+news.length)).toArray).heap[b]? =some (Obj.cells cs.toArray e (0,0)):=by
         intro hb;have hbg:=C8 (by rw[←ho];exact hnod) b cs hb;obtain⟨e,he2,hc⟩:=hoa b cs (by rw[ho];rcases hb with h|h<;>simp[h]);exact⟨e,he2,by rw[oq w g b _ hbg];exact hc⟩
        rcases List.mem_append.1 hb with hb|hb
        ·exact hother (.inl hb)
        ·rcases List.mem_cons.1 hb with hb|hb
         ·injection hb with h1' h2';subst h1' h2';exact⟨e',he',by simpa using setRow_heap w b _ _ e' _ hblk⟩
         ·exact hother (.inr hb)
       ·rcases List.mem_append.1 hb with hb|hb
        ·exact .inl ⟨cs,by rw[hown,ho];simp[hb]⟩
        ·rcases List.mem_cons.1 hb with hb|hb
         ·injection hb with h1' h2';subst h1' h2';exact .inl ⟨row,by rw[hown,ho];simp⟩
         ·exact .inl ⟨cs,by rw[hown,ho];simp[hb]⟩
       ·rw[ho]at hnod;simpa using hnod
      ·rintro v' iX Δ ⟨rfl,rfl,rfl⟩;exact hk
    ·simp at h
   ·simp at h
  ·simp at h
 ·simp at h
def qG(T:Tb)(t:Nat):Nat→fM→fM
 |0,c=>c
 |n+1,c=>bif ((c.s.boxes.getD t none).isSome&& !dG c.k)then c else match aJ T c with
  | .next c'=>qG T t n c'
  |_=>c
theorem DM(t:Nat):∀(n:Nat) {c:fM},W T P fin (qG T t n c) Γ→W T P fin c Γ
 |0,_,h=>h
 |n+1,c,h=>by
  unfold qG at h;cases hb:((c.s.boxes.getD t none).isSome&& !dG c.k)with
  |true=>simp only[hb,bT]at h;exact h
  |false=>
   simp only[hb,cN]at h;split at h
   ·rename_i c' hc;exact W.next hc (DM t n h)
   ·exact h
def Ko(t:Nat)(c:fM):Bool:=(c.s.boxes.getD t none).isSome&& !dG c.k
def acZ(t b:Nat)(c:fM):fM:=⟨c.s.reveal t b,c.k⟩
theorem vf(t:Nat)(hk:∀b,W T P fin (acZ t b (qG T t 999 c)) Γ)(h:Ko t (qG T t 999 c)=true:=by kernel_rfl):W T P fin c Γ:=by
 refine DM t 999 ?_;generalize qG T t 999 c=c1 at*;obtain⟨s,k⟩:=c1;unfold Ko at h;rw[aK,cF]at h;exact W.reveal t h.2 h.1 hk
def revp(t b:Nat)(c:fM):fM:=⟨⟨ni t b c.s.tmps,c.s.boxes.set t none,c.s.own,c.s.maps⟩,c.k⟩
theorem W.revp(t:Nat)(row:List Value)
  (hk:∀b,W T P fin (YtgaaopjagcaojaaGreat.revp t b (qG T t 999 c)) (dY b row::Γ))(h:Ko t (qG T t 999 c)=true:=by kernel_rfl)(hr:(qG T t 999 c).s.boxes.getD t none=some row:=by kernel_rfl):W T P fin c Γ:=by
 refine DM t 999 ?_;generalize qG T t 999 c=c1 at*;obtain⟨s,k⟩:=c1;unfold Ko at h;rw[aK,cF]at h;refine W.reveal t h.2 h.1 (fun b=>?_);have e:s.reveal t b=⟨ni t b s.tmps,s.boxes.set t none,[]++(b,row)::s.own,s.maps⟩:=by
  unfold VS.reveal;rw[hr];rfl
 rw[e];exact W.pub (O1:=[]) (O2:=s.own) (b:=b) (cs:=row) h.2 rfl (hk b)
theorem jx(D:List Nat)(b off:Nat){row:List Value}(cs:List Value) [hr:aZ (dY b) row Γ](hT:T.Ok P)
  (hcs:(row.drop off).take cs.length=cs)
  (hk:W T P fin (gy (aJ T (bh T D 999 c)) (.agg cs.toArray)) Γ)(h:BI T (aJ T (bh T D 999 c))=some (true,cs.length,.pointer (some ⟨b,off,none⟩)):=by kernel_rfl):W T P fin c Γ:=
 de D b off cs hT (h:=h) (fun I w _ hh j v hv=>by
  rw[oM (hr.p hh)];rw[←hcs,di]at hv;split at hv
  ·rw[vA]at hv;exact hv
  ·simp at hv) hk
theorem gI(D:List Nat){f:FuncId}{args:List Value}{Γ':List aE}{post:Value→List aE→Prop}(hs:∀I w,bB T I w→aG Γ I w→aG Γ' I w)(hp:au T P f args (Γ'++Γ) post)
  (hk:∀v Δ,post v Δ→W T P fin (gy (aJ T (bh T D 999 c)) v) (Δ++Γ))(h:rH (aJ T (bh T D 999 c))=some (f,args):=by kernel_rfl):W T P fin c Γ:=
 Jd D 999 h hp (fun I w hd hh F hF=>by
  rcases List.mem_append.1 hF with h|h
  ·exact hs I w hd hh F h
  ·exact hh F h) hk
theorem W.more{Δ:List aE}(hm:dG c.k=false)(hs:∀I w,bB T I w→aG Γ I w→aG Δ I w)(hk:W T P fin c (Δ++Γ)):W T P fin c Γ:=
 W.elim (α:=Unit) (fun _=>True) (fun _=>Δ) hm (fun I w hd hh=>⟨(),trivial,hs I w hd hh⟩) (fun _ _=>hk)
def dN(T:Tb):Nat→fM→fM
 |0,c=>c
 |n+1,c=>bif dG c.k then(match aJ T c with
  | .next c'=>dN T n c'
  |_=>c)else c
theorem W.code:∀(n:Nat) {c:fM},W T P fin (dN T n c) Γ→W T P fin c Γ
 |0,_,h=>h
 |n+1,c,h=>by
  unfold dN at h;cases hb:dG c.k with
  |false=>simp only[hb,cN]at h;exact h
  |true=>
   simp only[hb,bT]at h;split at h
   ·rename_i c' hc;exact W.next hc (W.code n h)
   ·exact h
end
theorem aae(x z:Nat):4*(x*z)≤(x+z)*(x+z):=by
 rcases Nat.le_total x z with h|h
 ·obtain⟨d,rfl⟩:∃d,z=x+d:=⟨z-x,by omega⟩;have e:(x+(x+d))*(x+(x+d))=4*(x*(x+d))+d*d:=by grind
  omega
 ·obtain⟨d,rfl⟩:∃d,x=z+d:=⟨x-z,by omega⟩;have e:(z+d+z)*(z+d+z)=4*((z+d)*z)+d*d:=by grind
  omega
theorem LN{a x:Nat}(hx:0<x):a<((x+a/x)/2+1)*((x+a/x)/2+1):=by
 have h1:a<x*(a/x+1):=by
  have:=fU a x;have:=fF a hx;rw[fD];omega
 generalize a/x=q at*;have h2:=aae x (q+1);have h3:x+(q+1)≤2*((x+q)/2+1):=by omega
 generalize(x+q)/2+1=y at*;have h4:(x+(q+1))*(x+(q+1))≤2*y*(2*y):=aR h3 h3;have e:2*y*(2*y)=4*(y*y):=by grind
 omega
theorem PI{a x:Nat}(hx:0<x)(h:x≤(x+a/x)/2):x*x≤a:=by
 have h1:x≤a/x:=by omega
 exact(jZ hx).1 h1
theorem IX{a b k:Nat}(h:a<2^b)(hk:b≤2*k):a<(2^k+1)*(2^k+1):=by
 have h1:2^b≤2^(2*k):=cY (by omega) hk;have e:2^(2*k)=2^k*2^k:=by rw[Nat.two_mul,cR]
 have:2^k*2^k≤(2^k+1)*(2^k+1):=aR (by omega) (by omega);omega
def lh(w:World)(s:Sl)(x b4 B:Nat)(k:Nat)(wr:World):Prop:=∃sx:Sl,
 wr.heap[w.heap.size]? =some (.cells #[.slice s.ao s.n s.c] 110 (0,0))∧wr.heap[w.heap.size+1]? =some (.cells #[.slice none 0 0] 110 (0,0))∧
 wr.heap[w.heap.size+1+1]? =some (.cells #[.slice none 0 0] 110 (0,0))∧wr.heap[b4]? =some (.cells #[.slice sx.ao sx.n sx.c] 110 (0,0))∧
 dU wr s x∧dU wr sx k∧0<k∧x<(k+1)*(k+1)∧sx.n≤B∧Below w.heap.size w wr
theorem Wo(w:World):Calls Tryz.prog 193 #[.int .u64 1] w fun e w'=>
   ∃u:Sl,e=.returned (.agg #[.slice u.ao u.n u.c])∧dU w' u 1∧u.n≤2∧Below w.heap.size w w':=El 1 w (by omega)
def Mn(w:World)(s:Sl)(x:Nat)(e:Ending)(w':World):Prop:=
 ∃(u v:Sl) (r:Nat),e=.returned (.tuple #[.agg #[.slice u.ao u.n u.c],.agg #[.slice v.ao v.n v.c]])∧dU w' u r∧dU w' v (x-r*r)∧r*r≤x∧x<(r+1)*(r+1)∧u.n≤s.n∧v.n≤s.n∧Below w.heap.size w w'
theorem MP{w:World}{s:Sl}{x:Nat}(h:dU w s x):bl x≤32*s.n:=by
 rw[qS];obtain⟨l,k1,k2,k3,k4⟩:=h;have k5:=mj 4294967296 l k2;rw[Kc,←k1.1,k4]at k5;exact k5
def eO(w:World)(s:Sl)(x:Nat)(w':World):Prop:=
 w'.heap[w.heap.size]? =some (.cells #[.slice s.ao s.n s.c] 110 (0,0))∧w'.heap[w.heap.size+1]? =some (.cells #[.slice none 0 0] 110 (0,0))∧
 w'.heap[w.heap.size+1+1]? =some (.cells #[.slice none 0 0] 110 (0,0))∧dU w' s x∧Below w.heap.size w w'
theorem eO.up{w:World}{s:Sl}{x:Nat}{w' w'':World}(h:eO w s x w')(hb:Below w'.heap.size w' w''):eO w s x w'':=
 ⟨bJ hb h.1,bJ hb h.2.1,bJ hb h.2.2.1,h.2.2.2.1.up hb,h.2.2.2.2.trans (hb.mono h.2.2.2.2.size)⟩
theorem eO.alloc{w:World}{s:Sl}{x:Nat}{w':World}(h:eO w s x w')(o:Obj):eO w s x (w'.alloc o):=h.up ((Below.refl _ _).alloc (ai _) o)
theorem eO.drew{w:World}{s:Sl}{x:Nat}{w':World}(h:eO w s x w'):eO w s x w'.drew:=⟨h.1,h.2.1,h.2.2.1,h.2.2.2.1,h.2.2.2.2.drew⟩
theorem eO.cell{w:World}{s:Sl}{x:Nat}{w':World}(h:eO w s x w'):w'.cell? ⟨w.heap.size,0,none⟩=some (.slice s.ao s.n s.c):=bQ h.1 0
theorem eO.both{w:World}{s:Sl}{x:Nat}{w':World}(h:eO w s x w'):w'.cell? ⟨w.heap.size,0,none⟩=some (.slice s.ao s.n s.c)∧eO w s x w':=⟨h.cell,h⟩
theorem eO.set{w:World}{s:Sl}{x:Nat}{w':World}(h:eO w s x w'){b:Nat}{c:Array Value}(hc:w'.heap[b]? =some (.cells c 110 (0,0)))(hb:w.heap.size+1+1<b)(v:Value):eO w s x (w'.setCell ⟨b,0,none⟩ v):=
 ⟨cH h.1 (by simp;omega) v,cH h.2.1 (by simp;omega) v,cH h.2.2.1 (by simp;omega) v,h.2.2.2.1.kp ((Kp.refl _).setCell hc (by decide) v),h.2.2.2.2.setCell (by simp;omega) v⟩
theorem eO.setNew{w:World}{s:Sl}{x:Nat}{w':World}{c:Array Value}(h:eO w s x (w'.alloc (.cells c 110)))(hb:w.heap.size+1+1<w'.heap.size)(v:Value):eO w s x ((w'.alloc (.cells c 110)).setCell ⟨w'.heap.size,0,none⟩ v):=h.set (lk _ _) hb v
theorem Mo{w:World}{s:Sl}{x:Nat}{w':World}{v0 v:Value}(h:eO w s x (w'.alloc (.cells #[v0] 110)))(hb:w.heap.size+1+1<w'.heap.size):eO w s x (w'.alloc (.cells #[v] 110)):=by
 have h1:=h.setNew hb v;have e:(w'.alloc (.cells #[v0] 110)).setCell ⟨w'.heap.size,0,none⟩ v=w'.alloc (.cells #[v] 110):=by simp[go_sem]
 rwa [e]at h1
theorem zk{w:World}{s:Sl}{x:Nat}{w':World}(h:eO w s x w')(o:Obj):eO w s x (w'.alloc o).drew:=(h.alloc o).drew
theorem eO.lt{w:World}{s:Sl}{x:Nat}{w' w'':World}(h:eO w s x w')(hb:Below w'.heap.size w' w''):w.heap.size+1+1<w''.heap.size:=cQ (rK h.2.2.1) hb.size
theorem LL{w w':World}{s:Sl}{x:Nat}(h:eO w s x w')(hn:s.n≤2000):
  Calls Tryz.prog 244 #[.agg #[.slice s.ao s.n s.c]] w' fun e w''=>e=.returned (.int .i64 (bl x:Int))∧Below w'.heap.size w' w'':=CE h.2.2.2.1 (by omega)
theorem Sf{w:World}{o:Sl}{k:Nat}{v:Int}(h:dU w o 1)(hn:o.n≤2)(hk:k≤32000)(hv:v=(k:Int)):
  Calls Tryz.prog 246 #[.agg #[.slice o.ao o.n o.c],.int .i64 v] w fun e w'=>
   ∃u:Sl,e=.returned (.tuple #[.agg #[.slice u.ao u.n u.c],.int .i64 0])∧dU w' u (2^k)∧u.n≤2000∧Below w.heap.size w w':=by
 subst hv;refine(z9 k h (by omega) (by omega)).mono ?_;rintro e w' ⟨u,h1,h2,h3,h4⟩;exact⟨u,h1,by simpa using h2,by omega,h4⟩
theorem lh.mk{w:World}{s sx:Sl}{x b4 B k:Nat}{wr:World}(h:eO w s x wr)(hb:wr.heap[b4]? =some (.cells #[.slice sx.ao sx.n sx.c] 110 (0,0)))(hx:dU wr sx k)(hk:0<k∧x<(k+1)*(k+1))(hn:sx.n≤B):lh w s x b4 B k wr:=
 ⟨sx,h.1,h.2.1,h.2.2.1,hb,h.2.2.2.1,hx,hk.1,hk.2,hn,h.2.2.2.2⟩
theorem Ca{w:World}{s sx:Sl}{x b4 B k:Nat}{wr:World}{v0:Value}(h:eO w s x (wr.setCell ⟨b4,0,none⟩ (.slice sx.ao sx.n sx.c)))(hb:wr.heap[b4]? =some (.cells #[v0] 110 (0,0)))(hx:dU wr sx k)(hk:0<k∧x<(k+1)*(k+1))(hn:sx.n≤B):lh w s x b4 B k (wr.setCell ⟨b4,0,none⟩ (.slice sx.ao sx.n sx.c)):=
 lh.mk h (pS hb _) (hx.kp ((Kp.refl _).setCell hb (by decide) _)) hk hn
theorem zi{w:World}{s sx:Sl}{x B k:Nat}{wr:World}(h:eO w s x (wr.alloc (.cells #[.slice sx.ao sx.n sx.c] 110)))(hx:dU wr sx k)(hk:0<k∧x<(k+1)*(k+1))(hn:sx.n≤B):lh w s x wr.heap.size B k (wr.alloc (.cells #[.slice sx.ao sx.n sx.c] 110)):=
 lh.mk h (lk _ _) (hx.alloc _) hk hn
theorem EJ{a b:Nat}(h:a≤b)(h':b≤2000):a≤1000000000000:=by omega
def jw(w:World)(s sx:Sl)(x k b4:Nat)(w':World):Prop:=
 w'.heap[w.heap.size]? =some (.cells #[.slice s.ao s.n s.c] 110 (0,0))∧(∃v,w'.heap[w.heap.size+1]? =some (.cells #[v] 110 (0,0)))∧
 (∃v,w'.heap[w.heap.size+1+1]? =some (.cells #[v] 110 (0,0)))∧w'.heap[b4]? =some (.cells #[.slice sx.ao sx.n sx.c] 110 (0,0))∧dU w' s x∧dU w' sx k∧Below w.heap.size w w'
theorem jw.up{w:World}{s sx:Sl}{x k b4:Nat}{w' w'':World}(h:jw w s sx x k b4 w')(hb:Below w'.heap.size w' w''):jw w s sx x k b4 w'':=by
 obtain⟨h1,⟨v2,h2⟩,⟨v3,h3⟩,h4,h5,h6,h7⟩:=h;exact⟨bJ hb h1,⟨v2,bJ hb h2⟩,⟨v3,bJ hb h3⟩,bJ hb h4,h5.up hb,h6.up hb,h7.trans (hb.mono h7.size)⟩
theorem jw.drew{w:World}{s sx:Sl}{x k b4:Nat}{w':World}(h:jw w s sx x k b4 w'):jw w s sx x k b4 w'.drew:=⟨h.1,h.2.1,h.2.2.1,h.2.2.2.1,h.2.2.2.2.1,h.2.2.2.2.2.1,h.2.2.2.2.2.2.drew⟩
theorem jw.both{w:World}{s sx:Sl}{x k b4:Nat}{w':World}(h:jw w s sx x k b4 w'):w'.cell? ⟨w.heap.size,0,none⟩=some (.slice s.ao s.n s.c)∧w'.cell? ⟨b4,0,none⟩=some (.slice sx.ao sx.n sx.c)∧jw w s sx x k b4 w':=⟨bQ h.1 0,bQ h.2.2.2.1 0,h⟩
theorem HD{w:World}{s sx:Sl}{x k b4:Nat}{w':World}(h:jw w s sx x k b4 w')(hb4:w.heap.size+1+1<b4)(v:Value):jw w s sx x k b4 (w'.setCell ⟨w.heap.size+1,0,none⟩ v):=by
 obtain⟨h1,⟨v2,h2⟩,⟨v3,h3⟩,h4,h5,h6,h7⟩:=h;exact⟨cH h1 (by simp) v,⟨v,pS h2 v⟩,⟨v3,cH h3 (by simp) v⟩,cH h4 (by simp;omega) v,h5.kp ((Kp.refl _).setCell h2 (by decide) v),h6.kp ((Kp.refl _).setCell h2 (by decide) v),h7.setCell (by simp) v⟩
theorem HH{w:World}{s sx:Sl}{x k b4:Nat}{w':World}(h:jw w s sx x k b4 w')(hb4:w.heap.size+1+1<b4)(v:Value):jw w s sx x k b4 (w'.setCell ⟨w.heap.size+1+1,0,none⟩ v):=by
 obtain⟨h1,⟨v2,h2⟩,⟨v3,h3⟩,h4,h5,h6,h7⟩:=h;exact⟨cH h1 (by simp;omega) v,⟨v2,cH h2 (by simp) v⟩,⟨v,pS h3 v⟩,cH h4 (by simp;omega) v,h5.kp ((Kp.refl _).setCell h3 (by decide) v),h6.kp ((Kp.refl _).setCell h3 (by decide) v),h7.setCell (by simp;omega) v⟩
set_option maxHeartbeats 800000 in
theorem LM{w:World}{s:Sl}{x:Nat}(h:dU w s x)(hn:s.n≤2000):
  Calls Tryz.prog 274 #[.agg #[.slice s.ao s.n s.c]] w (Mn w s x):=by
 have hE:=lD w (.cells #[.slice s.ao s.n s.c] 110) (.cells #[.slice none 0 0] 110) (.cells #[.slice none 0 0] 110);have hbx:Below w.heap.size w _:=(((Below.refl w.heap.size w).alloc (ai _) (.cells #[.slice s.ao s.n s.c] 110)).alloc (by simp) (.cells #[.slice none 0 0] 110)).alloc (by simp;omega) (.cells #[.slice none 0 0] 110);by_cases h0:s.n=0
 ·have hx:x=0:=by have:=h.zero_iff;omega
  subst hx;obtain⟨ao,n,c⟩:=s;simp only at h0;subst h0
  go_enter Tryz.func274,Tryz.ntmps274
  go_wp2
  refine fg (v:=.tuple #[.agg #[.slice none 0 0],.agg #[.slice none 0 0]]) (by simp[results,Tryz.results274,go_sem]) rfl ⟨⟨none,0,0⟩,⟨none,0,0⟩,0,rfl,dU.nil _ _ _ (by omega),dU.nil _ _ _ (by omega),by omega,by omega,by simp,by simp,?_⟩;exact hbx
 ·have hn0:((s.n:Int)==0)=false:=by simp;omega
  have hx1:=h.up hbx;have hx0:0<x:=by have:=h.zero_iff;omega
  have hE1:=hE.1;have hE2:=hE.2.1;have hE3:=hE.2.2.1;have hsz:=hE.2.2.2;have hbl:bl x≤64000:=by have:=MP h;omega
  have Hsz:=bk hsz;clear hE hsz
  go_enter Tryz.func274,Tryz.ntmps274
  go_wp2
  generalize hW3:(((w.alloc (.cells #[.slice s.ao s.n s.c] 110)).alloc (.cells #[.slice none 0 0] 110)).alloc (.cells #[.slice none 0 0] 110))=W3 at*;clear hW3;obtain⟨k0,hk0⟩:∃k0,k0=(bl x+1)/2:=⟨_,rfl⟩;have hbit:((bl x:Int)+1)/2=(k0:Int):=by omega
  have hk1:bl x≤2*k0:=by omega
  have hk2:k0≤32000:=by omega
  have hK:IntKind.i64.wrap ((IntKind.i64.wrap ((bl x:Int)+1)).tdiv 2)=(k0:Int):=by
   rw[IntWalk.i64_in ((bl x:Int)+1) (by omega),IntWalk.i64_quo _ _ (by omega),hbit]
  have hk0p:0<2^k0∧x<(2^k0+1)*(2^k0+1):=⟨ki _,IX ((qS x (bl x)).1 (ai _)) hk1⟩;clear hk0 hbit;have hS0:eO w s x W3:=⟨hE1,hE2,hE3,hx1,hbx⟩;have hsz0:w.heap.size+1+1<W3.heap.size:=rK hE3;clear hE1 hE2 hE3 hx1 hbx
  go_upto_region 3 with fail
  go_cut [4] (fun s4 wx=>∃b4:Nat,s4=.pointer (some ⟨b4,0,none⟩)∧lh w s x b4 (max s.n 2000) (2^k0) wx∧w.heap.size+1+1<b4)
  case first=>
   have hsz0':w.heap.size+1+1<W3.drew.heap.size:=hsz0
   go_region_held3 (fun w'=>w'.cell? ⟨w.heap.size,0,none⟩=some (.slice s.ao s.n s.c)∧eO w s x w')
    (first
     |with_reducible exact hS0.drew.both
     |with_reducible exact(Mo (‹_∧eO w s x _›).2 (by assumption)).both
     |with_reducible exact(zk hS0 _).both
     |with_reducible exact(eO.alloc (‹_∧eO w s x _›).2 _).both
     |with_reducible exact(eO.set (‹_∧eO w s x _›).2 hc (by assumption) _).both
     |with_reducible exact(eO.up (‹_∧eO w s x _›).2 ‹Below _ _ _›).both)
    (first
     |(go_at_call 193;refine(Wo _).mono ?_;rintro e w1 ⟨o,rfl,ho,hon,hb1⟩;(have hl1:=eO.lt (‹_∧eO w s x _›).2 hb1);(first|with_reducible have hc:=Aw hb1|skip))
     |(go_at_call 244;refine(LL (‹_∧eO w s x _›).2 hn).mono ?_;rintro e w2 ⟨rfl,hb2⟩;(have hl2:=eO.lt (‹_∧eO w s x _›).2 hb2);(first|with_reducible have hc:=CF hb2|with_reducible have hc:=bJ hb2 hc|skip))
     |(go_at_call 246;refine(Sf (o:=o) (k:=k0) (v:=_) ?_ hon hk2 ?_).mono ?_;(first|with_reducible exact ho|with_reducible exact ho.up hb2|with_reducible exact(ho.up hb2).alloc _|with_reducible exact ho.alloc _|with_reducible exact(ho.alloc _).up hb2);with_reducible rfl
       rintro e w3 ⟨sx,rfl,hsx,hsxn,hb3⟩;(have hl3:=eO.lt (‹_∧eO w s x _›).2 hb3);(first|with_reducible have hc:=CF hb3|with_reducible have hc:=bJ hb3 hc|skip);(try with_reducible have hcc:=MV hc);(try with_reducible have hcf:=dV hc 0)))
   all_goals go_wp2
   all_goals go_meet
   all_goals first
    |exact⟨_,rfl,zi (‹_∧eO w s x _›).2 hsx hk0p (aP hsxn (Nat.le_max_right _ _)),hl3⟩
    |exact⟨_,rfl,Ca (‹_∧eO w s x _›).2 hc hsx hk0p (aP hsxn (Nat.le_max_right _ _)),by assumption⟩
  case rest=>
   clear hS0 hsz0 hk1 hk2 hK hbl Hsz;obtain⟨b4,rfl,hR,hb4⟩:=hcut;have hB:max s.n 2000≤2000:=by omega
   generalize max s.n 2000=B at*;have h2k:=hk0p;obtain⟨g0,hg0⟩:∃g0,g0=2^k0:=⟨_,rfl⟩;rw[←hg0]at hR;clear hg0 h2k hk0p
   go_wp2
   go_loopg [9] g0 (fun k _ wr=>lh w s x b4 B k wr)
   case atStart=>exact hR
   case round=>
    clear hR;obtain⟨sx,hE1,hE2,hE3,hE4,hs,hsx,hk,hkx,hxn,hbl⟩:=hrel;have hA:=bQ hE1 0;have hC:=bQ hE4 0
    go_upto_region 5 with(go_at_call 199;refine(AD hs hsx (by omega) (by omega) hk).mono ?_;rintro e w2 ⟨u,v,rfl,hu,hv,hun,hvn,hvn2,hb2⟩;have hF1:=bJ hb2 hE1;have hF2:=bJ hb2 hE2;have hF3:=bJ hb2 hE3;have hF4:=bJ hb2 hE4;clear hA hC)
    have hbX:Below w2.heap.size w2 ((w2.alloc (.cells #[.slice u.ao u.n u.c] 110)).alloc (.cells #[.slice v.ao v.n v.c] 110)):=((Below.refl _ _).alloc (ai _) _).alloc (by simp) _;have K1:=bJ hbX hF1;have K2:=bJ hbX hF2;have K3:=bJ hbX hF3;have K4:=bJ hbX hF4;have K6:((w2.alloc (.cells #[.slice u.ao u.n u.c] 110)).alloc (.cells #[.slice v.ao v.n v.c] 110)).heap[w2.heap.size]? =some (.cells #[.slice u.ao u.n u.c] 110 (0,0)):=kJ (lk _ _) _;have hu':=hu.up hbX;have hsx':=(hsx.up hb2).up hbX;have hs':=(hs.up hb2).up hbX;have hblX:Below w.heap.size w ((w2.alloc (.cells #[.slice u.ao u.n u.c] 110)).alloc (.cells #[.slice v.ao v.n v.c] 110)):=(hbl.trans (hb2.mono hbl.size)).trans (hbX.mono (by have:=hbl.size;have:=hb2.size;omega));generalize hXd:((w2.alloc (.cells #[.slice u.ao u.n u.c] 110)).alloc (.cells #[.slice v.ao v.n v.c] 110))=X at*;have c6:=bQ K6 0;have c4:=bQ K4 0;clear hXd hbX hF1 hF2 hF3 hF4 hE1 hE2 hE3 hE4 hu hv hb2 hbl hsx hs
    go_upto_region 6 with(first
     |(go_at_call 252;refine(Fc hsx' hu' (by omega) (by omega)).mono ?_;rintro e w3 ⟨a,rfl,ha,han,hb3⟩)
     |(go_at_call 251;refine(CM 1 ha (by omega) (by omega)).mono ?_;rintro e w4 ⟨d,rfl,hd,hdn,hb4'⟩))
    have hd1:dU w4 d ((gk+x/gk)/2):=hd;have hbY:Below w4.heap.size w4 (w4.alloc (.cells #[.slice d.ao d.n d.c] 110)):=(Below.refl _ _).alloc (ai _) _;have L1:=bJ hbY (bJ hb4' (bJ hb3 K1));have L2:=bJ hbY (bJ hb4' (bJ hb3 K2));have L3:=bJ hbY (bJ hb4' (bJ hb3 K3));have L4:=bJ hbY (bJ hb4' (bJ hb3 K4));have L9:=lk w4 (.cells #[.slice d.ao d.n d.c] 110);have hd2:=hd1.up hbY;have hsx2:=((hsx'.up hb3).up hb4').up hbY;have hs2:=((hs'.up hb3).up hb4').up hbY;have hblY:Below w.heap.size w _:=((hblX.trans (hb3.mono hblX.size)).trans (hb4'.mono (by have:=hblX.size;have:=hb3.size;omega))).trans (hbY.mono (by have:=hblX.size;have:=hb3.size;have:=hb4'.size;omega));generalize hYd:(w4.alloc (.cells #[.slice d.ao d.n d.c] 110))=Y at*;have c9:=bQ L9 0;have c4':=bQ L4 0;have hstep:=LN (a:=x) hk;have hend:=PI (a:=x) hk;clear hYd hbY c6 c4 K1 K2 K3 K4 K6 hu' hsx' hs' hd hd1 ha hb3 hb4' hblX;generalize w4.heap.size=b9 at*;obtain⟨g1,hg1⟩:∃g1,g1=(gk+x/gk)/2:=⟨_,rfl⟩;rw[←hg1]at hd2 hstep hend;have hg1q:0<g1:=by
     rcases iV 1 gk with hgk|hgk
     ·generalize x/gk=Z at hg1;omega
     ·have hgk1:gk=1:=by omega
      rw[hgk1,Nat.div_one]at hg1;omega
    clear hg1;by_cases hge:gk≤g1
    ·have hcmp:decide ((0:Int)≤mK g1 gk)=true:=by
      rcases iV gk g1 with hlt|hlt
      ·rw[uD hlt];decide
      ·rw[show gk=g1 by omega,wE];decide
     go_upto_region 7 with(go_at_call 204;refine(nv hd2 hsx2 (by omega) (by omega)).mono ?_;rintro e w5 ⟨rfl,hb5⟩;have M1:=bJ hb5 L1;have M2:=bJ hb5 L2;have M3:=bJ hb5 L3;have M4:=bJ hb5 L4;clear c9 c4')
     have hS5:jw w s sx x gk b4 w5:=⟨M1,⟨_,M2⟩,⟨_,M3⟩,M4,hs2.up hb5,hsx2.up hb5,hblY.trans (hb5.mono hblY.size)⟩;clear M1 M4 hs2 hsx2 hb5 hblY hcmp hd2 L1 L2 L3 L4 L9 hstep
     go_region_held3 (fun w'=>w'.cell? ⟨w.heap.size,0,none⟩=some (.slice s.ao s.n s.c)∧w'.cell? ⟨b4,0,none⟩=some (.slice sx.ao sx.n sx.c)∧jw w s sx x gk b4 w')
      (first
       |with_reducible exact hS5.drew.both
       |with_reducible exact(HD (‹_∧_∧jw w s sx x gk b4 _›).2.2 hb4 _).both
       |with_reducible exact(HH (‹_∧_∧jw w s sx x gk b4 _›).2.2 hb4 _).both
       |with_reducible exact(jw.up (‹_∧_∧jw w s sx x gk b4 _›).2.2 ‹Below _ _ _›).both)
      (first
       |(go_at_call 247;refine(Gu (‹_∧_∧jw w s sx x gk b4 _›).2.2.2.2.2.2.2.1 (‹_∧_∧jw w s sx x gk b4 _›).2.2.2.2.2.2.2.1 (EJ hxn hB) (EJ hxn hB)).mono ?_;rintro e w6 ⟨m,rfl,hm,hmn,hb6⟩)
       |(go_at_call 267;refine(CY (‹_∧_∧jw w s sx x gk b4 _›).2.2.2.2.2.2.1 hm (EJ (ai _) hn) (hend hge)).mono ?_;rintro e w7 ⟨l,rfl,hl,hln,hb7⟩;(have N2:=bJ hb7 (bJ (lT hb6) M2));(have N3:=bJ hb7 (bJ (lT hb6) M3));(have q2:=bQ N2 0);(have q3:=bQ N3 0);(have f2:=dV N2 0);(have f3:=dV N3 0)))
     have hE9:=(‹_∧_∧jw w s sx x gk b4 _›).2.2;have P2:=cH (a:=⟨w.heap.size+1+1,0,none⟩) (pS (i:=0) N2 (.slice sx.ao sx.n sx.c)) (by simp) (.slice l.ao l.n l.c);have P3':=cH (a:=⟨w.heap.size+1,0,none⟩) N3 (by simp) (.slice sx.ao sx.n sx.c);have P3:=pS (i:=0) P3' (.slice l.ao l.n l.c);have hl9:=(hl.kp ((Kp.refl _).setCell (a:=⟨w.heap.size+1,0,none⟩) N2 (by decide) (.slice sx.ao sx.n sx.c))).kp ((Kp.refl _).setCell (a:=⟨w.heap.size+1+1,0,none⟩) P3' (by decide) (.slice l.ao l.n l.c));have r2:=bQ P2 0;have r3:=bQ P3 0;clear q2 q3 f2 f3 N2 N3 P2 P3 P3' hl hm hS5 M2 M3 hb6 hb7;have hks:gk≤x:=aP (Nat.le_mul_of_pos_left gk hk) (hend hge);generalize hW9:((w7.setCell ⟨w.heap.size+1,0,none⟩ (.slice sx.ao sx.n sx.c)).setCell ⟨w.heap.size+1+1,0,none⟩ (.slice l.ao l.n l.c))=W9 at*;clear hW9
     go_wp2
     refine fg (v:=.tuple #[.agg #[.slice sx.ao sx.n sx.c],.agg #[.slice l.ao l.n l.c]]) (by simp[results,Tryz.results274,go_sem,r2,r3]) rfl ⟨sx,l,gk,rfl,hE9.2.2.2.2.2.1,hl9,hend hge,hkx,hE9.2.2.2.2.2.1.n_le hE9.2.2.2.2.1 hks,hln,hE9.2.2.2.2.2.2⟩
    ·have hcmp:decide ((0:Int)≤mK g1 gk)=false:=by rw[wF (by omega)];decide
     have hdn2:d.n≤sx.n:=hd2.n_le hsx2 (by omega)
     go_wp2_with (go_at_call 204;refine(nv hd2 hsx2 (by omega) (by omega)).mono ?_;rintro e w5 ⟨rfl,hb5⟩;have M4:=bJ hb5 L4;have m9:=bQ (bJ hb5 L9) 0;have m4:=bQ M4 0;have f4:=dV M4 0;clear c9 c4')
     go_roundg g1
     case measure=>omega
     case rel=>
      refine⟨d,cH (bJ hb5 L1) (by simp;omega) _,cH (bJ hb5 L2) (by simp;omega) _,cH (bJ hb5 L3) (by simp;omega) _,pS M4 _,?_,?_,hg1q,hstep,by omega,?_⟩
      ·exact(hs2.up hb5).kp ((Kp.refl _).setCell M4 (by decide) _)
      ·exact(hd2.up hb5).kp ((Kp.refl _).setCell M4 (by decide) _)
      ·exact(hblY.trans (hb5.mono hblY.size)).setCell (by simp;omega) _
def F9:Nat→Nat→Nat
 |0,_=>0
 |k+1,n=>let r:=2*F9 k (n/4);if(r+1)*(r+1)≤n then r+1 else r
def vQ(n:Nat):Nat:=F9 (n.log2+1) n
theorem CW:∀(k n:Nat),n<4^k→F9 k n*F9 k n≤n∧n<(F9 k n+1)*(F9 k n+1)
 |0,n,h=>by
  have:n=0:=by simpa using h
  subst this;decide
 |k+1,n,h=>by
  obtain⟨h1,h2⟩:=CW k (n/4) (by rw[eB]at h;omega);simp only[F9];generalize F9 k (n/4)=r at*;have e1:(2*r)*(2*r)=4*(r*r):=by grind
  have e2:(2*r+1+1)*(2*r+1+1)=4*((r+1)*(r+1)):=by grind
  split
  ·refine⟨by assumption,?_⟩;rw[e2];omega
  ·refine⟨by rw[e1];omega,by omega⟩
theorem wV(n:Nat):vQ n*vQ n≤n∧n<(vQ n+1)*(vQ n+1):=by
 refine CW _ _ (cQ (Nat.lt_log2_self) ?_);exact Nat.pow_le_pow_left (by omega) _
theorem Io{n r:Nat}(h1:r*r≤n)(h2:n<(r+1)*(r+1)):vQ n=r:=by
 obtain⟨g1,g2⟩:=wV n;rcases Nat.lt_trichotomy (vQ n) r with h|h|h
 ·have:(vQ n+1)*(vQ n+1)≤r*r:=aR h h;omega
 ·exact h
 ·have:(r+1)*(r+1)≤vQ n*vQ n:=aR h h;omega
section
variable{Γ:List aE}{L M x y:Nat}
theorem WE(s:Sl) [ha:aZ (NF s) (L,x) Γ](hL:L≤2000:=by omega):
  au tb Tryz.prog 274 [mv s] Γ (fun v Δ=>∃u t:Sl,v=.tuple #[mv u,mv t]∧Δ=[NF u (L,vQ x),NF t (L,x-vQ x*vQ x)]):=
 ⟨⟨_,Tryz.func274,by kernel_rfl,by kernel_rfl⟩,fun I w hd hh=>by
  obtain⟨h1,h2,h3⟩:=ha.p hh;refine(LM h1 (aP h3 hL)).mono ?_;rintro e w' ⟨u,v,r,rfl,hu,hv,hr1,hr2,hn1,hn2,hb⟩;obtain rfl:=Io hr1 hr2;exact⟨_,_,rfl,⟨u,v,rfl,rfl⟩,hb,aG.cons (hu.fact hd hb (by simp only at h3;omega)) (aV (hv.fact hd hb (by simp only at h3;omega)))⟩⟩
end
end Go.Proofs.YtgaaopjagcaojaaGreat
