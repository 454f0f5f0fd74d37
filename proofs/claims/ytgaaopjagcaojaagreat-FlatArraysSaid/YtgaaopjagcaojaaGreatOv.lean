import Derived.Test.YtgaaopjagcaojaaGreatRc
import Derived.Test.YtgaaopjagcaojaaGreatSy
import Derived.Test.YtgaaopjagcaojaaGreatMaths
set_option linter.unusedSimpArgs false
set_option linter.unusedVariables false
set_option maxHeartbeats 4000000
namespace Go.Proofs.YtgaaopjagcaojaaGreat
open Go.RowKit Go.IntWalk
def bq(b:Nat)(q:Rat):Prop:=q.num.natAbs<2^b∧q.den<2^b
theorem fx{a b:Nat}(h:a≤b):2^a≤2^b:=cY (by decide) h
theorem bq.mono{a b:Nat}{q:Rat}(h:bq a q)(hab:a≤b):bq b q:=⟨cQ h.1 (fx hab),cQ h.2 (fx hab)⟩
theorem bq.of{n d:Int}{q:Rat}{b:Nat}(hd:0<d)(h:q=Rat.divInt n d)(h1:n.natAbs<2^b)(h2:d.natAbs<2^b):bq b q:=by
 obtain⟨g,hg,e1,e2⟩:=xw hd h;have hn:n.natAbs=q.num.natAbs*g.natAbs:=by rw[e1,cK]
 have hdd:d.natAbs=q.den*g.natAbs:=by rw[e2,cK];rfl
 have hg1:1≤g.natAbs:=by omega
 constructor
 ·have:q.num.natAbs*1≤q.num.natAbs*g.natAbs:=cJ _ hg1;omega
 ·have:q.den*1≤q.den*g.natAbs:=cJ _ hg1;omega
theorem bq.mul{a b:Nat}{x y:Rat}(hx:bq a x)(hy:bq b y):bq (a+b) (x*y):=by
 refine bq.of (n:=x.num*y.num) (d:=x.den*y.den) (by have:=gK x;have:=gK y;exact Int.mul_pos (by assumption) (by assumption)) (PY x y).symm ?_ ?_
 ·rw[cK,cR];exact rG hx.1 hy.1
 ·rw[cK,cR];exact rG hx.2 hy.2
theorem bq.add{a b:Nat}{x y:Rat}(hx:bq a x)(hy:bq b y):bq (a+b+1) (x+y):=by
 refine bq.of (n:=x.num*y.den+y.num*x.den) (d:=x.den*y.den) (by have:=gK x;have:=gK y;exact Int.mul_pos (by assumption) (by assumption)) (PX x y).symm ?_ ?_
 ·have h1:(x.num*(y.den:Int)).natAbs<2^a*2^b:=by
   rw[cK];exact rG hx.1 hy.2
  have h2:(y.num*(x.den:Int)).natAbs<2^a*2^b:=by
   rw[cK,eA (2^a)];exact rG hy.1 hx.2
  rw[eB,cR];omega
 ·rw[cK,eB,cR];have:(x.den:Int).natAbs*(y.den:Int).natAbs<2^a*2^b:=rG hx.2 hy.2;omega
theorem bq.neg{a:Nat}{x:Rat}(hx:bq a x):bq a (-x):=by
 refine⟨?_,?_⟩
 ·rw[Rat.neg_num,Int.natAbs_neg];exact hx.1
 ·rw[Rat.neg_den];exact hx.2
theorem bq.int{b:Nat}{z:Int}(h:z.natAbs<2^b)(hb:1≤b):bq b (z:Rat):=⟨h,by
 show 1<2^b;exact Nat.one_lt_two_pow (by omega)⟩
theorem bq.zero(b:Nat)(hb:1≤b):bq b 0:=bq.int (z:=0) (ki b) hb
theorem NF.tight{s:Sl}{L L' x:Nat}{I:fZ}{w:World}(h:(NF s (L,x)).p I w)(hx:x<4294967296^L'):(NF s (L',x)).p I w:=by
 obtain⟨⟨l,hi,hd,hn,hv⟩,h2,h3⟩:=h;refine⟨⟨l,hi,hd,hn,hv⟩,h2,?_⟩;have:=hn.len_of_lt (B:=4294967296) (k:=L') (by decide) (by rw[hv];exact hx);have:=hi.1;omega
theorem Ib{x b:Nat}(h:x<2^b):x<4294967296^(b/32+1):=by
 have e:4294967296^(b/32+1)=2^(32*(b/32+1)):=by rw[show 4294967296=2^32 by decide,←Nat.pow_mul]
 rw[e];exact cQ h (fx (by omega))
theorem ZF.tight{s:Sl}{d:Bool}{L b:Nat}{x:Int}{I:fZ}{w:World}(h:(ZF s d (L,x)).p I w)(hx:x.natAbs<2^b):(ZF s d (b/32+1,x)).p I w:=⟨NF.tight h.1 (Ib hx),h.2⟩
theorem QF.tight{n m:Sl}{a b:Bool}{L k:Nat}{q:Rat}{I:fZ}{w:World}(h:(QF n a m b (L,q)).p I w)(hq:bq k q):(QF n a m b (k/32+1,q)).p I w:=by
 obtain⟨y,h1,h2,hy⟩:=h;refine⟨y,ZF.tight h1 hq.1,ZF.tight h2 ?_,hy⟩;rcases hy with rfl|⟨rfl,_⟩
 ·exact hq.2
 ·exact ki k
def bS(b:Nat)(S:Sn):Prop:=S.m.natAbs<2^b∧S.n.natAbs<2^b∧bq b S.p∧bq b S.q∧bq b S.r∧bq b S.s
theorem bS.mono{a b:Nat}{S:Sn}(h:bS a S)(hab:a≤b):bS b S:=
 ⟨cQ h.1 (fx hab),cQ h.2.1 (fx hab),h.2.2.1.mono hab,h.2.2.2.1.mono hab,h.2.2.2.2.1.mono hab,h.2.2.2.2.2.mono hab⟩
theorem bS.add{b c:Nat}{S T:Sn}(h:bS b S)(g:bS c T):bS (b+c+1) (S.add T):=by
 obtain⟨h1,h2,h3,h4,h5,h6⟩:=h;obtain⟨g1,g2,g3,g4,g5,g6⟩:=g;exact⟨cQ h1 (fx (by omega)),cQ h2 (fx (by omega)),h3.add g3,h4.add g4,h5.add g5,h6.add g6⟩
theorem bS.neg{b:Nat}{S:Sn}(h:bS b S):bS b S.neg:=by
 obtain⟨h1,h2,h3,h4,h5,h6⟩:=h;exact⟨h1,h2,h3.neg,h4.neg,h5.neg,h6.neg⟩
theorem bS.pos{b:Nat}{S:Sn}(h:bS b S):1≤b:=by
 have h2:=h.2.2.1.2;have:=S.p.den_pos;cases b with
 |zero=>simp at h2;omega
 |succ b=>omega
theorem bS.mul{b c:Nat}{S T:Sn}(h:bS b S)(g:bS c T):bS (8*b+4*c+3) (S.mul T):=by
 have hb:=h.pos;obtain⟨h1,h2,h3,h4,h5,h6⟩:=h;obtain⟨g1,g2,g3,g4,g5,g6⟩:=g;have hm:bq b (S.m:Rat):=bq.int h1 hb;have hn:bq b (S.n:Rat):=bq.int h2 hb;refine⟨cQ h1 (fx (by omega)),cQ h2 (fx (by omega)),?_,?_,?_,?_⟩
 ·exact((((h3.mul g3).add (hm.mul (h4.mul g4))).add (hn.mul (h5.mul g5))).add ((hm.mul hn).mul (h6.mul g6))).mono (by omega)
 ·exact(((h3.mul g4).add (h4.mul g3)).add (hn.mul ((h5.mul g6).add (h6.mul g5)))).mono (by omega)
 ·exact(((h3.mul g5).add (h5.mul g3)).add (hm.mul ((h4.mul g6).add (h6.mul g4)))).mono (by omega)
 ·exact((((h3.mul g6).add (h6.mul g3)).add (h4.mul g5)).add (h5.mul g4)).mono (by omega)
theorem SF.tight{x:Sw}{L k:Nat}{S:Sn}{I:fZ}{w:World}(h:(SF x (L,S)).p I w)(hq:bS k S):(SF x (k/32+1,S)).p I w:=by
 obtain⟨h1,h2,h3,h4,h5,h6⟩:=h;obtain⟨g1,g2,g3,g4,g5,g6⟩:=hq;exact⟨ZF.tight h1 g1,ZF.tight h2 g2,QF.tight h3 g3,QF.tight h4 g4,QF.tight h5 g5,QF.tight h6 g6⟩
section
variable{fin:VS→List aE→Prop}{Γ:List aE}{L M K:Nat}
end
def YD(n:Int):Rat:=((vU n.natAbs:Nat):Int)
def OB(n:Int):Bool:=n.natAbs-vU n.natAbs*vU n.natAbs==0
def Sn.f1(S:Sn):Sn:=if OB S.m=true then⟨S.m,S.n,0+S.p+YD S.m*S.q,0,0+S.r+YD S.m*S.s,0⟩else S
def Sn.f2(S:Sn):Sn:=if OB S.n=true then⟨S.m,S.n,0+S.p+YD S.n*S.r,0+S.q+YD S.n*S.s,0,0⟩else S
def Sn.f3(S:Sn):Sn:=if OB (S.m*S.n)=true∧OB S.m=false∧OB S.n=false then⟨S.m,S.n,0+S.p+YD (S.m*S.n)*S.s,0+S.q+YD (S.m*S.n)/(S.m:Rat)*S.r,0,0⟩else S
def Sn.fold(S:Sn):Sn:=S.f1.f2.f3
def rlo(r:Int)(k:Nat):Rat:=Rat.divInt ((vU (r.natAbs*(2^k*2^k)):Nat):Int) ((2^k:Nat):Int)
def rhi(r:Int)(k:Nat):Rat:=if r.natAbs*(2^k*2^k)-vU (r.natAbs*(2^k*2^k))*vU (r.natAbs*(2^k*2^k))=0 then rlo r k else Rat.divInt (((vU (r.natAbs*(2^k*2^k))+1:Nat)):Int) ((2^k:Nat):Int)
def bhi(x:Rat)(r:Int)(k:Nat):Rat:=if x.num.sign<0 then x*rlo r k else x*rhi r k
def Sn.hi(S:Sn)(k:Nat):Rat:=((0:Int):Rat)+bhi S.p 1 k+bhi S.q S.m k+bhi S.r S.n k+bhi S.s (S.m*S.n) k
def Sn.w(S:Sn)(j:Nat):Rat:=S.p*lM 1 j+S.q*lM S.m j+S.r*lM S.n j+S.s*lM (S.m*S.n) j
def tw(a:Nat):Rat:=(((2^a:Nat):Int):Rat)
theorem aa1(a:Nat):tw a=((2^a:Int):Rat):=by unfold tw;push_cast;rfl
theorem Qz(a:Nat):0<tw a:=by rw[aa1];exact EV a
theorem Qy(a b:Nat):tw (a+b)=tw a*tw b:=by unfold tw;rw[←xc,cR]
theorem XL:tw 1=2:=rfl
theorem EU{a b:Nat}(h:a≤b):tw a≤tw b:=o9 (cY (by decide) h)
def md(a d:Nat)(x:Rat):Prop:= -(tw a)≤x∧x≤tw a∧x.den≤2^d
theorem md.mono{a d a' d':Nat}{x:Rat}(h:md a d x)(ha:a≤a')(hd:d≤d'):md a' d' x:=by
 have:=EU ha;exact⟨by have:=h.1;grind,by have:=h.2.1;grind,aP h.2.2 (cY (by decide) hd)⟩
theorem Nv{n d:Int}{q:Rat}(hd:0<d)(h:q=Rat.divInt n d):q.den≤d.natAbs:=by
 obtain⟨g,hg,e1,e2⟩:=xw hd h;have hdd:d.natAbs=q.den*g.natAbs:=by rw[e2,cK];rfl
 have:q.den*1≤q.den*g.natAbs:=cJ _ (by omega);omega
theorem md.mul{a d b e:Nat}{x y:Rat}(hx:md a d x)(hy:md b e y):md (a+b) (d+e) (x*y):=by
 have p1:=Qz a;have p2:=Qz b;obtain⟨x1,x2,x3⟩:=hx;obtain⟨y1,y2,y3⟩:=hy;rw[md,Qy];have q1:=bH (show 0≤tw a-x by grind) (show 0≤tw b+y by grind);have q2:=bH (show 0≤tw a+x by grind) (show 0≤tw b-y by grind);have q3:=bH (show 0≤tw a-x by grind) (show 0≤tw b-y by grind);have q4:=bH (show 0≤tw a+x by grind) (show 0≤tw b+y by grind);refine⟨by grind,by grind,?_⟩;have:=Nv (by have:=gK x;have:=gK y;exact Int.mul_pos (by assumption) (by assumption)) (PY x y).symm;rw[cK]at this;rw[cR];exact aP this (aR x3 y3)
theorem md.add{a d b e:Nat}{x y:Rat}(hx:md a d x)(hy:md b e y):md (max a b+1) (d+e) (x+y):=by
 obtain⟨x1,x2,x3⟩:=hx;obtain⟨y1,y2,y3⟩:=hy;have m1:=EU (Nat.le_max_left a b);have m2:=EU (Nat.le_max_right a b);rw[md,Qy (max a b) 1,XL];refine⟨by grind,by grind,?_⟩;have:=Nv (by have:=gK x;have:=gK y;exact Int.mul_pos (by assumption) (by assumption)) (PX x y).symm;rw[cK]at this;rw[cR];exact aP this (aR x3 y3)
theorem md.neg{a d:Nat}{x:Rat}(hx:md a d x):md a d (-x):=by
 obtain⟨x1,x2,x3⟩:=hx;exact⟨by grind,by grind,by rw[Rat.neg_den];exact x3⟩
theorem md.int{a:Nat}{z:Int}(h:z.natAbs≤2^a):md a 0 (z:Rat):=by
 have h1:((z.natAbs:Int):Rat)≤tw a:=o9 h;have h2:(z:Rat)≤((z.natAbs:Int):Rat):=Rat.intCast_le_intCast.2 (by omega);have h3: -((z.natAbs:Int):Rat)≤(z:Rat):=by rw[←s_];exact Rat.intCast_le_intCast.2 (by omega)
 exact⟨by grind,by grind,ai 1⟩
section
variable{A D c:Nat}
end
theorem md.z{a d:Nat}{x:Rat}(h:md a d x):md a d (0+x):=by
 rw[Rat.zero_add];exact h
theorem md.b{a d:Nat}{x:Rat}(h:md a d x): -(tw a)≤x∧x≤tw a:=⟨h.1,h.2.1⟩
def Sn.nil(F:Sn):Prop:=F.p=0∧F.q=0∧F.r=0∧F.s=0
section
variable{fin:VS→List aE→Prop}{Γ:List aE}{L M K:Nat}
end
section
variable{fin:VS→List aE→Prop}{Γ:List aE}{L M K:Nat}
end
structure P4 where
 x:Rat
 y:Rat
 z:Rat
 w:Rat
theorem FQ(d:Int):Rat.divInt d 2=(d:Rat)*Rat.divInt 1 2:=by
 rw[←oJ,lO];simp
theorem P4.ext'{p q:P4}(h1:p.x=q.x)(h2:p.y=q.y)(h3:p.z=q.z)(h4:p.w=q.w):p=q:=by
 cases p;cases q;simp_all
def bO(b:Nat)(V:On):Prop:=bq b V.g∧bq b V.a∧bq b V.b∧bq b V.c∧bq b V.d
theorem bq.pos{b:Nat}{q:Rat}(h:bq b q):1≤b:=by
 have h2:=h.2;have:=q.den_pos;cases b with
 |zero=>simp at h2;omega
 |succ b=>omega
theorem bS.r2{b:Nat}{x y:Rat}(hx:bq b x)(hy:bq b y)(hb:2≤b):bS b (r2 x y):=
 ⟨cQ (by decide:2<2^2) (fx hb),ki b,hx,hy,bq.zero b (by omega),bq.zero b (by omega)⟩
theorem OF.tight{x:Q5}{L k:Nat}{V:On}{I:fZ}{w:World}(h:(OF x (L,V)).p I w)(hq:bO k V):(OF x (k/32+1,V)).p I w:=by
 obtain⟨h1,h2,h3,h4,h5⟩:=h;obtain⟨g1,g2,g3,g4,g5⟩:=hq;exact⟨QF.tight h1 g1,QF.tight h2 g2,QF.tight h3 g3,QF.tight h4 g4,QF.tight h5 g5⟩
def On.X(V:On)(x y:Rat):Sn:=r2 (V.u0 x 0 y 0) (V.u1 x 0 y 0)
def On.Y(V:On)(x y:Rat):Sn:=r2 (V.v0 x 0 y 0) (V.v1 x 0 y 0)
section
variable{fin:VS→List aE→Prop}{Γ:List aE}{L M K:Nat}
theorem au.plT{f:FuncId}{args:List Value}{X Y:Sn}{k:Nat}(h:au tb Tryz.prog f args Γ (vH L X Y))(h1:bS k X)(h2:bS k Y):au tb Tryz.prog f args Γ (vH (k/32+1) X Y):=
 h.entH (fun v Δ ⟨x,y,e1,e2⟩=>⟨_,⟨x,y,e1,rfl⟩,fun I w hh=>by
  subst e2;exact aG.cons (SF.tight (hh (SF x (L,X)) (List.Mem.head _)) h1) (aU (SF.tight (hh (SF y (L,Y)) (List.Mem.tail _ (List.Mem.head _))) h2))⟩)
theorem Px(V U:On)(x y:Q5){k:Nat} [aY (OF x) (L,V) Γ] [aY (OF y) (M,U) Γ](hk:bO k (V.then U))(ho:0≤V.o∧V.o≤7)(hu:0≤U.o∧U.o≤7)(hL:L≤10000∧M≤10000:=by omega):
  au tb Tryz.prog 159 [HJ V x,HJ U y] Γ (fun v Δ=>∃q:Q5,v=HJ (V.then U) q∧Δ=[OF q (k/32+1,V.then U)]):=
 (SH V U x y ho hu hL).entH (fun v Δ ⟨q,e1,e2⟩=>⟨_,⟨q,e1,rfl⟩,fun I w hh=>by
  subst e2;exact aU (OF.tight hh.h0' hk)⟩)
end
def E8(n:Int):Rat:=if n=2 then 0 else(n:Rat)
def E9(n:Int):Rat:=if n=2 then 1 else 0
def Rd(a b c d:Rat):Rat:=a*c+(2:Int)*b*d
def Rf(a b c d:Rat):Rat:=a*d+b*c
def Sn.n0(S:Sn):Rat:=0+Rd S.p 0 (1:Int) 0+Rd S.q 0 (E8 S.m) (E9 S.m)+Rd S.r 0 (E8 S.n) (E9 S.n)+Rd S.s 0 (Rd (E8 S.m) (E9 S.m) (E8 S.n) (E9 S.n)) (Rf (E8 S.m) (E9 S.m) (E8 S.n) (E9 S.n))
def Sn.n1(S:Sn):Rat:=0+Rf S.p 0 (1:Int) 0+Rf S.q 0 (E8 S.m) (E9 S.m)+Rf S.r 0 (E8 S.n) (E9 S.n)+Rf S.s 0 (Rd (E8 S.m) (E9 S.m) (E8 S.n) (E9 S.n)) (Rf (E8 S.m) (E9 S.m) (E8 S.n) (E9 S.n))
section
variable{fin:VS→List aE→Prop}{Γ:List aE}{L M K:Nat}
theorem Ez(x y:Sw){X Y:Sn} [aY (SF x) (L,X) Γ] [aY (SF y) (M,Y) Γ](em:X.m=Y.m)(en:X.n=Y.n)(hL:L≤100000:=by omega)(hM:M≤100000:=by omega):
  au tb Tryz.prog 145 [BD x y] Γ (js (.bool true)):=by
 refine au.of_W aB Tryz.func145 rfl ?_;refine aj [] (Xs x y em en) ?_;rintro _ _ ⟨X1,rfl,rfl⟩;exact W.r [] (.bool (0==0)) ⟨rfl,rfl⟩ bU
theorem zR(u:Sl)(d:Bool){n:Int} [aY (ZF u d) (L,n) Γ](hn:0≤n∧n≤2)(hL:L≤1000000:=by omega):
  au tb Tryz.prog 211 [zv u d] Γ (fun v Δ=>∃a b:Qw,v=.tuple #[vt a b,.bool true]∧Δ=[QG a (2,E8 n),QG b (2,E9 n)]):=by
 have hs:iw n=true:=by unfold iw;simp only[aK,dj];omega
 refine au.of_W aB Tryz.func211 rfl ?_;refine W.more rfl (kX (L':=0)) ?_;refine aj [] (jz u d hs) ?_;rintro _ _ ⟨rfl,rfl⟩;refine aS [] 14 (!true) rfl ?_;refine aS [14] 11 (decide (n>2)) (by rw[aX];omega) ?_;by_cases h2:n=2
 ·refine bD [11] 19 (n==2) (by rw[h2];rfl) ?_;refine aj [19] (k7 1 (by omega) (by omega)) ?_;rintro _ _ ⟨n2,a2,m2,b2,rfl,rfl⟩;exact W.r [] (.tuple #[vt bV ⟨n2,a2,m2,b2⟩,.bool true]) ⟨_,_,rfl,rfl⟩ (AH (by omega) (by unfold E8;rw[if_pos h2]) (by unfold E9;rw[if_pos h2];rfl))
 ·refine aS [11] 19 (n==2) (by rw[fB];exact h2) ?_;refine aj [19] (k7 n (by omega) (by omega)) ?_;rintro _ _ ⟨n3,a3,m3,b3,rfl,rfl⟩;exact W.r [] (.tuple #[vt ⟨n3,a3,m3,b3⟩ bV,.bool true]) ⟨_,_,rfl,rfl⟩ (AH (by omega) (by unfold E8;rw[if_neg h2]) (by unfold E9;rw[if_neg h2]))
theorem Bn(u:Sl)(d:Bool){n:Int} [aY (ZF u d) (L,n) Γ](hn:2<n)(hL:L≤1000000:=by omega):
  au tb Tryz.prog 211 [zv u d] Γ (js (.tuple #[vt bV bV,.bool false])):=by
 refine au.of_W aB Tryz.func211 rfl ?_;refine aj [] (xt u d) ?_;rintro _ _ ⟨rfl,rfl⟩;by_cases hs:iw n=true
 ·refine aS [] 14 (!(iw n)) (by rw[hs];rfl) ?_;refine bD [14] 11 (decide ((if iw n=true then n else 0)>2)) (by rw[if_pos hs,fN];omega) ?_;exact W.r [11] (.tuple #[vt bV bV,.bool false]) ⟨rfl,rfl⟩ bU
 ·refine bD [] 14 (!(iw n)) (by rw[Bool.eq_false_iff.2 hs];rfl) ?_;exact W.r [11,14] (.tuple #[vt bV bV,.bool false]) ⟨rfl,rfl⟩ bU
theorem xj(a b c d:Qw){x y z w:Rat}{L1 L2 L3 L4:Nat} [aY (QG a) (L1,x) Γ] [aY (QG b) (L2,y) Γ] [aY (QG c) (L3,z) Γ] [aY (QG d) (L4,w) Γ](hL:L1≤100000∧L2≤100000∧L3≤100000∧L4≤100000:=by omega):
  au tb Tryz.prog 212 [vt a b,vt c d] Γ (DK (L1+L2+L3+L4+25) (Rd x y z w) (Rf x y z w)):=by
 refine au.of_W aB Tryz.func212 rfl ?_;refine aj [] (bR a.n a.a a.m a.b c.n c.a c.m c.b) ?_;rintro _ _ ⟨n1,a1,m1,b1,rfl,rfl⟩;refine aj [] (k7 2 (by omega) (by omega)) ?_;rintro _ _ ⟨n2,a2,m2,b2,rfl,rfl⟩;refine aj [] (bR n2 a2 m2 b2 b.n b.a b.m b.b) ?_;rintro _ _ ⟨n3,a3,m3,b3,rfl,rfl⟩;refine aj [] (bR n3 a3 m3 b3 d.n d.a d.m d.b) ?_;rintro _ _ ⟨n4,a4,m4,b4,rfl,rfl⟩;refine aj [] (fw n1 a1 m1 b1 n4 a4 m4 b4) ?_;rintro _ _ ⟨n5,a5,m5,b5,rfl,rfl⟩;refine aj [] (bR a.n a.a a.m a.b d.n d.a d.m d.b) ?_;rintro _ _ ⟨n6,a6,m6,b6,rfl,rfl⟩;refine aj [] (bR b.n b.a b.m b.b c.n c.a c.m c.b) ?_;rintro _ _ ⟨n7,a7,m7,b7,rfl,rfl⟩;refine aj [] (fw n6 a6 m6 b6 n7 a7 m7 b7) ?_;rintro _ _ ⟨n8,a8,m8,b8,rfl,rfl⟩;exact W.r [] (vt ⟨n5,a5,m5,b5⟩ ⟨n8,a8,m8,b8⟩) ⟨_,_,rfl,rfl⟩ (AH (by omega) rfl rfl)
theorem Dd(x:Sw){S:Sn} [aY (SF x) (L,S) Γ](hm:0≤S.m∧S.m≤2)(hn:0≤S.n∧S.n≤2)(hL:L≤20000:=by omega):
  au tb Tryz.prog 146 [sv x] Γ (fun v Δ=>∃a b:Qw,v=.tuple #[vt a b,.bool true]∧Δ=[QG a (4*L+200,S.n0),QG b (4*L+200,S.n1)]):=by
 refine au.of_W aB Tryz.func146 rfl ?_;refine W.more rfl (kX (L':=0)) ?_;refine ta x rfl ?_;refine aj [] (Br x) ?_;rintro _ _ ⟨rfl,rfl⟩;refine aj [] (zR x.u x.d hm) ?_;rintro _ _ ⟨a2,b2,rfl,rfl⟩;refine aj [] (zR x.v x.e hn) ?_;rintro _ _ ⟨a3,b3,rfl,rfl⟩;refine aS [] 31 (!true) rfl ?_;refine aS [31] 34 (!true) rfl ?_;refine aj [34] (k7 1 (by omega) (by omega)) ?_;rintro _ _ ⟨n4,a4,m4,b4,rfl,rfl⟩;refine aj [] (xj a2 b2 a3 b3) ?_;rintro _ _ ⟨a5,b5,rfl,rfl⟩;refine j1 [] 6 ?_;refine aj [46] (xr x) ?_;rintro _ _ ⟨rfl,rfl⟩;refine aj [] (xj x.p bV ⟨n4,a4,m4,b4⟩ bV) ?_;rintro _ _ ⟨a7,b7,rfl,rfl⟩;refine aj [] (nQ bV bV a7 b7) ?_;rintro _ _ ⟨a8,b8,rfl,rfl⟩;refine aj [46] (xr x) ?_;rintro _ _ ⟨rfl,rfl⟩;refine aj [] (xj x.q bV a2 b2) ?_;rintro _ _ ⟨Rw,zp,rfl,rfl⟩;refine aj [] (nQ a8 b8 Rw zp) ?_;rintro _ _ ⟨Vk,sX,rfl,rfl⟩;refine aj [46] (xr x) ?_;rintro _ _ ⟨rfl,rfl⟩;refine aj [] (xj x.r bV a3 b3) ?_;rintro _ _ ⟨Vl,CA,rfl,rfl⟩;refine aj [] (nQ Vk sX Vl CA) ?_;rintro _ _ ⟨Vm,Vy,rfl,rfl⟩;refine aj [46] (xr x) ?_;rintro _ _ ⟨rfl,rfl⟩;refine aj [] (xj x.s bV a5 b5) ?_;rintro _ _ ⟨a16,b16,rfl,rfl⟩;refine aj [] (nQ Vm Vy a16 b16) ?_;rintro _ _ ⟨a17,b17,rfl,rfl⟩;exact W.r [46] (.tuple #[vt a17 b17,.bool true]) ⟨_,_,rfl,rfl⟩ (AH (by omega) rfl rfl)
theorem Bm(x:Sw){S:Sn} [aY (SF x) (L,S) Γ](h0:0≤S.m∧0≤S.n)(hmn:2<S.m∨2<S.n)(hL:L≤20000:=by omega):
  au tb Tryz.prog 146 [sv x] Γ (js (.tuple #[vt bV bV,.bool false])):=by
 refine au.of_W aB Tryz.func146 rfl ?_;refine ta x rfl ?_;refine aj [] (Br x) ?_;rintro _ _ ⟨rfl,rfl⟩;by_cases hm:2<S.m
 ·refine aj [] (Bn x.u x.d hm) ?_;rintro _ _ ⟨rfl,rfl⟩;by_cases hn:2<S.n
  ·refine aj [] (Bn x.v x.e hn) ?_;rintro _ _ ⟨rfl,rfl⟩;refine bD [] 31 (!false) rfl ?_;exact W.r [34,31] (.tuple #[vt bV bV,.bool false]) ⟨rfl,rfl⟩ bU
  ·refine aj [] (zR x.v x.e ⟨h0.2,by omega⟩) ?_;rintro _ _ ⟨a3,b3,rfl,rfl⟩;refine bD [] 31 (!false) rfl ?_;exact W.r [34,31] (.tuple #[vt bV bV,.bool false]) ⟨rfl,rfl⟩ bU
 ·have hn:2<S.n:=by omega
  refine aj [] (zR x.u x.d ⟨h0.1,by omega⟩) ?_;rintro _ _ ⟨a2,b2,rfl,rfl⟩;refine aj [] (Bn x.v x.e hn) ?_;rintro _ _ ⟨rfl,rfl⟩;refine aS [] 31 (!true) rfl ?_;refine bD [31] 34 (!false) rfl ?_;exact W.r [34] (.tuple #[vt bV bV,.bool false]) ⟨rfl,rfl⟩ bU
def wk(L:Nat)(X Y:Sn)(v:Value)(Δ:List aE):Prop:=∃x y:Sw,v=.tuple #[BD x y,.int .i64 0]∧Δ=[SF x (L,X),SF y (L,Y)]
theorem SC(V:On)(t:Q5)(x y:Sw){X Y:Sn}{L1:Nat} [aY (OF t) (L1,V) Γ] [aY (SF x) (L,X) Γ] [aY (SF y) (M,Y) Γ](ho:0≤V.o∧V.o≤7)(em:X.m=Y.m)(en:X.n=Y.n)(hm:0≤X.m∧X.m≤2)(hn:0≤X.n∧X.n≤2)(hL:L≤2000∧M≤2000∧L1≤10000:=by omega):
  au tb Tryz.prog 88 [HJ V t,BD x y] Γ (wk (5*L1+16*max L M+1100) (r2 (V.u0 X.n0 X.n1 Y.n0 Y.n1) (V.u1 X.n0 X.n1 Y.n0 Y.n1)) (r2 (V.v0 X.n0 X.n1 Y.n0 Y.n1) (V.v1 X.n0 X.n1 Y.n0 Y.n1))):=by
 refine au.of_W aB Tryz.func88 rfl ?_;refine aj [] (Ez x y em en) ?_;rintro _ _ ⟨rfl,rfl⟩;refine aS [] 24 (!true) rfl ?_;refine aj [24] (Dd x hm hn) ?_;rintro _ _ ⟨a2,b2,rfl,rfl⟩;refine bD [] 32 (true) rfl ?_;refine aj [32] (Dd y (em▸hm) (en▸hn)) ?_;rintro _ _ ⟨a3,b3,rfl,rfl⟩;refine aj [] (Ey V t a2 b2 a3 b3 ho) ?_;rintro _ _ ⟨a4,b4,c4,d4,rfl,rfl⟩;refine aj [] (Py) ?_;rintro _ _ ⟨u5,d5,rfl,rfl⟩;refine aj [] (lF u5 d5 ⟨none,0,0⟩ false a4 b4 (by omega) (by omega)) ?_;rintro _ _ ⟨X6,rfl,rfl⟩;refine aj [] (lF u5 d5 ⟨none,0,0⟩ false c4 d4 (by omega) (by omega)) ?_;rintro _ _ ⟨X7,rfl,rfl⟩;exact W.r [] (.tuple #[BD X6 X7,.int .i64 0]) ⟨_,_,rfl,rfl⟩ (JC (by omega) rfl rfl)
end
section
variable{fin:VS→List aE→Prop}{Γ:List aE}{L M K:Nat}
end
def Es:On:=⟨false,0,0,0,0,0,0⟩
def cq(N K:Nat)(q:Rat):Prop:=∃z:Int,q*(N:Rat)=(z:Rat)∧z.natAbs≤K
section
variable{N M K J:Nat}{p q:Rat}
theorem cq.mono(h:cq N K q)(hk:K≤J):cq N J q:=by
 obtain⟨z,h1,h2⟩:=h;exact⟨z,h1,aP h2 hk⟩
theorem cq.add(h:cq N K p)(g:cq N J q):cq N (K+J) (p+q):=by
 obtain⟨z,h1,h2⟩:=h;obtain⟨y,g1,g2⟩:=g;exact⟨z+y,by rw[fU];grind,aP (Int.natAbs_add_le z y) (by omega)⟩
theorem cq.neg(h:cq N K p):cq N K (-p):=by
 obtain⟨z,h1,h2⟩:=h;exact⟨-z,by rw[s_];grind,by rw[Int.natAbs_neg];exact h2⟩
theorem cq.mul(h:cq N K p)(g:cq M J q):cq (N*M) (K*J) (p*q):=by
 obtain⟨z,h1,h2⟩:=h;obtain⟨y,g1,g2⟩:=g;exact⟨z*y,by rw[dH,Rat.natCast_mul];grind,by rw[cK];exact aR h2 g2⟩
theorem cq.scale(h:cq N K p)(M:Nat):cq (M*N) (M*K) p:=by
 obtain⟨z,h1,h2⟩:=h;refine⟨M*z,by rw[dH,Rat.natCast_mul,←h1];have:((M:Int):Rat)=(M:Rat):=rfl;grind,?_⟩;rw[cK];exact aR (ai _) h2
theorem cq.unit(h:cq N K p){c:Int}(hc: -1≤c∧c≤1):cq N K (p*(c:Rat)):=by
 obtain⟨z,h1,h2⟩:=h;refine⟨z*c,by rw[dH,←h1];grind,?_⟩;rw[cK];have:c.natAbs≤1:=by omega
 exact aP (aR h2 this) (by omega)
theorem cq.half(h:cq N K p){c:Int}(hc: -1≤c∧c≤1):cq (2*N) K (p*Rat.divInt c 2):=by
 obtain⟨z,h1,h2⟩:=(cq.unit h hc);refine⟨z,?_,h2⟩;have hh:Rat.divInt 1 2+Rat.divInt 1 2=1:=by decide+kernel
 have e2:((2:Nat):Rat)=2:=rfl;rw[FQ,Rat.natCast_mul,e2,←h1];generalize Rat.divInt 1 2=H at*;grind
theorem tz(hp:cq N K p)(hq:cq N K q){c d:Int}(hc: -1≤c∧c≤1)(hd: -1≤d∧d≤1):cq (2*N) (4*K) (tm1 p q c d):=
 (((hp.unit hc).add (hq.unit hd)).scale 2).mono (by omega)
theorem tA(hp:cq N K p)(hq:cq N K q){c d:Int}(hc: -1≤c∧c≤1)(hd: -1≤d∧d≤1):cq (2*N) (4*K) (tm2 p q c d):=
 (((hq.unit hc).scale 2).add (hp.half hd)).mono (by omega)
theorem cq.bq{e:Nat}(h:cq N K q)(hN:0<N)(h1:N≤2^e)(h2:K≤2^e):bq (e+1) q:=by
 obtain⟨z,g1,g2⟩:=h;have hp:0<2^e:=ki e;have hs:2^(e+1)=2^e*2:=eB 2 e;refine bq.of (n:=z) (d:=(N:Int)) (by omega) ?_ (by omega) (by omega);have hne:(N:Rat)≠0:=fun e0=>by
  have:N=0:=Rat.natCast_inj.1 e0;omega
 rw[ir,←g1,show(((N:Nat):Int):Rat)=(N:Rat)from rfl,lh,Rat.mul_assoc,Rat.mul_inv_cancel _ hne,sP]
end
def cO(N K:Nat)(V:On):Prop:=cq N K V.g∧cq N K V.a∧cq N K V.b∧cq N K V.c∧cq N K V.d
theorem cO.mag{N K:Nat}{V:On}(h:cO N K V)(hK:N≤K):cq N K V.mag:=by
 unfold On.mag;split
 ·exact⟨N,by have:((N:Int):Rat)=(N:Rat):=rfl;grind,by omega⟩
 ·exact h.1
theorem cq.sg{N K:Nat}{V:On}{z:Rat}(h:cq N K z):cq N K (V.sg z):=by
 unfold On.sg;split
 ·exact h.neg
 ·exact h
theorem cO.then{N K M J:Nat}{V U:On}(h:cO N K V)(g:cO M J U)(hK:N≤K)(hJ:M≤J):cO (2*(N*M)) (10*(K*J)) (V.then U):=by
 have hm:=g.mag hJ;have hn:=h.mag hK;obtain⟨_,h2,h3,h4,h5⟩:=h;obtain⟨_,g2,g3,g4,g5⟩:=g;have c1:=Xv U.o;have c2:=Xw U.o;have c3:=PQ U.o;have c4:=PU U.o;have x:=h2.mul hm;have y:=h3.mul hm;have z:=(h4.sg (V:=U)).mul hm;have w:=(h5.sg (V:=U)).mul hm;have lift:∀{q:Rat},cq M J q→cq (2*(N*M)) (2*(K*J)) q:=fun hq=>by
  have e:=(hq.scale N).scale 2;exact e.mono (aR (ai _) (aR hK (ai _)))
 have l2:=lift g2;have l3:=lift g3;have l4:=lift g4;have l5:=lift g5;generalize hP:K*J=P at*;refine⟨?_,?_,?_,?_,?_⟩
 ·have e:=(hn.mul hm).scale 2;rw[hP]at e;exact e.mono (by omega)
 ·exact(((tz x y c1 c3).add (tz z w c2 c4).neg).add l2).mono (by omega)
 ·exact(((tA x y c1 c3).add (tA z w c2 c4).neg).add l3).mono (by omega)
 ·exact(((tz x y c2 c4).add (tz z w c1 c3)).add l4).mono (by omega)
 ·exact(((tA x y c2 c4).add (tA z w c1 c3)).add l5).mono (by omega)
def sE(e:Nat)(V:On):Prop:=∃N K:Nat,0<N∧N≤K∧K≤2^e∧cO N K V
theorem sE.bO{e:Nat}{V:On}(h:sE e V):bO (e+1) V:=by
 obtain⟨N,K,h0,h1,h2,g1,g2,g3,g4,g5⟩:=h;have hN:=aP h1 h2;exact⟨g1.bq h0 hN h2,g2.bq h0 hN h2,g3.bq h0 hN h2,g4.bq h0 hN h2,g5.bq h0 hN h2⟩
theorem sE.then{e k:Nat}{V U:On}(h:sE e V)(g:sE k U):sE (e+k+4) (V.then U):=by
 obtain⟨N,K,h0,h1,h2,h3⟩:=h;obtain⟨M,J,g0,g1,g2,g3⟩:=g;have a:=aR h1 g1;have b:=aR h2 g2;rw[←cR]at b;have c:2^(e+k+4)=2^(e+k)*16:=cR 2 (e+k) 4;exact⟨2*(N*M),10*(K*J),iy (by decide) (iy h0 g0),by omega,by omega,h3.then g3 h1 g1⟩
theorem aa5:sE 0 Es:=by
 have z:cq 1 1 0:=⟨0,by decide+kernel,by decide⟩;exact⟨1,1,by decide,by decide,by decide,z,z,z,z,z⟩
def Dn:Nat→Sn→Sn→Sn×Sn
 |0,X,Y=>(X,Y)
 |k+1,X,Y=>Dn k Y.neg X
def On.farP(V:On)(X Y:Sn):Sn×Sn:=Dn (V.o/2).toNat (X.mul ⟨X.m,X.n,V.mag,0,0,0⟩) (if V.f then(Y.mul ⟨X.m,X.n,V.mag,0,0,0⟩).neg else Y.mul ⟨X.m,X.n,V.mag,0,0,0⟩)
def On.farX(V:On)(X Y:Sn):Sn:=(V.farP X Y).1.add ⟨X.m,X.n,V.a,V.b,0,0⟩
def On.farY(V:On)(X Y:Sn):Sn:=(V.farP X Y).2.add ⟨X.m,X.n,V.c,V.d,0,0⟩
structure Dp where
 x:Int
 y:Int
theorem Dp.eq_iff{a b:Dp}:a=b↔a.x=b.x∧a.y=b.y:=by
 constructor
 ·rintro rfl;exact⟨rfl,rfl⟩
 ·obtain⟨a1,a2⟩:=a;obtain⟨b1,b2⟩:=b;rintro⟨h1,h2⟩;simp only at h1 h2;rw[h1,h2]
instance:DecidableEq Dp:=fun a b=>if h:a.x=b.x∧a.y=b.y then isTrue (Dp.eq_iff.2 h)else isFalse (fun e=>h (Dp.eq_iff.1 e))
def lV(v:Dp):Int:=((Nat.gcd v.x.natAbs v.y.natAbs:Nat):Int)
def pP(v:Dp):Dp:=⟨v.x/lV v,v.y/lV v⟩
def gC(p q:Dp):Dp:=pP ⟨q.x-p.x,q.y-p.y⟩
theorem AK(v:Dp):lV v∣v.x∧lV v∣v.y:=by
 unfold lV;exact⟨Int.ofNat_dvd_left.2 (Nat.gcd_dvd_left _ _),Int.ofNat_dvd_left.2 (Nat.gcd_dvd_right _ _)⟩
theorem tJ{v:Dp}(h:v.x≠0∨v.y≠0):0<lV v:=by
 unfold lV;have:0<Nat.gcd v.x.natAbs v.y.natAbs:=by
  rcases h with h|h
  ·exact Nat.gcd_pos_of_pos_left _ (by omega)
  ·exact Nat.gcd_pos_of_pos_right _ (by omega)
 omega
theorem rM(v:Dp):v.x=lV v*(pP v).x∧v.y=lV v*(pP v).y:=
 ⟨(Int.mul_ediv_cancel' (AK v).1).symm,(Int.mul_ediv_cancel' (AK v).2).symm⟩
theorem CK(k:Int)(hk:0<k)(v:Dp):pP ⟨k*v.x,k*v.y⟩=pP v:=by
 have hg:lV ⟨k*v.x,k*v.y⟩=k*lV v:=by
  unfold lV;simp only[cK,Nat.gcd_mul_left,dp];rw[show((k.natAbs:Nat):Int)=k by omega]
 unfold pP;simp only[hg,Int.mul_ediv_mul_of_pos _ _ hk]
theorem NA{v:Dp}(h:v.x≠0∨v.y≠0):(pP v).x≠0∨(pP v).y≠0:=by
 obtain⟨h1,h2⟩:=rM v;rcases h with h|h
 ·exact .inl fun e=>h (by rw[h1,e,Int.mul_zero])
 ·exact .inr fun e=>h (by rw[h2,e,Int.mul_zero])
theorem JA(v:Dp)(h:v.x≠0∨v.y≠0):pP (pP v)=pP v:=by
 have h1:=rM v;have h2:=CK (lV v) (tJ h) (pP v);rw[←h1.1,←h1.2]at h2;exact h2.symm
theorem Bg{p q:Dp}(h:p≠q):(⟨q.x-p.x,q.y-p.y⟩:Dp).x≠0∨(⟨q.x-p.x,q.y-p.y⟩:Dp).y≠0:=by
 simp only;by_cases hx:q.x-p.x=0
 ·by_cases hy:q.y-p.y=0
  ·exact absurd (Dp.eq_iff.2 ⟨by omega,by omega⟩) h
  ·exact .inr hy
 ·exact .inl hx
theorem Hx{p q r:Dp}(h1:p≠q)(h2:q≠r)(h:gC p q=gC q r):p≠r∧gC p r=gC p q:=by
 unfold gC at h⊢;have n1:=Bg h1;have n2:=Bg h2;obtain⟨a1,a2⟩:=rM ⟨q.x-p.x,q.y-p.y⟩;obtain⟨b1,b2⟩:=rM ⟨r.x-q.x,r.y-q.y⟩;have ga:=tJ n1;have gb:=tJ n2;have hd:=NA n1;have hdd:=JA _ n1;rw[←h]at b1 b2;generalize pP ⟨q.x-p.x,q.y-p.y⟩=d at*;generalize lV ⟨q.x-p.x,q.y-p.y⟩=a at*;generalize lV ⟨r.x-q.x,r.y-q.y⟩=b at*;simp only at a1 a2 b1 b2;have e1:r.x-p.x=(a+b)*d.x:=by rw[Int.add_mul,←a1,←b1];omega
 have e2:r.y-p.y=(a+b)*d.y:=by rw[Int.add_mul,←a2,←b2];omega
 constructor
 ·rintro rfl;rw[Int.sub_self]at e1 e2;have hab:a+b≠0:=by omega
  rcases hd with hd|hd
  ·exact(kg hab hd) e1.symm
  ·exact(kg hab hd) e2.symm
 ·rw[e1,e2,CK _ (by omega),hdd]
def push(s:List Dp×List Dp)(p:Dp):List Dp×List Dp:=
 match s with
 |([],_)=>([p],[])
 |(l::r,w)=>if l=p then(l::r,w)else if w.head?=some (gC l p)then(p::r,w)else(p::l::r,gC l p::w)
def iO(fH:List Dp):List Dp×List Dp:=fH.foldl push ([],[])
def j5:List Dp→List Dp→Prop
 | [],w=>w=[]
 | [_],w=>w=[]
 |b::a::r,w=>∃d v,w=d::v∧a≠b∧d=gC a b∧v.head?≠some d∧j5 (a::r) v
theorem j5.push{s:List Dp×List Dp}(h:j5 s.1 s.2)(p:Dp):j5 (push s p).1 (push s p).2:=by
 obtain⟨R,w⟩:=s
 match R,h with
 | [],h=>exact rfl
 | [l],h=>
  simp only[j5]at h;subst h;simp only[YtgaaopjagcaojaaGreat.push];split
  ·exact rfl
  ·rename_i hl;simp only[List.head?_nil,reduceCtorEq,ea];exact⟨gC l p,[],rfl,hl,rfl,by simp,rfl⟩
 |l::a::r,⟨d,v,hw,Ch,hd,hv,hok⟩=>
  simp only at hw;subst hw;simp only[YtgaaopjagcaojaaGreat.push];split
  ·exact⟨d,v,rfl,Ch,hd,hv,hok⟩
  ·rename_i hl;simp only[oF,aq];split
   ·rename_i he;have hj:=Hx Ch hl (by rw[←hd,he]);exact⟨d,v,rfl,hj.1,by rw[hj.2,hd],hv,hok⟩
   ·rename_i he;exact⟨gC l p,d::v,rfl,hl,rfl,by simpa using he,d,v,rfl,Ch,hd,hv,hok⟩
theorem zF:∀(fH:List Dp) (s:List Dp×List Dp),j5 s.1 s.2→j5 (fH.foldl push s).1 (fH.foldl push s).2
 | [],_,h=>h
 |p::r,s,h=>zF r (push s p) (h.push p)
theorem j5.len:∀{R w:List Dp},j5 R w→R.length=if R=[]then 0 else w.length+1
 | [],w,h=>by simp
 | [a],w,h=>by simp only[j5]at h;subst h;simp
 |b::a::r,w,⟨d,v,hw,_,_,_,h⟩=>by
  subst hw;have:=h.len;simp at this⊢;omega
theorem j5.back{l a:Dp}{r w:List Dp}{p:Dp}(h:j5 (l::a::r) w)(hl:l≠p)(hw:w.head?=some (gC l p)):a≠p∧gC a p=gC l p∧∃v,w=gC l p::v∧v.head?≠some (gC l p):=by
 obtain⟨d,v,rfl,Ch,hd,hv,_⟩:=h;simp only[oF,aq]at hw;subst hw;have hj:=Hx Ch hl (by rw[←hd]);exact⟨hj.1,by rw[hj.2,hd],v,rfl,hv⟩
def aa7(D w:List Dp):Prop:=match D with
 |c::b::_=>w.head?=some (gC b c)
 |_=>w=[]
def tq:List Dp→Bool
 |e::d::r=>decide (e=⟨-d.x,-d.y⟩)||tq (d::r)
 |_=>false
def GR(n:Int):Bool:=decide (n< -2147483648)||decide (2147483647<n)
def tV(p:Dp):Bool:=GR p.x||GR p.y
def rJ(width kind bg en:Int):Bool:= !(decide (kind=0)||decide (kind=1)||decide (kind=2)||decide (kind=4))||decide (width<1)||decide (2147483647<width)||decide (bg< -2147483647)||decide (2147483647<bg)||decide (en< -2147483647)||decide (2147483647<en)
def rl(fH:List Dp)(width kind bg en:Int):Int:=
 if 8191<fH.length then 2 else if rJ width kind bg en=true then 1 else if fH.any tV=true then 26 else if(iO fH).1.length<2 then 7 else if tq (iO fH).2=true then 25 else 0
structure Pa where
 d:Dp
 a:Rat
 b:Rat
 c:Rat
 e:Rat
def ku(d:Dp):Int:=d.x*d.x+d.y*d.y
def qE(d e:Dp):Int:=d.x*e.x+d.y*e.y
def eX(d:Dp):Dp:=⟨-d.y,d.x⟩
def jl(d:Dp):Dp:=⟨-d.x,-d.y⟩
def iR(d:Dp):Dp:=⟨d.y,-d.x⟩
def jK(d:Dp)(q:Rat):Pa:=⟨d,0,q*Rat.divInt 1 (ku d),0,0⟩
def lA(d:Dp)(q:Rat):Pa:=⟨d,0,0,0,q*Rat.divInt 1 (ku d*2)⟩
def Pa.sx(q:Pa)(m n:Int):Sn:=⟨m,n,q.a*(q.d.x:Rat),q.b*(q.d.x:Rat),q.c*(q.d.x:Rat),q.e*(q.d.x:Rat)⟩
def Pa.sy(q:Pa)(m n:Int):Sn:=⟨m,n,q.a*(q.d.y:Rat),q.b*(q.d.y:Rat),q.c*(q.d.y:Rat),q.e*(q.d.y:Rat)⟩
def alX(m n p:Int)(l:List Pa):Sn:=l.foldl (fun S q=>S.add (q.sx m n)) ⟨m,n,(p:Rat),0,0,0⟩
def alY(m n p:Int)(l:List Pa):Sn:=l.foldl (fun S q=>S.add (q.sy m n)) ⟨m,n,(p:Rat),0,0,0⟩
def al(m n:Int)(p:Dp)(l:List Pa):Sn×Sn:=(alX m n p.x l,alY m n p.y l)
def gn(p d e:Dp)(h:Rat):Sn×Sn:=
 let m:=ku d;let n:=ku e;let t:=qE d e;let k:=h/((qE (eX d) e*qE (eX d) e:Int):Rat)
 al m n p [⟨eX d,0,k*(n:Rat),k*((-t:Int):Rat),0⟩,⟨eX e,0,k*((-t:Int):Rat),k*(m:Rat),0⟩]
def mg(p d:Dp)(h beyond:Rat)(round:Bool):List (Sn×Sn):=
 let m:=ku d
 al m 2 p [jK d beyond,jK (eX d) h]::((if round then [al m 2 p [lA d h,lA (eX d) h],al m 2 p [jK d h],al m 2 p [lA d h,lA (iR d) h]]else [])++[al m 2 p [jK d beyond,jK (iR d) h]])
def gH(h:Rat):List Dp→List Dp→List (Sn×Sn)
 |p::c,d::e::w=>gn p d e h::gH h c (e::w)
 |_,_=>[]
def oW(kind bg en:Int)(h:Rat):Rat×Rat:=if kind=2 then(h,h)else if kind=4 then((bg:Rat),(en:Rat))else(0,0)
def r_(c w:List Dp)(width kind bg en:Int):List (Sn×Sn):=
 let h:=Rat.divInt width 2
 let back:=mg (c.getD 0 ⟨0,0⟩) (jl (w.getD 0 ⟨0,0⟩)) h (oW kind bg en h).1 (kind==1)
 back.drop (back.length-1)++gH h c.tail w++mg (c.getD (c.length-1) ⟨0,0⟩) (w.getD (w.length-1) ⟨0,0⟩) h (oW kind bg en h).2 (kind==1)++(gH (-h) c.tail w).reverse++back.take (back.length-1)
end Go.Proofs.YtgaaopjagcaojaaGreat
