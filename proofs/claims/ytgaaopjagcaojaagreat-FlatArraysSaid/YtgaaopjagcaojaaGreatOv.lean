import Derived.Test.YtgaaopjagcaojaaGreatRc
import Derived.Test.YtgaaopjagcaojaaGreatSy
import Derived.Test.YtgaaopjagcaojaaGreatMaths
set_option linter.unusedSimpArgs false
set_option linter.unusedVariables false
set_option maxHeartbeats 4000000
namespace Go.Proofs.YtgaaopjagcaojaaGreat
open Go.RowKit Go.IntWalk
def bq(b:Nat)(q:Rat):Prop:=q.num.natAbs<2^b∧q.den<2^b
theorem fx{a b:Nat}(h:a≤b):2^a≤2^b:=cY (by decide) h
theorem bq.mono{a b:Nat}{q:Rat}(h:bq a q)(hab:a≤b):bq b q:=⟨cQ h.1 (fx hab),cQ h.2 (fx hab)⟩
theorem bq.of{n d:Int}{q:Rat}{b:Nat}(hd:0<d)(h:q=Rat.divInt n d)(h1:n.natAbs<2^b)(h2:d.natAbs<2^b):bq b q:=by
 obtain⟨g,hg,e1,e2⟩:=xu hd h;have hn:n.natAbs=q.num.natAbs*g.natAbs:=by rw[e1,cK]
 have hdd:d.natAbs=q.den*g.natAbs:=by rw[e2,cK];rfl
 have hg1:1≤g.natAbs:=by omega
 constructor
 ·have:q.num.natAbs*1≤q.num.natAbs*g.natAbs:=cJ _ hg1;omega
 ·have:q.den*1≤q.den*g.natAbs:=cJ _ hg1;omega
theorem bq.mul{a b:Nat}{x y:Rat}(hx:bq a x)(hy:bq b y):bq (a+b) (x*y):=by
 refine bq.of (n:=x.num*y.num) (d:=x.den*y.den) (by have:=gO x;have:=gO y;exact Int.mul_pos (by assumption) (by assumption)) (Pq x y).symm ?_ ?_
 ·rw[cK,cR];exact rD hx.1 hy.1
 ·rw[cK,cR];exact rD hx.2 hy.2
theorem bq.add{a b:Nat}{x y:Rat}(hx:bq a x)(hy:bq b y):bq (a+b+1) (x+y):=by
 refine bq.of (n:=x.num*y.den+y.num*x.den) (d:=x.den*y.den) (by have:=gO x;have:=gO y;exact Int.mul_pos (by assumption) (by assumption)) (Pp x y).symm ?_ ?_
 ·have h1:(x.num*(y.den:Int)).natAbs<2^a*2^b:=by
   rw[cK];exact rD hx.1 hy.2
  have h2:(y.num*(x.den:Int)).natAbs<2^a*2^b:=by
   rw[cK,eA (2^a)];exact rD hy.1 hx.2
  rw[eB,cR];omega
 ·rw[cK,eB,cR];have:(x.den:Int).natAbs*(y.den:Int).natAbs<2^a*2^b:=rD hx.2 hy.2;omega
theorem bq.neg{a:Nat}{x:Rat}(hx:bq a x):bq a (-x):=by
 refine⟨?_,?_⟩
 ·rw[Rat.neg_num,Int.natAbs_neg];exact hx.1
 ·rw[Rat.neg_den];exact hx.2
theorem bq.int{b:Nat}{z:Int}(h:z.natAbs<2^b)(hb:1≤b):bq b (z:Rat):=⟨h,by
 show 1<2^b;exact Nat.one_lt_two_pow (by omega)⟩
theorem bq.zero(b:Nat)(hb:1≤b):bq b 0:=bq.int (z:=0) (ki b) hb
theorem NF.tight{s:Sl}{L L' x:Nat}{I:f_}{w:World}(h:(NF s (L,x)).p I w)(hx:x<4294967296^L'):(NF s (L',x)).p I w:=by
 obtain⟨⟨l,hi,hd,hn,hv⟩,h2,h3⟩:=h;refine⟨⟨l,hi,hd,hn,hv⟩,h2,?_⟩;have:=hn.len_of_lt (B:=4294967296) (k:=L') (by decide) (by rw[hv];exact hx);have:=hi.1;omega
theorem H2{x b:Nat}(h:x<2^b):x<4294967296^(b/32+1):=by
 have e:4294967296^(b/32+1)=2^(32*(b/32+1)):=by rw[show 4294967296=2^32 by decide,←Nat.pow_mul]
 rw[e];exact cQ h (fx (by omega))
theorem ZF.tight{s:Sl}{d:Bool}{L b:Nat}{x:Int}{I:f_}{w:World}(h:(ZF s d (L,x)).p I w)(hx:x.natAbs<2^b):(ZF s d (b/32+1,x)).p I w:=⟨NF.tight h.1 (H2 hx),h.2⟩
theorem QF.tight{n m:Sl}{a b:Bool}{L k:Nat}{q:Rat}{I:f_}{w:World}(h:(QF n a m b (L,q)).p I w)(hq:bq k q):(QF n a m b (k/32+1,q)).p I w:=by
 obtain⟨y,h1,h2,hy⟩:=h;refine⟨y,ZF.tight h1 hq.1,ZF.tight h2 ?_,hy⟩;rcases hy with rfl|⟨rfl,_⟩
 ·exact hq.2
 ·exact ki k
def bS(b:Nat)(S:Sn):Prop:=S.m.natAbs<2^b∧S.n.natAbs<2^b∧bq b S.p∧bq b S.q∧bq b S.r∧bq b S.s
theorem bS.mono{a b:Nat}{S:Sn}(h:bS a S)(hab:a≤b):bS b S:=
 ⟨cQ h.1 (fx hab),cQ h.2.1 (fx hab),h.2.2.1.mono hab,h.2.2.2.1.mono hab,h.2.2.2.2.1.mono hab,h.2.2.2.2.2.mono hab⟩
theorem bS.add{b c:Nat}{S T:Sn}(h:bS b S)(g:bS c T):bS (b+c+1) (S.add T):=by
 obtain⟨h1,h2,h3,h4,h5,h6⟩:=h;obtain⟨g1,g2,g3,g4,g5,g6⟩:=g;exact⟨cQ h1 (fx (by omega)),cQ h2 (fx (by omega)),h3.add g3,h4.add g4,h5.add g5,h6.add g6⟩
theorem bS.neg{b:Nat}{S:Sn}(h:bS b S):bS b S.neg:=by
 obtain⟨h1,h2,h3,h4,h5,h6⟩:=h;exact⟨h1,h2,h3.neg,h4.neg,h5.neg,h6.neg⟩
theorem bS.pos{b:Nat}{S:Sn}(h:bS b S):1≤b:=by
 have h2:=h.2.2.1.2;have:=S.p.den_pos;cases b with
 |zero=>simp at h2;omega
 |succ b=>omega
theorem bS.mul{b c:Nat}{S T:Sn}(h:bS b S)(g:bS c T):bS (8*b+4*c+3) (S.mul T):=by
 have hb:=h.pos;obtain⟨h1,h2,h3,h4,h5,h6⟩:=h;obtain⟨g1,g2,g3,g4,g5,g6⟩:=g;have hm:bq b (S.m:Rat):=bq.int h1 hb;have hn:bq b (S.n:Rat):=bq.int h2 hb;refine⟨cQ h1 (fx (by omega)),cQ h2 (fx (by omega)),?_,?_,?_,?_⟩
 ·exact((((h3.mul g3).add (hm.mul (h4.mul g4))).add (hn.mul (h5.mul g5))).add ((hm.mul hn).mul (h6.mul g6))).mono (by omega)
 ·exact(((h3.mul g4).add (h4.mul g3)).add (hn.mul ((h5.mul g6).add (h6.mul g5)))).mono (by omega)
 ·exact(((h3.mul g5).add (h5.mul g3)).add (hm.mul ((h4.mul g6).add (h6.mul g4)))).mono (by omega)
 ·exact((((h3.mul g6).add (h6.mul g3)).add (h4.mul g5)).add (h5.mul g4)).mono (by omega)
theorem SF.tight{x:Sw}{L k:Nat}{S:Sn}{I:f_}{w:World}(h:(SF x (L,S)).p I w)(hq:bS k S):(SF x (k/32+1,S)).p I w:=by
 obtain⟨h1,h2,h3,h4,h5,h6⟩:=h;obtain⟨g1,g2,g3,g4,g5,g6⟩:=hq;exact⟨ZF.tight h1 g1,ZF.tight h2 g2,QF.tight h3 g3,QF.tight h4 g4,QF.tight h5 g5,QF.tight h6 g6⟩
section
variable{fin:VS→List aE→Prop}{Γ:List aE}{L M K:Nat}
end
def XO(n:Int):Rat:=((vQ n.natAbs:Nat):Int)
def N0(n:Int):Bool:=n.natAbs-vQ n.natAbs*vQ n.natAbs==0
def Sn.f1(S:Sn):Sn:=if N0 S.m=true then⟨S.m,S.n,0+S.p+XO S.m*S.q,0,0+S.r+XO S.m*S.s,0⟩else S
def Sn.f2(S:Sn):Sn:=if N0 S.n=true then⟨S.m,S.n,0+S.p+XO S.n*S.r,0+S.q+XO S.n*S.s,0,0⟩else S
def Sn.f3(S:Sn):Sn:=if N0 (S.m*S.n)=true∧N0 S.m=false∧N0 S.n=false then⟨S.m,S.n,0+S.p+XO (S.m*S.n)*S.s,0+S.q+XO (S.m*S.n)/(S.m:Rat)*S.r,0,0⟩else S
def Sn.fold(S:Sn):Sn:=S.f1.f2.f3
def rlo(r:Int)(k:Nat):Rat:=Rat.divInt ((vQ (r.natAbs*(2^k*2^k)):Nat):Int) ((2^k:Nat):Int)
def rhi(r:Int)(k:Nat):Rat:=if r.natAbs*(2^k*2^k)-vQ (r.natAbs*(2^k*2^k))*vQ (r.natAbs*(2^k*2^k))=0 then rlo r k else Rat.divInt (((vQ (r.natAbs*(2^k*2^k))+1:Nat)):Int) ((2^k:Nat):Int)
def bhi(x:Rat)(r:Int)(k:Nat):Rat:=if x.num.sign<0 then x*rlo r k else x*rhi r k
def Sn.hi(S:Sn)(k:Nat):Rat:=((0:Int):Rat)+bhi S.p 1 k+bhi S.q S.m k+bhi S.r S.n k+bhi S.s (S.m*S.n) k
def Sn.w(S:Sn)(j:Nat):Rat:=S.p*lN 1 j+S.q*lN S.m j+S.r*lN S.n j+S.s*lN (S.m*S.n) j
def tw(a:Nat):Rat:=(((2^a:Nat):Int):Rat)
theorem aai(a:Nat):tw a=((2^a:Int):Rat):=by unfold tw;push_cast;rfl
theorem P7(a:Nat):0<tw a:=by rw[aai];exact EP a
theorem P6(a b:Nat):tw (a+b)=tw a*tw b:=by unfold tw;rw[←xa,cR]
theorem W8:tw 1=2:=rfl
theorem EO{a b:Nat}(h:a≤b):tw a≤tw b:=o9 (cY (by decide) h)
def md(a d:Nat)(x:Rat):Prop:= -(tw a)≤x∧x≤tw a∧x.den≤2^d
theorem md.mono{a d a' d':Nat}{x:Rat}(h:md a d x)(ha:a≤a')(hd:d≤d'):md a' d' x:=by
 have:=EO ha;exact⟨by have:=h.1;grind,by have:=h.2.1;grind,aP h.2.2 (cY (by decide) hd)⟩
theorem M8{n d:Int}{q:Rat}(hd:0<d)(h:q=Rat.divInt n d):q.den≤d.natAbs:=by
 obtain⟨g,hg,e1,e2⟩:=xu hd h;have hdd:d.natAbs=q.den*g.natAbs:=by rw[e2,cK];rfl
 have:q.den*1≤q.den*g.natAbs:=cJ _ (by omega);omega
theorem md.mul{a d b e:Nat}{x y:Rat}(hx:md a d x)(hy:md b e y):md (a+b) (d+e) (x*y):=by
 have p1:=P7 a;have p2:=P7 b;obtain⟨x1,x2,x3⟩:=hx;obtain⟨y1,y2,y3⟩:=hy;rw[md,P6];have q1:=bH (show 0≤tw a-x by grind) (show 0≤tw b+y by grind);have q2:=bH (show 0≤tw a+x by grind) (show 0≤tw b-y by grind);have q3:=bH (show 0≤tw a-x by grind) (show 0≤tw b-y by grind);have q4:=bH (show 0≤tw a+x by grind) (show 0≤tw b+y by grind);refine⟨by grind,by grind,?_⟩;have:=M8 (by have:=gO x;have:=gO y;exact Int.mul_pos (by assumption) (by assumption)) (Pq x y).symm;rw[cK]at this;rw[cR];exact aP this (aR x3 y3)
theorem md.add{a d b e:Nat}{x y:Rat}(hx:md a d x)(hy:md b e y):md (max a b+1) (d+e) (x+y):=by
 obtain⟨x1,x2,x3⟩:=hx;obtain⟨y1,y2,y3⟩:=hy;have m1:=EO (Nat.le_max_left a b);have m2:=EO (Nat.le_max_right a b);rw[md,P6 (max a b) 1,W8];refine⟨by grind,by grind,?_⟩;have:=M8 (by have:=gO x;have:=gO y;exact Int.mul_pos (by assumption) (by assumption)) (Pp x y).symm;rw[cK]at this;rw[cR];exact aP this (aR x3 y3)
theorem md.neg{a d:Nat}{x:Rat}(hx:md a d x):md a d (-x):=by
 obtain⟨x1,x2,x3⟩:=hx;exact⟨by grind,by grind,by rw[Rat.neg_den];exact x3⟩
theorem md.int{a:Nat}{z:Int}(h:z.natAbs≤2^a):md a 0 (z:Rat):=by
 have h1:((z.natAbs:Int):Rat)≤tw a:=o9 h;have h2:(z:Rat)≤((z.natAbs:Int):Rat):=Rat.intCast_le_intCast.2 (by omega);have h3: -((z.natAbs:Int):Rat)≤(z:Rat):=by rw[←sZ];exact Rat.intCast_le_intCast.2 (by omega)
 exact⟨by grind,by grind,ai 1⟩
section
variable{A D c:Nat}
end
theorem md.z{a d:Nat}{x:Rat}(h:md a d x):md a d (0+x):=by
 rw[Rat.zero_add];exact h
theorem md.b{a d:Nat}{x:Rat}(h:md a d x): -(tw a)≤x∧x≤tw a:=⟨h.1,h.2.1⟩
def Sn.nil(F:Sn):Prop:=F.p=0∧F.q=0∧F.r=0∧F.s=0
section
variable{fin:VS→List aE→Prop}{Γ:List aE}{L M K:Nat}
end
section
variable{fin:VS→List aE→Prop}{Γ:List aE}{L M K:Nat}
end
structure P4 where
 x:Rat
 y:Rat
 z:Rat
 w:Rat
theorem FK(d:Int):Rat.divInt d 2=(d:Rat)*Rat.divInt 1 2:=by
 rw[←oK,lP];simp
theorem P4.ext'{p q:P4}(h1:p.x=q.x)(h2:p.y=q.y)(h3:p.z=q.z)(h4:p.w=q.w):p=q:=by
 cases p;cases q;simp_all
def bO(b:Nat)(V:On):Prop:=bq b V.g∧bq b V.a∧bq b V.b∧bq b V.c∧bq b V.d
theorem bq.pos{b:Nat}{q:Rat}(h:bq b q):1≤b:=by
 have h2:=h.2;have:=q.den_pos;cases b with
 |zero=>simp at h2;omega
 |succ b=>omega
theorem bS.r2{b:Nat}{x y:Rat}(hx:bq b x)(hy:bq b y)(hb:2≤b):bS b (r2 x y):=
 ⟨cQ (by decide:2<2^2) (fx hb),ki b,hx,hy,bq.zero b (by omega),bq.zero b (by omega)⟩
theorem OF.tight{x:Q5}{L k:Nat}{V:On}{I:f_}{w:World}(h:(OF x (L,V)).p I w)(hq:bO k V):(OF x (k/32+1,V)).p I w:=by
 obtain⟨h1,h2,h3,h4,h5⟩:=h;obtain⟨g1,g2,g3,g4,g5⟩:=hq;exact⟨QF.tight h1 g1,QF.tight h2 g2,QF.tight h3 g3,QF.tight h4 g4,QF.tight h5 g5⟩
def On.X(V:On)(x y:Rat):Sn:=r2 (V.u0 x 0 y 0) (V.u1 x 0 y 0)
def On.Y(V:On)(x y:Rat):Sn:=r2 (V.v0 x 0 y 0) (V.v1 x 0 y 0)
section
variable{fin:VS→List aE→Prop}{Γ:List aE}{L M K:Nat}
theorem au.plT{f:FuncId}{args:List Value}{X Y:Sn}{k:Nat}(h:au tb Tryz.prog f args Γ (vE L X Y))(h1:bS k X)(h2:bS k Y):au tb Tryz.prog f args Γ (vE (k/32+1) X Y):=
 h.entH (fun v Δ ⟨x,y,e1,e2⟩=>⟨_,⟨x,y,e1,rfl⟩,fun I w hh=>by
  subst e2;exact aG.cons (SF.tight (hh (SF x (L,X)) (List.Mem.head _)) h1) (aV (SF.tight (hh (SF y (L,Y)) (List.Mem.tail _ (List.Mem.head _))) h2))⟩)
theorem OW(V U:On)(x y:Q5){k:Nat} [aZ (OF x) (L,V) Γ] [aZ (OF y) (M,U) Γ](hk:bO k (V.then U))(ho:0≤V.o∧V.o≤7)(hu:0≤U.o∧U.o≤7)(hL:L≤10000∧M≤10000:=by omega):
  au tb Tryz.prog 159 [Hx V x,Hx U y] Γ (fun v Δ=>∃q:Q5,v=Hx (V.then U) q∧Δ=[OF q (k/32+1,V.then U)]):=
 (R5 V U x y ho hu hL).entH (fun v Δ ⟨q,e1,e2⟩=>⟨_,⟨q,e1,rfl⟩,fun I w hh=>by
  subst e2;exact aV (OF.tight hh.h0' hk)⟩)
end
def E0(n:Int):Rat:=if n=2 then 0 else(n:Rat)
def E3(n:Int):Rat:=if n=2 then 1 else 0
def Qz(a b c d:Rat):Rat:=a*c+(2:Int)*b*d
def QA(a b c d:Rat):Rat:=a*d+b*c
def Sn.n0(S:Sn):Rat:=0+Qz S.p 0 (1:Int) 0+Qz S.q 0 (E0 S.m) (E3 S.m)+Qz S.r 0 (E0 S.n) (E3 S.n)+Qz S.s 0 (Qz (E0 S.m) (E3 S.m) (E0 S.n) (E3 S.n)) (QA (E0 S.m) (E3 S.m) (E0 S.n) (E3 S.n))
def Sn.n1(S:Sn):Rat:=0+QA S.p 0 (1:Int) 0+QA S.q 0 (E0 S.m) (E3 S.m)+QA S.r 0 (E0 S.n) (E3 S.n)+QA S.s 0 (Qz (E0 S.m) (E3 S.m) (E0 S.n) (E3 S.n)) (QA (E0 S.m) (E3 S.m) (E0 S.n) (E3 S.n))
section
variable{fin:VS→List aE→Prop}{Γ:List aE}{L M K:Nat}
theorem Et(x y:Sw){X Y:Sn} [aZ (SF x) (L,X) Γ] [aZ (SF y) (M,Y) Γ](em:X.m=Y.m)(en:X.n=Y.n)(hL:L≤100000:=by omega)(hM:M≤100000:=by omega):
  au tb Tryz.prog 145 [BB x y] Γ (jv (.bool true)):=by
 refine au.of_W aB Tryz.func145 rfl ?_;refine aj [] (WK x y em en) ?_;rintro _ _ ⟨X1,rfl,rfl⟩;exact W.r [] (.bool (0==0)) ⟨rfl,rfl⟩ bU
theorem zQ(u:Sl)(d:Bool){n:Int} [aZ (ZF u d) (L,n) Γ](hn:0≤n∧n≤2)(hL:L≤1000000:=by omega):
  au tb Tryz.prog 211 [zv u d] Γ (fun v Δ=>∃a b:Qw,v=.tuple #[vp a b,.bool true]∧Δ=[QG a (2,E0 n),QG b (2,E3 n)]):=by
 have hs:iy n=true:=by unfold iy;simp only[aK,dj];omega
 refine au.of_W aB Tryz.func211 rfl ?_;refine W.more rfl (kW (L':=0)) ?_;refine aj [] (jC u d hs) ?_;rintro _ _ ⟨rfl,rfl⟩;refine aS [] 14 (!true) rfl ?_;refine aS [14] 11 (decide (n>2)) (by rw[aY];omega) ?_;by_cases h2:n=2
 ·refine bD [11] 19 (n==2) (by rw[h2];rfl) ?_;refine aj [19] (kZ 1 (by omega) (by omega)) ?_;rintro _ _ ⟨n2,a2,m2,b2,rfl,rfl⟩;exact W.r [] (.tuple #[vp bV ⟨n2,a2,m2,b2⟩,.bool true]) ⟨_,_,rfl,rfl⟩ (AG (by omega) (by unfold E0;rw[if_pos h2]) (by unfold E3;rw[if_pos h2];rfl))
 ·refine aS [11] 19 (n==2) (by rw[fE];exact h2) ?_;refine aj [19] (kZ n (by omega) (by omega)) ?_;rintro _ _ ⟨n3,a3,m3,b3,rfl,rfl⟩;exact W.r [] (.tuple #[vp ⟨n3,a3,m3,b3⟩ bV,.bool true]) ⟨_,_,rfl,rfl⟩ (AG (by omega) (by unfold E0;rw[if_neg h2]) (by unfold E3;rw[if_neg h2]))
theorem Bl(u:Sl)(d:Bool){n:Int} [aZ (ZF u d) (L,n) Γ](hn:2<n)(hL:L≤1000000:=by omega):
  au tb Tryz.prog 211 [zv u d] Γ (jv (.tuple #[vp bV bV,.bool false])):=by
 refine au.of_W aB Tryz.func211 rfl ?_;refine aj [] (xr u d) ?_;rintro _ _ ⟨rfl,rfl⟩;by_cases hs:iy n=true
 ·refine aS [] 14 (!(iy n)) (by rw[hs];rfl) ?_;refine bD [14] 11 (decide ((if iy n=true then n else 0)>2)) (by rw[if_pos hs,fQ];omega) ?_;exact W.r [11] (.tuple #[vp bV bV,.bool false]) ⟨rfl,rfl⟩ bU
 ·refine bD [] 14 (!(iy n)) (by rw[Bool.eq_false_iff.2 hs];rfl) ?_;exact W.r [11,14] (.tuple #[vp bV bV,.bool false]) ⟨rfl,rfl⟩ bU
theorem xi(a b c d:Qw){x y z w:Rat}{L1 L2 L3 L4:Nat} [aZ (QG a) (L1,x) Γ] [aZ (QG b) (L2,y) Γ] [aZ (QG c) (L3,z) Γ] [aZ (QG d) (L4,w) Γ](hL:L1≤100000∧L2≤100000∧L3≤100000∧L4≤100000:=by omega):
  au tb Tryz.prog 212 [vp a b,vp c d] Γ (DI (L1+L2+L3+L4+25) (Qz x y z w) (QA x y z w)):=by
 refine au.of_W aB Tryz.func212 rfl ?_;refine aj [] (bR a.n a.a a.m a.b c.n c.a c.m c.b) ?_;rintro _ _ ⟨n1,a1,m1,b1,rfl,rfl⟩;refine aj [] (kZ 2 (by omega) (by omega)) ?_;rintro _ _ ⟨n2,a2,m2,b2,rfl,rfl⟩;refine aj [] (bR n2 a2 m2 b2 b.n b.a b.m b.b) ?_;rintro _ _ ⟨n3,a3,m3,b3,rfl,rfl⟩;refine aj [] (bR n3 a3 m3 b3 d.n d.a d.m d.b) ?_;rintro _ _ ⟨n4,a4,m4,b4,rfl,rfl⟩;refine aj [] (fw n1 a1 m1 b1 n4 a4 m4 b4) ?_;rintro _ _ ⟨n5,a5,m5,b5,rfl,rfl⟩;refine aj [] (bR a.n a.a a.m a.b d.n d.a d.m d.b) ?_;rintro _ _ ⟨n6,a6,m6,b6,rfl,rfl⟩;refine aj [] (bR b.n b.a b.m b.b c.n c.a c.m c.b) ?_;rintro _ _ ⟨n7,a7,m7,b7,rfl,rfl⟩;refine aj [] (fw n6 a6 m6 b6 n7 a7 m7 b7) ?_;rintro _ _ ⟨n8,a8,m8,b8,rfl,rfl⟩;exact W.r [] (vp ⟨n5,a5,m5,b5⟩ ⟨n8,a8,m8,b8⟩) ⟨_,_,rfl,rfl⟩ (AG (by omega) rfl rfl)
theorem Da(x:Sw){S:Sn} [aZ (SF x) (L,S) Γ](hm:0≤S.m∧S.m≤2)(hn:0≤S.n∧S.n≤2)(hL:L≤20000:=by omega):
  au tb Tryz.prog 146 [sv x] Γ (fun v Δ=>∃a b:Qw,v=.tuple #[vp a b,.bool true]∧Δ=[QG a (4*L+200,S.n0),QG b (4*L+200,S.n1)]):=by
 refine au.of_W aB Tryz.func146 rfl ?_;refine W.more rfl (kW (L':=0)) ?_;refine s6 x rfl ?_;refine aj [] (Bp x) ?_;rintro _ _ ⟨rfl,rfl⟩;refine aj [] (zQ x.u x.d hm) ?_;rintro _ _ ⟨a2,b2,rfl,rfl⟩;refine aj [] (zQ x.v x.e hn) ?_;rintro _ _ ⟨a3,b3,rfl,rfl⟩;refine aS [] 31 (!true) rfl ?_;refine aS [31] 34 (!true) rfl ?_;refine aj [34] (kZ 1 (by omega) (by omega)) ?_;rintro _ _ ⟨n4,a4,m4,b4,rfl,rfl⟩;refine aj [] (xi a2 b2 a3 b3) ?_;rintro _ _ ⟨a5,b5,rfl,rfl⟩;refine j2 [] 6 ?_;refine aj [46] (xq x) ?_;rintro _ _ ⟨rfl,rfl⟩;refine aj [] (xi x.p bV ⟨n4,a4,m4,b4⟩ bV) ?_;rintro _ _ ⟨a7,b7,rfl,rfl⟩;refine aj [] (nU bV bV a7 b7) ?_;rintro _ _ ⟨a8,b8,rfl,rfl⟩;refine aj [46] (xq x) ?_;rintro _ _ ⟨rfl,rfl⟩;refine aj [] (xi x.q bV a2 b2) ?_;rintro _ _ ⟨QT,zm,rfl,rfl⟩;refine aj [] (nU a8 b8 QT zm) ?_;rintro _ _ ⟨UJ,sS,rfl,rfl⟩;refine aj [46] (xq x) ?_;rintro _ _ ⟨rfl,rfl⟩;refine aj [] (xi x.r bV a3 b3) ?_;rintro _ _ ⟨UK,CA,rfl,rfl⟩;refine aj [] (nU UJ sS UK CA) ?_;rintro _ _ ⟨UL,UY,rfl,rfl⟩;refine aj [46] (xq x) ?_;rintro _ _ ⟨rfl,rfl⟩;refine aj [] (xi x.s bV a5 b5) ?_;rintro _ _ ⟨a16,b16,rfl,rfl⟩;refine aj [] (nU UL UY a16 b16) ?_;rintro _ _ ⟨a17,b17,rfl,rfl⟩;exact W.r [46] (.tuple #[vp a17 b17,.bool true]) ⟨_,_,rfl,rfl⟩ (AG (by omega) rfl rfl)
theorem Bk(x:Sw){S:Sn} [aZ (SF x) (L,S) Γ](h0:0≤S.m∧0≤S.n)(hmn:2<S.m∨2<S.n)(hL:L≤20000:=by omega):
  au tb Tryz.prog 146 [sv x] Γ (jv (.tuple #[vp bV bV,.bool false])):=by
 refine au.of_W aB Tryz.func146 rfl ?_;refine s6 x rfl ?_;refine aj [] (Bp x) ?_;rintro _ _ ⟨rfl,rfl⟩;by_cases hm:2<S.m
 ·refine aj [] (Bl x.u x.d hm) ?_;rintro _ _ ⟨rfl,rfl⟩;by_cases hn:2<S.n
  ·refine aj [] (Bl x.v x.e hn) ?_;rintro _ _ ⟨rfl,rfl⟩;refine bD [] 31 (!false) rfl ?_;exact W.r [34,31] (.tuple #[vp bV bV,.bool false]) ⟨rfl,rfl⟩ bU
  ·refine aj [] (zQ x.v x.e ⟨h0.2,by omega⟩) ?_;rintro _ _ ⟨a3,b3,rfl,rfl⟩;refine bD [] 31 (!false) rfl ?_;exact W.r [34,31] (.tuple #[vp bV bV,.bool false]) ⟨rfl,rfl⟩ bU
 ·have hn:2<S.n:=by omega
  refine aj [] (zQ x.u x.d ⟨h0.1,by omega⟩) ?_;rintro _ _ ⟨a2,b2,rfl,rfl⟩;refine aj [] (Bl x.v x.e hn) ?_;rintro _ _ ⟨rfl,rfl⟩;refine aS [] 31 (!true) rfl ?_;refine bD [31] 34 (!false) rfl ?_;exact W.r [34] (.tuple #[vp bV bV,.bool false]) ⟨rfl,rfl⟩ bU
def wg(L:Nat)(X Y:Sn)(v:Value)(Δ:List aE):Prop:=∃x y:Sw,v=.tuple #[BB x y,.int .i64 0]∧Δ=[SF x (L,X),SF y (L,Y)]
theorem R0(V:On)(t:Q5)(x y:Sw){X Y:Sn}{L1:Nat} [aZ (OF t) (L1,V) Γ] [aZ (SF x) (L,X) Γ] [aZ (SF y) (M,Y) Γ](ho:0≤V.o∧V.o≤7)(em:X.m=Y.m)(en:X.n=Y.n)(hm:0≤X.m∧X.m≤2)(hn:0≤X.n∧X.n≤2)(hL:L≤2000∧M≤2000∧L1≤10000:=by omega):
  au tb Tryz.prog 88 [Hx V t,BB x y] Γ (wg (5*L1+16*max L M+1100) (r2 (V.u0 X.n0 X.n1 Y.n0 Y.n1) (V.u1 X.n0 X.n1 Y.n0 Y.n1)) (r2 (V.v0 X.n0 X.n1 Y.n0 Y.n1) (V.v1 X.n0 X.n1 Y.n0 Y.n1))):=by
 refine au.of_W aB Tryz.func88 rfl ?_;refine aj [] (Et x y em en) ?_;rintro _ _ ⟨rfl,rfl⟩;refine aS [] 24 (!true) rfl ?_;refine aj [24] (Da x hm hn) ?_;rintro _ _ ⟨a2,b2,rfl,rfl⟩;refine bD [] 32 (true) rfl ?_;refine aj [32] (Da y (em▸hm) (en▸hn)) ?_;rintro _ _ ⟨a3,b3,rfl,rfl⟩;refine aj [] (Es V t a2 b2 a3 b3 ho) ?_;rintro _ _ ⟨a4,b4,c4,d4,rfl,rfl⟩;refine aj [] (OX) ?_;rintro _ _ ⟨u5,d5,rfl,rfl⟩;refine aj [] (lF u5 d5 ⟨none,0,0⟩ false a4 b4 (by omega) (by omega)) ?_;rintro _ _ ⟨X6,rfl,rfl⟩;refine aj [] (lF u5 d5 ⟨none,0,0⟩ false c4 d4 (by omega) (by omega)) ?_;rintro _ _ ⟨X7,rfl,rfl⟩;exact W.r [] (.tuple #[BB X6 X7,.int .i64 0]) ⟨_,_,rfl,rfl⟩ (Js (by omega) rfl rfl)
end
section
variable{fin:VS→List aE→Prop}{Γ:List aE}{L M K:Nat}
end
def yg:On:=⟨false,0,0,0,0,0,0⟩
def cq(N K:Nat)(q:Rat):Prop:=∃z:Int,q*(N:Rat)=(z:Rat)∧z.natAbs≤K
section
variable{N M K J:Nat}{p q:Rat}
theorem cq.mono(h:cq N K q)(hk:K≤J):cq N J q:=by
 obtain⟨z,h1,h2⟩:=h;exact⟨z,h1,aP h2 hk⟩
theorem cq.add(h:cq N K p)(g:cq N J q):cq N (K+J) (p+q):=by
 obtain⟨z,h1,h2⟩:=h;obtain⟨y,g1,g2⟩:=g;exact⟨z+y,by rw[fV];grind,aP (Int.natAbs_add_le z y) (by omega)⟩
theorem cq.neg(h:cq N K p):cq N K (-p):=by
 obtain⟨z,h1,h2⟩:=h;exact⟨-z,by rw[sZ];grind,by rw[Int.natAbs_neg];exact h2⟩
theorem cq.mul(h:cq N K p)(g:cq M J q):cq (N*M) (K*J) (p*q):=by
 obtain⟨z,h1,h2⟩:=h;obtain⟨y,g1,g2⟩:=g;exact⟨z*y,by rw[dH,Rat.natCast_mul];grind,by rw[cK];exact aR h2 g2⟩
theorem cq.scale(h:cq N K p)(M:Nat):cq (M*N) (M*K) p:=by
 obtain⟨z,h1,h2⟩:=h;refine⟨M*z,by rw[dH,Rat.natCast_mul,←h1];have:((M:Int):Rat)=(M:Rat):=rfl;grind,?_⟩;rw[cK];exact aR (ai _) h2
theorem cq.unit(h:cq N K p){c:Int}(hc: -1≤c∧c≤1):cq N K (p*(c:Rat)):=by
 obtain⟨z,h1,h2⟩:=h;refine⟨z*c,by rw[dH,←h1];grind,?_⟩;rw[cK];have:c.natAbs≤1:=by omega
 exact aP (aR h2 this) (by omega)
theorem cq.half(h:cq N K p){c:Int}(hc: -1≤c∧c≤1):cq (2*N) K (p*Rat.divInt c 2):=by
 obtain⟨z,h1,h2⟩:=(cq.unit h hc);refine⟨z,?_,h2⟩;have hh:Rat.divInt 1 2+Rat.divInt 1 2=1:=by decide+kernel
 have e2:((2:Nat):Rat)=2:=rfl;rw[FK,Rat.natCast_mul,e2,←h1];generalize Rat.divInt 1 2=H at*;grind
theorem tq(hp:cq N K p)(hq:cq N K q){c d:Int}(hc: -1≤c∧c≤1)(hd: -1≤d∧d≤1):cq (2*N) (4*K) (tm1 p q c d):=
 (((hp.unit hc).add (hq.unit hd)).scale 2).mono (by omega)
theorem tr(hp:cq N K p)(hq:cq N K q){c d:Int}(hc: -1≤c∧c≤1)(hd: -1≤d∧d≤1):cq (2*N) (4*K) (tm2 p q c d):=
 (((hq.unit hc).scale 2).add (hp.half hd)).mono (by omega)
theorem cq.bq{e:Nat}(h:cq N K q)(hN:0<N)(h1:N≤2^e)(h2:K≤2^e):bq (e+1) q:=by
 obtain⟨z,g1,g2⟩:=h;have hp:0<2^e:=ki e;have hs:2^(e+1)=2^e*2:=eB 2 e;refine bq.of (n:=z) (d:=(N:Int)) (by omega) ?_ (by omega) (by omega);have hne:(N:Rat)≠0:=fun e0=>by
  have:N=0:=Rat.natCast_inj.1 e0;omega
 rw[iu,←g1,show(((N:Nat):Int):Rat)=(N:Rat)from rfl,lg,Rat.mul_assoc,Rat.mul_inv_cancel _ hne,sK]
end
def cO(N K:Nat)(V:On):Prop:=cq N K V.g∧cq N K V.a∧cq N K V.b∧cq N K V.c∧cq N K V.d
theorem cO.mag{N K:Nat}{V:On}(h:cO N K V)(hK:N≤K):cq N K V.mag:=by
 unfold On.mag;split
 ·exact⟨N,by have:((N:Int):Rat)=(N:Rat):=rfl;grind,by omega⟩
 ·exact h.1
theorem cq.sg{N K:Nat}{V:On}{z:Rat}(h:cq N K z):cq N K (V.sg z):=by
 unfold On.sg;split
 ·exact h.neg
 ·exact h
theorem cO.then{N K M J:Nat}{V U:On}(h:cO N K V)(g:cO M J U)(hK:N≤K)(hJ:M≤J):cO (2*(N*M)) (10*(K*J)) (V.then U):=by
 have hm:=g.mag hJ;have hn:=h.mag hK;obtain⟨_,h2,h3,h4,h5⟩:=h;obtain⟨_,g2,g3,g4,g5⟩:=g;have c1:=WN U.o;have c2:=WO U.o;have c3:=Ph U.o;have c4:=Pm U.o;have x:=h2.mul hm;have y:=h3.mul hm;have z:=(h4.sg (V:=U)).mul hm;have w:=(h5.sg (V:=U)).mul hm;have lift:∀{q:Rat},cq M J q→cq (2*(N*M)) (2*(K*J)) q:=fun hq=>by
  have e:=(hq.scale N).scale 2;exact e.mono (aR (ai _) (aR hK (ai _)))
 have l2:=lift g2;have l3:=lift g3;have l4:=lift g4;have l5:=lift g5;generalize hP:K*J=P at*;refine⟨?_,?_,?_,?_,?_⟩
 ·have e:=(hn.mul hm).scale 2;rw[hP]at e;exact e.mono (by omega)
 ·exact(((tq x y c1 c3).add (tq z w c2 c4).neg).add l2).mono (by omega)
 ·exact(((tr x y c1 c3).add (tr z w c2 c4).neg).add l3).mono (by omega)
 ·exact(((tq x y c2 c4).add (tq z w c1 c3)).add l4).mono (by omega)
 ·exact(((tr x y c2 c4).add (tr z w c1 c3)).add l5).mono (by omega)
def sw(e:Nat)(V:On):Prop:=∃N K:Nat,0<N∧N≤K∧K≤2^e∧cO N K V
theorem sw.bO{e:Nat}{V:On}(h:sw e V):bO (e+1) V:=by
 obtain⟨N,K,h0,h1,h2,g1,g2,g3,g4,g5⟩:=h;have hN:=aP h1 h2;exact⟨g1.bq h0 hN h2,g2.bq h0 hN h2,g3.bq h0 hN h2,g4.bq h0 hN h2,g5.bq h0 hN h2⟩
theorem sw.then{e k:Nat}{V U:On}(h:sw e V)(g:sw k U):sw (e+k+4) (V.then U):=by
 obtain⟨N,K,h0,h1,h2,h3⟩:=h;obtain⟨M,J,g0,g1,g2,g3⟩:=g;have a:=aR h1 g1;have b:=aR h2 g2;rw[←cR]at b;have c:2^(e+k+4)=2^(e+k)*16:=cR 2 (e+k) 4;exact⟨2*(N*M),10*(K*J),iz (by decide) (iz h0 g0),by omega,by omega,h3.then g3 h1 g1⟩
theorem aam:sw 0 yg:=by
 have z:cq 1 1 0:=⟨0,by decide+kernel,by decide⟩;exact⟨1,1,by decide,by decide,by decide,z,z,z,z,z⟩
def Dk:Nat→Sn→Sn→Sn×Sn
 |0,X,Y=>(X,Y)
 |k+1,X,Y=>Dk k Y.neg X
def On.farP(V:On)(X Y:Sn):Sn×Sn:=Dk (V.o/2).toNat (X.mul ⟨X.m,X.n,V.mag,0,0,0⟩) (if V.f then(Y.mul ⟨X.m,X.n,V.mag,0,0,0⟩).neg else Y.mul ⟨X.m,X.n,V.mag,0,0,0⟩)
def On.farX(V:On)(X Y:Sn):Sn:=(V.farP X Y).1.add ⟨X.m,X.n,V.a,V.b,0,0⟩
def On.farY(V:On)(X Y:Sn):Sn:=(V.farP X Y).2.add ⟨X.m,X.n,V.c,V.d,0,0⟩
structure Dp where
 x:Int
 y:Int
theorem Dp.eq_iff{a b:Dp}:a=b↔a.x=b.x∧a.y=b.y:=by
 constructor
 ·rintro rfl;exact⟨rfl,rfl⟩
 ·obtain⟨a1,a2⟩:=a;obtain⟨b1,b2⟩:=b;rintro⟨h1,h2⟩;simp only at h1 h2;rw[h1,h2]
instance:DecidableEq Dp:=fun a b=>if h:a.x=b.x∧a.y=b.y then isTrue (Dp.eq_iff.2 h)else isFalse (fun e=>h (Dp.eq_iff.1 e))
def lW(v:Dp):Int:=((Nat.gcd v.x.natAbs v.y.natAbs:Nat):Int)
def pN(v:Dp):Dp:=⟨v.x/lW v,v.y/lW v⟩
def gF(p q:Dp):Dp:=pN ⟨q.x-p.x,q.y-p.y⟩
theorem AJ(v:Dp):lW v∣v.x∧lW v∣v.y:=by
 unfold lW;exact⟨Int.ofNat_dvd_left.2 (Nat.gcd_dvd_left _ _),Int.ofNat_dvd_left.2 (Nat.gcd_dvd_right _ _)⟩
theorem tF{v:Dp}(h:v.x≠0∨v.y≠0):0<lW v:=by
 unfold lW;have:0<Nat.gcd v.x.natAbs v.y.natAbs:=by
  rcases h with h|h
  ·exact Nat.gcd_pos_of_pos_left _ (by omega)
  ·exact Nat.gcd_pos_of_pos_right _ (by omega)
 omega
theorem rJ(v:Dp):v.x=lW v*(pN v).x∧v.y=lW v*(pN v).y:=
 ⟨(Int.mul_ediv_cancel' (AJ v).1).symm,(Int.mul_ediv_cancel' (AJ v).2).symm⟩
theorem CK(k:Int)(hk:0<k)(v:Dp):pN ⟨k*v.x,k*v.y⟩=pN v:=by
 have hg:lW ⟨k*v.x,k*v.y⟩=k*lW v:=by
  unfold lW;simp only[cK,Nat.gcd_mul_left,dp];rw[show((k.natAbs:Nat):Int)=k by omega]
 unfold pN;simp only[hg,Int.mul_ediv_mul_of_pos _ _ hk]
theorem Nc{v:Dp}(h:v.x≠0∨v.y≠0):(pN v).x≠0∨(pN v).y≠0:=by
 obtain⟨h1,h2⟩:=rJ v;rcases h with h|h
 ·exact .inl fun e=>h (by rw[h1,e,Int.mul_zero])
 ·exact .inr fun e=>h (by rw[h2,e,Int.mul_zero])
theorem Jq(v:Dp)(h:v.x≠0∨v.y≠0):pN (pN v)=pN v:=by
 have h1:=rJ v;have h2:=CK (lW v) (tF h) (pN v);rw[←h1.1,←h1.2]at h2;exact h2.symm
theorem Be{p q:Dp}(h:p≠q):(⟨q.x-p.x,q.y-p.y⟩:Dp).x≠0∨(⟨q.x-p.x,q.y-p.y⟩:Dp).y≠0:=by
 simp only;by_cases hx:q.x-p.x=0
 ·by_cases hy:q.y-p.y=0
  ·exact absurd (Dp.eq_iff.2 ⟨by omega,by omega⟩) h
  ·exact .inr hy
 ·exact .inl hx
theorem Hp{p q r:Dp}(h1:p≠q)(h2:q≠r)(h:gF p q=gF q r):p≠r∧gF p r=gF p q:=by
 unfold gF at h⊢;have n1:=Be h1;have n2:=Be h2;obtain⟨a1,a2⟩:=rJ ⟨q.x-p.x,q.y-p.y⟩;obtain⟨b1,b2⟩:=rJ ⟨r.x-q.x,r.y-q.y⟩;have ga:=tF n1;have gb:=tF n2;have hd:=Nc n1;have hdd:=Jq _ n1;rw[←h]at b1 b2;generalize pN ⟨q.x-p.x,q.y-p.y⟩=d at*;generalize lW ⟨q.x-p.x,q.y-p.y⟩=a at*;generalize lW ⟨r.x-q.x,r.y-q.y⟩=b at*;simp only at a1 a2 b1 b2;have e1:r.x-p.x=(a+b)*d.x:=by rw[Int.add_mul,←a1,←b1];omega
 have e2:r.y-p.y=(a+b)*d.y:=by rw[Int.add_mul,←a2,←b2];omega
 constructor
 ·rintro rfl;rw[Int.sub_self]at e1 e2;have hab:a+b≠0:=by omega
  rcases hd with hd|hd
  ·exact(kg hab hd) e1.symm
  ·exact(kg hab hd) e2.symm
 ·rw[e1,e2,CK _ (by omega),hdd]
def push(s:List Dp×List Dp)(p:Dp):List Dp×List Dp:=
 match s with
 |([],_)=>([p],[])
 |(l::r,w)=>if l=p then(l::r,w)else if w.head?=some (gF l p)then(p::r,w)else(p::l::r,gF l p::w)
def iO(fK:List Dp):List Dp×List Dp:=fK.foldl push ([],[])
def j5:List Dp→List Dp→Prop
 | [],w=>w=[]
 | [_],w=>w=[]
 |b::a::r,w=>∃d v,w=d::v∧a≠b∧d=gF a b∧v.head?≠some d∧j5 (a::r) v
theorem j5.push{s:List Dp×List Dp}(h:j5 s.1 s.2)(p:Dp):j5 (push s p).1 (push s p).2:=by
 obtain⟨R,w⟩:=s
 match R,h with
 | [],h=>exact rfl
 | [l],h=>
  simp only[j5]at h;subst h;simp only[YtgaaopjagcaojaaGreat.push];split
  ·exact rfl
  ·rename_i hl;simp only[List.head?_nil,reduceCtorEq,ea];exact⟨gF l p,[],rfl,hl,rfl,by simp,rfl⟩
 |l::a::r,⟨d,v,hw,Cg,hd,hv,hok⟩=>
  simp only at hw;subst hw;simp only[YtgaaopjagcaojaaGreat.push];split
  ·exact⟨d,v,rfl,Cg,hd,hv,hok⟩
  ·rename_i hl;simp only[oG,aq];split
   ·rename_i he;have hj:=Hp Cg hl (by rw[←hd,he]);exact⟨d,v,rfl,hj.1,by rw[hj.2,hd],hv,hok⟩
   ·rename_i he;exact⟨gF l p,d::v,rfl,hl,rfl,by simpa using he,d,v,rfl,Cg,hd,hv,hok⟩
theorem zC:∀(fK:List Dp) (s:List Dp×List Dp),j5 s.1 s.2→j5 (fK.foldl push s).1 (fK.foldl push s).2
 | [],_,h=>h
 |p::r,s,h=>zC r (push s p) (h.push p)
theorem j5.len:∀{R w:List Dp},j5 R w→R.length=if R=[]then 0 else w.length+1
 | [],w,h=>by simp
 | [a],w,h=>by simp only[j5]at h;subst h;simp
 |b::a::r,w,⟨d,v,hw,_,_,_,h⟩=>by
  subst hw;have:=h.len;simp at this⊢;omega
theorem j5.back{l a:Dp}{r w:List Dp}{p:Dp}(h:j5 (l::a::r) w)(hl:l≠p)(hw:w.head?=some (gF l p)):a≠p∧gF a p=gF l p∧∃v,w=gF l p::v∧v.head?≠some (gF l p):=by
 obtain⟨d,v,rfl,Cg,hd,hv,_⟩:=h;simp only[oG,aq]at hw;subst hw;have hj:=Hp Cg hl (by rw[←hd]);exact⟨hj.1,by rw[hj.2,hd],v,rfl,hv⟩
def aao(D w:List Dp):Prop:=match D with
 |c::b::_=>w.head?=some (gF b c)
 |_=>w=[]
def ta:List Dp→Bool
 |e::d::r=>decide (e=⟨-d.x,-d.y⟩)||ta (d::r)
 |_=>false
def GJ(n:Int):Bool:=decide (n< -2147483648)||decide (2147483647<n)
def tQ(p:Dp):Bool:=GJ p.x||GJ p.y
def rG(width kind bg en:Int):Bool:= !(decide (kind=0)||decide (kind=1)||decide (kind=2)||decide (kind=4))||decide (width<1)||decide (2147483647<width)||decide (bg< -2147483647)||decide (2147483647<bg)||decide (en< -2147483647)||decide (2147483647<en)
def rh(fK:List Dp)(width kind bg en:Int):Int:=
 if 8191<fK.length then 2 else if rG width kind bg en=true then 1 else if fK.any tQ=true then 26 else if(iO fK).1.length<2 then 7 else if ta (iO fK).2=true then 25 else 0
structure Pa where
 d:Dp
 a:Rat
 b:Rat
 c:Rat
 e:Rat
def kt(d:Dp):Int:=d.x*d.x+d.y*d.y
def qC(d e:Dp):Int:=d.x*e.x+d.y*e.y
def eY(d:Dp):Dp:=⟨-d.y,d.x⟩
def jn(d:Dp):Dp:=⟨-d.x,-d.y⟩
def iR(d:Dp):Dp:=⟨d.y,-d.x⟩
def jM(d:Dp)(q:Rat):Pa:=⟨d,0,q*Rat.divInt 1 (kt d),0,0⟩
def lA(d:Dp)(q:Rat):Pa:=⟨d,0,0,0,q*Rat.divInt 1 (kt d*2)⟩
def Pa.sx(q:Pa)(m n:Int):Sn:=⟨m,n,q.a*(q.d.x:Rat),q.b*(q.d.x:Rat),q.c*(q.d.x:Rat),q.e*(q.d.x:Rat)⟩
def Pa.sy(q:Pa)(m n:Int):Sn:=⟨m,n,q.a*(q.d.y:Rat),q.b*(q.d.y:Rat),q.c*(q.d.y:Rat),q.e*(q.d.y:Rat)⟩
def alX(m n p:Int)(l:List Pa):Sn:=l.foldl (fun S q=>S.add (q.sx m n)) ⟨m,n,(p:Rat),0,0,0⟩
def alY(m n p:Int)(l:List Pa):Sn:=l.foldl (fun S q=>S.add (q.sy m n)) ⟨m,n,(p:Rat),0,0,0⟩
def al(m n:Int)(p:Dp)(l:List Pa):Sn×Sn:=(alX m n p.x l,alY m n p.y l)
def gx(p d e:Dp)(h:Rat):Sn×Sn:=
 let m:=kt d;let n:=kt e;let t:=qC d e;let k:=h/((qC (eY d) e*qC (eY d) e:Int):Rat)
 al m n p [⟨eY d,0,k*(n:Rat),k*((-t:Int):Rat),0⟩,⟨eY e,0,k*((-t:Int):Rat),k*(m:Rat),0⟩]
def mh(p d:Dp)(h beyond:Rat)(round:Bool):List (Sn×Sn):=
 let m:=kt d
 al m 2 p [jM d beyond,jM (eY d) h]::((if round then [al m 2 p [lA d h,lA (eY d) h],al m 2 p [jM d h],al m 2 p [lA d h,lA (iR d) h]]else [])++[al m 2 p [jM d beyond,jM (iR d) h]])
def gK(h:Rat):List Dp→List Dp→List (Sn×Sn)
 |p::c,d::e::w=>gx p d e h::gK h c (e::w)
 |_,_=>[]
def oW(kind bg en:Int)(h:Rat):Rat×Rat:=if kind=2 then(h,h)else if kind=4 then((bg:Rat),(en:Rat))else(0,0)
def rX(c w:List Dp)(width kind bg en:Int):List (Sn×Sn):=
 let h:=Rat.divInt width 2
 let back:=mh (c.getD 0 ⟨0,0⟩) (jn (w.getD 0 ⟨0,0⟩)) h (oW kind bg en h).1 (kind==1)
 back.drop (back.length-1)++gK h c.tail w++mh (c.getD (c.length-1) ⟨0,0⟩) (w.getD (w.length-1) ⟨0,0⟩) h (oW kind bg en h).2 (kind==1)++(gK (-h) c.tail w).reverse++back.take (back.length-1)
end Go.Proofs.YtgaaopjagcaojaaGreat
