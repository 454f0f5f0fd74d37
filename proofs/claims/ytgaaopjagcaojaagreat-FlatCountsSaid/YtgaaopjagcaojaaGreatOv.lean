import Derived.Test.YtgaaopjagcaojaaGreatSu
import Derived.Test.YtgaaopjagcaojaaGreatSy
import Derived.Test.YtgaaopjagcaojaaGreatMaths
set_option linter.unusedSimpArgs false
set_option linter.unusedVariables false
set_option maxHeartbeats 4000000
namespace Go.Proofs.YtgaaopjagcaojaaGreat
open Go.RowKit Go.IntWalk
def bq(b:Nat)(q:Rat):Prop:=q.num.natAbs<2^b∧q.den<2^b
theorem fp{a b:Nat}(h:a≤b):2^a≤2^b:=cW (by decide) h
theorem bq.mono{a b:Nat}{q:Rat}(h:bq a q)(hab:a≤b):bq b q:=⟨cM h.1 (fp hab),cM h.2 (fp hab)⟩
theorem bq.of{n d:Int}{q:Rat}{b:Nat}(hd:0<d)(h:q=Rat.divInt n d)(h1:n.natAbs<2^b)(h2:d.natAbs<2^b):bq b q:=by
 obtain⟨g,hg,e1,e2⟩:=wX hd h;have hn:n.natAbs=q.num.natAbs*g.natAbs:=by rw[e1,cK]
 have hdd:d.natAbs=q.den*g.natAbs:=by rw[e2,cK];rfl
 have hg1:1≤g.natAbs:=by omega
 constructor
 ·have:q.num.natAbs*1≤q.num.natAbs*g.natAbs:=cG _ hg1;omega
 ·have:q.den*1≤q.den*g.natAbs:=cG _ hg1;omega
theorem bq.mul{a b:Nat}{x y:Rat}(hx:bq a x)(hy:bq b y):bq (a+b) (x*y):=by
 refine bq.of (n:=x.num*y.num) (d:=x.den*y.den) (by have:=gx x;have:=gx y;exact Int.mul_pos (by assumption) (by assumption)) (PJ x y).symm ?_ ?_
 ·rw[cK,cP];exact Nat.mul_lt_mul'' hx.1 hy.1
 ·rw[cK,cP];exact Nat.mul_lt_mul'' hx.2 hy.2
theorem bq.add{a b:Nat}{x y:Rat}(hx:bq a x)(hy:bq b y):bq (a+b+1) (x+y):=by
 refine bq.of (n:=x.num*y.den+y.num*x.den) (d:=x.den*y.den) (by have:=gx x;have:=gx y;exact Int.mul_pos (by assumption) (by assumption)) (PI x y).symm ?_ ?_
 ·have h1:(x.num*(y.den:Int)).natAbs<2^a*2^b:=by
   rw[cK];exact Nat.mul_lt_mul'' hx.1 hy.2
  have h2:(y.num*(x.den:Int)).natAbs<2^a*2^b:=by
   rw[cK,e_ (2^a)];exact Nat.mul_lt_mul'' hy.1 hx.2
  rw[ec,cP];omega
 ·rw[cK,ec,cP];have:(x.den:Int).natAbs*(y.den:Int).natAbs<2^a*2^b:=Nat.mul_lt_mul'' hx.2 hy.2;omega
theorem bq.neg{a:Nat}{x:Rat}(hx:bq a x):bq a (-x):=by
 refine⟨?_,?_⟩
 ·rw[Rat.neg_num,Int.natAbs_neg];exact hx.1
 ·rw[Rat.neg_den];exact hx.2
theorem bq.int{b:Nat}{z:Int}(h:z.natAbs<2^b)(hb:1≤b):bq b (z:Rat):=⟨h,by
 show 1<2^b;exact Nat.one_lt_two_pow (by omega)⟩
theorem bq.zero(b:Nat)(hb:1≤b):bq b 0:=bq.int (z:=0) (j5 b) hb
theorem NF.tight{s:Sl}{L L' x:Nat}{I:fN}{w:World}(h:(NF s (L,x)).p I w)(hx:x<4294967296^L'):(NF s (L',x)).p I w:=by
 obtain⟨⟨l,hi,hd,hn,hv⟩,h2,h3⟩:=h;refine⟨⟨l,hi,hd,hn,hv⟩,h2,?_⟩;have:=hn.len_of_lt (B:=4294967296) (k:=L') (by decide) (by rw[hv];exact hx);have:=hi.1;omega
theorem Hy{x b:Nat}(h:x<2^b):x<4294967296^(b/32+1):=by
 have e:4294967296^(b/32+1)=2^(32*(b/32+1)):=by rw[show 4294967296=2^32 by decide,←Nat.pow_mul]
 rw[e];exact cM h (fp (by omega))
theorem ZF.tight{s:Sl}{d:Bool}{L b:Nat}{x:Int}{I:fN}{w:World}(h:(ZF s d (L,x)).p I w)(hx:x.natAbs<2^b):(ZF s d (b/32+1,x)).p I w:=⟨NF.tight h.1 (Hy hx),h.2⟩
theorem QF.tight{n m:Sl}{a b:Bool}{L k:Nat}{q:Rat}{I:fN}{w:World}(h:(QF n a m b (L,q)).p I w)(hq:bq k q):(QF n a m b (k/32+1,q)).p I w:=by
 obtain⟨y,h1,h2,hy⟩:=h;refine⟨y,ZF.tight h1 hq.1,ZF.tight h2 ?_,hy⟩;rcases hy with rfl|⟨rfl,_⟩
 ·exact hq.2
 ·exact j5 k
def bS(b:Nat)(S:Sn):Prop:=S.m.natAbs<2^b∧S.n.natAbs<2^b∧bq b S.p∧bq b S.q∧bq b S.r∧bq b S.s
theorem bS.mono{a b:Nat}{S:Sn}(h:bS a S)(hab:a≤b):bS b S:=
 ⟨cM h.1 (fp hab),cM h.2.1 (fp hab),h.2.2.1.mono hab,h.2.2.2.1.mono hab,h.2.2.2.2.1.mono hab,h.2.2.2.2.2.mono hab⟩
theorem bS.add{b c:Nat}{S T:Sn}(h:bS b S)(g:bS c T):bS (b+c+1) (S.add T):=by
 obtain⟨h1,h2,h3,h4,h5,h6⟩:=h;obtain⟨g1,g2,g3,g4,g5,g6⟩:=g;exact⟨cM h1 (fp (by omega)),cM h2 (fp (by omega)),h3.add g3,h4.add g4,h5.add g5,h6.add g6⟩
theorem bS.neg{b:Nat}{S:Sn}(h:bS b S):bS b S.neg:=by
 obtain⟨h1,h2,h3,h4,h5,h6⟩:=h;exact⟨h1,h2,h3.neg,h4.neg,h5.neg,h6.neg⟩
theorem bS.pos{b:Nat}{S:Sn}(h:bS b S):1≤b:=by
 have h2:=h.2.2.1.2;have:=S.p.den_pos;cases b with
 |zero=>simp at h2;omega
 |succ b=>omega
theorem bS.mul{b c:Nat}{S T:Sn}(h:bS b S)(g:bS c T):bS (8*b+4*c+3) (S.mul T):=by
 have hb:=h.pos;obtain⟨h1,h2,h3,h4,h5,h6⟩:=h;obtain⟨g1,g2,g3,g4,g5,g6⟩:=g;have hm:bq b (S.m:Rat):=bq.int h1 hb;have hn:bq b (S.n:Rat):=bq.int h2 hb;refine⟨cM h1 (fp (by omega)),cM h2 (fp (by omega)),?_,?_,?_,?_⟩
 ·exact((((h3.mul g3).add (hm.mul (h4.mul g4))).add (hn.mul (h5.mul g5))).add ((hm.mul hn).mul (h6.mul g6))).mono (by omega)
 ·exact(((h3.mul g4).add (h4.mul g3)).add (hn.mul ((h5.mul g6).add (h6.mul g5)))).mono (by omega)
 ·exact(((h3.mul g5).add (h5.mul g3)).add (hm.mul ((h4.mul g6).add (h6.mul g4)))).mono (by omega)
 ·exact((((h3.mul g6).add (h6.mul g3)).add (h4.mul g5)).add (h5.mul g4)).mono (by omega)
theorem SF.tight{x:Sw}{L k:Nat}{S:Sn}{I:fN}{w:World}(h:(SF x (L,S)).p I w)(hq:bS k S):(SF x (k/32+1,S)).p I w:=by
 obtain⟨h1,h2,h3,h4,h5,h6⟩:=h;obtain⟨g1,g2,g3,g4,g5,g6⟩:=hq;exact⟨ZF.tight h1 g1,ZF.tight h2 g2,QF.tight h3 g3,QF.tight h4 g4,QF.tight h5 g5,QF.tight h6 g6⟩
section
variable{fin:VS→List aC→Prop}{Γ:List aC}{L M K:Nat}
end
def Yu(n:Int):Rat:=((xI n.natAbs:Nat):Int)
def Od(n:Int):Bool:=n.natAbs-xI n.natAbs*xI n.natAbs==0
def Sn.f1(S:Sn):Sn:=if Od S.m=true then⟨S.m,S.n,0+S.p+Yu S.m*S.q,0,0+S.r+Yu S.m*S.s,0⟩else S
def Sn.f2(S:Sn):Sn:=if Od S.n=true then⟨S.m,S.n,0+S.p+Yu S.n*S.r,0+S.q+Yu S.n*S.s,0,0⟩else S
def Sn.f3(S:Sn):Sn:=if Od (S.m*S.n)=true∧Od S.m=false∧Od S.n=false then⟨S.m,S.n,0+S.p+Yu (S.m*S.n)*S.s,0+S.q+Yu (S.m*S.n)/(S.m:Rat)*S.r,0,0⟩else S
def Sn.fold(S:Sn):Sn:=S.f1.f2.f3
def Sn.w(S:Sn)(j:Nat):Rat:=S.p*lE 1 j+S.q*lE S.m j+S.r*lE S.n j+S.s*lE (S.m*S.n) j
def tw(a:Nat):Rat:=(((2^a:Nat):Int):Rat)
theorem aaR(a:Nat):tw a=((2^a:Int):Rat):=by unfold tw;push_cast;rfl
theorem Qk(a:Nat):0<tw a:=by rw[aaR];exact EA a
theorem Qj(a b:Nat):tw (a+b)=tw a*tw b:=by unfold tw;rw[←wL,cP]
theorem Xw:tw 1=2:=rfl
theorem Ez{a b:Nat}(h:a≤b):tw a≤tw b:=oS (cW (by decide) h)
def md(a d:Nat)(x:Rat):Prop:= -(tw a)≤x∧x≤tw a∧x.den≤2^d
theorem md.mono{a d a' d':Nat}{x:Rat}(h:md a d x)(ha:a≤a')(hd:d≤d'):md a' d' x:=by
 have:=Ez ha;exact⟨by have:=h.1;grind,by have:=h.2.1;grind,aP h.2.2 (cW (by decide) hd)⟩
theorem M6{n d:Int}{q:Rat}(hd:0<d)(h:q=Rat.divInt n d):q.den≤d.natAbs:=by
 obtain⟨g,hg,e1,e2⟩:=wX hd h;have hdd:d.natAbs=q.den*g.natAbs:=by rw[e2,cK];rfl
 have:q.den*1≤q.den*g.natAbs:=cG _ (by omega);omega
theorem md.mul{a d b e:Nat}{x y:Rat}(hx:md a d x)(hy:md b e y):md (a+b) (d+e) (x*y):=by
 have p1:=Qk a;have p2:=Qk b;obtain⟨x1,x2,x3⟩:=hx;obtain⟨y1,y2,y3⟩:=hy;rw[md,Qj];have q1:=bD (show 0≤tw a-x by grind) (show 0≤tw b+y by grind);have q2:=bD (show 0≤tw a+x by grind) (show 0≤tw b-y by grind);have q3:=bD (show 0≤tw a-x by grind) (show 0≤tw b-y by grind);have q4:=bD (show 0≤tw a+x by grind) (show 0≤tw b+y by grind);refine⟨by grind,by grind,?_⟩;have:=M6 (by have:=gx x;have:=gx y;exact Int.mul_pos (by assumption) (by assumption)) (PJ x y).symm;rw[cK]at this;rw[cP];exact aP this (aW x3 y3)
theorem md.add{a d b e:Nat}{x y:Rat}(hx:md a d x)(hy:md b e y):md (max a b+1) (d+e) (x+y):=by
 obtain⟨x1,x2,x3⟩:=hx;obtain⟨y1,y2,y3⟩:=hy;have m1:=Ez (Nat.le_max_left a b);have m2:=Ez (Nat.le_max_right a b);rw[md,Qj (max a b) 1,Xw];refine⟨by grind,by grind,?_⟩;have:=M6 (by have:=gx x;have:=gx y;exact Int.mul_pos (by assumption) (by assumption)) (PI x y).symm;rw[cK]at this;rw[cP];exact aP this (aW x3 y3)
theorem md.neg{a d:Nat}{x:Rat}(hx:md a d x):md a d (-x):=by
 obtain⟨x1,x2,x3⟩:=hx;exact⟨by grind,by grind,by rw[Rat.neg_den];exact x3⟩
theorem md.int{a:Nat}{z:Int}(h:z.natAbs≤2^a):md a 0 (z:Rat):=by
 have h1:((z.natAbs:Int):Rat)≤tw a:=oS h;have h2:(z:Rat)≤((z.natAbs:Int):Rat):=Rat.intCast_le_intCast.2 (by omega);have h3: -((z.natAbs:Int):Rat)≤(z:Rat):=by rw[←Rat.intCast_neg];exact Rat.intCast_le_intCast.2 (by omega)
 exact⟨by grind,by grind,aj 1⟩
section
variable{A D c:Nat}
end
theorem md.z{a d:Nat}{x:Rat}(h:md a d x):md a d (0+x):=by
 rw[Rat.zero_add];exact h
theorem md.b{a d:Nat}{x:Rat}(h:md a d x): -(tw a)≤x∧x≤tw a:=⟨h.1,h.2.1⟩
def Sn.nil(F:Sn):Prop:=F.p=0∧F.q=0∧F.r=0∧F.s=0
structure R6 where
 A:Tw
 B:Tw
 C:Tw
 D:Tw
 E:Tw
 F:Tw
section
variable{fin:VS→List aC→Prop}{Γ:List aC}{L M K:Nat}
end
section
variable{fin:VS→List aC→Prop}{Γ:List aC}{L M K:Nat}
end
structure P4 where
 x:Rat
 y:Rat
 z:Rat
 w:Rat
theorem Fq(d:Int):Rat.divInt d 2=(d:Rat)*Rat.divInt 1 2:=by
 rw[←oq,lI];simp
theorem P4.ext'{p q:P4}(h1:p.x=q.x)(h2:p.y=q.y)(h3:p.z=q.z)(h4:p.w=q.w):p=q:=by
 cases p;cases q;simp_all
def bO(b:Nat)(V:On):Prop:=bq b V.g∧bq b V.a∧bq b V.b∧bq b V.c∧bq b V.d
def bP(b:Nat)(p:P4):Prop:=bq b p.x∧bq b p.y∧bq b p.z∧bq b p.w
theorem bq.pos{b:Nat}{q:Rat}(h:bq b q):1≤b:=by
 have h2:=h.2;have:=q.den_pos;cases b with
 |zero=>simp at h2;omega
 |succ b=>omega
theorem bS.r2{b:Nat}{x y:Rat}(hx:bq b x)(hy:bq b y)(hb:2≤b):bS b (r2 x y):=
 ⟨cM (by decide:2<2^2) (fp hb),j5 b,hx,hy,bq.zero b (by omega),bq.zero b (by omega)⟩
theorem OF.tight{x:Q5}{L k:Nat}{V:On}{I:fN}{w:World}(h:(OF x (L,V)).p I w)(hq:bO k V):(OF x (k/32+1,V)).p I w:=by
 obtain⟨h1,h2,h3,h4,h5⟩:=h;obtain⟨g1,g2,g3,g4,g5⟩:=hq;exact⟨QF.tight h1 g1,QF.tight h2 g2,QF.tight h3 g3,QF.tight h4 g4,QF.tight h5 g5⟩
def On.X(V:On)(x y:Rat):Sn:=r2 (V.u0 x 0 y 0) (V.u1 x 0 y 0)
def On.Y(V:On)(x y:Rat):Sn:=r2 (V.v0 x 0 y 0) (V.v1 x 0 y 0)
section
variable{fin:VS→List aC→Prop}{Γ:List aC}{L M K:Nat}
theorem aw.plT{f:FuncId}{args:List Value}{X Y:Sn}{k:Nat}(h:aw tb Tryz.prog f args Γ (vr L X Y))(h1:bS k X)(h2:bS k Y):aw tb Tryz.prog f args Γ (vr (k/32+1) X Y):=
 h.entH (fun v Δ ⟨x,y,e1,e2⟩=>⟨_,⟨x,y,e1,rfl⟩,fun I w hh=>by
  subst e2;exact aE.cons (SF.tight (hh (SF x (L,X)) (List.Mem.head _)) h1) (aU (SF.tight (hh (SF y (L,Y)) (List.Mem.tail _ (List.Mem.head _))) h2))⟩)
theorem Pg(V U:On)(x y:Q5){k:Nat} [aY (OF x) (L,V) Γ] [aY (OF y) (M,U) Γ](hk:bO k (V.then U))(ho:0≤V.o∧V.o≤7)(hu:0≤U.o∧U.o≤7)(hL:L≤10000∧M≤10000:=by omega):
  aw tb Tryz.prog 159 [Hi V x,Hi U y] Γ (fun v Δ=>∃q:Q5,v=Hi (V.then U) q∧Δ=[OF q (k/32+1,V.then U)]):=
 (SA V U x y ho hu hL).entH (fun v Δ ⟨q,e1,e2⟩=>⟨_,⟨q,e1,rfl⟩,fun I w hh=>by
  subst e2;exact aU (OF.tight hh.h0' hk)⟩)
end
def EI(n:Int):Rat:=if n=2 then 0 else(n:Rat)
def EJ(n:Int):Rat:=if n=2 then 1 else 0
def QV(a b c d:Rat):Rat:=a*c+(2:Int)*b*d
def QW(a b c d:Rat):Rat:=a*d+b*c
def Sn.n0(S:Sn):Rat:=0+QV S.p 0 (1:Int) 0+QV S.q 0 (EI S.m) (EJ S.m)+QV S.r 0 (EI S.n) (EJ S.n)+QV S.s 0 (QV (EI S.m) (EJ S.m) (EI S.n) (EJ S.n)) (QW (EI S.m) (EJ S.m) (EI S.n) (EJ S.n))
def Sn.n1(S:Sn):Rat:=0+QW S.p 0 (1:Int) 0+QW S.q 0 (EI S.m) (EJ S.m)+QW S.r 0 (EI S.n) (EJ S.n)+QW S.s 0 (QV (EI S.m) (EJ S.m) (EI S.n) (EJ S.n)) (QW (EI S.m) (EJ S.m) (EI S.n) (EJ S.n))
section
variable{fin:VS→List aC→Prop}{Γ:List aC}{L M K:Nat}
theorem Ec(x y:Sw){X Y:Sn} [aY (SF x) (L,X) Γ] [aY (SF y) (M,Y) Γ](em:X.m=Y.m)(en:X.n=Y.n)(hL:L≤100000:=by omega)(hM:M≤100000:=by omega):
  aw tb Tryz.prog 145 [Bi x y] Γ (jf (.bool true)):=by
 refine aw.of_W az Tryz.func145 rfl ?_;refine aq [] (Xa x y em en) ?_;rintro _ _ ⟨X1,rfl,rfl⟩;exact W.r [] (.bool (0==0)) ⟨rfl,rfl⟩ bR
theorem zw(u:Sl)(d:Bool){n:Int} [aY (ZF u d) (L,n) Γ](hn:0≤n∧n≤2)(hL:L≤1000000:=by omega):
  aw tb Tryz.prog 211 [zv u d] Γ (fun v Δ=>∃a b:Qw,v=.tuple #[vd a b,.bool true]∧Δ=[QG a (2,EI n),QG b (2,EJ n)]):=by
 have hs:gZ n=true:=by unfold gZ;simp only[aL,dG];omega
 refine aw.of_W az Tryz.func211 rfl ?_;refine W.more rfl (kN (L':=0)) ?_;refine aq [] (jl u d hs) ?_;rintro _ _ ⟨rfl,rfl⟩;refine aR [] 14 (!true) rfl ?_;refine aR [14] 11 (decide (n>2)) (by rw[aV];omega) ?_;by_cases h2:n=2
 ·refine bk [11] 19 (n==2) (by rw[h2];rfl) ?_;refine aq [19] (kQ 1 (by omega) (by omega)) ?_;rintro _ _ ⟨n2,a2,m2,b2,rfl,rfl⟩;exact W.r [] (.tuple #[vd bV ⟨n2,a2,m2,b2⟩,.bool true]) ⟨_,_,rfl,rfl⟩ (An (by omega) (by unfold EI;rw[if_pos h2]) (by unfold EJ;rw[if_pos h2];rfl))
 ·refine aR [11] 19 (n==2) (by rw[eL];exact h2) ?_;refine aq [19] (kQ n (by omega) (by omega)) ?_;rintro _ _ ⟨n3,a3,m3,b3,rfl,rfl⟩;exact W.r [] (.tuple #[vd ⟨n3,a3,m3,b3⟩ bV,.bool true]) ⟨_,_,rfl,rfl⟩ (An (by omega) (by unfold EI;rw[if_neg h2]) (by unfold EJ;rw[if_neg h2]))
theorem A7(u:Sl)(d:Bool){n:Int} [aY (ZF u d) (L,n) Γ](hn:2<n)(hL:L≤1000000:=by omega):
  aw tb Tryz.prog 211 [zv u d] Γ (jf (.tuple #[vd bV bV,.bool false])):=by
 refine aw.of_W az Tryz.func211 rfl ?_;refine aq [] (wV u d) ?_;rintro _ _ ⟨rfl,rfl⟩;by_cases hs:gZ n=true
 ·refine aR [] 14 (!(gZ n)) (by rw[hs];rfl) ?_;refine bk [14] 11 (decide ((if gZ n=true then n else 0)>2)) (by rw[if_pos hs,fG];omega) ?_;exact W.r [11] (.tuple #[vd bV bV,.bool false]) ⟨rfl,rfl⟩ bR
 ·refine bk [] 14 (!(gZ n)) (by rw[Bool.eq_false_iff.2 hs];rfl) ?_;exact W.r [11,14] (.tuple #[vd bV bV,.bool false]) ⟨rfl,rfl⟩ bR
theorem wP(a b c d:Qw){x y z w:Rat}{L1 L2 L3 L4:Nat} [aY (QG a) (L1,x) Γ] [aY (QG b) (L2,y) Γ] [aY (QG c) (L3,z) Γ] [aY (QG d) (L4,w) Γ](hL:L1≤100000∧L2≤100000∧L3≤100000∧L4≤100000:=by omega):
  aw tb Tryz.prog 212 [vd a b,vd c d] Γ (Dq (L1+L2+L3+L4+25) (QV x y z w) (QW x y z w)):=by
 refine aw.of_W az Tryz.func212 rfl ?_;refine aq [] (bN a.n a.a a.m a.b c.n c.a c.m c.b) ?_;rintro _ _ ⟨n1,a1,m1,b1,rfl,rfl⟩;refine aq [] (kQ 2 (by omega) (by omega)) ?_;rintro _ _ ⟨n2,a2,m2,b2,rfl,rfl⟩;refine aq [] (bN n2 a2 m2 b2 b.n b.a b.m b.b) ?_;rintro _ _ ⟨n3,a3,m3,b3,rfl,rfl⟩;refine aq [] (bN n3 a3 m3 b3 d.n d.a d.m d.b) ?_;rintro _ _ ⟨n4,a4,m4,b4,rfl,rfl⟩;refine aq [] (fo n1 a1 m1 b1 n4 a4 m4 b4) ?_;rintro _ _ ⟨n5,a5,m5,b5,rfl,rfl⟩;refine aq [] (bN a.n a.a a.m a.b d.n d.a d.m d.b) ?_;rintro _ _ ⟨n6,a6,m6,b6,rfl,rfl⟩;refine aq [] (bN b.n b.a b.m b.b c.n c.a c.m c.b) ?_;rintro _ _ ⟨n7,a7,m7,b7,rfl,rfl⟩;refine aq [] (fo n6 a6 m6 b6 n7 a7 m7 b7) ?_;rintro _ _ ⟨n8,a8,m8,b8,rfl,rfl⟩;exact W.r [] (vd ⟨n5,a5,m5,b5⟩ ⟨n8,a8,m8,b8⟩) ⟨_,_,rfl,rfl⟩ (An (by omega) rfl rfl)
theorem CS(x:Sw){S:Sn} [aY (SF x) (L,S) Γ](hm:0≤S.m∧S.m≤2)(hn:0≤S.n∧S.n≤2)(hL:L≤20000:=by omega):
  aw tb Tryz.prog 146 [sv x] Γ (fun v Δ=>∃a b:Qw,v=.tuple #[vd a b,.bool true]∧Δ=[QG a (4*L+200,S.n0),QG b (4*L+200,S.n1)]):=by
 refine aw.of_W az Tryz.func146 rfl ?_;refine W.more rfl (kN (L':=0)) ?_;refine sM x rfl ?_;refine aq [] (Ba x) ?_;rintro _ _ ⟨rfl,rfl⟩;refine aq [] (zw x.u x.d hm) ?_;rintro _ _ ⟨a2,b2,rfl,rfl⟩;refine aq [] (zw x.v x.e hn) ?_;rintro _ _ ⟨a3,b3,rfl,rfl⟩;refine aR [] 31 (!true) rfl ?_;refine aR [31] 34 (!true) rfl ?_;refine aq [34] (kQ 1 (by omega) (by omega)) ?_;rintro _ _ ⟨n4,a4,m4,b4,rfl,rfl⟩;refine aq [] (wP a2 b2 a3 b3) ?_;rintro _ _ ⟨a5,b5,rfl,rfl⟩;refine jP [] 6 ?_;refine aq [46] (wU x) ?_;rintro _ _ ⟨rfl,rfl⟩;refine aq [] (wP x.p bV ⟨n4,a4,m4,b4⟩ bV) ?_;rintro _ _ ⟨a7,b7,rfl,rfl⟩;refine aq [] (nw bV bV a7 b7) ?_;rintro _ _ ⟨a8,b8,rfl,rfl⟩;refine aq [46] (wU x) ?_;rintro _ _ ⟨rfl,rfl⟩;refine aq [] (wP x.q bV a2 b2) ?_;rintro _ _ ⟨Rl,y6,rfl,rfl⟩;refine aq [] (nw a8 b8 Rl y6) ?_;rintro _ _ ⟨U1,Ae,rfl,rfl⟩;refine aq [46] (wU x) ?_;rintro _ _ ⟨rfl,rfl⟩;refine aq [] (wP x.r bV a3 b3) ?_;rintro _ _ ⟨U2,Ch,rfl,rfl⟩;refine aq [] (nw U1 Ae U2 Ch) ?_;rintro _ _ ⟨U3,Ve,rfl,rfl⟩;refine aq [46] (wU x) ?_;rintro _ _ ⟨rfl,rfl⟩;refine aq [] (wP x.s bV a5 b5) ?_;rintro _ _ ⟨a16,b16,rfl,rfl⟩;refine aq [] (nw U3 Ve a16 b16) ?_;rintro _ _ ⟨a17,b17,rfl,rfl⟩;exact W.r [46] (.tuple #[vd a17 b17,.bool true]) ⟨_,_,rfl,rfl⟩ (An (by omega) rfl rfl)
theorem A6(x:Sw){S:Sn} [aY (SF x) (L,S) Γ](h0:0≤S.m∧0≤S.n)(hmn:2<S.m∨2<S.n)(hL:L≤20000:=by omega):
  aw tb Tryz.prog 146 [sv x] Γ (jf (.tuple #[vd bV bV,.bool false])):=by
 refine aw.of_W az Tryz.func146 rfl ?_;refine sM x rfl ?_;refine aq [] (Ba x) ?_;rintro _ _ ⟨rfl,rfl⟩;by_cases hm:2<S.m
 ·refine aq [] (A7 x.u x.d hm) ?_;rintro _ _ ⟨rfl,rfl⟩;by_cases hn:2<S.n
  ·refine aq [] (A7 x.v x.e hn) ?_;rintro _ _ ⟨rfl,rfl⟩;refine bk [] 31 (!false) rfl ?_;exact W.r [34,31] (.tuple #[vd bV bV,.bool false]) ⟨rfl,rfl⟩ bR
  ·refine aq [] (zw x.v x.e ⟨h0.2,by omega⟩) ?_;rintro _ _ ⟨a3,b3,rfl,rfl⟩;refine bk [] 31 (!false) rfl ?_;exact W.r [34,31] (.tuple #[vd bV bV,.bool false]) ⟨rfl,rfl⟩ bR
 ·have hn:2<S.n:=by omega
  refine aq [] (zw x.u x.d ⟨h0.1,by omega⟩) ?_;rintro _ _ ⟨a2,b2,rfl,rfl⟩;refine aq [] (A7 x.v x.e hn) ?_;rintro _ _ ⟨rfl,rfl⟩;refine aR [] 31 (!true) rfl ?_;refine bk [31] 34 (!false) rfl ?_;exact W.r [34] (.tuple #[vd bV bV,.bool false]) ⟨rfl,rfl⟩ bR
def vS(L:Nat)(X Y:Sn)(v:Value)(Δ:List aC):Prop:=∃x y:Sw,v=.tuple #[Bi x y,.int .i64 0]∧Δ=[SF x (L,X),SF y (L,Y)]
theorem Sv(V:On)(t:Q5)(x y:Sw){X Y:Sn}{L1:Nat} [aY (OF t) (L1,V) Γ] [aY (SF x) (L,X) Γ] [aY (SF y) (M,Y) Γ](ho:0≤V.o∧V.o≤7)(em:X.m=Y.m)(en:X.n=Y.n)(hm:0≤X.m∧X.m≤2)(hn:0≤X.n∧X.n≤2)(hL:L≤2000∧M≤2000∧L1≤10000:=by omega):
  aw tb Tryz.prog 88 [Hi V t,Bi x y] Γ (vS (5*L1+16*max L M+1100) (r2 (V.u0 X.n0 X.n1 Y.n0 Y.n1) (V.u1 X.n0 X.n1 Y.n0 Y.n1)) (r2 (V.v0 X.n0 X.n1 Y.n0 Y.n1) (V.v1 X.n0 X.n1 Y.n0 Y.n1))):=by
 refine aw.of_W az Tryz.func88 rfl ?_;refine aq [] (Ec x y em en) ?_;rintro _ _ ⟨rfl,rfl⟩;refine aR [] 24 (!true) rfl ?_;refine aq [24] (CS x hm hn) ?_;rintro _ _ ⟨a2,b2,rfl,rfl⟩;refine bk [] 32 (true) rfl ?_;refine aq [32] (CS y (em▸hm) (en▸hn)) ?_;rintro _ _ ⟨a3,b3,rfl,rfl⟩;refine aq [] (Eb V t a2 b2 a3 b3 ho) ?_;rintro _ _ ⟨a4,b4,c4,d4,rfl,rfl⟩;refine aq [] (Ph) ?_;rintro _ _ ⟨u5,d5,rfl,rfl⟩;refine aq [] (ln u5 d5 ⟨none,0,0⟩ false a4 b4 (by omega) (by omega)) ?_;rintro _ _ ⟨X6,rfl,rfl⟩;refine aq [] (ln u5 d5 ⟨none,0,0⟩ false c4 d4 (by omega) (by omega)) ?_;rintro _ _ ⟨X7,rfl,rfl⟩;exact W.r [] (.tuple #[Bi X6 X7,.int .i64 0]) ⟨_,_,rfl,rfl⟩ (Jl (by omega) rfl rfl)
end
section
variable{fin:VS→List aC→Prop}{Γ:List aC}{L M K:Nat}
end
def Un:On:=⟨false,0,0,0,0,0,0⟩
def cq(N K:Nat)(q:Rat):Prop:=∃z:Int,q*(N:Rat)=(z:Rat)∧z.natAbs≤K
section
variable{N M K J:Nat}{p q:Rat}
theorem cq.mono(h:cq N K q)(hk:K≤J):cq N J q:=by
 obtain⟨z,h1,h2⟩:=h;exact⟨z,h1,aP h2 hk⟩
theorem cq.add(h:cq N K p)(g:cq N J q):cq N (K+J) (p+q):=by
 obtain⟨z,h1,h2⟩:=h;obtain⟨y,g1,g2⟩:=g;exact⟨z+y,by rw[lx];grind,aP (Int.natAbs_add_le z y) (by omega)⟩
theorem cq.neg(h:cq N K p):cq N K (-p):=by
 obtain⟨z,h1,h2⟩:=h;exact⟨-z,by rw[Rat.intCast_neg];grind,by rw[Int.natAbs_neg];exact h2⟩
theorem cq.mul(h:cq N K p)(g:cq M J q):cq (N*M) (K*J) (p*q):=by
 obtain⟨z,h1,h2⟩:=h;obtain⟨y,g1,g2⟩:=g;exact⟨z*y,by rw[dJ,Rat.natCast_mul];grind,by rw[cK];exact aW h2 g2⟩
theorem cq.scale(h:cq N K p)(M:Nat):cq (M*N) (M*K) p:=by
 obtain⟨z,h1,h2⟩:=h;refine⟨M*z,by rw[dJ,Rat.natCast_mul,←h1];have:((M:Int):Rat)=(M:Rat):=rfl;grind,?_⟩;rw[cK];exact aW (aj _) h2
theorem cq.unit(h:cq N K p){c:Int}(hc: -1≤c∧c≤1):cq N K (p*(c:Rat)):=by
 obtain⟨z,h1,h2⟩:=h;refine⟨z*c,by rw[dJ,←h1];grind,?_⟩;rw[cK];have:c.natAbs≤1:=by omega
 exact aP (aW h2 this) (by omega)
theorem cq.half(h:cq N K p){c:Int}(hc: -1≤c∧c≤1):cq (2*N) K (p*Rat.divInt c 2):=by
 obtain⟨z,h1,h2⟩:=(cq.unit h hc);refine⟨z,?_,h2⟩;have hh:Rat.divInt 1 2+Rat.divInt 1 2=1:=by decide+kernel
 have e2:((2:Nat):Rat)=2:=rfl;rw[Fq,Rat.natCast_mul,e2,←h1];generalize Rat.divInt 1 2=H at*;grind
theorem sU(hp:cq N K p)(hq:cq N K q){c d:Int}(hc: -1≤c∧c≤1)(hd: -1≤d∧d≤1):cq (2*N) (4*K) (tm1 p q c d):=
 (((hp.unit hc).add (hq.unit hd)).scale 2).mono (by omega)
theorem sV(hp:cq N K p)(hq:cq N K q){c d:Int}(hc: -1≤c∧c≤1)(hd: -1≤d∧d≤1):cq (2*N) (4*K) (tm2 p q c d):=
 (((hq.unit hc).scale 2).add (hp.half hd)).mono (by omega)
theorem cq.bq{e:Nat}(h:cq N K q)(hN:0<N)(h1:N≤2^e)(h2:K≤2^e):bq (e+1) q:=by
 obtain⟨z,g1,g2⟩:=h;have hp:0<2^e:=j5 e;have hs:2^(e+1)=2^e*2:=ec 2 e;refine bq.of (n:=z) (d:=(N:Int)) (by omega) ?_ (by omega) (by omega);have hne:(N:Rat)≠0:=fun e0=>by
  have:N=0:=Rat.natCast_inj.1 e0;omega
 rw[iV,←g1,show(((N:Nat):Int):Rat)=(N:Rat)from rfl,kV,Rat.mul_assoc,Rat.mul_inv_cancel _ hne,sq]
end
def cO(N K:Nat)(V:On):Prop:=cq N K V.g∧cq N K V.a∧cq N K V.b∧cq N K V.c∧cq N K V.d
theorem cO.mag{N K:Nat}{V:On}(h:cO N K V)(hK:N≤K):cq N K V.mag:=by
 unfold On.mag;split
 ·exact⟨N,by have:((N:Int):Rat)=(N:Rat):=rfl;grind,by omega⟩
 ·exact h.1
theorem cq.sg{N K:Nat}{V:On}{z:Rat}(h:cq N K z):cq N K (V.sg z):=by
 unfold On.sg;split
 ·exact h.neg
 ·exact h
theorem cO.then{N K M J:Nat}{V U:On}(h:cO N K V)(g:cO M J U)(hK:N≤K)(hJ:M≤J):cO (2*(N*M)) (10*(K*J)) (V.then U):=by
 have hm:=g.mag hJ;have hn:=h.mag hK;obtain⟨_,h2,h3,h4,h5⟩:=h;obtain⟨_,g2,g3,g4,g5⟩:=g;have c1:=Xd U.o;have c2:=Xe U.o;have c3:=Px U.o;have c4:=PA U.o;have x:=h2.mul hm;have y:=h3.mul hm;have z:=(h4.sg (V:=U)).mul hm;have w:=(h5.sg (V:=U)).mul hm;have lift:∀{q:Rat},cq M J q→cq (2*(N*M)) (2*(K*J)) q:=fun hq=>by
  have e:=(hq.scale N).scale 2;exact e.mono (aW (aj _) (aW hK (aj _)))
 have l2:=lift g2;have l3:=lift g3;have l4:=lift g4;have l5:=lift g5;generalize hP:K*J=P at*;refine⟨?_,?_,?_,?_,?_⟩
 ·have e:=(hn.mul hm).scale 2;rw[hP]at e;exact e.mono (by omega)
 ·exact(((sU x y c1 c3).add (sU z w c2 c4).neg).add l2).mono (by omega)
 ·exact(((sV x y c1 c3).add (sV z w c2 c4).neg).add l3).mono (by omega)
 ·exact(((sU x y c2 c4).add (sU z w c1 c3)).add l4).mono (by omega)
 ·exact(((sV x y c2 c4).add (sV z w c1 c3)).add l5).mono (by omega)
def rV(e:Nat)(V:On):Prop:=∃N K:Nat,0<N∧N≤K∧K≤2^e∧cO N K V
theorem rV.bO{e:Nat}{V:On}(h:rV e V):bO (e+1) V:=by
 obtain⟨N,K,h0,h1,h2,g1,g2,g3,g4,g5⟩:=h;have hN:=aP h1 h2;exact⟨g1.bq h0 hN h2,g2.bq h0 hN h2,g3.bq h0 hN h2,g4.bq h0 hN h2,g5.bq h0 hN h2⟩
theorem rV.then{e k:Nat}{V U:On}(h:rV e V)(g:rV k U):rV (e+k+4) (V.then U):=by
 obtain⟨N,K,h0,h1,h2,h3⟩:=h;obtain⟨M,J,g0,g1,g2,g3⟩:=g;have a:=aW h1 g1;have b:=aW h2 g2;rw[←cP]at b;have c:2^(e+k+4)=2^(e+k)*16:=cP 2 (e+k) 4;exact⟨2*(N*M),10*(K*J),g8 (by decide) (g8 h0 g0),by omega,by omega,h3.then g3 h1 g1⟩
theorem aaV:rV 0 Un:=by
 have z:cq 1 1 0:=⟨0,by decide+kernel,by decide⟩;exact⟨1,1,by decide,by decide,by decide,z,z,z,z,z⟩
def C4:Nat→Sn→Sn→Sn×Sn
 |0,X,Y=>(X,Y)
 |k+1,X,Y=>C4 k Y.neg X
def On.farP(V:On)(X Y:Sn):Sn×Sn:=C4 (V.o/2).toNat (X.mul ⟨X.m,X.n,V.mag,0,0,0⟩) (if V.f then(Y.mul ⟨X.m,X.n,V.mag,0,0,0⟩).neg else Y.mul ⟨X.m,X.n,V.mag,0,0,0⟩)
def On.farX(V:On)(X Y:Sn):Sn:=(V.farP X Y).1.add ⟨X.m,X.n,V.a,V.b,0,0⟩
def On.farY(V:On)(X Y:Sn):Sn:=(V.farP X Y).2.add ⟨X.m,X.n,V.c,V.d,0,0⟩
structure Dp where
 x:Int
 y:Int
theorem Dp.eq_iff{a b:Dp}:a=b↔a.x=b.x∧a.y=b.y:=by
 constructor
 ·rintro rfl;exact⟨rfl,rfl⟩
 ·obtain⟨a1,a2⟩:=a;obtain⟨b1,b2⟩:=b;rintro⟨h1,h2⟩;simp only at h1 h2;rw[h1,h2]
instance:DecidableEq Dp:=fun a b=>if h:a.x=b.x∧a.y=b.y then isTrue (Dp.eq_iff.2 h)else isFalse (fun e=>h (Dp.eq_iff.1 e))
def lN(v:Dp):Int:=((Nat.gcd v.x.natAbs v.y.natAbs:Nat):Int)
def pE(v:Dp):Dp:=⟨v.x/lN v,v.y/lN v⟩
def gh(p q:Dp):Dp:=pE ⟨q.x-p.x,q.y-p.y⟩
theorem As(v:Dp):lN v∣v.x∧lN v∣v.y:=by
 unfold lN;exact⟨Int.ofNat_dvd_left.2 (Nat.gcd_dvd_left _ _),Int.ofNat_dvd_left.2 (Nat.gcd_dvd_right _ _)⟩
theorem s_{v:Dp}(h:v.x≠0∨v.y≠0):0<lN v:=by
 unfold lN;have:0<Nat.gcd v.x.natAbs v.y.natAbs:=by
  rcases h with h|h
  ·exact Nat.gcd_pos_of_pos_left _ (by omega)
  ·exact Nat.gcd_pos_of_pos_right _ (by omega)
 omega
theorem q_(v:Dp):v.x=lN v*(pE v).x∧v.y=lN v*(pE v).y:=
 ⟨(Int.mul_ediv_cancel' (As v).1).symm,(Int.mul_ediv_cancel' (As v).2).symm⟩
theorem Cq(k:Int)(hk:0<k)(v:Dp):pE ⟨k*v.x,k*v.y⟩=pE v:=by
 have hg:lN ⟨k*v.x,k*v.y⟩=k*lN v:=by
  unfold lN;simp only[cK,Nat.gcd_mul_left,dI];rw[show((k.natAbs:Nat):Int)=k by omega]
 unfold pE;simp only[hg,Int.mul_ediv_mul_of_pos _ _ hk]
theorem Na{v:Dp}(h:v.x≠0∨v.y≠0):(pE v).x≠0∨(pE v).y≠0:=by
 obtain⟨h1,h2⟩:=q_ v;rcases h with h|h
 ·exact .inl fun e=>h (by rw[h1,e,Int.mul_zero])
 ·exact .inr fun e=>h (by rw[h2,e,Int.mul_zero])
theorem Jj(v:Dp)(h:v.x≠0∨v.y≠0):pE (pE v)=pE v:=by
 have h1:=q_ v;have h2:=Cq (lN v) (s_ h) (pE v);rw[←h1.1,←h1.2]at h2;exact h2.symm
theorem AV{p q:Dp}(h:p≠q):(⟨q.x-p.x,q.y-p.y⟩:Dp).x≠0∨(⟨q.x-p.x,q.y-p.y⟩:Dp).y≠0:=by
 simp only;by_cases hx:q.x-p.x=0
 ·by_cases hy:q.y-p.y=0
  ·exact absurd (Dp.eq_iff.2 ⟨by omega,by omega⟩) h
  ·exact .inr hy
 ·exact .inl hx
theorem Ha{p q r:Dp}(h1:p≠q)(h2:q≠r)(h:gh p q=gh q r):p≠r∧gh p r=gh p q:=by
 unfold gh at h⊢;have n1:=AV h1;have n2:=AV h2;obtain⟨a1,a2⟩:=q_ ⟨q.x-p.x,q.y-p.y⟩;obtain⟨b1,b2⟩:=q_ ⟨r.x-q.x,r.y-q.y⟩;have ga:=s_ n1;have gb:=s_ n2;have hd:=Na n1;have hdd:=Jj _ n1;rw[←h]at b1 b2;generalize pE ⟨q.x-p.x,q.y-p.y⟩=d at*;generalize lN ⟨q.x-p.x,q.y-p.y⟩=a at*;generalize lN ⟨r.x-q.x,r.y-q.y⟩=b at*;simp only at a1 a2 b1 b2;have e1:r.x-p.x=(a+b)*d.x:=by rw[Int.add_mul,←a1,←b1];omega
 have e2:r.y-p.y=(a+b)*d.y:=by rw[Int.add_mul,←a2,←b2];omega
 constructor
 ·rintro rfl;rw[Int.sub_self]at e1 e2;have hab:a+b≠0:=by omega
  rcases hd with hd|hd
  ·exact(j3 hab hd) e1.symm
  ·exact(j3 hab hd) e2.symm
 ·rw[e1,e2,Cq _ (by omega),hdd]
def push(s:List Dp×List Dp)(p:Dp):List Dp×List Dp:=
 match s with
 |([],_)=>([p],[])
 |(l::r,w)=>if l=p then(l::r,w)else if w.head?=some (gh l p)then(p::r,w)else(p::l::r,gh l p::w)
def iv(fW:List Dp):List Dp×List Dp:=fW.foldl push ([],[])
def jU:List Dp→List Dp→Prop
 | [],w=>w=[]
 | [_],w=>w=[]
 |b::a::r,w=>∃d v,w=d::v∧a≠b∧d=gh a b∧v.head?≠some d∧jU (a::r) v
theorem jU.push{s:List Dp×List Dp}(h:jU s.1 s.2)(p:Dp):jU (push s p).1 (push s p).2:=by
 obtain⟨R,w⟩:=s
 match R,h with
 | [],h=>exact rfl
 | [l],h=>
  simp only[jU]at h;subst h;simp only[YtgaaopjagcaojaaGreat.push];split
  ·exact rfl
  ·rename_i hl;simp only[List.head?_nil,reduceCtorEq,dW];exact⟨gh l p,[],rfl,hl,rfl,by simp,rfl⟩
 |l::a::r,⟨d,v,hw,BR,hd,hv,hok⟩=>
  simp only at hw;subst hw;simp only[YtgaaopjagcaojaaGreat.push];split
  ·exact⟨d,v,rfl,BR,hd,hv,hok⟩
  ·rename_i hl;simp only[nZ,au];split
   ·rename_i he;have hj:=Ha BR hl (by rw[←hd,he]);exact⟨d,v,rfl,hj.1,by rw[hj.2,hd],hv,hok⟩
   ·rename_i he;exact⟨gh l p,d::v,rfl,hl,rfl,by simpa using he,d,v,rfl,BR,hd,hv,hok⟩
theorem zf:∀(fW:List Dp) (s:List Dp×List Dp),jU s.1 s.2→jU (fW.foldl push s).1 (fW.foldl push s).2
 | [],_,h=>h
 |p::r,s,h=>zf r (push s p) (h.push p)
theorem jU.len:∀{R w:List Dp},jU R w→R.length=if R=[]then 0 else w.length+1
 | [],w,h=>by simp
 | [a],w,h=>by simp only[jU]at h;subst h;simp
 |b::a::r,w,⟨d,v,hw,_,_,_,h⟩=>by
  subst hw;have:=h.len;simp at this⊢;omega
theorem jU.back{l a:Dp}{r w:List Dp}{p:Dp}(h:jU (l::a::r) w)(hl:l≠p)(hw:w.head?=some (gh l p)):a≠p∧gh a p=gh l p∧∃v,w=gh l p::v∧v.head?≠some (gh l p):=by
 obtain⟨d,v,rfl,BR,hd,hv,_⟩:=h;simp only[nZ,au]at hw;subst hw;have hj:=Ha BR hl (by rw[←hd]);exact⟨hj.1,by rw[hj.2,hd],v,rfl,hv⟩
def aaX(D w:List Dp):Prop:=match D with
 |c::b::_=>w.head?=some (gh b c)
 |_=>w=[]
def sP:List Dp→Bool
 |e::d::r=>decide (e=⟨-d.x,-d.y⟩)||sP (d::r)
 |_=>false
def Gx(n:Int):Bool:=decide (n< -2147483648)||decide (2147483647<n)
def tB(p:Dp):Bool:=Gx p.x||Gx p.y
def q5(width kind bg en:Int):Bool:= !(decide (kind=0)||decide (kind=1)||decide (kind=2)||decide (kind=4))||decide (width<1)||decide (2147483647<width)||decide (bg< -2147483647)||decide (2147483647<bg)||decide (en< -2147483647)||decide (2147483647<en)
def qM(fW:List Dp)(width kind bg en:Int):Int:=
 if 8191<fW.length then 2 else if q5 width kind bg en=true then 1 else if fW.any tB=true then 26 else if(iv fW).1.length<2 then 7 else if sP (iv fW).2=true then 25 else 0
structure Pa where
 d:Dp
 a:Rat
 b:Rat
 c:Rat
 e:Rat
def ke(d:Dp):Int:=d.x*d.x+d.y*d.y
def p8(d e:Dp):Int:=d.x*e.x+d.y*e.y
def eN(d:Dp):Dp:=⟨-d.y,d.x⟩
def i_(d:Dp):Dp:=⟨-d.x,-d.y⟩
def iz(d:Dp):Dp:=⟨d.y,-d.x⟩
def ju(d:Dp)(q:Rat):Pa:=⟨d,0,q*Rat.divInt 1 (ke d),0,0⟩
def lg(d:Dp)(q:Rat):Pa:=⟨d,0,0,0,q*Rat.divInt 1 (ke d*2)⟩
def Pa.sx(q:Pa)(m n:Int):Sn:=⟨m,n,q.a*(q.d.x:Rat),q.b*(q.d.x:Rat),q.c*(q.d.x:Rat),q.e*(q.d.x:Rat)⟩
def Pa.sy(q:Pa)(m n:Int):Sn:=⟨m,n,q.a*(q.d.y:Rat),q.b*(q.d.y:Rat),q.c*(q.d.y:Rat),q.e*(q.d.y:Rat)⟩
def alX(m n p:Int)(l:List Pa):Sn:=l.foldl (fun S q=>S.add (q.sx m n)) ⟨m,n,(p:Rat),0,0,0⟩
def alY(m n p:Int)(l:List Pa):Sn:=l.foldl (fun S q=>S.add (q.sy m n)) ⟨m,n,(p:Rat),0,0,0⟩
def al(m n:Int)(p:Dp)(l:List Pa):Sn×Sn:=(alX m n p.x l,alY m n p.y l)
def fY(p d e:Dp)(h:Rat):Sn×Sn:=
 let m:=ke d;let n:=ke e;let t:=p8 d e;let k:=h/((p8 (eN d) e*p8 (eN d) e:Int):Rat)
 al m n p [⟨eN d,0,k*(n:Rat),k*((-t:Int):Rat),0⟩,⟨eN e,0,k*((-t:Int):Rat),k*(m:Rat),0⟩]
def lY(p d:Dp)(h beyond:Rat)(round:Bool):List (Sn×Sn):=
 let m:=ke d
 al m 2 p [ju d beyond,ju (eN d) h]::((if round then [al m 2 p [lg d h,lg (eN d) h],al m 2 p [ju d h],al m 2 p [lg d h,lg (iz d) h]]else [])++[al m 2 p [ju d beyond,ju (iz d) h]])
def gn(h:Rat):List Dp→List Dp→List (Sn×Sn)
 |p::c,d::e::w=>fY p d e h::gn h c (e::w)
 |_,_=>[]
def oK(kind bg en:Int)(h:Rat):Rat×Rat:=if kind=2 then(h,h)else if kind=4 then((bg:Rat),(en:Rat))else(0,0)
def rI(c w:List Dp)(width kind bg en:Int):List (Sn×Sn):=
 let h:=Rat.divInt width 2
 let back:=lY (c.getD 0 ⟨0,0⟩) (i_ (w.getD 0 ⟨0,0⟩)) h (oK kind bg en h).1 (kind==1)
 back.drop (back.length-1)++gn h c.tail w++lY (c.getD (c.length-1) ⟨0,0⟩) (w.getD (w.length-1) ⟨0,0⟩) h (oK kind bg en h).2 (kind==1)++(gn (-h) c.tail w).reverse++back.take (back.length-1)
end Go.Proofs.YtgaaopjagcaojaaGreat
