import Derived.Test.YtgaaopjagcaojaaGreatPr
import Derived.Test.YtgaaopjagcaojaaGreatOw
import Derived.Laws.BitsLemmas
import Derived.Laws.Bits64
import Derived.Test.YtgaaopjagcaojaaGreatLa
import Derived.Deep.Slices
import Derived.Test.YtgaaopjagcaojaaGreatVk
import Derived.Lib.ConvBytes
import Derived.Lib.BytesEntry
import Derived.Laws.BytesArg
import Derived.Lib.EndianBits
set_option linter.unusedSimpArgs false
set_option linter.unusedVariables false
namespace Go.Proofs.YtgaaopjagcaojaaGreat
open Go.RowKit Go.IntWalk
def Ri(k:Int):Rat:=(2:Rat)^k
theorem PV(k:Nat):Ri (k:Int)=(((2^k:Nat):Int):Rat):=by
 unfold Ri;rw[Rat.zpow_natCast];simp
theorem PW(k:Nat):Ri (-(k:Int))=Rat.divInt 1 ((2^k:Nat):Int):=by
 unfold Ri;rw[Rat.zpow_neg,Rat.zpow_natCast,ir];simp[lh]
def be(l:List Int):Int:=l.foldl (fun m z=>256*m+z) 0
theorem yH(n:Int)(h₀:0≤n)(h₁:n<2^64):IntKind.u64.wrap n=n:=by
 rw[IntKind.wrap_u64];exact Int.emod_eq_of_lt h₀ (by simpa using h₁)
theorem Mo{x:Int}(h₀:0≤x)(h₁:x<256):Go.bits .and .u8 x 127=x % 128:=bits_mask .u8 8 (by decide) wraps_u8 7 (by decide) x h₀ h₁
theorem J_{m x:Int}(h0:0≤m)(h1:m<72057594037927936)(h2:0≤x)(h3:x<256):Go.bits .or .u64 (256*m) (IntKind.u64.wrap x)=256*m+x:=by
 rw[yH x h2 (by simp;omega)];exact bits_join .u64 64 (by decide) yH 8 (256*m) x (by omega) (by simp) (by simp;omega) h2 (by simpa using h3) (by simp;omega)
theorem ry{m x:Int}(h0:0≤m)(h1:m<281474976710656)(h2:0≤x)(h3:x<256):
  IntKind.u64.wrap (Go.bits .or .u64 (256*m) (IntKind.u64.wrap x)*2^(min (8:Int).toNat IntKind.u64.bits))=256*(256*m+x):=by
 rw[J_ h0 (by omega) h2 h3,show(min (8:Int).toNat IntKind.u64.bits)=8 by decide];rw[yH _ (by simp;omega) (by simp;omega)];simp;omega
def nS(zs:List Int):Rat:=if zs.length=8 then(if 127<zs.getD 0 0 then-1 else 1)*(be (zs.drop 1):Rat)*Ri (4*(zs.getD 0 0 % 128-78))else 0
def sQ(zs:List Int):Int:=if zs.length=8 then 0 else 3
def ke(zs:List Int):Prop:=∀z∈zs,0≤z∧z<256
theorem QA(n:Nat):(0:Int)<((2^n:Nat):Int):=Int.natCast_pos.2 (ki n)
section
variable{T:Tb}{Γ:List aE}
theorem Tx(b off:Nat){xs:List Value} [h:aY (RA (some ⟨b,off,none⟩)) xs Γ](k:Nat){v:Value}(hv:xs[k]? =some v):∀I w,bB T I w→aG Γ I w→w.cell? ⟨b,off+k*1,none⟩=some v:=fun I w _ hh=>by
 rw[fL];exact RA.cell (h.p hh) hv
theorem Vc(b off:Nat){xs:List Value} [h:aY (RA (some ⟨b,off,none⟩)) xs Γ](k:Nat){cs:List Value}(hv:∀(j:Nat) (v:Value),cs[j]? =some v→xs[k+j]? =some v):∀I w,bB T I w→aG Γ I w→∀j v,cs[j]? =some v→w.cell? ⟨b,off+k*1+j,none⟩=some v:=fun I w _ hh j v hj=>by
 rw[fL,ig];exact RA.cell (h.p hh) (hv j v hj)
end
section
variable{Γ:List aE}{L M:Nat}
theorem UL(s:Sl)(z:Int)(k:Nat)(hz:z=k){x:Nat} [ha:aY (NF s) (L,x) Γ](hk:k≤65536)(hL:L≤1000000000000:=by omega):
  au tb Tryz.prog 246 [mv s,.int .i64 z] Γ (fun v Δ=>∃u:Sl,v=.tuple #[mv u,.int .i64 0]∧Δ=[NF u (L+k/32+1,x*2^k)]):=by
 subst hz;exact aaK s k hk hL
theorem SI(z k:Int)(hz:z=k)(h1: -400≤k)(h2:k≤400):au tb Tryz.prog 196 [.int .i64 z] Γ (s9 20 (Ri k)):=by
 subst hz;refine au.of_W aB Tryz.func196 rfl ?_;refine W.d [] 10 (decide (z<0)) (fun hb=>?_) (fun hb=>?_)
 ·have hk:=kt hb;refine aj [10] (Dc 1 1 rfl (by decide)) ?_;rintro _ _ ⟨u1,rfl,rfl⟩;refine aj [] (UL u1 ((IntKind.i64.wrap (0-z))) (-z).toNat (by rw[ah];omega) (by omega)) ?_;rintro _ _ ⟨u2,rfl,rfl⟩;refine aj [] (cV 1 (by omega) (by omega)) ?_;rintro _ _ ⟨u3,d3,rfl,rfl⟩;refine aj [] (vY u2) ?_;rintro _ _ ⟨u4,d4,rfl,rfl⟩;refine aj [] (zS u3 d3 u4 d4 (by have:=ki (-z).toNat;omega)) ?_;rintro _ _ ⟨n5,a5,m5,b5,rfl,rfl⟩;refine W.r [] (qv n5 a5 m5 b5) ⟨n5,a5,m5,b5,rfl,rfl⟩ (j9 (by omega) ?_);have:=PW (-z).toNat;rw[show(-(((-z).toNat:Nat):Int))=z by omega]at this;rw[this,lg]
 ·have hk:=eL hb;refine aj [10] (Dc 1 1 rfl (by decide)) ?_;rintro _ _ ⟨u6,rfl,rfl⟩;refine aj [] (UL u6 z z.toNat (by omega) (by omega)) ?_;rintro _ _ ⟨u7,rfl,rfl⟩;refine aj [] (vY u7) ?_;rintro _ _ ⟨u8,d8,rfl,rfl⟩;refine aj [] (cg u8 d8) ?_;rintro _ _ ⟨n9,a9,m9,b9,rfl,rfl⟩;refine W.r [] (qv n9 a9 m9 b9) ⟨n9,a9,m9,b9,rfl,rfl⟩ (j9 (by omega) ?_);have:=PV z.toNat;rw[show((z.toNat:Nat):Int)=z by omega]at this;rw[this,lg]
theorem tX(ao:Option Addr)(n c:Nat)(zs:List Int) [h:aY (RA ao) (zs.map (Value.int .u8)) Γ](hn:n=zs.length)(hz:ke zs)(hc:n≤c):
  au tb Tryz.prog 132 [.slice ao n c] Γ (fun v Δ=>∃(n:Sl) (nb:Bool) (d:Sl) (db:Bool),v=.tuple #[qv n nb d db,.int .i64 (sQ zs)]∧Δ=[QF n nb d db (50,nS zs)]):=by
 refine au.of_W aB Tryz.func132 rfl ?_;by_cases h8:zs.length=8
 ·obtain⟨z0,z1,z2,z3,z4,z5,z6,z7,rfl⟩:∃z0 z1 z2 z3 z4 z5 z6 z7,zs=[z0,z1,z2,z3,z4,z5,z6,z7]:=by
   match zs,h8 with
   | [z0,z1,z2,z3,z4,z5,z6,z7],_=>exact⟨_,_,_,_,_,_,_,_,rfl⟩
  subst hn;refine Fh ao (hm:=rfl) (by simp) (fun ba of e=>?_);subst e;simp only[aF,bE,cz,Nat.reduceAdd]at*;have b0:=hz z0 (by simp);have b1:=hz z1 (by simp);have b2:=hz z2 (by simp);have b3:=hz z3 (by simp);have b4:=hz z4 (by simp);have b5:=hz z5 (by simp);have b6:=hz z6 (by simp);have b7:=hz z7 (by simp);obtain⟨m1,e1⟩:∃m:Int,m=256*0+z1:=⟨_,rfl⟩;have c1:0≤m1∧m1<256:=by omega
  obtain⟨m2,e2⟩:∃m:Int,m=256*m1+z2:=⟨_,rfl⟩;have c2:0≤m2∧m2<65536:=by omega
  obtain⟨m3,e3⟩:∃m:Int,m=256*m2+z3:=⟨_,rfl⟩;have c3:0≤m3∧m3<16777216:=by omega
  obtain⟨m4,e4⟩:∃m:Int,m=256*m3+z4:=⟨_,rfl⟩;have c4:0≤m4∧m4<4294967296:=by omega
  obtain⟨m5,e5⟩:∃m:Int,m=256*m4+z5:=⟨_,rfl⟩;have c5:0≤m5∧m5<1099511627776:=by omega
  obtain⟨m6,e6⟩:∃m:Int,m=256*m5+z6:=⟨_,rfl⟩;have c6:0≤m6∧m6<281474976710656:=by omega
  obtain⟨m7,e7⟩:∃m:Int,m=256*m6+z7:=⟨_,rfl⟩;have c7:0≤m7∧m7<72057594037927936:=by omega
  have hbe:be ([z0,z1,z2,z3,z4,z5,z6,z7].drop 1)=m7:=by
   simp only[be,List.drop_succ_cons,iq,oE,List.foldl_nil];rw[e7,e6,e5,e4,e3,e2,e1]
  refine Cw [10] 1 ba of 8 c (some (.int .i64 ((1:Nat):Int))) none 1 8 aB (.inl rfl) (.inr ⟨rfl,rfl⟩) (by decide) (by omega) (by omega) ?_;refine YX [] 7 (some ⟨ba,of+1*1,none⟩) (8-1) (c-1) aB (by decide) ?_;refine dd [] ba (of+1*1) [.int .u8 z1,.int .u8 z2,.int .u8 z3,.int .u8 z4,.int .u8 z5,.int .u8 z6,.int .u8 z7] aB (Vc ba of 1 (fun j v hv=>by rw[Nat.add_comm];exact hv)) ?_;refine j1 [] 8 ?_;refine W.shl [17] .u64 .u64 0 8 (256*0) (by decide) (by decide) ?_;refine W.shl [17] .u64 .u64 (Go.bits .or .u64 (256*0) (IntKind.u64.wrap z1)) 8 (256*m1) (by decide) (by rw[ry (by omega) (by omega) b1.1 b1.2,e1]) ?_;refine W.shl [17] .u64 .u64 (Go.bits .or .u64 (256*m1) (IntKind.u64.wrap z2)) 8 (256*m2) (by decide) (by rw[ry (by omega) (by omega) b2.1 b2.2,e2]) ?_;refine W.shl [17] .u64 .u64 (Go.bits .or .u64 (256*m2) (IntKind.u64.wrap z3)) 8 (256*m3) (by decide) (by rw[ry (by omega) (by omega) b3.1 b3.2,e3]) ?_;refine W.shl [17] .u64 .u64 (Go.bits .or .u64 (256*m3) (IntKind.u64.wrap z4)) 8 (256*m4) (by decide) (by rw[ry (by omega) (by omega) b4.1 b4.2,e4]) ?_;refine W.shl [17] .u64 .u64 (Go.bits .or .u64 (256*m4) (IntKind.u64.wrap z5)) 8 (256*m5) (by decide) (by rw[ry (by omega) (by omega) b5.1 b5.2,e5]) ?_;refine W.shl [17] .u64 .u64 (Go.bits .or .u64 (256*m5) (IntKind.u64.wrap z6)) 8 (256*m6) (by decide) (by rw[ry (by omega) (by omega) b6.1 b6.2,e6]) ?_;refine cA [17] 1 ba of 8 c .i64 0 0 rfl aB (by decide) ?_
  refine eg [] 1 ba (of+0*1) (.int .u8 z0) aB (Tx ba of 0 rfl) ?_;refine aj [] (Dc (Go.bits .or .u64 (256*m6) (IntKind.u64.wrap z7)) m7.toNat (by rw[J_ (by omega) (by omega) b7.1 b7.2];omega) (by omega)) ?_;rintro _ _ ⟨u13,rfl,rfl⟩;refine aj [] (vY u13) ?_;rintro _ _ ⟨u14,d14,rfl,rfl⟩;refine aj [] (cg u14 d14) ?_;rintro _ _ ⟨n15,a15,m15,b15,rfl,rfl⟩;refine aj [] (SI (IntKind.i64.wrap (4*IntKind.i64.wrap (IntKind.i64.wrap (Go.bits .and .u8 z0 127)-78))) (4*(z0 % 128-78)) (by rw[Mo b0.1 b0.2];simp only[ah];omega) (by omega) (by omega)) ?_;rintro _ _ ⟨n16,a16,m16,b16,rfl,rfl⟩;refine aj [] (bR n15 a15 m15 b15 n16 a16 m16 b16) ?_;rintro _ _ ⟨n17,a17,m17,b17,rfl,rfl⟩;refine cA [] 1 ba of 8 c .i64 0 0 rfl aB (by decide) ?_;refine eg [] 1 ba (of+0*1) (.int .u8 z0) aB (Tx ba of 0 rfl) ?_;have hm7:((m7.toNat:Nat):Int)=m7:=by omega
  refine W.d [] 41 (decide (z0>127)) (fun hb=>?_) (fun hb=>?_)
  ·have hk:=kt hb;refine aj [41] (pj n17 a17 m17 b17) ?_;rintro _ _ ⟨n20,a20,m20,b20,rfl,rfl⟩;refine W.r [] (.tuple #[qv n20 a20 m20 b20,.int .i64 0]) ⟨n20,a20,m20,b20,rfl,rfl⟩ (j9 (by omega) ?_);unfold nS;rw[if_pos (show([z0,z1,z2,z3,z4,z5,z6,z7]:List Int).length=8 from rfl),hbe,hm7];show-((m7:Rat)*_)=(if 127<z0 then(-1:Rat)else 1)*_*Ri (4*(z0 % 128-78));rw[if_pos hk];grind
  ·have hk:=eL hb;refine W.r [41] (.tuple #[qv n17 a17 m17 b17,.int .i64 0]) ⟨n17,a17,m17,b17,rfl,rfl⟩ (j9 (by omega) ?_);unfold nS;rw[if_pos (show([z0,z1,z2,z3,z4,z5,z6,z7]:List Int).length=8 from rfl),hbe,hm7];show(m7:Rat)*_=(if 127<z0 then(-1:Rat)else 1)*_*Ri (4*(z0 % 128-78));rw[if_neg (by omega)];grind
 ·have hd:nS zs=0:=by unfold nS;rw[if_neg h8]
  refine bD [] 10 (((n:Nat):Int) != 8) (by simp;omega) ?_;refine W.r [10] (.tuple #[qv ⟨none,0,0⟩ false ⟨none,0,0⟩ false,.int .i64 3]) ⟨_,_,_,_,by rw[sQ,if_neg h8],rfl⟩ (by rw[hd];exact kX)
end
open Go.RowKit Go.ChangeShapes Go.WideShapes
abbrev bz(s:Sl):Value:=.slice s.ao s.n s.c
def LF{α β:Type}(R:kU α)(num:α→β)(s:Sl)(l:List β):aE where
 p I w:=∃es:List α,es.map num=l∧s.n=l.length∧(s.n≤s.c∧s.c≤maxLen)∧(OL R s.ao (0,es)).p I w
 up:=by
  rintro I I' w w' ⟨es,h1,h2,h3,h⟩ g1 g2 g3;exact⟨es,h1,h2,h3,(OL R s.ao (0,es)).up h g1 g2 g3⟩
def BF(s:Sl)(b:List Int):aE where
 p I w:=s.n=b.length∧(s.n≤s.c∧s.c≤maxLen)∧ke b∧(RA s.ao (b.map (Value.int .u8))).p I w
 up:=by
  rintro I I' w w' ⟨h1,h2,h3,h⟩ g1 g2 g3;exact⟨h1,h2,h3,(RA s.ao _).up h g1 g2 g3⟩
def y5(k:Int):Prop:=0≤k∧k<256
def xS(s:Sl)(r:Re):aE where
 p I w:=y5 r.k∧y5 r.d∧(BF s r.b).p I w
 up:=by
  rintro I I' w w' ⟨h1,h2,h⟩ g1 g2 g3;exact⟨h1,h2,(BF s r.b).up h g1 g2 g3⟩
abbrev rev(r:Re)(s:Sl):Value:=.agg #[.int .u8 r.k,.int .u8 r.d,bz s]
structure dJ where
 s:Sl
 r:Re
def dw:kU dJ where
 z:=3
 cells e:=[.int .u8 e.r.k,.int .u8 e.r.d,bz e.s]
 len _:=rfl
 fact _ e:=xS e.s e.r
abbrev nU:Sl→List Re→aE:=LF dw dJ.r
def mq(f p:Sl)(x:Im):aE where
 p I w:=(nU f x.f).p I w∧(nU p x.p).p I w
 up:=by
  rintro I I' w w' ⟨h1,h2⟩ g1 g2 g3;exact⟨(nU f x.f).up h1 g1 g2 g3,(nU p x.p).up h2 g1 g2 g3⟩
abbrev mo(f p:Sl):Value:=.agg #[bz f,bz p]
structure nd where
 f:Sl
 p:Sl
 x:Im
def lI:kU nd where
 z:=2
 cells e:=[bz e.f,bz e.p]
 len _:=rfl
 fact _ e:=mq e.f e.p e.x
abbrev uC:Sl→List Im→aE:=LF lI nd.x
def xM(h i:Sl)(x:Ce):aE where
 p I w:=(nU h x.h).p I w∧(uC i x.i).p I w
 up:=by
  rintro I I' w w' ⟨h1,h2⟩ g1 g2 g3;exact⟨(nU h x.h).up h1 g1 g2 g3,(uC i x.i).up h2 g1 g2 g3⟩
structure qi where
 h:Sl
 i:Sl
 x:Ce
def pH:kU qi where
 z:=2
 cells e:=[bz e.h,bz e.i]
 len _:=rfl
 fact _ e:=xM e.h e.i e.x
abbrev pF:Sl→List Ce→aE:=LF pH qi.x
def HK(h c:Sl)(t:Li):aE where
 p I w:=(nU h t.h).p I w∧(pF c t.c).p I w
 up:=by
  rintro I I' w w' ⟨h1,h2⟩ g1 g2 g3;exact⟨(nU h t.h).up h1 g1 g2 g3,(pF c t.c).up h2 g1 g2 g3⟩
section
variable{H:Type}{enc:TypeId×Value→H}{P:Program}{w:World}
abbrev At:fZ:=fun _=>True
theorem uH{α β:Type}(R:kU α)(num:α→β){t e:TypeId}(ht:P.underlying t=some (.slice e))(hce:P.cellsOf e=R.z)(hz:0<R.z)
  (hel:∀n cs' y,DataW.trod enc P w 0 (fun _=>true) true n e cs'=some y→cs'.length=R.z→∃q:α,R.cells q=cs'∧(R.fact 0 q).p At w){c:Value}{n:Nat}{y:DataW H×List MemPlace}(h:DataW.trod enc P w 0 (fun _=>true) true n t [c]=some y):
  ∃(s:Sl) (l:List β),c=bz s∧(LF R num s l).p At w:=by
 rcases Go.Deep.open_slice ht h with⟨hcs,_⟩|⟨a,len,cap,m,n',D,Pl,hcs,_,hl,hml,hm,_,hx⟩
 ·simp at hcs;subst hcs;exact⟨⟨none,0,0⟩,[],rfl,[],rfl,rfl,⟨ai _,aM _⟩,fun e he=>absurd he (by simp),RA.nil _ _ _⟩
 ·simp at hcs;subst hcs;simp only[eV]at hm;subst hm;have each:∀i,i<m→∃q:α,(R.fact 0 q).p At w∧∀j v,(R.cells q)[j]? =some v→w.cell? (a.add (i*R.z+j))=some v:=by
   intro i hi';obtain⟨cs',g1,g2⟩:=hx i hi';rw[hce]at g1;obtain⟨_,hlen,hcell⟩:=World.cells?_some g1;obtain⟨q,hq,hf⟩:=hel _ _ _ g2 hlen;refine⟨q,hf,fun j v hv=>?_⟩;rw[hq]at hv;have hj:j<R.z:=by rw[←hlen];exact(List.getElem?_eq_some_iff.1 hv).1
   have e0:=hcell j hj;rw[Go.Deep.add_add]at e0;rw[e0];exact hv
  rcases Nat.eq_zero_or_pos len with h0|hpos0
  ·subst h0;exact⟨⟨some a,0,m⟩,[],rfl,[],rfl,rfl,⟨aM _,hml⟩,fun e he=>absurd he (by simp),RA.nil _ _ _⟩
  have:Inhabited α:=⟨(each 0 (by omega)).choose⟩;obtain⟨q,hq⟩:=Go.Deep.choose_lt each;have hlen:(((List.range len).map q).flatMap R.cells).length=len*R.z:=by
   rw[qg R];simp
  refine⟨⟨some a,len,m⟩,((List.range len).map q).map num,rfl,(List.range len).map q,rfl,by simp,⟨hl,hml⟩,fun x hx'=>?_,fun hne=>?_⟩
  ·obtain⟨i,hir,rfl⟩:=List.mem_map.1 hx';exact(hq i (by have:=List.mem_range.1 hir;omega)).1
  ·have hpos:0<len:=by
    rcases Nat.eq_zero_or_pos len with h|h
    ·subst h;simp at hne
    ·exact h
   have hq0:0<(R.cells (q 0)).length:=by rw[R.len];exact hz
   have hc0:=(hq 0 (by omega)).2 0 _ (ar hq0);obtain⟨b,off,sp⟩:=a;have hsp:sp=none:=by
    simp only[Addr.add,lq,fk,eV]at hc0;unfold World.cell? at hc0;split at hc0
    ·cases sp with
     |none=>rfl
     |some x=>simp at hc0
    ·simp at hc0
   subst hsp;refine⟨b,off,rfl,trivial,fun k v hv=>?_⟩;have hk:k<len*R.z:=by
    have:=(List.getElem?_eq_some_iff.1 hv).1;simp only at this;omega
   have hi2:k/R.z<len:=Nat.div_lt_of_lt_mul (by rw[eA];exact hk);have hil:k/R.z<((List.range len).map q).length:=by simpa using hi2
   have hqe:((List.range len).map q)[k/R.z]'hil=q (k/R.z):=by simp
   have hj5:k % R.z<(R.cells (q (k/R.z))).length:=by rw[R.len];exact fC _ hz
   have hv2:=I9 R hil (k % R.z) ((R.cells (q (k/R.z)))[k % R.z]'hj5) (by rw[hqe];exact ar hj5);have hke:k/R.z*R.z+k % R.z=k:=Nat.div_add_mod' k R.z;rw[hke,hv]at hv2;injection hv2 with hv2;have:=(hq (k/R.z) (by omega)).2 (k % R.z) _ (ar hj5);rw[gj,hke]at this;rw[hv2,←this]
theorem FU:∀es:List Int,es.flatMap (fun z=>[(Value.int .u8 z:Value)])=es.map (Value.int .u8)
 | []=>rfl
 |z::r=>by rw[bh,FU r];rfl
theorem DW{z:Int}(hw:(Lit.int .u8 z).wf=true):0≤z∧z<256:=by
 have h:IntKind.u8.min≤z∧z≤IntKind.u8.max:=by simpa [Lit.wf]using hw
 have h1:IntKind.u8.min=0:=by decide
 have h2:IntKind.u8.max=255:=by decide
 omega
theorem Ie{t e:TypeId}(ht:P.underlying t=some (.slice e))(he:P.underlying e=some (.int .u8))(hce:P.cellsOf e=1){c:Value}{n:Nat}{y:DataW H×List MemPlace}(h:DataW.trod enc P w 0 (fun _=>true) true n t [c]=some y):
  ∃(s:Sl) (b:List Int),c=bz s∧(BF s b).p At w:=by
 let R:kU Int:=⟨1,fun z=>[.int .u8 z],fun _=>rfl,fun _ z=>⟨fun _ _=>0≤z∧z<256,fun h _ _ _=>h⟩⟩
 obtain⟨s,l,rfl,es,h1,h2,h3,h4,h5⟩:=uH R id ht hce (Nat.lt_succ_self 0) (fun n cs' y hy hl=>by
  match cs',hl with
  | [v],_=>
   obtain⟨z,rfl,hw⟩:=tu he hy;refine⟨z,rfl,?_⟩;show 0≤z∧z<256;exact DW hw) h
 rw[List.map_id]at h1;subst h1;refine⟨s,es,rfl,h2,h3,fun z hz=>h4 z hz,?_⟩;have e:es.flatMap R.cells=es.map (Value.int .u8):=by
  show es.flatMap (fun z=>[(Value.int .u8 z:Value)])=_;exact FU es
 simp only at h5;rw[e]at h5;exact h5
theorem wg{t:TypeId}{fs:Array Field}{n:Nat}{cs:List Value}{y:DataW H×List MemPlace}(ht:P.underlying t=some (.struct fs))(h:DataW.trod enc P w 0 (fun _=>true) true n t cs=some y):
  ∀(i:Nat) (f:Field),fs[i]? =some f→f.offset=i→P.cellsOf f.type=1→∀c,cs[i]? =some c→∃n y,DataW.trod enc P w 0 (fun _=>true) true n f.type [c]=some y:=by
 obtain⟨xs,n',_,hx,hl,hlen,hff⟩:=DataW.trod_struct ht h;intro i f hi ho hc c hcs;have hix:i<xs.length:=by
  have:=(Array.getElem?_eq_some_iff.1 hi).1;omega
 have:=hff i f hi;rw[ho,hc]at this;refine⟨n',xs[i],?_⟩;have e:(cs.drop i).take 1=[c]:=by
  obtain⟨hlt,rfl⟩:=List.getElem?_eq_some_iff.1 hcs;rw[bI hlt];rfl
 rw[e]at this;rw[this,ar hix]
structure KS(P:Program)(tb':TypeId) where
 tbs:TypeId
 re:TypeId
 res:TypeId
 im:TypeId
 ims:TypeId
 ce:TypeId
 ces:TypeId
 r0:Field
 r1:Field
 r2:Field
 i0:Field
 i1:Field
 c0:Field
 c1:Field
 hb:P.underlying tb'=some (.int .u8)∧P.cellsOf tb'=1
 hbs:P.underlying tbs=some (.slice tb')∧P.cellsOf tbs=1
 hr:P.underlying re=some (.struct #[r0,r1,r2])∧P.cellsOf re=3
 hr0:r0.type=tb'∧r0.offset=0
 hr1:r1.type=tb'∧r1.offset=1
 hr2:r2.type=tbs∧r2.offset=2
 hrs:P.underlying res=some (.slice re)∧P.cellsOf res=1
 hi:P.underlying im=some (.struct #[i0,i1])∧P.cellsOf im=2
 hi0:i0.type=res∧i0.offset=0
 hi1:i1.type=res∧i1.offset=1
 his:P.underlying ims=some (.slice im)∧P.cellsOf ims=1
 hc:P.underlying ce=some (.struct #[c0,c1])∧P.cellsOf ce=2
 hc0:c0.type=res∧c0.offset=0
 hc1:c1.type=ims∧c1.offset=1
 hcs:P.underlying ces=some (.slice ce)∧P.cellsOf ces=1
theorem KS.recs{tb':TypeId}(L:KS P tb'){c:Value}{n:Nat}{y:DataW H×List MemPlace}(h:DataW.trod enc P w 0 (fun _=>true) true n L.res [c]=some y):∃(s:Sl) (l:List Re),c=bz s∧(nU s l).p At w:=by
 refine uH dw dJ.r L.hrs.1 L.hr.2 (by decide) (fun n cs' y hy hl=>?_) h;have hs:=wg L.hr.1 hy
 match cs',hl with
 | [v0,v1,v2],_=>
  obtain⟨_,_,q0⟩:=hs 0 L.r0 rfl L.hr0.2 (by rw[L.hr0.1];exact L.hb.2) v0 rfl;obtain⟨_,_,q1⟩:=hs 1 L.r1 rfl L.hr1.2 (by rw[L.hr1.1];exact L.hb.2) v1 rfl;obtain⟨_,_,q2⟩:=hs 2 L.r2 rfl L.hr2.2 (by rw[L.hr2.1];exact L.hbs.2) v2 rfl;rw[L.hr0.1]at q0;rw[L.hr1.1]at q1;rw[L.hr2.1]at q2;obtain⟨a,rfl,wa⟩:=tu L.hb.1 q0;obtain⟨b,rfl,wb⟩:=tu L.hb.1 q1;obtain⟨s,bs,rfl,hf⟩:=Ie L.hbs.1 L.hb.1 L.hb.2 q2;exact⟨⟨s,⟨a,b,bs⟩⟩,rfl,DW wa,DW wb,hf⟩
theorem KS.items{tb':TypeId}(L:KS P tb'){c:Value}{n:Nat}{y:DataW H×List MemPlace}(h:DataW.trod enc P w 0 (fun _=>true) true n L.ims [c]=some y):∃(s:Sl) (l:List Im),c=bz s∧(uC s l).p At w:=by
 refine uH lI nd.x L.his.1 L.hi.2 (by decide) (fun n cs' y hy hl=>?_) h;have hs:=wg L.hi.1 hy
 match cs',hl with
 | [v0,v1],_=>
  obtain⟨_,_,q0⟩:=hs 0 L.i0 rfl L.hi0.2 (by rw[L.hi0.1];exact L.hrs.2) v0 rfl;obtain⟨_,_,q1⟩:=hs 1 L.i1 rfl L.hi1.2 (by rw[L.hi1.1];exact L.hrs.2) v1 rfl;rw[L.hi0.1]at q0;rw[L.hi1.1]at q1;obtain⟨f,lf,rfl,hf⟩:=L.recs q0;obtain⟨p,lp,rfl,hp⟩:=L.recs q1;exact⟨⟨f,p,⟨lf,lp⟩⟩,rfl,hf,hp⟩
theorem KS.cells{tb':TypeId}(L:KS P tb'){c:Value}{n:Nat}{y:DataW H×List MemPlace}(h:DataW.trod enc P w 0 (fun _=>true) true n L.ces [c]=some y):∃(s:Sl) (l:List Ce),c=bz s∧(pF s l).p At w:=by
 refine uH pH qi.x L.hcs.1 L.hc.2 (by decide) (fun n cs' y hy hl=>?_) h;have hs:=wg L.hc.1 hy
 match cs',hl with
 | [v0,v1],_=>
  obtain⟨_,_,q0⟩:=hs 0 L.c0 rfl L.hc0.2 (by rw[L.hc0.1];exact L.hrs.2) v0 rfl;obtain⟨_,_,q1⟩:=hs 1 L.c1 rfl L.hc1.2 (by rw[L.hc1.1];exact L.his.2) v1 rfl;rw[L.hc0.1]at q0;rw[L.hc1.1]at q1;obtain⟨f,lf,rfl,hf⟩:=L.recs q0;obtain⟨p,lp,rfl,hp⟩:=L.items q1;exact⟨⟨f,p,⟨lf,lp⟩⟩,rfl,hf,hp⟩
end
section
variable{T:Tb}{P:Program}{fin:VS→List aE→Prop}{c:fJ}{Γ:List aE}
theorem MR{α β:Type}(R:kU α)(num:α→β)(s:Sl){l:List β} [h:aY (LF R num s) l Γ]{k:Nat}{x:β}(hk:l[k]? =some x)(hm:dG c.k=false)(hz:0<R.z)
  (hc:∀b off e,s.ao=some ⟨b,off,none⟩→num e=x→W T P fin c (R.fact 0 e::RA (some ⟨b,off+k*R.z,none⟩) (R.cells e)::Γ)):W T P fin c Γ:=
 W.elim (α:=Nat×Nat×α) (fun q=>s.ao=some ⟨q.1,q.2.1,none⟩∧num q.2.2=x) (fun q=>[R.fact 0 q.2.2,RA (some ⟨q.1,q.2.1+k*R.z,none⟩) (R.cells q.2.2)]) hm (fun I w _ hh=>by
  obtain⟨es,rfl,h2,h3,h4,h5⟩:=h.p hh;rw[bN]at hk;obtain⟨e,he,hex⟩:∃e,es[k]? =some e∧num e=x:=by
   cases hq:es[k]? with
   |none=>rw[hq]at hk;simp at hk
   |some e=>rw[hq]at hk;exact⟨e,rfl,by simpa using hk⟩
  obtain⟨hlt,rfl⟩:=List.getElem?_eq_some_iff.1 he;obtain⟨b,off,ha,hI,hr⟩:=h5 (by
   intro e0;have:=qg R es;simp only at e0;rw[e0]at this;have h2:0<es.length*R.z:=iy (by omega) hz;simp at this;omega)
  refine⟨(b,off,es[k]),⟨ha,hex⟩,aG.cons (h4 _ (dW hlt)) (aU (fun _=>⟨b,off+k*R.z,rfl,hI,fun i v hv=>?_⟩))⟩;rw[ig];exact hr _ v (I9 R hlt i v hv)) (fun q hq=>hc q.1 q.2.1 q.2.2 hq.1 hq.2)
theorem W.len{α β:Type}(R:kU α)(num:α→β)(s:Sl){l:List β} [h:aY (LF R num s) l Γ](hm:dG c.k=false)(hc:s.n=l.length→s.n≤s.c→s.c≤9223372036854775807→W T P fin c Γ):W T P fin c Γ:=
 qz (s.n=l.length∧s.n≤s.c∧s.c≤9223372036854775807) hm (fun I w _ hh=>by
  obtain⟨es,_,h2,h3,_⟩:=h.p hh;exact⟨h2,h3.1,h3.2⟩) (fun hq=>hc hq.1 hq.2.1 hq.2.2)
end
section
variable{T:Tb}{P:Program}{fin:VS→List aE→Prop}{c:fJ}{Γ:List aE}
def Hf(e:Ev):Option (Option Addr×TypeId):=
 match e with
 | .read o c'=>match o.op with
  | .binOp .eql t x y _=>match c'.s.ev x,c'.s.ev y with
   | .val (.slice ao _ _),.val (.slice none _ _)=>some (ao,t)
   |_,_=>none
  |_=>none
 |_=>none
theorem MW(D:List Nat)(ao:Option Addr)(t el:TypeId)(ht:P.underlying t=some (.slice el))
  (hk:W T P fin (gp (aJ T (a_ T D 999 c)) (.bool ao.isNone)) Γ)(h:Hf (aJ T (a_ T D 999 c))=some (ao,t):=by kernel_rfl)(hg:P.eqGuardType P.depth t=false:=by kernel_rfl):W T P fin c Γ:=by
 refine eF D 999 ?_;generalize a_ T D 999 c=c1 at*;unfold Hf at h;split at h
 ·rename_i o c' he;rw[he]at hk;split at h
  ·rename_i ty u v yt hop;split at h
   ·rename_i ao' n1 c1' n2 c2' ha hb;simp only[aq,aI]at h;obtain⟨rfl,rfl⟩:=h;refine W.read _ he (.any ?_) hk;intro w;have hr:(Op.equal ty (.slice ao' n1 c1') (.slice none n2 c2')).run P w=.ok ao'.isNone w:=by
     unfold Op.equal;rw[show Op.maxDepth=(Op.maxDepth-1)+1 by decide];unfold Op.equalIn;simp only[cB,cP ht,bC];cases ao'<;>rfl
    have hgd:(eqGuard .eql ty u v (.slice ao' n1 c1') (.slice none n2 c2')).run P w=.ok () w:=by
     unfold eqGuard;simp[hg]
    have hb2:(binOp .eql ty (.slice ao' n1 c1') (.slice none n2 c2')).run P w=.ok (.bool ao'.isNone) w:=by
     show(do pure (.bool (←Op.equal ty (.slice ao' n1 c1') (.slice none n2 c2'))):Sem Value).run P w=_;simp only[cB,hr,bC,dS]
    simp only[execOp,hop,cE ha,cE hb,cB,hgd,bC,hb2,dS]
   ·simp at h
  ·simp at h
 ·simp at h
def jb(s:ByteArray):List Int:=s.data.toList.map fun b=>(b.toNat:Int)
theorem uE(s:ByteArray):(jb s).length=s.size:=by
 unfold jb;rw[bL,uB];rfl
theorem tt(s:ByteArray):ke (jb s):=fun z hz=>by
 obtain⟨b,_,rfl⟩:=List.mem_map.1 hz;have:=b.toNat_lt;omega
theorem Ni{b:List Int}(hb:ke b):jb (strOfNums b)=b:=by
 unfold jb;rw[strOfNums_data,List.map_map];refine(nI (fun z hz=>?_)).trans (List.map_id b);have:=hb z hz;simp only[Function.comp];rw[show(UInt8.ofNat z.toNat).toNat=z.toNat % 256 from rfl];simp only[id];omega
def KA(e:Ev):Option (TypeId×TypeId×ByteArray):=
 match e with
 | .ask o c'=>match o.op with
  | .convert src dst x=>match c'.s.ev x with
   | .val (.string s)=>some (src,dst,s)
   |_=>none
  |_=>none
 |_=>none
theorem Ao(D:List Nat)(src dst el:TypeId)(s:ByteArray)(hs:P.underlying src=some .string)(hd:P.underlying dst=some (.slice el))(he:P.underlying el=some (.int .u8))(hz:s.size≤9223372036854775807)
  (hk:∀b cap,s.size≤cap→W T P fin (gp (aJ T (a_ T D 999 c)) (.slice (some ⟨b,0,none⟩) s.size cap)) (BF ⟨some ⟨b,0,none⟩,s.size,cap⟩ (jb s)::Γ))(h:KA (aJ T (a_ T D 999 c))=some (src,dst,s):=by kernel_rfl):W T P fin c Γ:=by
 refine eF D 999 ?_;generalize a_ T D 999 c=c1 at*;unfold KA at h;split at h
 ·rename_i o c' hev;rw[hev]at hk;split at h
  ·rename_i sr ds x hop;split at h
   ·rename_i s' hx;simp only[aq,aI]at h;obtain⟨rfl,rfl,rfl⟩:=h;refine W.ask (fun v Δ=>∃b cap,s'.size≤cap∧v=.slice (some ⟨b,0,none⟩) s'.size cap∧Δ=[BF ⟨some ⟨b,0,none⟩,s'.size,cap⟩ (jb s')]) hev ?_ (fun v Δ ⟨b,cap,h1,h2,h3⟩=>by subst h2 h3;exact hk b cap h1);intro I w hdd hh;have hrun:=Lib.run_convert_string_bytes w sr ds el s' hs hd he;refine⟨.slice (some ⟨w.heap.size,0,none⟩) s'.size (grownCap w s'.size 0 el),_,Lib.bytesWorld w el s',?_,⟨w.heap.size,grownCap w s'.size 0 el,grownCap_ge _ _ _ _,rfl,rfl⟩,?_,?_⟩
    ·simp only[execOp,hop,cE hx,cB,hrun,bC,dS]
    ·exact⟨rfl,rfl,rfl,by rw[Lib.bytesWorld_size];omega,fun k hk=>Lib.bytesWorld_at_old w el s' k hk⟩
    ·refine aU ⟨(uE s').symm,⟨grownCap_ge _ _ _ _,grownCap_le_maxLen _ _ _ _ hz⟩,tt s',fun hne=>⟨w.heap.size,0,rfl,fun hlt=>absurd hlt (Nat.lt_irrefl _),fun i v hv=>?_⟩⟩;have hi:i<s'.size:=by
      have:=(List.getElem?_eq_some_iff.1 hv).1;rw[bL,uE]at this;exact this
     rw[cz,Lib.bytesWorld_cell w el s' i hi];rw[←hv];simp only[jb,List.map_map,bN,List.getD];have hi2:i<s'.data.toList.length:=by rw[uB];exact hi
     rw[ar hi2];rfl
   ·simp at h
  ·simp at h
 ·simp at h
end
theorem qH:∀(l:List UInt8) (c:UInt8),decide (Lib.indexByte l c≥0)=l.contains c
 | [],c=>rfl
 |b::l,c=>by
  rw[R4,List.contains_cons,←qH l c];have hge:=Lib.indexByte_ge l c;by_cases h:b==c
  ·have:=eq_of_beq h;subst this;simp
  ·have h2:(c==b)=false:=by
    rw[fB];rintro rfl;simp at h
   rw[if_neg h,h2,Bool.false_or];by_cases h1:Lib.indexByte l c= -1
   ·rw[h1];decide
   ·rw[if_neg (by simpa using h1)];simp only[ge_iff_le,rL];omega
section
variable{Γ:List aE}
set_option maxRecDepth 100000 in
theorem Qn(s:ByteArray)(k:Int)(w:World):Calls Tryz.prog 272 #[.string s,.int .u8 k] w fun e w'=>e=.returned (.int .i64 (Lib.indexByte s.data.toList k.toNat.toUInt8))∧w'=w:=by
 go_enter Tryz.func272,Tryz.ntmps272
 go_wp2
 rw[run_callFunc_extern Tryz.func276 (by kernel_rfl) (by kernel_rfl) (by kernel_rfl) (e:=Extern.BytealgIndexByte.indexByte) (by kernel_rfl),Lib.run_indexByteString];simp only[Result.andThen];rw[Oper.upon_value]
 go_wp2
 go_ret
 exact⟨rfl,rfl⟩
theorem Xo(s:ByteArray)(k:Int):au tb Tryz.prog 272 [.string s,.int .u8 k] Γ (js (.int .i64 (Lib.indexByte s.data.toList k.toNat.toUInt8))):=
 ⟨⟨_,Tryz.func272,by kernel_rfl,by kernel_rfl⟩,fun I w hd hh=>by
  refine(Qn s k w).mono ?_;rintro e w' ⟨rfl,rfl⟩;exact⟨_,_,rfl,⟨rfl,rfl⟩,Below.refl _ _,aG.nil _ _⟩⟩
theorem Kk(s:ByteArray)(k:Int):au tb Tryz.prog 264 [.string s,.int .u8 k] Γ (js (.int .i64 (Lib.indexByte s.data.toList k.toNat.toUInt8))):=by
 refine au.of_W aB Tryz.func264 rfl ?_;refine aj [] (Xo s k) ?_;rintro _ _ ⟨rfl,rfl⟩;exact W.r [] (.int .i64 (Lib.indexByte s.data.toList k.toNat.toUInt8)) ⟨rfl,rfl⟩ bU
set_option maxRecDepth 100000 in
theorem Nd(ao:Option Addr)(n c:Nat)(r:Int)(k:Int)(w:World)(hrun:(Extern.BytealgIndexByte.indexByte #[.slice ao n c,.int .u8 k]).run Tryz.prog w=.ok (.int .i64 r) w):Calls Tryz.prog 231 #[.slice ao n c,.int .u8 k] w fun e w'=>e=.returned (.int .i64 r)∧w'=w:=by
 go_enter Tryz.func231,Tryz.ntmps231
 go_wp2
 rw[run_callFunc_extern Tryz.func263 (by kernel_rfl) (by kernel_rfl) (by kernel_rfl) (e:=Extern.BytealgIndexByte.indexByte) (by kernel_rfl),hrun];simp only[Result.andThen];rw[Oper.upon_value]
 go_wp2
 go_ret
 exact⟨rfl,rfl⟩
theorem GU(bb off n c:Nat)(b:List Int)(k:Int) [h:aY (BF ⟨some ⟨bb,off,none⟩,n,c⟩) b Γ]:au tb Tryz.prog 231 [.slice (some ⟨bb,off,none⟩) n c,.int .u8 k] Γ (js (.int .i64 (Lib.indexByte (Lib.bytesOf b) k.toNat.toUInt8))):=
 ⟨⟨_,Tryz.func231,by kernel_rfl,by kernel_rfl⟩,fun I w hd hh=>by
  obtain⟨h1,h2,h3,h4⟩:=h.p hh;have hrun:=Lib.run_indexByteSlice (P:=Tryz.prog) (w:=w) bb off n c b h1.symm (fun i hi=>by
   have hb:i<b.length:=by have:=h1;simp only at this;omega
   obtain⟨b',off',ha,_,hr⟩:=h4 (by intro e;rw[List.map_eq_nil_iff]at e;rw[e]at hb;simp at hb);simp only[aq,Addr.mk.injEq]at ha;obtain⟨rfl,rfl,_⟩:=ha;refine hr i _ ?_;rw[bN,List.getD,ar hb];rfl) k
  refine(Nd _ n c _ k w hrun).mono ?_;rintro e w' ⟨rfl,rfl⟩;exact⟨_,_,rfl,⟨rfl,rfl⟩,Below.refl _ _,aG.nil _ _⟩⟩
end
section
variable{T:Tb}{P:Program}{fin:VS→List aE→Prop}{c:fJ}{Γ:List aE}
theorem eC{F:aE}{Δ:List aE}(h:∀(I:fZ) (w:World),bB T I w→aG Γ I w→F.p I w)(h':∀(I:fZ) (w:World),bB T I w→aG Γ I w→aG Δ I w):∀(I:fZ) (w:World),bB T I w→aG Γ I w→aG (F::Δ) I w:=fun I w hd hh=>aG.cons (h I w hd hh) (h' I w hd hh)
theorem eK{α:Type}{k:α→aE}{a:α} [h:aY k a Γ]:∀(I:fZ) (w:World),bB T I w→aG Γ I w→(k a).p I w:=fun I w _ hh=>h.p hh
theorem eE:∀(I:fZ) (w:World),bB T I w→aG Γ I w→aG [] I w:=fun I w _ _=>aG.nil _ _
theorem xT(s:Sl){b:List Int} [h:aY (BF s) b Γ](hc:s.n=b.length→s.n≤s.c∧s.c≤9223372036854775807→ke b→(b≠ []→∃bb off,s.ao=some ⟨bb,off,none⟩)→W T P fin c Γ)(hm:dG c.k=false:=by kernel_rfl):W T P fin c Γ:=
 qz (s.n=b.length∧(s.n≤s.c∧s.c≤9223372036854775807)∧ke b∧(b≠ []→∃bb off,s.ao=some ⟨bb,off,none⟩)) hm (fun I w _ hh=>by
  obtain⟨h1,h2,h3,h4⟩:=h.p hh;refine⟨h1,h2,h3,fun hne=>?_⟩;obtain⟨bb,off,ha,_⟩:=h4 (by simpa using hne);exact⟨bb,off,ha⟩) (fun hq=>hc hq.1 hq.2.1 hq.2.2.1 hq.2.2.2)
theorem Qb(s:Sl){b:List Int} [h:aY (BF s) b Γ](own:List (Nat×List Value))(hn:s.n=b.length)(ha:b≠ []→∃bb off,s.ao=some ⟨bb,off,none⟩):qS T Γ own (bz s) s.n 1 (b.map (Value.int .u8)):=
 ⟨s.ao,s.c,rfl,by simp[hn],fun hpos=>by
  obtain⟨bb,off,e⟩:=ha (by intro e;rw[e]at hn;simp at hn;omega);refine⟨⟨bb,off,none⟩,e,fun I w _ hh _ j u hu=>?_⟩;rw[gj];have:=(h.p hh).2.2.2;rw[e]at this;exact RA.cell this hu⟩
theorem K_{g n cap:Nat}{cur:List Value}{b:List Int}{I:fZ}{w:World}(h:(dY g cur).p I w)(hb:ke b)(hn:n=b.length)(hc:n≤cap∧cap≤maxLen)(ht:cur.take (n*1)=b.map (Value.int .u8)):(BF ⟨some ⟨g,0,none⟩,n,cap⟩ b).p I w:=
 ⟨hn,hc,hb,RA.of_row h (fun i v hv=>by
  rw[←ht,de]at hv;split at hv
  ·exact hv
  ·simp at hv)⟩
theorem qD(ao:Option Addr)(I:fZ)(w:World):(BF ⟨ao,0,0⟩ []).p I w:=⟨rfl,⟨ai _,aM _⟩,fun z hz=>absurd hz (by simp),RA.nil _ _ _⟩
end
section
variable{Γ:List aE}
theorem Kc(s:Sl){b:List Int} [h:aY (BF s) b Γ](hl:b.length≤1000000):
  au tb Tryz.prog 181 [bz s] Γ (fun v Δ=>∃u:Sl,v=bz u∧Δ=[BF u b]):=by
 refine au.of_W aB Tryz.func181 rfl ?_;refine xT s (hm:=rfl) (fun h1 h2 h3 h4=>?_);refine MW [] s.ao 28 5 Tryz.underlying28 ?_;refine W.d [] 4 s.ao.isNone (fun h0=>?_) (fun h0=>?_)
 ·have hb:b=[]:=Classical.byContradiction fun hne=>by
   obtain⟨bb,off,e⟩:=h4 hne;rw[e]at h0;simp at h0
  subst hb;exact W.r [4] (.slice none 0 0) ⟨⟨none,0,0⟩,rfl,rfl⟩ (fun I w _ _=>aU (qD _ _ _))
 ·refine TC [4] aB (fun b1=>?_);refine TB [] [] 1 1 s.n b1 0 (bz s) (b.map (Value.int .u8)) aB (by kernel_rfl) (Qb s [] h1 h4) (by omega) (by decide) (fun hz=>?_) (fun g cap cur hp hcap hml hlen htake=>?_)
  ·have hb:b=[]:=aL (by omega);subst hb;exact W.r [] (.slice (some ⟨b1,0,none⟩) 0 0) ⟨⟨some ⟨b1,0,none⟩,0,0⟩,rfl,rfl⟩ (fun I w _ _=>aU (qD _ _ _))
  ·refine DN [] [] g cur ?_;exact W.r [] (.slice (some ⟨g,0,none⟩) s.n cap) ⟨⟨some ⟨g,0,none⟩,s.n,cap⟩,rfl,rfl⟩ (fun I w _ hh=>aU (K_ (aY.p (k:=dY g) (a:=cur) inferInstance hh) h3 h1 ⟨hcap,hml⟩ htake))
def iS(b:List Int):ByteArray:=strOfNums (hZ b)
theorem mX(s:Sl){b:List Int} [h:aY (BF s) b Γ]:au tb Tryz.prog 39 [bz s] Γ (js (.string (iS b))):=by
 refine au.of_W aB Tryz.func39 rfl ?_;refine xT s (hm:=rfl) (fun h1 h2 h3 h4=>?_);by_cases hb:b=[]
 ·subst hb;have h0:s.n=0:=h1;refine W.more (Δ:=[RA s.ao (([]:List Int).map (Value.int .u8))]) rfl (fun I w _ _=>aU (RA.nil _ _ _)) ?_;refine aS [] 8 (decide ((s.n:Int)>0)) (by simp[h0]) ?_;refine MX [8,15] s.ao s.n s.c [] aB h1 ?_;exact W.r [] (.string (strOfNums [])) ⟨rfl,rfl⟩ bU
 ·obtain⟨bb,off,hao⟩:=h4 hb;have hpos:0<b.length:=List.length_pos_iff.2 hb;refine W.more (Δ:=[RA (some ⟨bb,off,none⟩) (b.map (Value.int .u8))]) rfl (fun I w _ hh=>aU (by rw[←hao];exact(h.p hh).2.2.2)) ?_;obtain⟨z,hz⟩:∃z,b[b.length-1]? =some z:=⟨_,ar (by omega)⟩;have hlast:b.getLast?=some z:=by rw[gi];exact hz
  obtain⟨sa,sn,sc⟩:=s;simp only at h1 h2 h4 hao;subst hao;refine bD [] 8 (decide ((sn:Int)>0)) (aw (by omega)) ?_;refine cA [8] 1 bb off sn sc .i64 (b.length-1) (IntKind.i64.wrap ((sn:Int)-1)) (by rw[ah];omega) aB (by omega) ?_;refine eg [8] 1 bb (off+(b.length-1)*1) (.int .u8 z) aB (fun I w _ hh=>?_) ?_
  ·rw[fL];exact RA.cell (aY.p (k:=RA (some ⟨bb,off,none⟩)) (a:=b.map (Value.int .u8)) inferInstance hh) (by rw[bN,hz];rfl)
  refine W.d [8] 15 (z==0) (fun h0=>?_) (fun h0=>?_)
  ·have h0:=eq_of_beq h0;subst h0;refine W.more (Δ:=[RA (some ⟨bb,off+0*1,none⟩) (b.dropLast.map (Value.int .u8))]) (by kernel_rfl) (fun I w _ hh=>aU (fun hne=>?_)) ?_
   ·obtain⟨b',off',ha,hI,hr⟩:=(aY.p (k:=RA (some ⟨bb,off,none⟩)) (a:=b.map (Value.int .u8)) inferInstance hh) (by simpa using hb);simp only[aq,Addr.mk.injEq]at ha;obtain⟨rfl,rfl,_⟩:=ha;refine⟨bb,off,by simp,hI,fun i v hv=>hr i v ?_⟩;rw[bN]at hv⊢;rw[List.dropLast_eq_take,de]at hv;split at hv
    ·exact hv
    ·simp at hv
   refine Cw [15] 1 bb off sn sc none (some (.int .i64 (IntKind.i64.wrap ((sn:Int)-1)))) 0 (b.length-1) aB (.inr ⟨rfl,rfl⟩) (.inl (by rw[ah];congr;omega)) (aM _) (by omega) (by omega) ?_;refine MX [] (some ⟨bb,off+0*1,none⟩) (b.length-1-0) (sc-0) b.dropLast aB (by simp) ?_;exact W.r [] (.string (strOfNums b.dropLast)) ⟨by rw[iS,hZ,if_pos hlast],rfl⟩ bU
  ·refine MX [15] (some ⟨bb,off,none⟩) sn sc b aB h1 ?_;exact W.r [] (.string (strOfNums b)) ⟨by rw[iS,hZ,if_neg (by rw[hlast];intro e;injection e with e;subst e;simp at h0)],rfl⟩ bU
end
def NL(s:Sl)(l:List Int):aE where
 p I w:=s.n=l.length∧(s.n≤s.c∧s.c≤maxLen)∧(RA s.ao (l.map (Value.int .i64))).p I w
 up:=by
  rintro I I' w w' ⟨h1,h2,h⟩ g1 g2 g3;exact⟨h1,h2,(RA s.ao _).up h g1 g2 g3⟩
def SU(a b:Int):Int:=if 256*a+b<32768 then 256*a+b else 256*a+b-65536
def SW(a b c d:Int):Int:=if 16777216*a+65536*b+256*c+d<2147483648 then 16777216*a+65536*b+256*c+d else 16777216*a+65536*b+256*c+d-4294967296
def dM:List Int→List Int
 |a::b::r=>SU a b::dM r
 |_=>[]
def e_:List Int→List Int
 |a::b::c::d::r=>SW a b c d::e_ r
 |_=>[]
theorem sk:∀l:List Int,(dM l).length=l.length/2
 | []=>by simp[dM]
 | [_]=>by simp[dM]
 |a::b::r=>by
  have:=sk r;simp only[dM,aF];omega
theorem q_:∀l:List Int,(e_ l).length=l.length/4
 | []=>by simp[e_]
 | [_]=>by simp[e_]
 | [_,_]=>by simp[e_]
 | [_,_,_]=>by simp[e_]
 |a::b::c::d::r=>by
  have:=q_ r;simp only[e_,aF];omega
theorem Dt:∀(l:List Int) (k:Nat) (a b:Int),l[2*k]? =some a→l[2*k+1]? =some b→(dM l)[k]? =some (SU a b)
 | [],k,a,b,h,_=>by simp at h
 | [x],k,a,b,_,h=>by
  have:=(List.getElem?_eq_some_iff.1 h).1;simp at this
  try omega
 |x::y::r,0,a,b,h1,h2=>by
  simp at h1 h2;subst h1 h2;rfl
 |x::y::r,k+1,a,b,h1,h2=>by
  simp only[dM,fI];exact Dt r k a b (by simpa [fA]using h1) (by simpa [fA]using h2)
theorem Gp:∀(l:List Int) (k:Nat) (a b c d:Int),l[4*k]? =some a→l[4*k+1]? =some b→l[4*k+2]? =some c→l[4*k+3]? =some d→(e_ l)[k]? =some (SW a b c d)
 | [],k,a,b,c,d,h,_,_,_=>by simp at h
 | [x],k,a,b,c,d,_,h,_,_=>by
  have:=(List.getElem?_eq_some_iff.1 h).1;simp at this
  try omega
 | [x,y],k,a,b,c,d,_,_,h,_=>by
  have:=(List.getElem?_eq_some_iff.1 h).1;simp at this
  try omega
 | [x,y,z],k,a,b,c,d,_,_,_,h=>by
  have:=(List.getElem?_eq_some_iff.1 h).1;simp at this
  try omega
 |x::y::z::u::r,0,a,b,c,d,h1,h2,h3,h4=>by
  simp at h1 h2 h3 h4;subst h1 h2 h3 h4;rfl
 |x::y::z::u::r,k+1,a,b,c,d,h1,h2,h3,h4=>by
  simp only[e_,fI];exact Gp r k a b c d (by simpa [fA]using h1) (by simpa [fA]using h2) (by simpa [fA]using h3) (by simpa [fA]using h4)
theorem DC(n:Int)(h₀:0≤n)(h₁:n<2^16):IntKind.u16.wrap n=n:=by rw[IntKind.wrap_u16];omega
theorem vc(n:Int)(h₀:0≤n)(h₁:n<2^32):IntKind.u32.wrap n=n:=by rw[ib];omega
theorem XA{a b:Int}(ha:y5 a)(hb:y5 b):IntKind.i64.wrap (IntKind.i16.wrap (Go.bits .or .u16 (256*a) (IntKind.u16.wrap b)))=SU a b:=by
 obtain⟨a0,a1⟩:=ha;obtain⟨b0,b1⟩:=hb;rw[DC b b0 (by omega),bits_join .u16 16 (by decide) DC 8 (256*a) b (by omega) (by simp) (by simp;omega) b0 (by simpa using b1) (by simp;omega)];unfold SU;rw[show ∀n:Int,IntKind.i16.wrap n=(n+32768) % 65536-32768 from fun n=>by simp[IntKind.wrap,IntKind.bits,IntKind.signed];omega,ah];split<;>omega
theorem XC{a b c d:Int}(ha:y5 a)(hb:y5 b)(hc:y5 c)(hd:y5 d):IntKind.i64.wrap (IntKind.i32.wrap (Go.bits .or .u32 (Go.bits .or .u32 (Go.bits .or .u32 (16777216*a) (65536*b)) (256*c)) (IntKind.u32.wrap d)))=SW a b c d:=by
 obtain⟨a0,a1⟩:=ha;obtain⟨b0,b1⟩:=hb;obtain⟨c0,c1⟩:=hc;obtain⟨d0,d1⟩:=hd;rw[vc d d0 (by omega)];rw[bits_join .u32 32 (by decide) vc 24 (16777216*a) (65536*b) (by omega) (by simp) (by simp;omega) (by omega) (by simp;omega) (by simp;omega)];rw[bits_join .u32 32 (by decide) vc 16 (16777216*a+65536*b) (256*c) (by omega) (by simp;omega) (by simp;omega) (by omega) (by simp;omega) (by simp;omega)];rw[bits_join .u32 32 (by decide) vc 8 (16777216*a+65536*b+256*c) d (by omega) (by simp;omega) (by simp;omega) (by omega) (by simp;omega) (by simp;omega)];unfold SW;rw[IntKind.wrap_i32,ah];split<;>omega
structure Tq where
 i:Nat
 z:Int
 v:Value
 O:List (Nat×List Value)
theorem Gd{l:List Int}:∀u∈l.map (Value.int .i64),u.oneCell'=true:=fun u hu=>by
 obtain⟨z,_,rfl⟩:=List.mem_map.1 hu;rfl
theorem JU(z:Int):∀u∈([.int .i64 z]:List Value),u.oneCell'=true:=fun u hu=>by
 simp only[aD,aC,bp]at hu;subst hu;rfl
theorem oZ{z n c:Nat}{O:List (Nat×List Value)}{ao:Option Addr}{xs:List Value}(hg:cG z O (.slice ao n c) n xs):c≤maxLen:=by
 rcases hg.2 with⟨e,_⟩|⟨g,cap,cur,e,_,_,hml,_⟩
 ·injection e with _ _ e3;rw[e3];exact aM _
 ·injection e with _ _ e3;rw[e3];exact hml
section
variable{T:Tb}{Γ:List aE}
theorem CD(bb off n c:Nat){b:List Int} [h:aY (BF ⟨some ⟨bb,off,none⟩,n,c⟩) b Γ]{i:Nat}{z:Int}(hz:b[i]? =some z):∀I w,bB T I w→aG Γ I w→w.cell? ⟨bb,off+i*1,none⟩=some (.int .u8 z):=fun I w _ hh=>by
 rw[fL];exact RA.cell (h.p hh).2.2.2 (by rw[bN,hz];rfl)
def xR(ok:Bool)(l:List Int)(v:Value)(Δ:List aE):Prop:=if ok then ∃u:Sl,v=.tuple #[bz u,.int .i64 0]∧Δ=[NL u l]else v=.tuple #[.slice none 0 0,.int .i64 3]∧Δ=[]
theorem PH(s:Sl){b:List Int} [h:aY (BF s) b Γ](hl:b.length≤1000000):au tb Tryz.prog 129 [bz s] Γ (xR (b.length % 2==0) (dM b)):=by
 refine au.of_W aB Tryz.func129 rfl ?_;refine xT s (hm:=rfl) (fun h1 h2 h3 h4=>?_);refine mD [] .i64 (s.n:Int) 2 ((b.length % 2:Nat):Int) (by decide) (by rw[h1,fK (by omega)];rfl) ?_;by_cases hev:b.length % 2=0
 rotate_left
 ·refine bD [] 9 (((b.length % 2:Nat):Int) != 0) (by simp;omega) ?_;exact W.r [9] (.tuple #[.slice none 0 0,.int .i64 3]) (by unfold xR;rw[if_neg (by simpa using hev)];exact⟨rfl,rfl⟩) bU
 have hok:(b.length % 2==0)=true:=by simpa using hev
 rw[hok];refine aS [] 9 (((b.length % 2:Nat):Int) != 0) (by simp;omega) ?_;have hln:=sk b;refine jZ [9] [4,5] (fun a:Tq=>[(4,a.v),(5,.int .i64 a.z)]) (fun _=>[]) (fun a=>a.O) (fun _=>[BF s b]) (fun a=>a.z=2*(a.i:Int)∧2*a.i≤b.length∧cG 1 a.O a.v a.i (((dM b).take a.i).map (Value.int .i64))) (fun a=>b.length-2*a.i) ⟨0,0,.slice none 0 0,[]⟩ ⟨rfl,aM _,cG.nil 1⟩ (eC eK eE) ?_;rintro⟨i,z,v,O⟩ K ⟨hz,hi,hg⟩ close;simp only at hz hi hg;by_cases hlt:2*i<b.length
 ·obtain⟨x,hx⟩:∃x,b[2*i]? =some x:=⟨_,ar hlt⟩;obtain⟨y,hy⟩:∃y,b[2*i+1]? =some y:=⟨_,ar (by omega)⟩;have hxb:y5 x:=h3 x (aO hx);have hyb:y5 y:=h3 y (aO hy);obtain⟨bb,off,hao⟩:=h4 (by rintro rfl;simp at hlt);obtain⟨sa,sn,sc⟩:=s;simp only at h1 h2 hao;subst hao;refine bD [] 13 (decide (z<(sn:Int))) (aw (by omega)) ?_;refine cA [13] 1 bb off sn sc .i64 (2*i) z (by omega) aB (by omega) ?_;refine eg [] 1 bb (off+2*i*1) (.int .u8 x) aB (CD bb off sn sc hx) ?_;refine W.shl [] .u16 .u64 (IntKind.u16.wrap x) 8 (256*x) (by decide) (by unfold y5 at hxb;rw[show(min (8:Int).toNat IntKind.u16.bits)=8 by decide,IntKind.wrap_u16,IntKind.wrap_u16];simp;omega) ?_;refine cA [] 1 bb off sn sc .i64 (2*i+1) (IntKind.i64.wrap (z+1)) (by rw[ah];omega) aB (by omega) ?_;refine eg [] 1 bb (off+(2*i+1)*1) (.int .u8 y) aB (CD bb off sn sc hy) ?_;refine cI [] 1 [.int .i64 (IntKind.i64.wrap (IntKind.i16.wrap (Go.bits .or .u16 (256*x) (IntKind.u16.wrap y))))] aB (fun B=>?_);refine W.app [] O [] O [] 1 8 i 1 v (.slice (some ⟨B,0,none⟩) 1 1) (((dM b).take i).map (Value.int .i64)) [.int .i64 (IntKind.i64.wrap (IntKind.i16.wrap (Go.bits .or .u16 (256*x) (IntKind.u16.wrap y))))] aB (by simp) hg (bW B O 1 1 rfl 1) (JU _) (by omega) (by decide) (fun v' O' hg'=>?_);refine close [] _ _ ⟨i+1,IntKind.i64.wrap (z+2),v',O'⟩ (by kernel_rfl) (by simp only[aA,af];kernel_rfl) ⟨by simp only[ah];omega,by simp only;omega,cG.cast ?_ rfl hg'⟩ (by simp only;omega) (eC eK eE)
  rw[XA hxb hyb,lG (Dt b i x y hx hy),aW];rfl
 ·refine aS [] 13 (decide (z<(s.n:Int))) (ak (by omega)) ?_;have hi2:i=(dM b).length:=by omega
  rw[aV (by omega)]at hg;refine lP (by simp only[aA,af];kernel_rfl) hg (fun ao c' hv hc'=>?_);subst hv;have hcm:c'≤maxLen:=oZ hg;refine W.r [13] (.tuple #[.slice ao i c',.int .i64 0]) (by unfold xR;rw[if_pos rfl];exact⟨⟨ao,i,c'⟩,rfl,rfl⟩) (fun I w _ hh=>aU (show(NL ⟨ao,i,c'⟩ (dM b)).p I w from⟨hi2,⟨hc',hcm⟩,aY.p (k:=RA ao) (a:=(dM b).map (Value.int .i64)) inferInstance hh⟩))
theorem Kf(s:Sl){b:List Int} [h:aY (BF s) b Γ](hl:b.length≤1000000):au tb Tryz.prog 126 [bz s] Γ (xR (b.length % 4==0) (e_ b)):=by
 refine au.of_W aB Tryz.func126 rfl ?_;refine xT s (hm:=rfl) (fun h1 h2 h3 h4=>?_);refine mD [] .i64 (s.n:Int) 4 ((b.length % 4:Nat):Int) (by decide) (by rw[h1,fK (by omega)];rfl) ?_;by_cases hev:b.length % 4=0
 rotate_left
 ·refine bD [] 9 (((b.length % 4:Nat):Int) != 0) (by simp;omega) ?_;exact W.r [9] (.tuple #[.slice none 0 0,.int .i64 3]) (by unfold xR;rw[if_neg (by simpa using hev)];exact⟨rfl,rfl⟩) bU
 have hok:(b.length % 4==0)=true:=by simpa using hev
 rw[hok];refine aS [] 9 (((b.length % 4:Nat):Int) != 0) (by simp;omega) ?_;have hln:=q_ b;refine jZ [9] [4,5] (fun a:Tq=>[(4,a.v),(5,.int .i64 a.z)]) (fun _=>[]) (fun a=>a.O) (fun _=>[BF s b]) (fun a=>a.z=4*(a.i:Int)∧4*a.i≤b.length∧cG 1 a.O a.v a.i (((e_ b).take a.i).map (Value.int .i64))) (fun a=>b.length-4*a.i) ⟨0,0,.slice none 0 0,[]⟩ ⟨rfl,aM _,cG.nil 1⟩ (eC eK eE) ?_;rintro⟨i,z,v,O⟩ K ⟨hz,hi,hg⟩ close;simp only at hz hi hg;by_cases hlt:4*i<b.length
 ·obtain⟨x,hx⟩:∃x,b[4*i]? =some x:=⟨_,ar hlt⟩;obtain⟨y,hy⟩:∃y,b[4*i+1]? =some y:=⟨_,ar (by omega)⟩;obtain⟨x2,hx2⟩:∃y,b[4*i+2]? =some y:=⟨_,ar (by omega)⟩;obtain⟨x3,hx3⟩:∃y,b[4*i+3]? =some y:=⟨_,ar (by omega)⟩;have hxb:y5 x:=h3 x (aO hx);have hyb:y5 y:=h3 y (aO hy);have hb2:y5 x2:=h3 x2 (aO hx2);have hb3:y5 x3:=h3 x3 (aO hx3);obtain⟨bb,off,hao⟩:=h4 (by rintro rfl;simp at hlt);obtain⟨sa,sn,sc⟩:=s;simp only at h1 h2 hao;subst hao;refine bD [] 13 (decide (z<(sn:Int))) (aw (by omega)) ?_;refine cA [13] 1 bb off sn sc .i64 (4*i) z (by omega) aB (by omega) ?_;refine eg [] 1 bb (off+4*i*1) (.int .u8 x) aB (CD bb off sn sc hx) ?_;refine W.shl [] .u32 .u64 (IntKind.u32.wrap x) 24 (16777216*x) (by decide) (by unfold y5 at hxb;rw[show(min (24:Int).toNat IntKind.u32.bits)=24 by decide,ib,ib];simp;omega) ?_;refine cA [] 1 bb off sn sc .i64 (4*i+1) (IntKind.i64.wrap (z+1)) (by rw[ah];omega) aB (by omega) ?_;refine eg [] 1 bb (off+(4*i+1)*1) (.int .u8 y) aB (CD bb off sn sc hy) ?_;refine W.shl [] .u32 .u64 (IntKind.u32.wrap y) 16 (65536*y) (by decide) (by unfold y5 at hyb;rw[show(min (16:Int).toNat IntKind.u32.bits)=16 by decide,ib,ib];simp;omega) ?_
  refine cA [] 1 bb off sn sc .i64 (4*i+2) (IntKind.i64.wrap (z+2)) (by rw[ah];omega) aB (by omega) ?_;refine eg [] 1 bb (off+(4*i+2)*1) (.int .u8 x2) aB (CD bb off sn sc hx2) ?_;refine W.shl [] .u32 .u64 (IntKind.u32.wrap x2) 8 (256*x2) (by decide) (by unfold y5 at hb2;rw[show(min (8:Int).toNat IntKind.u32.bits)=8 by decide,ib,ib];simp;omega) ?_;refine cA [] 1 bb off sn sc .i64 (4*i+3) (IntKind.i64.wrap (z+3)) (by rw[ah];omega) aB (by omega) ?_;refine eg [] 1 bb (off+(4*i+3)*1) (.int .u8 x3) aB (CD bb off sn sc hx3) ?_;refine cI [] 1 [.int .i64 (IntKind.i64.wrap (IntKind.i32.wrap (Go.bits .or .u32 (Go.bits .or .u32 (Go.bits .or .u32 (16777216*x) (65536*y)) (256*x2)) (IntKind.u32.wrap x3))))] aB (fun B=>?_);refine W.app [] O [] O [] 1 8 i 1 v (.slice (some ⟨B,0,none⟩) 1 1) (((e_ b).take i).map (Value.int .i64)) [.int .i64 (IntKind.i64.wrap (IntKind.i32.wrap (Go.bits .or .u32 (Go.bits .or .u32 (Go.bits .or .u32 (16777216*x) (65536*y)) (256*x2)) (IntKind.u32.wrap x3))))] aB (by simp) hg (bW B O 1 1 rfl 1) (JU _) (by omega) (by decide) (fun v' O' hg'=>?_);refine close [] _ _ ⟨i+1,IntKind.i64.wrap (z+4),v',O'⟩ (by kernel_rfl) (by simp only[aA,af];kernel_rfl) ⟨by simp only[ah];omega,by simp only;omega,cG.cast ?_ rfl hg'⟩ (by simp only;omega) (eC eK eE);rw[XC hxb hyb hb2 hb3,lG (Gp b i x y x2 x3 hx hy hx2 hx3),aW]
  rfl
 ·refine aS [] 13 (decide (z<(s.n:Int))) (ak (by omega)) ?_;have hi2:i=(e_ b).length:=by omega
  rw[aV (by omega)]at hg;refine lP (by simp only[aA,af];kernel_rfl) hg (fun ao c' hv hc'=>?_);subst hv;have hcm:c'≤maxLen:=oZ hg;refine W.r [13] (.tuple #[.slice ao i c',.int .i64 0]) (by unfold xR;rw[if_pos rfl];exact⟨⟨ao,i,c'⟩,rfl,rfl⟩) (fun I w _ hh=>aU (show(NL ⟨ao,i,c'⟩ (e_ b)).p I w from⟨hi2,⟨hc',hcm⟩,aY.p (k:=RA ao) (a:=(e_ b).map (Value.int .i64)) inferInstance hh⟩))
end
end Go.Proofs.YtgaaopjagcaojaaGreat
