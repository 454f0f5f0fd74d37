import Derived.Test.YtgaaopjagcaojaaGreatSu
import Derived.Test.YtgaaopjagcaojaaGreatVk
import Derived.Laws.BitsLemmas
import Derived.Laws.Bits64
import Derived.Test.YtgaaopjagcaojaaGreatLa
import Derived.Deep.Slices
import Derived.Lib.ConvBytes
import Derived.Lib.BytesEntry
import Derived.Laws.BytesArg
import Derived.Lib.EndianBits
import Derived.Test.YtgaaopjagcaojaaGreatOv
set_option linter.unusedSimpArgs false
set_option linter.unusedVariables false
set_option maxHeartbeats 1000000
namespace Go.Proofs.YtgaaopjagcaojaaGreat
open Go.RowKit Go.IntWalk
abbrev mH:=@Go.IntKind.wrap_u8
def Rc(k:Int):Rat:=(2:Rat)^k
theorem PT(k:Nat):Rc (k:Int)=(((2^k:Nat):Int):Rat):=by
 unfold Rc;rw[Rat.zpow_natCast];simp
theorem PU(k:Nat):Rc (-(k:Int))=Rat.divInt 1 ((2^k:Nat):Int):=by
 unfold Rc;rw[Rat.zpow_neg,Rat.zpow_natCast,je];simp[lC]
def be(l:List Int):Int:=l.foldl (fun m z=>256*m+z) 0
theorem yx(n:Int)(h₀:0≤n)(h₁:n<2^64):IntKind.u64.wrap n=n:=by
 rw[IntKind.wrap_u64];exact Int.emod_eq_of_lt h₀ (by simpa using h₁)
theorem Mh{x:Int}(h₀:0≤x)(h₁:x<256):Go.bits .and .u8 x 127=x % 128:=bits_mask .u8 8 (by decide) wraps_u8 7 (by decide) x h₀ h₁
theorem J5{m x:Int}(h0:0≤m)(h1:m<72057594037927936)(h2:0≤x)(h3:x<256):Go.bits .or .u64 (256*m) (IntKind.u64.wrap x)=256*m+x:=by
 rw[yx x h2 (by simp;omega)];exact bits_join .u64 64 (by decide) yx 8 (256*m) x (by omega) (by simp) (by simp;omega) h2 (by simpa using h3) (by simp;omega)
theorem rn{m x:Int}(h0:0≤m)(h1:m<281474976710656)(h2:0≤x)(h3:x<256):
  IntKind.u64.wrap (Go.bits .or .u64 (256*m) (IntKind.u64.wrap x)*2^(min (8:Int).toNat IntKind.u64.bits))=256*(256*m+x):=by
 rw[J5 h0 (by omega) h2 h3,show(min (8:Int).toNat IntKind.u64.bits)=8 by decide];rw[yx _ (by simp;omega) (by simp;omega)];simp;omega
def ou(zs:List Int):Rat:=if zs.length=8 then(if 127<zs.getD 0 0 then-1 else 1)*(be (zs.drop 1):Rat)*Rc (4*(zs.getD 0 0 % 128-78))else 0
def sT(zs:List Int):Int:=if zs.length=8 then 0 else 3
def kW(zs:List Int):Prop:=∀z∈zs,0≤z∧z<256
theorem Qv(n:Nat):(0:Int)<((2^n:Nat):Int):=Int.natCast_pos.2 (kr n)
section
variable{T:Tb}{Γ:List aD}
theorem Tc(b off:Nat){xs:List Value} [h:aW (RA (some ⟨b,off,none⟩)) xs Γ](k:Nat){v:Value}(hv:xs[k]? =some v):∀I w,br T I w→aG Γ I w→w.cell? ⟨b,off+k*1,none⟩=some v:=fun I w _ hh=>by
 rw[fK];exact RA.cell (h.p hh) hv
theorem UK(b off:Nat){xs:List Value} [h:aW (RA (some ⟨b,off,none⟩)) xs Γ](k:Nat){cs:List Value}(hv:∀(j:Nat) (v:Value),cs[j]? =some v→xs[k+j]? =some v):∀I w,br T I w→aG Γ I w→∀j v,cs[j]? =some v→w.cell? ⟨b,off+k*1+j,none⟩=some v:=fun I w _ hh j v hj=>by
 rw[fK,gU];exact RA.cell (h.p hh) (hv j v hj)
end
section
variable{Γ:List aD}{L M:Nat}
theorem Uj(s:Sl)(z:Int)(k:Nat)(hz:z=k){x:Nat} [ha:aW (NF s) (L,x) Γ](hk:k≤65536)(hL:L≤1000000000000:=by omega):
  aw tb Tryz.prog 246 [mv s,.int .i64 z] Γ (fun v Δ=>∃u:Sl,v=.tuple #[mv u,.int .i64 0]∧Δ=[NF u (L+k/32+1,x*2^k)]):=by
 subst hz;exact ZK s k hk hL
theorem Sz(z k:Int)(hz:z=k)(h1: -400≤k)(h2:k≤400):aw tb Tryz.prog 196 [.int .i64 z] Γ (s9 20 (Rc k)):=by
 subst hz;refine aw.of_W aB Tryz.func196 rfl ?_;refine W.d [] 10 (decide (z<0)) (fun hb=>?_) (fun hb=>?_)
 ·have hk:=jf hb;refine aq [10] (CZ 1 1 rfl (by decide)) ?_;rintro _ _ ⟨u1,rfl,rfl⟩;refine aq [] (Uj u1 ((IntKind.i64.wrap (0-z))) (-z).toNat (by rw[af];omega) (by omega)) ?_;rintro _ _ ⟨u2,rfl,rfl⟩;refine aq [] (cU 1 (by omega) (by omega)) ?_;rintro _ _ ⟨u3,d3,rfl,rfl⟩;refine aq [] (vY u2) ?_;rintro _ _ ⟨u4,d4,rfl,rfl⟩;refine aq [] (zD u3 d3 u4 d4 (by have:=kr (-z).toNat;omega)) ?_;rintro _ _ ⟨n5,a5,m5,b5,rfl,rfl⟩;refine W.r [] (qv n5 a5 m5 b5) ⟨n5,a5,m5,b5,rfl,rfl⟩ (kg (by omega) ?_);have:=PU (-z).toNat;rw[show(-(((-z).toNat:Nat):Int))=z by omega]at this;rw[this,iQ]
 ·have hk:=eJ hb;refine aq [10] (CZ 1 1 rfl (by decide)) ?_;rintro _ _ ⟨u6,rfl,rfl⟩;refine aq [] (Uj u6 z z.toNat (by omega) (by omega)) ?_;rintro _ _ ⟨u7,rfl,rfl⟩;refine aq [] (vY u7) ?_;rintro _ _ ⟨u8,d8,rfl,rfl⟩;refine aq [] (cr u8 d8) ?_;rintro _ _ ⟨n9,a9,m9,b9,rfl,rfl⟩;refine W.r [] (qv n9 a9 m9 b9) ⟨n9,a9,m9,b9,rfl,rfl⟩ (kg (by omega) ?_);have:=PT z.toNat;rw[show((z.toNat:Nat):Int)=z by omega]at this;rw[this,iQ]
theorem tT(ao:Option Addr)(n c:Nat)(zs:List Int) [h:aW (RA ao) (zs.map (Value.int .u8)) Γ](hn:n=zs.length)(hz:kW zs)(hc:n≤c):
  aw tb Tryz.prog 132 [.slice ao n c] Γ (fun v Δ=>∃(n:Sl) (nb:Bool) (d:Sl) (db:Bool),v=.tuple #[qv n nb d db,.int .i64 (sT zs)]∧Δ=[QF n nb d db (50,ou zs)]):=by
 refine aw.of_W aB Tryz.func132 rfl ?_;by_cases h8:zs.length=8
 ·obtain⟨z0,z1,z2,z3,z4,z5,z6,z7,rfl⟩:∃z0 z1 z2 z3 z4 z5 z6 z7,zs=[z0,z1,z2,z3,z4,z5,z6,z7]:=by
   match zs,h8 with
   | [z0,z1,z2,z3,z4,z5,z6,z7],_=>exact⟨_,_,_,_,_,_,_,_,rfl⟩
  subst hn;refine HH ao rfl (by simp) (fun ba of e=>?_);subst e;simp only[aC,a_,bQ,Nat.reduceAdd]at*;have b0:=hz z0 (by simp);have b1:=hz z1 (by simp);have b2:=hz z2 (by simp);have b3:=hz z3 (by simp);have b4:=hz z4 (by simp);have b5:=hz z5 (by simp);have b6:=hz z6 (by simp);have b7:=hz z7 (by simp);obtain⟨m1,e1⟩:∃m:Int,m=256*0+z1:=⟨_,rfl⟩;have c1:0≤m1∧m1<256:=by omega
  obtain⟨m2,e2⟩:∃m:Int,m=256*m1+z2:=⟨_,rfl⟩;have c2:0≤m2∧m2<65536:=by omega
  obtain⟨m3,e3⟩:∃m:Int,m=256*m2+z3:=⟨_,rfl⟩;have c3:0≤m3∧m3<16777216:=by omega
  obtain⟨m4,e4⟩:∃m:Int,m=256*m3+z4:=⟨_,rfl⟩;have c4:0≤m4∧m4<4294967296:=by omega
  obtain⟨m5,e5⟩:∃m:Int,m=256*m4+z5:=⟨_,rfl⟩;have c5:0≤m5∧m5<1099511627776:=by omega
  obtain⟨m6,e6⟩:∃m:Int,m=256*m5+z6:=⟨_,rfl⟩;have c6:0≤m6∧m6<281474976710656:=by omega
  obtain⟨m7,e7⟩:∃m:Int,m=256*m6+z7:=⟨_,rfl⟩;have c7:0≤m7∧m7<72057594037927936:=by omega
  have hbe:be ([z0,z1,z2,z3,z4,z5,z6,z7].drop 1)=m7:=by
   simp only[be,List.drop_succ_cons,gX,oM,List.foldl_nil];rw[e7,e6,e5,e4,e3,e2,e1]
  refine Ch [10] 1 ba of 8 c (some (.int .i64 ((1:Nat):Int))) none 1 8 aB (.inl rfl) (.inr ⟨rfl,rfl⟩) (by decide) (by omega) (by omega) ?_;refine Yb [] 7 (some ⟨ba,of+1*1,none⟩) (8-1) (c-1) aB (by decide) ?_;refine cV [] ba (of+1*1) [.int .u8 z1,.int .u8 z2,.int .u8 z3,.int .u8 z4,.int .u8 z5,.int .u8 z6,.int .u8 z7] aB (UK ba of 1 (fun j v hv=>by rw[Nat.add_comm];exact hv)) ?_;refine j2 [] 8 ?_;refine W.shl [17] .u64 .u64 0 8 (256*0) (by decide) (by decide) ?_;refine W.shl [17] .u64 .u64 (Go.bits .or .u64 (256*0) (IntKind.u64.wrap z1)) 8 (256*m1) (by decide) (by rw[rn (by omega) (by omega) b1.1 b1.2,e1]) ?_;refine W.shl [17] .u64 .u64 (Go.bits .or .u64 (256*m1) (IntKind.u64.wrap z2)) 8 (256*m2) (by decide) (by rw[rn (by omega) (by omega) b2.1 b2.2,e2]) ?_;refine W.shl [17] .u64 .u64 (Go.bits .or .u64 (256*m2) (IntKind.u64.wrap z3)) 8 (256*m3) (by decide) (by rw[rn (by omega) (by omega) b3.1 b3.2,e3]) ?_;refine W.shl [17] .u64 .u64 (Go.bits .or .u64 (256*m3) (IntKind.u64.wrap z4)) 8 (256*m4) (by decide) (by rw[rn (by omega) (by omega) b4.1 b4.2,e4]) ?_;refine W.shl [17] .u64 .u64 (Go.bits .or .u64 (256*m4) (IntKind.u64.wrap z5)) 8 (256*m5) (by decide) (by rw[rn (by omega) (by omega) b5.1 b5.2,e5]) ?_;refine W.shl [17] .u64 .u64 (Go.bits .or .u64 (256*m5) (IntKind.u64.wrap z6)) 8 (256*m6) (by decide) (by rw[rn (by omega) (by omega) b6.1 b6.2,e6]) ?_;refine bW [17] 1 ba of 8 c .i64 0 0 rfl aB (by decide) ?_
  refine dJ [] 1 ba (of+0*1) (.int .u8 z0) aB (Tc ba of 0 rfl) ?_;refine aq [] (CZ (Go.bits .or .u64 (256*m6) (IntKind.u64.wrap z7)) m7.toNat (by rw[J5 (by omega) (by omega) b7.1 b7.2];omega) (by omega)) ?_;rintro _ _ ⟨u13,rfl,rfl⟩;refine aq [] (vY u13) ?_;rintro _ _ ⟨u14,d14,rfl,rfl⟩;refine aq [] (cr u14 d14) ?_;rintro _ _ ⟨n15,a15,m15,b15,rfl,rfl⟩;refine aq [] (Sz (IntKind.i64.wrap (4*IntKind.i64.wrap (IntKind.i64.wrap (Go.bits .and .u8 z0 127)-78))) (4*(z0 % 128-78)) (by rw[Mh b0.1 b0.2];simp only[af];omega) (by omega) (by omega)) ?_;rintro _ _ ⟨n16,a16,m16,b16,rfl,rfl⟩;refine aq [] (bU n15 a15 m15 b15 n16 a16 m16 b16) ?_;rintro _ _ ⟨n17,a17,m17,b17,rfl,rfl⟩;refine bW [] 1 ba of 8 c .i64 0 0 rfl aB (by decide) ?_;refine dJ [] 1 ba (of+0*1) (.int .u8 z0) aB (Tc ba of 0 rfl) ?_;have hm7:((m7.toNat:Nat):Int)=m7:=by omega
  refine W.d [] 41 (decide (z0>127)) (fun hb=>?_) (fun hb=>?_)
  ·have hk:=jf hb;refine aq [41] (pG n17 a17 m17 b17) ?_;rintro _ _ ⟨n20,a20,m20,b20,rfl,rfl⟩;refine W.r [] (.tuple #[qv n20 a20 m20 b20,.int .i64 0]) ⟨n20,a20,m20,b20,rfl,rfl⟩ (kg (by omega) ?_);unfold ou;rw[if_pos (show([z0,z1,z2,z3,z4,z5,z6,z7]:List Int).length=8 from rfl),hbe,hm7];show-((m7:Rat)*_)=(if 127<z0 then(-1:Rat)else 1)*_*Rc (4*(z0 % 128-78));rw[if_pos hk];grind
  ·have hk:=eJ hb;refine W.r [41] (.tuple #[qv n17 a17 m17 b17,.int .i64 0]) ⟨n17,a17,m17,b17,rfl,rfl⟩ (kg (by omega) ?_);unfold ou;rw[if_pos (show([z0,z1,z2,z3,z4,z5,z6,z7]:List Int).length=8 from rfl),hbe,hm7];show(m7:Rat)*_=(if 127<z0 then(-1:Rat)else 1)*_*Rc (4*(z0 % 128-78));rw[if_neg (by omega)];grind
 ·have hd:ou zs=0:=by unfold ou;rw[if_neg h8]
  refine bj [] 10 (((n:Nat):Int) != 8) (by simp;omega) ?_;refine W.r [10] (.tuple #[qv ⟨none,0,0⟩ false ⟨none,0,0⟩ false,.int .i64 3]) ⟨_,_,_,_,by rw[sT,if_neg h8],rfl⟩ (by rw[hd];exact ln)
end
open Go.RowKit Go.ChangeShapes Go.WideShapes
abbrev aZ(s:Sl):Value:=.slice s.ao s.n s.c
def LF{α β:Type}(R:kG α)(num:α→β)(s:Sl)(l:List β):aD where
 p I w:=∃es:List α,es.map num=l∧s.n=l.length∧(s.n≤s.c∧s.c≤maxLen)∧(OL R s.ao (0,es)).p I w
 up:=by
  rintro I I' w w' ⟨es,h1,h2,h3,h⟩ g1 g2 g3;exact⟨es,h1,h2,h3,(OL R s.ao (0,es)).up h g1 g2 g3⟩
def BF(s:Sl)(b:List Int):aD where
 p I w:=s.n=b.length∧(s.n≤s.c∧s.c≤maxLen)∧kW b∧(RA s.ao (b.map (Value.int .u8))).p I w
 up:=by
  rintro I I' w w' ⟨h1,h2,h3,h⟩ g1 g2 g3;exact⟨h1,h2,h3,(RA s.ao _).up h g1 g2 g3⟩
def yP(k:Int):Prop:=0≤k∧k<256
def xG(s:Sl)(r:Re):aD where
 p I w:=yP r.k∧yP r.d∧(BF s r.b).p I w
 up:=by
  rintro I I' w w' ⟨h1,h2,h⟩ g1 g2 g3;exact⟨h1,h2,(BF s r.b).up h g1 g2 g3⟩
abbrev rev(r:Re)(s:Sl):Value:=.agg #[.int .u8 r.k,.int .u8 r.d,aZ s]
structure dC where
 s:Sl
 r:Re
def dd:kG dC where
 z:=3
 cells e:=[.int .u8 e.r.k,.int .u8 e.r.d,aZ e.s]
 len _:=rfl
 fact _ e:=xG e.s e.r
abbrev la:Sl→List Re→aD:=LF dd dC.r
def mI(f p:Sl)(x:Im):aD where
 p I w:=(la f x.f).p I w∧(la p x.p).p I w
 up:=by
  rintro I I' w w' ⟨h1,h2⟩ g1 g2 g3;exact⟨(la f x.f).up h1 g1 g2 g3,(la p x.p).up h2 g1 g2 g3⟩
abbrev lY(f p:Sl):Value:=.agg #[aZ f,aZ p]
structure mN where
 f:Sl
 p:Sl
 x:Im
def lZ:kG mN where
 z:=2
 cells e:=[aZ e.f,aZ e.p]
 len _:=rfl
 fact _ e:=mI e.f e.p e.x
abbrev pS:Sl→List Im→aD:=LF lZ mN.x
def yz(h i:Sl)(x:Ce):aD where
 p I w:=(la h x.h).p I w∧(pS i x.i).p I w
 up:=by
  rintro I I' w w' ⟨h1,h2⟩ g1 g2 g3;exact⟨(la h x.h).up h1 g1 g2 g3,(pS i x.i).up h2 g1 g2 g3⟩
structure lj where
 h:Sl
 i:Sl
 x:Ce
def g8:kG lj where
 z:=2
 cells e:=[aZ e.h,aZ e.i]
 len _:=rfl
 fact _ e:=yz e.h e.i e.x
abbrev lH:Sl→List Ce→aD:=LF g8 lj.x
def yA(h c:Sl)(t:Li):aD where
 p I w:=(la h t.h).p I w∧(lH c t.c).p I w
 up:=by
  rintro I I' w w' ⟨h1,h2⟩ g1 g2 g3;exact⟨(la h t.h).up h1 g1 g2 g3,(lH c t.c).up h2 g1 g2 g3⟩
section
variable{H:Type}{enc:TypeId×Value→H}{P:Program}{w:World}
abbrev vp:fQ:=fun _=>True
theorem uD{α β:Type}(R:kG α)(num:α→β){t e:TypeId}(ht:P.underlying t=some (.slice e))(hce:P.cellsOf e=R.z)(hz:0<R.z)
  (hel:∀n cs' y,DataW.trod enc P w 0 (fun _=>true) true n e cs'=some y→cs'.length=R.z→∃q:α,R.cells q=cs'∧(R.fact 0 q).p vp w){c:Value}{n:Nat}{y:DataW H×List MemPlace}(h:DataW.trod enc P w 0 (fun _=>true) true n t [c]=some y):
  ∃(s:Sl) (l:List β),c=aZ s∧(LF R num s l).p vp w:=by
 rcases Go.Deep.open_slice ht h with⟨hcs,_⟩|⟨a,len,cap,m,n',D,Pl,hcs,_,hl,hml,hm,_,hx⟩
 ·simp at hcs;subst hcs;exact⟨⟨none,0,0⟩,[],rfl,[],rfl,rfl,⟨ak _,aJ _⟩,fun e he=>absurd he (by simp),RA.nil _ _ _⟩
 ·simp at hcs;subst hcs;simp only[e8]at hm;subst hm;have each:∀i,i<m→∃q:α,(R.fact 0 q).p vp w∧∀j v,(R.cells q)[j]? =some v→w.cell? (a.add (i*R.z+j))=some v:=by
   intro i hi';obtain⟨cs',g1,g2⟩:=hx i hi';rw[hce]at g1;obtain⟨_,hlen,hcell⟩:=World.cells?_some g1;obtain⟨q,hq,hf⟩:=hel _ _ _ g2 hlen;refine⟨q,hf,fun j v hv=>?_⟩;rw[hq]at hv;have hj:j<R.z:=by rw[←hlen];exact(List.getElem?_eq_some_iff.1 hv).1
   have e0:=hcell j hj;rw[Go.Deep.add_add]at e0;rw[e0];exact hv
  rcases Nat.eq_zero_or_pos len with h0|hpos0
  ·subst h0;exact⟨⟨some a,0,m⟩,[],rfl,[],rfl,rfl,⟨aJ _,hml⟩,fun e he=>absurd he (by simp),RA.nil _ _ _⟩
  have:Inhabited α:=⟨(each 0 (by omega)).choose⟩;obtain⟨q,hq⟩:=Go.Deep.choose_lt each;have hlen:(((List.range len).map q).flatMap R.cells).length=len*R.z:=by
   rw[qy R];simp
  refine⟨⟨some a,len,m⟩,((List.range len).map q).map num,rfl,(List.range len).map q,rfl,by simp,⟨hl,hml⟩,fun x hx'=>?_,fun hne=>?_⟩
  ·obtain⟨i,hir,rfl⟩:=List.mem_map.1 hx';exact(hq i (by have:=List.mem_range.1 hir;omega)).1
  ·have hpos:0<len:=by
    rcases Nat.eq_zero_or_pos len with h|h
    ·subst h;simp at hne
    ·exact h
   have hq0:0<(R.cells (q 0)).length:=by rw[R.len];exact hz
   have hc0:=(hq 0 (by omega)).2 0 _ (ai hq0);obtain⟨b,off,sp⟩:=a;have hsp:sp=none:=by
    simp only[Addr.add,nC,ff,e8]at hc0;unfold World.cell? at hc0;split at hc0
    ·cases sp with
     |none=>rfl
     |some x=>simp at hc0
    ·simp at hc0
   subst hsp;refine⟨b,off,rfl,trivial,fun k v hv=>?_⟩;have hk:k<len*R.z:=by
    have:=(List.getElem?_eq_some_iff.1 hv).1;simp only at this;omega
   have hi2:k/R.z<len:=Nat.div_lt_of_lt_mul (by rw[fg];exact hk);have hil:k/R.z<((List.range len).map q).length:=by simpa using hi2
   have hqe:((List.range len).map q)[k/R.z]'hil=q (k/R.z):=by simp
   have hj5:k % R.z<(R.cells (q (k/R.z))).length:=by rw[R.len];exact fB _ hz
   have hv2:=EF R hil (k % R.z) ((R.cells (q (k/R.z)))[k % R.z]'hj5) (by rw[hqe];exact ai hj5);have hke:k/R.z*R.z+k % R.z=k:=Nat.div_add_mod' k R.z;rw[hke,hv]at hv2;injection hv2 with hv2;have:=(hq (k/R.z) (by omega)).2 (k % R.z) _ (ai hj5);rw[gP,hke]at this;rw[hv2,←this]
theorem FH:∀es:List Int,es.flatMap (fun z=>[(Value.int .u8 z:Value)])=es.map (Value.int .u8)
 | []=>rfl
 |z::r=>by rw[bz,FH r];rfl
theorem DK{z:Int}(hw:(Lit.int .u8 z).wf=true):0≤z∧z<256:=by
 have h:IntKind.u8.min≤z∧z≤IntKind.u8.max:=by simpa [Lit.wf]using hw
 have h1:IntKind.u8.min=0:=by decide
 have h2:IntKind.u8.max=255:=by decide
 omega
theorem H0{t e:TypeId}(ht:P.underlying t=some (.slice e))(he:P.underlying e=some (.int .u8))(hce:P.cellsOf e=1){c:Value}{n:Nat}{y:DataW H×List MemPlace}(h:DataW.trod enc P w 0 (fun _=>true) true n t [c]=some y):
  ∃(s:Sl) (b:List Int),c=aZ s∧(BF s b).p vp w:=by
 let R:kG Int:=⟨1,fun z=>[.int .u8 z],fun _=>rfl,fun _ z=>⟨fun _ _=>0≤z∧z<256,fun h _ _ _=>h⟩⟩
 obtain⟨s,l,rfl,es,h1,h2,h3,h4,h5⟩:=uD R id ht hce (Nat.lt_succ_self 0) (fun n cs' y hy hl=>by
  match cs',hl with
  | [v],_=>
   obtain⟨z,rfl,hw⟩:=Ak he hy;refine⟨z,rfl,?_⟩;show 0≤z∧z<256;exact DK hw) h
 rw[List.map_id]at h1;subst h1;refine⟨s,es,rfl,h2,h3,fun z hz=>h4 z hz,?_⟩;have e:es.flatMap R.cells=es.map (Value.int .u8):=by
  show es.flatMap (fun z=>[(Value.int .u8 z:Value)])=_;exact FH es
 simp only at h5;rw[e]at h5;exact h5
theorem we{t:TypeId}{fs:Array Field}{n:Nat}{cs:List Value}{y:DataW H×List MemPlace}(ht:P.underlying t=some (.struct fs))(h:DataW.trod enc P w 0 (fun _=>true) true n t cs=some y):
  ∀(i:Nat) (f:Field),fs[i]? =some f→f.offset=i→P.cellsOf f.type=1→∀c,cs[i]? =some c→∃n y,DataW.trod enc P w 0 (fun _=>true) true n f.type [c]=some y:=by
 obtain⟨xs,n',_,hx,hl,hlen,hff⟩:=DataW.trod_struct ht h;intro i f hi ho hc c hcs;have hix:i<xs.length:=by
  have:=(Array.getElem?_eq_some_iff.1 hi).1;omega
 have:=hff i f hi;rw[ho,hc]at this;refine⟨n',xs[i],?_⟩;have e:(cs.drop i).take 1=[c]:=by
  obtain⟨hlt,rfl⟩:=List.getElem?_eq_some_iff.1 hcs;rw[bC hlt];rfl
 rw[e]at this;rw[this,ai hix]
structure zV(P:Program)(tb':TypeId) where
 tbs:TypeId
 re:TypeId
 res:TypeId
 im:TypeId
 ims:TypeId
 ce:TypeId
 ces:TypeId
 r0:Field
 r1:Field
 r2:Field
 i0:Field
 i1:Field
 c0:Field
 c1:Field
 hb:P.underlying tb'=some (.int .u8)∧P.cellsOf tb'=1
 hbs:P.underlying tbs=some (.slice tb')∧P.cellsOf tbs=1
 hr:P.underlying re=some (.struct #[r0,r1,r2])∧P.cellsOf re=3
 hr0:r0.type=tb'∧r0.offset=0
 hr1:r1.type=tb'∧r1.offset=1
 hr2:r2.type=tbs∧r2.offset=2
 hrs:P.underlying res=some (.slice re)∧P.cellsOf res=1
 hi:P.underlying im=some (.struct #[i0,i1])∧P.cellsOf im=2
 hi0:i0.type=res∧i0.offset=0
 hi1:i1.type=res∧i1.offset=1
 his:P.underlying ims=some (.slice im)∧P.cellsOf ims=1
 hc:P.underlying ce=some (.struct #[c0,c1])∧P.cellsOf ce=2
 hc0:c0.type=res∧c0.offset=0
 hc1:c1.type=ims∧c1.offset=1
 hcs:P.underlying ces=some (.slice ce)∧P.cellsOf ces=1
theorem zV.recs{tb':TypeId}(L:zV P tb'){c:Value}{n:Nat}{y:DataW H×List MemPlace}(h:DataW.trod enc P w 0 (fun _=>true) true n L.res [c]=some y):∃(s:Sl) (l:List Re),c=aZ s∧(la s l).p vp w:=by
 refine uD dd dC.r L.hrs.1 L.hr.2 (by decide) (fun n cs' y hy hl=>?_) h;have hs:=we L.hr.1 hy
 match cs',hl with
 | [v0,v1,v2],_=>
  obtain⟨_,_,q0⟩:=hs 0 L.r0 rfl L.hr0.2 (by rw[L.hr0.1];exact L.hb.2) v0 rfl;obtain⟨_,_,q1⟩:=hs 1 L.r1 rfl L.hr1.2 (by rw[L.hr1.1];exact L.hb.2) v1 rfl;obtain⟨_,_,q2⟩:=hs 2 L.r2 rfl L.hr2.2 (by rw[L.hr2.1];exact L.hbs.2) v2 rfl;rw[L.hr0.1]at q0;rw[L.hr1.1]at q1;rw[L.hr2.1]at q2;obtain⟨a,rfl,wa⟩:=Ak L.hb.1 q0;obtain⟨b,rfl,wb⟩:=Ak L.hb.1 q1;obtain⟨s,bs,rfl,hf⟩:=H0 L.hbs.1 L.hb.1 L.hb.2 q2;exact⟨⟨s,⟨a,b,bs⟩⟩,rfl,DK wa,DK wb,hf⟩
theorem zV.items{tb':TypeId}(L:zV P tb'){c:Value}{n:Nat}{y:DataW H×List MemPlace}(h:DataW.trod enc P w 0 (fun _=>true) true n L.ims [c]=some y):∃(s:Sl) (l:List Im),c=aZ s∧(pS s l).p vp w:=by
 refine uD lZ mN.x L.his.1 L.hi.2 (by decide) (fun n cs' y hy hl=>?_) h;have hs:=we L.hi.1 hy
 match cs',hl with
 | [v0,v1],_=>
  obtain⟨_,_,q0⟩:=hs 0 L.i0 rfl L.hi0.2 (by rw[L.hi0.1];exact L.hrs.2) v0 rfl;obtain⟨_,_,q1⟩:=hs 1 L.i1 rfl L.hi1.2 (by rw[L.hi1.1];exact L.hrs.2) v1 rfl;rw[L.hi0.1]at q0;rw[L.hi1.1]at q1;obtain⟨f,lf,rfl,hf⟩:=L.recs q0;obtain⟨p,lp,rfl,hp⟩:=L.recs q1;exact⟨⟨f,p,⟨lf,lp⟩⟩,rfl,hf,hp⟩
theorem zV.cells{tb':TypeId}(L:zV P tb'){c:Value}{n:Nat}{y:DataW H×List MemPlace}(h:DataW.trod enc P w 0 (fun _=>true) true n L.ces [c]=some y):∃(s:Sl) (l:List Ce),c=aZ s∧(lH s l).p vp w:=by
 refine uD g8 lj.x L.hcs.1 L.hc.2 (by decide) (fun n cs' y hy hl=>?_) h;have hs:=we L.hc.1 hy
 match cs',hl with
 | [v0,v1],_=>
  obtain⟨_,_,q0⟩:=hs 0 L.c0 rfl L.hc0.2 (by rw[L.hc0.1];exact L.hrs.2) v0 rfl;obtain⟨_,_,q1⟩:=hs 1 L.c1 rfl L.hc1.2 (by rw[L.hc1.1];exact L.his.2) v1 rfl;rw[L.hc0.1]at q0;rw[L.hc1.1]at q1;obtain⟨f,lf,rfl,hf⟩:=L.recs q0;obtain⟨p,lp,rfl,hp⟩:=L.items q1;exact⟨⟨f,p,⟨lf,lp⟩⟩,rfl,hf,hp⟩
theorem OY{tb' t:TypeId}{f0 f1:Field}(L:zV P tb')(ht:P.underlying t=some (.struct #[f0,f1]))(hct:P.cellsOf t=2)(h0:f0.type=L.res∧f0.offset=0)(h1:f1.type=L.ces∧f1.offset=1)
  {v:Value}{d:DataW H}{ps:List MemPlace}{r:Reach}{b0:Nat}(hval:Value.okWide P w r b0 t v)(h:DataW.Trod enc P w 0 (fun _=>true) true t v d ps):
  ∃(hs cs:Sl) (t:Li),v=.agg #[aZ hs,aZ cs]∧(yA hs cs t).p vp w:=by
 obtain⟨cs,rfl,hsz,hf⟩:=IG ht hval h;rw[hct]at hsz;obtain⟨c0,c1,rfl⟩:∃a b,cs= #[a,b]:=⟨cs[0],cs[1],by
  apply Array.ext (by simpa using hsz);intro i h1 h2;simp at h2
  match i,h2 with
  |0,_=>rfl
  |1,_=>rfl⟩
 obtain⟨_,_,q0⟩:=hf 0 f0 rfl h0.2 (by rw[h0.1];exact L.hrs.2) c0 rfl;obtain⟨_,_,q1⟩:=hf 1 f1 rfl h1.2 (by rw[h1.1];exact L.hcs.2) c1 rfl;rw[h0.1]at q0;rw[h1.1]at q1;obtain⟨hs,lh,rfl,hh⟩:=L.recs q0;obtain⟨cs,lc,rfl,hc⟩:=L.cells q1;exact⟨hs,cs,⟨lh,lc⟩,rfl,hh,hc⟩
end
section
variable{T:Tb}{P:Program}{fin:VS→List aD→Prop}{c:fG}{Γ:List aD}
theorem MN{α β:Type}(R:kG α)(num:α→β)(s:Sl){l:List β} [h:aW (LF R num s) l Γ]{k:Nat}{x:β}(hk:l[k]? =some x)(hm:dD c.k=false)(hz:0<R.z)
  (hc:∀b off e,s.ao=some ⟨b,off,none⟩→num e=x→W T P fin c (R.fact 0 e::RA (some ⟨b,off+k*R.z,none⟩) (R.cells e)::Γ)):W T P fin c Γ:=
 W.elim (α:=Nat×Nat×α) (fun q=>s.ao=some ⟨q.1,q.2.1,none⟩∧num q.2.2=x) (fun q=>[R.fact 0 q.2.2,RA (some ⟨q.1,q.2.1+k*R.z,none⟩) (R.cells q.2.2)]) hm (fun I w _ hh=>by
  obtain⟨es,rfl,h2,h3,h4,h5⟩:=h.p hh;rw[bK]at hk;obtain⟨e,he,hex⟩:∃e,es[k]? =some e∧num e=x:=by
   cases hq:es[k]? with
   |none=>rw[hq]at hk;simp at hk
   |some e=>rw[hq]at hk;exact⟨e,rfl,by simpa using hk⟩
  obtain⟨hlt,rfl⟩:=List.getElem?_eq_some_iff.1 he;obtain⟨b,off,ha,hI,hr⟩:=h5 (by
   intro e0;have:=qy R es;simp only at e0;rw[e0]at this;have h2:0<es.length*R.z:=hY (by omega) hz;simp at this;omega)
  refine⟨(b,off,es[k]),⟨ha,hex⟩,aG.cons (h4 _ (dY hlt)) (aS (fun _=>⟨b,off+k*R.z,rfl,hI,fun i v hv=>?_⟩))⟩;rw[gU];exact hr _ v (EF R hlt i v hv)) (fun q hq=>hc q.1 q.2.1 q.2.2 hq.1 hq.2)
theorem W.len{α β:Type}(R:kG α)(num:α→β)(s:Sl){l:List β} [h:aW (LF R num s) l Γ](hm:dD c.k=false)(hc:s.n=l.length→s.n≤s.c→s.c≤9223372036854775807→W T P fin c Γ):W T P fin c Γ:=
 qD (s.n=l.length∧s.n≤s.c∧s.c≤9223372036854775807) hm (fun I w _ hh=>by
  obtain⟨es,_,h2,h3,_⟩:=h.p hh;exact⟨h2,h3.1,h3.2⟩) (fun hq=>hc hq.1 hq.2.1 hq.2.2)
end
section
variable{T:Tb}{P:Program}{fin:VS→List aD→Prop}{c:fG}{Γ:List aD}
def G5(e:Ev):Option (Option Addr×TypeId):=
 match e with
 | .read o c'=>match o.op with
  | .binOp .eql t x y _=>match c'.s.ev x,c'.s.ev y with
   | .val (.slice ao _ _),.val (.slice none _ _)=>some (ao,t)
   |_,_=>none
  |_=>none
 |_=>none
theorem MS(D:List Nat)(ao:Option Addr)(t el:TypeId)(ht:P.underlying t=some (.slice el))
  (hk:W T P fin (gg (aL T (bh T D 999 c)) (.bool ao.isNone)) Γ)(h:G5 (aL T (bh T D 999 c))=some (ao,t):=by kernel_rfl)(hg:P.eqGuardType P.depth t=false:=by kernel_rfl):W T P fin c Γ:=by
 refine eD D 999 ?_;generalize bh T D 999 c=c1 at*;unfold G5 at h;split at h
 ·rename_i o c' he;rw[he]at hk;split at h
  ·rename_i ty u v yt hop;split at h
   ·rename_i ao' n1 c1' n2 c2' ha hb;simp only[ar,aH]at h;obtain⟨rfl,rfl⟩:=h;refine W.read _ he (.any ?_) hk;intro w;have hr:(Op.equal ty (.slice ao' n1 c1') (.slice none n2 c2')).run P w=.ok ao'.isNone w:=by
     unfold Op.equal;rw[show Op.maxDepth=(Op.maxDepth-1)+1 by decide];unfold Op.equalIn;simp only[cz,cL ht,bB];cases ao'<;>rfl
    have hgd:(eqGuard .eql ty u v (.slice ao' n1 c1') (.slice none n2 c2')).run P w=.ok () w:=by
     unfold eqGuard;simp[hg]
    have hb2:(binOp .eql ty (.slice ao' n1 c1') (.slice none n2 c2')).run P w=.ok (.bool ao'.isNone) w:=by
     show(do pure (.bool (←Op.equal ty (.slice ao' n1 c1') (.slice none n2 c2'))):Sem Value).run P w=_;simp only[cz,hr,bB,dS]
    simp only[execOp,hop,cC ha,cC hb,cz,hgd,bB,hb2,dS]
   ·simp at h
  ·simp at h
 ·simp at h
def iW(s:ByteArray):List Int:=s.data.toList.map fun b=>(b.toNat:Int)
theorem qW(s:ByteArray):(iW s).length=s.size:=by
 unfold iW;rw[bI,uv];rfl
theorem tt(s:ByteArray):kW (iW s):=fun z hz=>by
 obtain⟨b,_,rfl⟩:=List.mem_map.1 hz;have:=b.toNat_lt;omega
theorem Fk{b:List Int}(hb:kW b):iW (strOfNums b)=b:=by
 unfold iW;rw[strOfNums_data,List.map_map];refine(List.map_congr_left (fun z hz=>?_)).trans (List.map_id b);have:=hb z hz;simp only[Function.comp];rw[show(UInt8.ofNat z.toNat).toNat=z.toNat % 256 from rfl];simp only[id];omega
def Kw(e:Ev):Option (TypeId×TypeId×ByteArray):=
 match e with
 | .ask o c'=>match o.op with
  | .convert src dst x=>match c'.s.ev x with
   | .val (.string s)=>some (src,dst,s)
   |_=>none
  |_=>none
 |_=>none
theorem Ab(D:List Nat)(src dst el:TypeId)(s:ByteArray)(hs:P.underlying src=some .string)(hd:P.underlying dst=some (.slice el))(he:P.underlying el=some (.int .u8))(hz:s.size≤9223372036854775807)
  (hk:∀b cap,s.size≤cap→W T P fin (gg (aL T (bh T D 999 c)) (.slice (some ⟨b,0,none⟩) s.size cap)) (BF ⟨some ⟨b,0,none⟩,s.size,cap⟩ (iW s)::Γ))(h:Kw (aL T (bh T D 999 c))=some (src,dst,s):=by kernel_rfl):W T P fin c Γ:=by
 refine eD D 999 ?_;generalize bh T D 999 c=c1 at*;unfold Kw at h;split at h
 ·rename_i o c' hev;rw[hev]at hk;split at h
  ·rename_i sr ds x hop;split at h
   ·rename_i s' hx;simp only[ar,aH]at h;obtain⟨rfl,rfl,rfl⟩:=h;refine W.ask (fun v Δ=>∃b cap,s'.size≤cap∧v=.slice (some ⟨b,0,none⟩) s'.size cap∧Δ=[BF ⟨some ⟨b,0,none⟩,s'.size,cap⟩ (iW s')]) hev ?_ (fun v Δ ⟨b,cap,h1,h2,h3⟩=>by subst h2 h3;exact hk b cap h1);intro I w hdd hh;have hrun:=Lib.run_convert_string_bytes w sr ds el s' hs hd he;refine⟨.slice (some ⟨w.heap.size,0,none⟩) s'.size (grownCap w s'.size 0 el),_,Lib.bytesWorld w el s',?_,⟨w.heap.size,grownCap w s'.size 0 el,grownCap_ge _ _ _ _,rfl,rfl⟩,?_,?_⟩
    ·simp only[execOp,hop,cC hx,cz,hrun,bB,dS]
    ·exact⟨rfl,rfl,rfl,by rw[Lib.bytesWorld_size];omega,fun k hk=>Lib.bytesWorld_at_old w el s' k hk⟩
    ·refine aS ⟨(qW s').symm,⟨grownCap_ge _ _ _ _,grownCap_le_maxLen _ _ _ _ hz⟩,tt s',fun hne=>⟨w.heap.size,0,rfl,fun hlt=>absurd hlt (Nat.lt_irrefl _),fun i v hv=>?_⟩⟩;have hi:i<s'.size:=by
      have:=(List.getElem?_eq_some_iff.1 hv).1;rw[bI,qW]at this;exact this
     rw[bQ,Lib.bytesWorld_cell w el s' i hi];rw[←hv];simp only[iW,List.map_map,bK,List.getD];have hi2:i<s'.data.toList.length:=by rw[uv];exact hi
     rw[ai hi2];rfl
   ·simp at h
  ·simp at h
 ·simp at h
end
theorem qI:∀(l:List UInt8) (c:UInt8),decide (Lib.indexByte l c≥0)=l.contains c
 | [],c=>rfl
 |b::l,c=>by
  rw[RU,List.contains_cons,←qI l c];have hge:=Lib.indexByte_ge l c;by_cases h:b==c
  ·have:=eq_of_beq h;subst this;simp
  ·have h2:(c==b)=false:=by
    rw[ed];rintro rfl;simp at h
   rw[if_neg h,h2,Bool.false_or];by_cases h1:Lib.indexByte l c= -1
   ·rw[h1];decide
   ·rw[if_neg (by simpa using h1)];simp only[ge_iff_le,rJ];omega
section
variable{Γ:List aD}
set_option maxRecDepth 100000 in
theorem Qk(s:ByteArray)(k:Int)(w:World):Calls Tryz.prog 272 #[.string s,.int .u8 k] w fun e w'=>e=.returned (.int .i64 (Lib.indexByte s.data.toList k.toNat.toUInt8))∧w'=w:=by
 go_enter Tryz.func272,Tryz.ntmps272
 go_wp2
 rw[run_callFunc_extern Tryz.func276 (by kernel_rfl) (by kernel_rfl) (by kernel_rfl) (e:=Extern.BytealgIndexByte.indexByte) (by kernel_rfl),Lib.run_indexByteString];simp only[Result.andThen];rw[Oper.upon_value]
 go_wp2
 go_ret
 exact⟨rfl,rfl⟩
theorem WI(s:ByteArray)(k:Int):aw tb Tryz.prog 272 [.string s,.int .u8 k] Γ (jq (.int .i64 (Lib.indexByte s.data.toList k.toNat.toUInt8))):=
 ⟨⟨_,Tryz.func272,by kernel_rfl,by kernel_rfl⟩,fun I w hd hh=>by
  refine(Qk s k w).mono ?_;rintro e w' ⟨rfl,rfl⟩;exact⟨_,_,rfl,⟨rfl,rfl⟩,bD _ _,aG.nil _ _⟩⟩
theorem Kg(s:ByteArray)(k:Int):aw tb Tryz.prog 264 [.string s,.int .u8 k] Γ (jq (.int .i64 (Lib.indexByte s.data.toList k.toNat.toUInt8))):=by
 refine aw.of_W aB Tryz.func264 rfl ?_;refine aq [] (WI s k) ?_;rintro _ _ ⟨rfl,rfl⟩;exact W.r [] (.int .i64 (Lib.indexByte s.data.toList k.toNat.toUInt8)) ⟨rfl,rfl⟩ bT
set_option maxRecDepth 100000 in
theorem M_(ao:Option Addr)(n c:Nat)(r:Int)(k:Int)(w:World)(hrun:(Extern.BytealgIndexByte.indexByte #[.slice ao n c,.int .u8 k]).run Tryz.prog w=.ok (.int .i64 r) w):Calls Tryz.prog 231 #[.slice ao n c,.int .u8 k] w fun e w'=>e=.returned (.int .i64 r)∧w'=w:=by
 go_enter Tryz.func231,Tryz.ntmps231
 go_wp2
 rw[run_callFunc_extern Tryz.func263 (by kernel_rfl) (by kernel_rfl) (by kernel_rfl) (e:=Extern.BytealgIndexByte.indexByte) (by kernel_rfl),hrun];simp only[Result.andThen];rw[Oper.upon_value]
 go_wp2
 go_ret
 exact⟨rfl,rfl⟩
theorem GM(bb off n c:Nat)(b:List Int)(k:Int) [h:aW (BF ⟨some ⟨bb,off,none⟩,n,c⟩) b Γ]:aw tb Tryz.prog 231 [.slice (some ⟨bb,off,none⟩) n c,.int .u8 k] Γ (jq (.int .i64 (Lib.indexByte (Lib.bytesOf b) k.toNat.toUInt8))):=
 ⟨⟨_,Tryz.func231,by kernel_rfl,by kernel_rfl⟩,fun I w hd hh=>by
  obtain⟨h1,h2,h3,h4⟩:=h.p hh;have hrun:=Lib.run_indexByteSlice (P:=Tryz.prog) (w:=w) bb off n c b h1.symm (fun i hi=>by
   have hb:i<b.length:=by have:=h1;simp only at this;omega
   obtain⟨b',off',ha,_,hr⟩:=h4 (by intro e;rw[List.map_eq_nil_iff]at e;rw[e]at hb;simp at hb);simp only[ar,pR]at ha;obtain⟨rfl,rfl,_⟩:=ha;refine hr i _ ?_;rw[bK,List.getD,ai hb];rfl) k
  refine(M_ _ n c _ k w hrun).mono ?_;rintro e w' ⟨rfl,rfl⟩;exact⟨_,_,rfl,⟨rfl,rfl⟩,bD _ _,aG.nil _ _⟩⟩
end
section
variable{T:Tb}{P:Program}{fin:VS→List aD→Prop}{c:fG}{Γ:List aD}
theorem eC{F:aD}{Δ:List aD}(h:∀(I:fQ) (w:World),br T I w→aG Γ I w→F.p I w)(h':∀(I:fQ) (w:World),br T I w→aG Γ I w→aG Δ I w):∀(I:fQ) (w:World),br T I w→aG Γ I w→aG (F::Δ) I w:=fun I w hd hh=>aG.cons (h I w hd hh) (h' I w hd hh)
theorem eK{α:Type}{k:α→aD}{a:α} [h:aW k a Γ]:∀(I:fQ) (w:World),br T I w→aG Γ I w→(k a).p I w:=fun I w _ hh=>h.p hh
theorem eE:∀(I:fQ) (w:World),br T I w→aG Γ I w→aG [] I w:=fun I w _ _=>aG.nil _ _
theorem xH(s:Sl){b:List Int} [h:aW (BF s) b Γ](hc:s.n=b.length→s.n≤s.c∧s.c≤9223372036854775807→kW b→(b≠ []→∃bb off,s.ao=some ⟨bb,off,none⟩)→W T P fin c Γ)(hm:dD c.k=false:=by kernel_rfl):W T P fin c Γ:=
 qD (s.n=b.length∧(s.n≤s.c∧s.c≤9223372036854775807)∧kW b∧(b≠ []→∃bb off,s.ao=some ⟨bb,off,none⟩)) hm (fun I w _ hh=>by
  obtain⟨h1,h2,h3,h4⟩:=h.p hh;refine⟨h1,h2,h3,fun hne=>?_⟩;obtain⟨bb,off,ha,_⟩:=h4 (by simpa using hne);exact⟨bb,off,ha⟩) (fun hq=>hc hq.1 hq.2.1 hq.2.2.1 hq.2.2.2)
theorem P_(s:Sl){b:List Int} [h:aW (BF s) b Γ](own:List (Nat×List Value))(hn:s.n=b.length)(ha:b≠ []→∃bb off,s.ao=some ⟨bb,off,none⟩):p5 T Γ own (aZ s) s.n 1 (b.map (Value.int .u8)):=
 ⟨s.ao,s.c,rfl,by simp[hn],fun hpos=>by
  obtain⟨bb,off,e⟩:=ha (by intro e;rw[e]at hn;simp at hn;omega);refine⟨⟨bb,off,none⟩,e,fun I w _ hh _ j u hu=>?_⟩;rw[gP];have:=(h.p hh).2.2.2;rw[e]at this;exact RA.cell this hu⟩
theorem K7{g n cap:Nat}{cur:List Value}{b:List Int}{I:fQ}{w:World}(h:(ek g cur).p I w)(hb:kW b)(hn:n=b.length)(hc:n≤cap∧cap≤maxLen)(ht:cur.take (n*1)=b.map (Value.int .u8)):(BF ⟨some ⟨g,0,none⟩,n,cap⟩ b).p I w:=
 ⟨hn,hc,hb,RA.of_row h (fun i v hv=>by
  rw[←ht,dF]at hv;split at hv
  ·exact hv
  ·simp at hv)⟩
theorem rH(ao:Option Addr)(I:fQ)(w:World):(BF ⟨ao,0,0⟩ []).p I w:=⟨rfl,⟨ak _,aJ _⟩,fun z hz=>absurd hz (by simp),RA.nil _ _ _⟩
end
section
variable{Γ:List aD}
theorem J8(s:Sl){b:List Int} [h:aW (BF s) b Γ](hl:b.length≤1000000):
  aw tb Tryz.prog 181 [aZ s] Γ (fun v Δ=>∃u:Sl,v=aZ u∧Δ=[BF u b]):=by
 refine aw.of_W aB Tryz.func181 rfl ?_;refine xH s (hm:=rfl) (fun h1 h2 h3 h4=>?_);refine MS [] s.ao 28 5 Tryz.underlying28 ?_;refine W.d [] 4 s.ao.isNone (fun h0=>?_) (fun h0=>?_)
 ·have hb:b=[]:=Classical.byContradiction fun hne=>by
   obtain⟨bb,off,e⟩:=h4 hne;rw[e]at h0;simp at h0
  subst hb;exact W.r [4] (.slice none 0 0) ⟨⟨none,0,0⟩,rfl,rfl⟩ (fun I w _ _=>aS (rH _ _ _))
 ·refine Jg [4] aB (fun b1=>?_);refine MJ [] [] 1 1 s.n b1 0 (aZ s) (b.map (Value.int .u8)) aB (by kernel_rfl) (P_ s [] h1 h4) (by omega) (by decide) (fun hz=>?_) (fun g cap cur hp hcap hml hlen htake=>?_)
  ·have hb:b=[]:=aN (by omega);subst hb;exact W.r [] (.slice (some ⟨b1,0,none⟩) 0 0) ⟨⟨some ⟨b1,0,none⟩,0,0⟩,rfl,rfl⟩ (fun I w _ _=>aS (rH _ _ _))
  ·refine DE [] [] g cur ?_;exact W.r [] (.slice (some ⟨g,0,none⟩) s.n cap) ⟨⟨some ⟨g,0,none⟩,s.n,cap⟩,rfl,rfl⟩ (fun I w _ hh=>aS (K7 (aW.p (k:=ek g) (a:=cur) inferInstance hh) h3 h1 ⟨hcap,hml⟩ htake))
def iH(b:List Int):ByteArray:=strOfNums (fI b)
theorem np(s:Sl){b:List Int} [h:aW (BF s) b Γ]:aw tb Tryz.prog 39 [aZ s] Γ (jq (.string (iH b))):=by
 refine aw.of_W aB Tryz.func39 rfl ?_;refine xH s (hm:=rfl) (fun h1 h2 h3 h4=>?_);by_cases hb:b=[]
 ·subst hb;have h0:s.n=0:=h1;refine W.more (Δ:=[RA s.ao (([]:List Int).map (Value.int .u8))]) rfl (fun I w _ _=>aS (RA.nil _ _ _)) ?_;refine aQ [] 8 (decide ((s.n:Int)>0)) (by simp[h0]) ?_;refine MT [8,15] s.ao s.n s.c [] aB h1 ?_;exact W.r [] (.string (strOfNums [])) ⟨rfl,rfl⟩ bT
 ·obtain⟨bb,off,hao⟩:=h4 hb;have hpos:0<b.length:=List.length_pos_iff.2 hb;refine W.more (Δ:=[RA (some ⟨bb,off,none⟩) (b.map (Value.int .u8))]) rfl (fun I w _ hh=>aS (by rw[←hao];exact(h.p hh).2.2.2)) ?_;obtain⟨z,hz⟩:∃z,b[b.length-1]? =some z:=⟨_,ai (by omega)⟩;have hlast:b.getLast?=some z:=by rw[fZ];exact hz
  obtain⟨sa,sn,sc⟩:=s;simp only at h1 h2 h4 hao;subst hao;refine bj [] 8 (decide ((sn:Int)>0)) (au (by omega)) ?_;refine bW [8] 1 bb off sn sc .i64 (b.length-1) (IntKind.i64.wrap ((sn:Int)-1)) (by rw[af];omega) aB (by omega) ?_;refine dJ [8] 1 bb (off+(b.length-1)*1) (.int .u8 z) aB (fun I w _ hh=>?_) ?_
  ·rw[fK];exact RA.cell (aW.p (k:=RA (some ⟨bb,off,none⟩)) (a:=b.map (Value.int .u8)) inferInstance hh) (by rw[bK,hz];rfl)
  refine W.d [8] 15 (z==0) (fun h0=>?_) (fun h0=>?_)
  ·have h0:=eq_of_beq h0;subst h0;refine W.more (Δ:=[RA (some ⟨bb,off+0*1,none⟩) (b.dropLast.map (Value.int .u8))]) (by kernel_rfl) (fun I w _ hh=>aS (fun hne=>?_)) ?_
   ·obtain⟨b',off',ha,hI,hr⟩:=(aW.p (k:=RA (some ⟨bb,off,none⟩)) (a:=b.map (Value.int .u8)) inferInstance hh) (by simpa using hb);simp only[ar,pR]at ha;obtain⟨rfl,rfl,_⟩:=ha;refine⟨bb,off,by simp,hI,fun i v hv=>hr i v ?_⟩;rw[bK]at hv⊢;rw[List.dropLast_eq_take,dF]at hv;split at hv
    ·exact hv
    ·simp at hv
   refine Ch [15] 1 bb off sn sc none (some (.int .i64 (IntKind.i64.wrap ((sn:Int)-1)))) 0 (b.length-1) aB (.inr ⟨rfl,rfl⟩) (.inl (by rw[af];congr;omega)) (aJ _) (by omega) (by omega) ?_;refine MT [] (some ⟨bb,off+0*1,none⟩) (b.length-1-0) (sc-0) b.dropLast aB (by simp) ?_;exact W.r [] (.string (strOfNums b.dropLast)) ⟨by rw[iH,fI,if_pos hlast],rfl⟩ bT
  ·refine MT [15] (some ⟨bb,off,none⟩) sn sc b aB h1 ?_;exact W.r [] (.string (strOfNums b)) ⟨by rw[iH,fI,if_neg (by rw[hlast];intro e;injection e with e;subst e;simp at h0)],rfl⟩ bT
end
def NL(s:Sl)(l:List Int):aD where
 p I w:=s.n=l.length∧(s.n≤s.c∧s.c≤maxLen)∧(RA s.ao (l.map (Value.int .i64))).p I w
 up:=by
  rintro I I' w w' ⟨h1,h2,h⟩ g1 g2 g3;exact⟨h1,h2,(RA s.ao _).up h g1 g2 g3⟩
def WU(a b:Int):Int:=if 256*a+b<32768 then 256*a+b else 256*a+b-65536
def WX(a b c d:Int):Int:=if 16777216*a+65536*b+256*c+d<2147483648 then 16777216*a+65536*b+256*c+d else 16777216*a+65536*b+256*c+d-4294967296
def dT:List Int→List Int
 |a::b::r=>WU a b::dT r
 |_=>[]
def fj:List Int→List Int
 |a::b::c::d::r=>WX a b c d::fj r
 |_=>[]
theorem sq:∀l:List Int,(dT l).length=l.length/2
 | []=>by simp[dT]
 | [_]=>by simp[dT]
 |a::b::r=>by
  have:=sq r;simp only[dT,aC];omega
theorem q8:∀l:List Int,(fj l).length=l.length/4
 | []=>by simp[fj]
 | [_]=>by simp[fj]
 | [_,_]=>by simp[fj]
 | [_,_,_]=>by simp[fj]
 |a::b::c::d::r=>by
  have:=q8 r;simp only[fj,aC];omega
theorem Di:∀(l:List Int) (k:Nat) (a b:Int),l[2*k]? =some a→l[2*k+1]? =some b→(dT l)[k]? =some (WU a b)
 | [],k,a,b,h,_=>by simp at h
 | [x],k,a,b,_,h=>by
  have:=(List.getElem?_eq_some_iff.1 h).1;simp at this
  try omega
 |x::y::r,0,a,b,h1,h2=>by
  simp at h1 h2;subst h1 h2;rfl
 |x::y::r,k+1,a,b,h1,h2=>by
  simp only[dT,eV];exact Di r k a b (by simpa [fA]using h1) (by simpa [fA]using h2)
theorem Gf:∀(l:List Int) (k:Nat) (a b c d:Int),l[4*k]? =some a→l[4*k+1]? =some b→l[4*k+2]? =some c→l[4*k+3]? =some d→(fj l)[k]? =some (WX a b c d)
 | [],k,a,b,c,d,h,_,_,_=>by simp at h
 | [x],k,a,b,c,d,_,h,_,_=>by
  have:=(List.getElem?_eq_some_iff.1 h).1;simp at this
  try omega
 | [x,y],k,a,b,c,d,_,_,h,_=>by
  have:=(List.getElem?_eq_some_iff.1 h).1;simp at this
  try omega
 | [x,y,z],k,a,b,c,d,_,_,_,h=>by
  have:=(List.getElem?_eq_some_iff.1 h).1;simp at this
  try omega
 |x::y::z::u::r,0,a,b,c,d,h1,h2,h3,h4=>by
  simp at h1 h2 h3 h4;subst h1 h2 h3 h4;rfl
 |x::y::z::u::r,k+1,a,b,c,d,h1,h2,h3,h4=>by
  simp only[fj,eV];exact Gf r k a b c d (by simpa [fA]using h1) (by simpa [fA]using h2) (by simpa [fA]using h3) (by simpa [fA]using h4)
theorem Du(n:Int)(h₀:0≤n)(h₁:n<2^16):IntKind.u16.wrap n=n:=by rw[IntKind.wrap_u16];omega
theorem vc(n:Int)(h₀:0≤n)(h₁:n<2^32):IntKind.u32.wrap n=n:=by rw[gS];omega
theorem WW{a b:Int}(ha:yP a)(hb:yP b):IntKind.i64.wrap (IntKind.i16.wrap (Go.bits .or .u16 (256*a) (IntKind.u16.wrap b)))=WU a b:=by
 obtain⟨a0,a1⟩:=ha;obtain⟨b0,b1⟩:=hb;rw[Du b b0 (by omega),bits_join .u16 16 (by decide) Du 8 (256*a) b (by omega) (by simp) (by simp;omega) b0 (by simpa using b1) (by simp;omega)];unfold WU;rw[show ∀n:Int,IntKind.i16.wrap n=(n+32768) % 65536-32768 from fun n=>by simp[IntKind.wrap,IntKind.bits,IntKind.signed];omega,af];split<;>omega
theorem WZ{a b c d:Int}(ha:yP a)(hb:yP b)(hc:yP c)(hd:yP d):IntKind.i64.wrap (IntKind.i32.wrap (Go.bits .or .u32 (Go.bits .or .u32 (Go.bits .or .u32 (16777216*a) (65536*b)) (256*c)) (IntKind.u32.wrap d)))=WX a b c d:=by
 obtain⟨a0,a1⟩:=ha;obtain⟨b0,b1⟩:=hb;obtain⟨c0,c1⟩:=hc;obtain⟨d0,d1⟩:=hd;rw[vc d d0 (by omega)];rw[bits_join .u32 32 (by decide) vc 24 (16777216*a) (65536*b) (by omega) (by simp) (by simp;omega) (by omega) (by simp;omega) (by simp;omega)];rw[bits_join .u32 32 (by decide) vc 16 (16777216*a+65536*b) (256*c) (by omega) (by simp;omega) (by simp;omega) (by omega) (by simp;omega) (by simp;omega)];rw[bits_join .u32 32 (by decide) vc 8 (16777216*a+65536*b+256*c) d (by omega) (by simp;omega) (by simp;omega) (by omega) (by simp;omega) (by simp;omega)];unfold WX;rw[IntKind.wrap_i32,af];split<;>omega
structure S7 where
 i:Nat
 z:Int
 v:Value
 O:List (Nat×List Value)
theorem F5{l:List Int}:∀u∈l.map (Value.int .i64),u.oneCell'=true:=fun u hu=>by
 obtain⟨z,_,rfl⟩:=List.mem_map.1 hu;rfl
theorem JP(z:Int):∀u∈([.int .i64 z]:List Value),u.oneCell'=true:=fun u hu=>by
 simp only[aF,aE,bL]at hu;subst hu;rfl
theorem ph{z n c:Nat}{O:List (Nat×List Value)}{ao:Option Addr}{xs:List Value}(hg:cF z O (.slice ao n c) n xs):c≤maxLen:=by
 rcases hg.2 with⟨e,_⟩|⟨g,cap,cur,e,_,_,hml,_⟩
 ·injection e with _ _ e3;rw[e3];exact aJ _
 ·injection e with _ _ e3;rw[e3];exact hml
section
variable{T:Tb}{Γ:List aD}
theorem Cm(bb off n c:Nat){b:List Int} [h:aW (BF ⟨some ⟨bb,off,none⟩,n,c⟩) b Γ]{i:Nat}{z:Int}(hz:b[i]? =some z):∀I w,br T I w→aG Γ I w→w.cell? ⟨bb,off+i*1,none⟩=some (.int .u8 z):=fun I w _ hh=>by
 rw[fK];exact RA.cell (h.p hh).2.2.2 (by rw[bK,hz];rfl)
def xF(ok:Bool)(l:List Int)(v:Value)(Δ:List aD):Prop:=if ok then ∃u:Sl,v=.tuple #[aZ u,.int .i64 0]∧Δ=[NL u l]else v=.tuple #[.slice none 0 0,.int .i64 3]∧Δ=[]
theorem PC(s:Sl){b:List Int} [h:aW (BF s) b Γ](hl:b.length≤1000000):aw tb Tryz.prog 129 [aZ s] Γ (xF (b.length % 2==0) (dT b)):=by
 refine aw.of_W aB Tryz.func129 rfl ?_;refine xH s (hm:=rfl) (fun h1 h2 h3 h4=>?_);refine xI [] .i64 (s.n:Int) 2 ((b.length % 2:Nat):Int) (by decide) (by rw[h1,fJ (by omega)];rfl) ?_;by_cases hev:b.length % 2=0
 rotate_left
 ·refine bj [] 9 (((b.length % 2:Nat):Int) != 0) (by simp;omega) ?_;exact W.r [9] (.tuple #[.slice none 0 0,.int .i64 3]) (by unfold xF;rw[if_neg (by simpa using hev)];exact⟨rfl,rfl⟩) bT
 have hok:(b.length % 2==0)=true:=by simpa using hev
 rw[hok];refine aQ [] 9 (((b.length % 2:Nat):Int) != 0) (by simp;omega) ?_;have hln:=sq b;refine gV [9] [4,5] (fun a:S7=>[(4,a.v),(5,.int .i64 a.z)]) (fun _=>[]) (fun a=>a.O) (fun _=>[BF s b]) (fun a=>a.z=2*(a.i:Int)∧2*a.i≤b.length∧cF 1 a.O a.v a.i (((dT b).take a.i).map (Value.int .i64))) (fun a=>b.length-2*a.i) ⟨0,0,.slice none 0 0,[]⟩ ⟨rfl,aJ _,cF.nil 1⟩ (eC eK eE) ?_;rintro⟨i,z,v,O⟩ K ⟨hz,hi,hg⟩ close;simp only at hz hi hg;by_cases hlt:2*i<b.length
 ·obtain⟨x,hx⟩:∃x,b[2*i]? =some x:=⟨_,ai hlt⟩;obtain⟨y,hy⟩:∃y,b[2*i+1]? =some y:=⟨_,ai (by omega)⟩;have hxb:yP x:=h3 x (aK hx);have hyb:yP y:=h3 y (aK hy);obtain⟨bb,off,hao⟩:=h4 (by rintro rfl;simp at hlt);obtain⟨sa,sn,sc⟩:=s;simp only at h1 h2 hao;subst hao;refine bj [] 13 (decide (z<(sn:Int))) (au (by omega)) ?_;refine bW [13] 1 bb off sn sc .i64 (2*i) z (by omega) aB (by omega) ?_;refine dJ [] 1 bb (off+2*i*1) (.int .u8 x) aB (Cm bb off sn sc hx) ?_;refine W.shl [] .u16 .u64 (IntKind.u16.wrap x) 8 (256*x) (by decide) (by unfold yP at hxb;rw[show(min (8:Int).toNat IntKind.u16.bits)=8 by decide,IntKind.wrap_u16,IntKind.wrap_u16];simp;omega) ?_;refine bW [] 1 bb off sn sc .i64 (2*i+1) (IntKind.i64.wrap (z+1)) (by rw[af];omega) aB (by omega) ?_;refine dJ [] 1 bb (off+(2*i+1)*1) (.int .u8 y) aB (Cm bb off sn sc hy) ?_;refine cH [] 1 [.int .i64 (IntKind.i64.wrap (IntKind.i16.wrap (Go.bits .or .u16 (256*x) (IntKind.u16.wrap y))))] aB (fun B=>?_);refine W.app [] O [] O [] 1 8 i 1 v (.slice (some ⟨B,0,none⟩) 1 1) (((dT b).take i).map (Value.int .i64)) [.int .i64 (IntKind.i64.wrap (IntKind.i16.wrap (Go.bits .or .u16 (256*x) (IntKind.u16.wrap y))))] aB (by simp) hg (bX B O 1 1 rfl 1) (JP _) (by omega) (by decide) (fun v' O' hg'=>?_);refine close [] _ _ ⟨i+1,IntKind.i64.wrap (z+2),v',O'⟩ (by kernel_rfl) (by simp only[az,ah];kernel_rfl) ⟨by simp only[af];omega,by simp only;omega,cF.cast ?_ rfl hg'⟩ (by simp only;omega) (eC eK eE)
  rw[WW hxb hyb,lR (Di b i x y hx hy),aT];rfl
 ·refine aQ [] 13 (decide (z<(s.n:Int))) (aj (by omega)) ?_;have hi2:i=(dT b).length:=by omega
  rw[aU (by omega)]at hg;refine l_ (by simp only[az,ah];kernel_rfl) hg (fun ao c' hv hc'=>?_);subst hv;have hcm:c'≤maxLen:=ph hg;refine W.r [13] (.tuple #[.slice ao i c',.int .i64 0]) (by unfold xF;rw[if_pos rfl];exact⟨⟨ao,i,c'⟩,rfl,rfl⟩) (fun I w _ hh=>aS (show(NL ⟨ao,i,c'⟩ (dT b)).p I w from⟨hi2,⟨hc',hcm⟩,aW.p (k:=RA ao) (a:=(dT b).map (Value.int .i64)) inferInstance hh⟩))
theorem Ka(s:Sl){b:List Int} [h:aW (BF s) b Γ](hl:b.length≤1000000):aw tb Tryz.prog 126 [aZ s] Γ (xF (b.length % 4==0) (fj b)):=by
 refine aw.of_W aB Tryz.func126 rfl ?_;refine xH s (hm:=rfl) (fun h1 h2 h3 h4=>?_);refine xI [] .i64 (s.n:Int) 4 ((b.length % 4:Nat):Int) (by decide) (by rw[h1,fJ (by omega)];rfl) ?_;by_cases hev:b.length % 4=0
 rotate_left
 ·refine bj [] 9 (((b.length % 4:Nat):Int) != 0) (by simp;omega) ?_;exact W.r [9] (.tuple #[.slice none 0 0,.int .i64 3]) (by unfold xF;rw[if_neg (by simpa using hev)];exact⟨rfl,rfl⟩) bT
 have hok:(b.length % 4==0)=true:=by simpa using hev
 rw[hok];refine aQ [] 9 (((b.length % 4:Nat):Int) != 0) (by simp;omega) ?_;have hln:=q8 b;refine gV [9] [4,5] (fun a:S7=>[(4,a.v),(5,.int .i64 a.z)]) (fun _=>[]) (fun a=>a.O) (fun _=>[BF s b]) (fun a=>a.z=4*(a.i:Int)∧4*a.i≤b.length∧cF 1 a.O a.v a.i (((fj b).take a.i).map (Value.int .i64))) (fun a=>b.length-4*a.i) ⟨0,0,.slice none 0 0,[]⟩ ⟨rfl,aJ _,cF.nil 1⟩ (eC eK eE) ?_;rintro⟨i,z,v,O⟩ K ⟨hz,hi,hg⟩ close;simp only at hz hi hg;by_cases hlt:4*i<b.length
 ·obtain⟨x,hx⟩:∃x,b[4*i]? =some x:=⟨_,ai hlt⟩;obtain⟨y,hy⟩:∃y,b[4*i+1]? =some y:=⟨_,ai (by omega)⟩;obtain⟨x2,hx2⟩:∃y,b[4*i+2]? =some y:=⟨_,ai (by omega)⟩;obtain⟨x3,hx3⟩:∃y,b[4*i+3]? =some y:=⟨_,ai (by omega)⟩;have hxb:yP x:=h3 x (aK hx);have hyb:yP y:=h3 y (aK hy);have hb2:yP x2:=h3 x2 (aK hx2);have hb3:yP x3:=h3 x3 (aK hx3);obtain⟨bb,off,hao⟩:=h4 (by rintro rfl;simp at hlt);obtain⟨sa,sn,sc⟩:=s;simp only at h1 h2 hao;subst hao;refine bj [] 13 (decide (z<(sn:Int))) (au (by omega)) ?_;refine bW [13] 1 bb off sn sc .i64 (4*i) z (by omega) aB (by omega) ?_;refine dJ [] 1 bb (off+4*i*1) (.int .u8 x) aB (Cm bb off sn sc hx) ?_;refine W.shl [] .u32 .u64 (IntKind.u32.wrap x) 24 (16777216*x) (by decide) (by unfold yP at hxb;rw[show(min (24:Int).toNat IntKind.u32.bits)=24 by decide,gS,gS];simp;omega) ?_;refine bW [] 1 bb off sn sc .i64 (4*i+1) (IntKind.i64.wrap (z+1)) (by rw[af];omega) aB (by omega) ?_;refine dJ [] 1 bb (off+(4*i+1)*1) (.int .u8 y) aB (Cm bb off sn sc hy) ?_;refine W.shl [] .u32 .u64 (IntKind.u32.wrap y) 16 (65536*y) (by decide) (by unfold yP at hyb;rw[show(min (16:Int).toNat IntKind.u32.bits)=16 by decide,gS,gS];simp;omega) ?_
  refine bW [] 1 bb off sn sc .i64 (4*i+2) (IntKind.i64.wrap (z+2)) (by rw[af];omega) aB (by omega) ?_;refine dJ [] 1 bb (off+(4*i+2)*1) (.int .u8 x2) aB (Cm bb off sn sc hx2) ?_;refine W.shl [] .u32 .u64 (IntKind.u32.wrap x2) 8 (256*x2) (by decide) (by unfold yP at hb2;rw[show(min (8:Int).toNat IntKind.u32.bits)=8 by decide,gS,gS];simp;omega) ?_;refine bW [] 1 bb off sn sc .i64 (4*i+3) (IntKind.i64.wrap (z+3)) (by rw[af];omega) aB (by omega) ?_;refine dJ [] 1 bb (off+(4*i+3)*1) (.int .u8 x3) aB (Cm bb off sn sc hx3) ?_;refine cH [] 1 [.int .i64 (IntKind.i64.wrap (IntKind.i32.wrap (Go.bits .or .u32 (Go.bits .or .u32 (Go.bits .or .u32 (16777216*x) (65536*y)) (256*x2)) (IntKind.u32.wrap x3))))] aB (fun B=>?_);refine W.app [] O [] O [] 1 8 i 1 v (.slice (some ⟨B,0,none⟩) 1 1) (((fj b).take i).map (Value.int .i64)) [.int .i64 (IntKind.i64.wrap (IntKind.i32.wrap (Go.bits .or .u32 (Go.bits .or .u32 (Go.bits .or .u32 (16777216*x) (65536*y)) (256*x2)) (IntKind.u32.wrap x3))))] aB (by simp) hg (bX B O 1 1 rfl 1) (JP _) (by omega) (by decide) (fun v' O' hg'=>?_);refine close [] _ _ ⟨i+1,IntKind.i64.wrap (z+4),v',O'⟩ (by kernel_rfl) (by simp only[az,ah];kernel_rfl) ⟨by simp only[af];omega,by simp only;omega,cF.cast ?_ rfl hg'⟩ (by simp only;omega) (eC eK eE);rw[WZ hxb hyb hb2 hb3,lR (Gf b i x y x2 x3 hx hy hx2 hx3),aT]
  rfl
 ·refine aQ [] 13 (decide (z<(s.n:Int))) (aj (by omega)) ?_;have hi2:i=(fj b).length:=by omega
  rw[aU (by omega)]at hg;refine l_ (by simp only[az,ah];kernel_rfl) hg (fun ao c' hv hc'=>?_);subst hv;have hcm:c'≤maxLen:=ph hg;refine W.r [13] (.tuple #[.slice ao i c',.int .i64 0]) (by unfold xF;rw[if_pos rfl];exact⟨⟨ao,i,c'⟩,rfl,rfl⟩) (fun I w _ hh=>aS (show(NL ⟨ao,i,c'⟩ (fj b)).p I w from⟨hi2,⟨hc',hcm⟩,aW.p (k:=RA ao) (a:=(fj b).map (Value.int .i64)) inferInstance hh⟩))
end
section
variable{T:Tb}{P:Program}{fin:VS→List aD→Prop}{c:fG}{Γ:List aD}
theorem p6(s:Sl){l:List Re} [h:aW (la s) l Γ]{k:Nat}{r:Re}(hk:l[k]? =some r)
  (hc:∀b off u,s.ao=some ⟨b,off,none⟩→W T P fin c (xG u r::RA (some ⟨b,off+k*3,none⟩) [.int .u8 r.k,.int .u8 r.d,aZ u]::Γ))(hm:dD c.k=false:=by kernel_rfl):W T P fin c Γ:=
 MN dd dC.r s hk hm (by decide) (fun b off e ha he=>by
  obtain⟨u,q⟩:=e;have he:q=r:=he;subst he;exact hc b off u ha)
theorem wm(s:Sl){l:List Im} [h:aW (pS s) l Γ]{k:Nat}{x:Im}(hk:l[k]? =some x)
  (hc:∀b off f p,s.ao=some ⟨b,off,none⟩→W T P fin c (mI f p x::RA (some ⟨b,off+k*2,none⟩) [aZ f,aZ p]::Γ))(hm:dD c.k=false:=by kernel_rfl):W T P fin c Γ:=
 MN lZ mN.x s hk hm (by decide) (fun b off e ha he=>by
  obtain⟨f,p,q⟩:=e;have he:q=x:=he;subst he;exact hc b off f p ha)
theorem sI(s:Sl){l:List Ce} [h:aW (lH s) l Γ]{k:Nat}{x:Ce}(hk:l[k]? =some x)
  (hc:∀b off f p,s.ao=some ⟨b,off,none⟩→W T P fin c (yz f p x::RA (some ⟨b,off+k*2,none⟩) [aZ f,aZ p]::Γ))(hm:dD c.k=false:=by kernel_rfl):W T P fin c Γ:=
 MN g8 lj.x s hk hm (by decide) (fun b off e ha he=>by
  obtain⟨f,p,q⟩:=e;have he:q=x:=he;subst he;exact hc b off f p ha)
theorem cA(b o:Nat){cs:List Value} [h:aW (RA (some ⟨b,o,none⟩)) cs Γ]:∀I w,br T I w→aG Γ I w→∀j v,cs[j]? =some v→w.cell? ⟨b,o+j,none⟩=some v:=fun I w _ hh j v hv=>RA.cell (h.p hh) hv
end
def dW(x:Im)(k:Int):Option Re:=x.f.find? (fun r=>r.k==k)
def oy(c:Ce):List Int:=match c.h.find? (fun r=>r.k==6)with
 |some r=>fI r.b
 |none=>[]
theorem JE{l:List Re}{k:Int}{i:Nat}{r:Re}(hr:l[i]? =some r)(hk:r.k=k)(hb:∀(j:Nat) (q:Re),j<i→l[j]? =some q→q.k≠k):l.find? (fun r=>r.k==k)=some r:=by
 induction l generalizing i with
 |nil=>simp at hr
 |cons x l ih=>
  cases i with
  |zero=>
   simp at hr;subst hr;simp[hk]
  |succ i=>
   have:=hb 0 x (Nat.succ_pos i) rfl;rw[List.find?_cons_of_neg (by simpa using this)];exact ih (by simpa using hr) (fun j q hj hq=>hb (j+1) q (by omega) (by simpa using hq))
theorem JF{l:List Re}{k:Int}(hb:∀(j:Nat) (q:Re),l[j]? =some q→q.k≠k):l.find? (fun r=>r.k==k)=none:=by
 rw[List.find?_eq_none];intro q hq;obtain⟨j,hj⟩:=mP hq;simpa using hb j q hj
def OT:Value:=.agg #[.int .u8 0,.int .u8 0,.slice none 0 0]
def UB(o:Option Re)(v:Value)(Δ:List aD):Prop:=match o with
 |some r=>∃u:Sl,v=.tuple #[rev r u,.bool true]∧Δ=[xG u r]
 |none=>v=.tuple #[OT,.bool false]∧Δ=[]
section
variable{Γ:List aD}
theorem J_(f p:Sl){x:Im} [h:aW (mI f p) x Γ](k:Int)(hb:∀r∈x.f,r.b.length≤1000000):
  aw tb Tryz.prog 125 [lY f p,.int .u8 k] Γ (UB (dW x k)):=by
 obtain⟨fa,fn,fc⟩:=f;refine aw.of_W aB Tryz.func125 rfl ?_;refine W.more (Δ:=[la ⟨fa,fn,fc⟩ x.f]) rfl (fun I w _ hh=>aS (h.p hh).1) ?_;refine W.len dd dC.r ⟨fa,fn,fc⟩ rfl (fun h1 h2 h3=>?_);simp only at h1 h2 h3;refine zd [] [5,11] (fun a:Nat×Int=>[(5,.bool false),(11,.int .i64 a.2)]) (fun _=>[]) (fun _=>[la ⟨fa,fn,fc⟩ x.f]) (fun a=>a.2=a.1∧a.1≤fn∧∀(j:Nat) (q:Re),j<a.1→x.f[j]? =some q→q.k≠k) (fun a=>fn-a.1) (0,0) ⟨rfl,aJ _,fun j q hj=>absurd hj (hZ _)⟩ (eC eK eE) ?_;rintro⟨i,z⟩ K ⟨hz,hi,hall⟩ close;simp only at hz hi hall;by_cases hlt:i<fn
 ·obtain⟨r,hr⟩:∃r,x.f[i]? =some r:=⟨_,ai (by omega)⟩;refine p6 ⟨fa,fn,fc⟩ hr (fun b off u ha=>?_);simp only at ha;subst ha;refine bj [] 12 (decide (z<(fn:Int))) (au (by omega)) ?_;refine bW [12] 3 b off fn fc .i64 i z hz aB hlt ?_;refine cV [] b (off+i*3) [.int .u8 r.k,.int .u8 r.d,aZ u] aB (cA b (off+i*3)) ?_;refine W.d [] 18 (r.k==k) (fun hk=>?_) (fun hk=>?_)
  ·have hk:=eq_of_beq hk;refine W.more (Δ:=[BF u r.b]) (by kernel_rfl) (fun I w _ hh=>aS (aW.p (k:=xG u) (a:=r) inferInstance hh).2.2) ?_;refine aq [18] (J8 u (b:=r.b) (hb r (aK hr))) ?_;rintro _ _ ⟨u2,rfl,rfl⟩;refine W.r [] (.tuple #[rev r u2,.bool true]) ?_ (fun I w _ hh=>?_) (Δ:=[xG u2 r])
   ·rw[show dW x k=some r from JE hr hk hall];exact⟨u2,rfl,rfl⟩
   ·have g:=aW.p (k:=xG u) (a:=r) inferInstance hh;exact aS ⟨g.1,g.2.1,aW.p (k:=BF u2) (a:=r.b) inferInstance hh⟩
  ·refine close [18] _ _ (i+1,IntKind.i64.wrap (z+1)) (by kernel_rfl) (by kernel_rfl) ⟨by simp only[af];omega,hlt,fun j q hj hq=>?_⟩ (by simp only;omega) (eC eK eE);by_cases hji:j<i
   ·exact hall j q hji hq
   ·obtain rfl:j=i:=by simp only at hj;omega
    rw[hr]at hq;injection hq with hq;subst hq;exact kB hk
 ·refine aQ [] 12 (decide (z<(fn:Int))) (aj (by omega)) ?_;refine W.r [12] (.tuple #[OT,.bool false]) ?_ bT;rw[show dW x k=none from JF (fun j q hq=>hall j q (by have:=(List.getElem?_eq_some_iff.1 hq).1;omega) hq)];exact⟨rfl,rfl⟩
theorem j7(f p:Sl){x:Im} [h:aW (mI f p) x Γ](k:Int)(hb:∀r∈x.f,r.b.length≤1000000){r:Re}(ho:dW x k=some r):
  aw tb Tryz.prog 125 [lY f p,.int .u8 k] Γ (fun v Δ=>∃u:Sl,v=.tuple #[rev r u,.bool true]∧Δ=[xG u r]):=by
 have:=J_ (Γ:=Γ) f p (x:=x) k hb;rw[ho]at this;exact this
theorem j6(f p:Sl){x:Im} [h:aW (mI f p) x Γ](k:Int)(hb:∀r∈x.f,r.b.length≤1000000)(ho:dW x k=none):
  aw tb Tryz.prog 125 [lY f p,.int .u8 k] Γ (jq (.tuple #[OT,.bool false])):=by
 have:=J_ (Γ:=Γ) f p (x:=x) k hb;rw[ho]at this;exact this
theorem uM(f p:Sl){x:Ce} [h:aW (yz f p) x Γ]:
  aw tb Tryz.prog 17 [lY f p] Γ (jq (.string (strOfNums (oy x)))):=by
 obtain⟨fa,fn,fc⟩:=f;refine aw.of_W aB Tryz.func17 rfl ?_;refine W.more (Δ:=[la ⟨fa,fn,fc⟩ x.h]) rfl (fun I w _ hh=>aS (h.p hh).1) ?_;refine W.len dd dC.r ⟨fa,fn,fc⟩ rfl (fun h1 h2 h3=>?_);simp only at h1 h2 h3;refine zd [] [2,8] (fun a:Nat×Int=>[(2,.string ⟨#[]⟩),(8,.int .i64 a.2)]) (fun _=>[]) (fun _=>[la ⟨fa,fn,fc⟩ x.h]) (fun a=>a.2=a.1∧a.1≤fn∧∀(j:Nat) (q:Re),j<a.1→x.h[j]? =some q→q.k≠6) (fun a=>fn-a.1) (0,0) ⟨rfl,aJ _,fun j q hj=>absurd hj (hZ _)⟩ (eC eK eE) ?_;rintro⟨i,z⟩ K ⟨hz,hi,hall⟩ close;simp only at hz hi hall;by_cases hlt:i<fn
 ·obtain⟨r,hr⟩:∃r,x.h[i]? =some r:=⟨_,ai (by omega)⟩;refine p6 ⟨fa,fn,fc⟩ hr (fun b off u ha=>?_);simp only at ha;subst ha;refine bj [] 9 (decide (z<(fn:Int))) (au (by omega)) ?_;refine bW [9] 3 b off fn fc .i64 i z hz aB hlt ?_;refine cV [] b (off+i*3) [.int .u8 r.k,.int .u8 r.d,aZ u] aB (cA b (off+i*3)) ?_;refine W.d [] 14 (r.k==6) (fun hk=>?_) (fun hk=>?_)
  ·have hk:=eq_of_beq hk;refine W.more (Δ:=[BF u r.b]) (by kernel_rfl) (fun I w _ hh=>aS (aW.p (k:=xG u) (a:=r) inferInstance hh).2.2) ?_;refine aq [14] (np u (b:=r.b)) ?_;rintro _ _ ⟨rfl,rfl⟩;refine W.r [] (.string (iH r.b)) ⟨?_,rfl⟩ bT;unfold oy;rw[JE hr hk hall];rfl
  ·refine close [14] _ _ (i+1,IntKind.i64.wrap (z+1)) (by kernel_rfl) (by kernel_rfl) ⟨by simp only[af];omega,hlt,fun j q hj hq=>?_⟩ (by simp only;omega) (eC eK eE);by_cases hji:j<i
   ·exact hall j q hji hq
   ·obtain rfl:j=i:=by simp only at hj;omega
    rw[hr]at hq;injection hq with hq;subst hq;exact kB hk
 ·refine aQ [] 9 (decide (z<(fn:Int))) (aj (by omega)) ?_;refine W.r [9] (.string ⟨#[]⟩) ⟨?_,rfl⟩ bT;unfold oy;rw[JF (fun j q hq=>hall j q (by have:=(List.getElem?_eq_some_iff.1 hq).1;omega) hq)];rfl
end
def j_(fn:Func):Code:=fn.body.getD .skip
def B9(k:Int):Value:=match ET k with
 |some s=>.tuple #[.agg #[.int .u8 s.data,.int .i64 s.part,.int .i64 s.least,.int .i64 s.most],.bool true]
 |none=>.tuple #[.agg #[.int .u8 0,.int .i64 0,.int .i64 0,.int .i64 0],.bool false]
theorem Zq:(List.range' 0 16).map (fun n:Nat=>(jb (aL tb (bh tb [5,18,22,25,28,41,47,50,54,57,63,70,74,77,80] 999 (eZ Tryz.f229 (j_ Tryz.f229) [.int .u8 (n:Int)])))).bind (fun s=>nZ tb s Tryz.f229.results.toList))=(List.range' 0 16).map (fun n:Nat=>some (B9 (n:Int))):=by kernel_rfl
theorem Zr:(List.range' 16 16).map (fun n:Nat=>(jb (aL tb (bh tb [5,18,22,25,28,41,47,50,54,57,63,70,74,77,80] 999 (eZ Tryz.f229 (j_ Tryz.f229) [.int .u8 (n:Int)])))).bind (fun s=>nZ tb s Tryz.f229.results.toList))=(List.range' 16 16).map (fun n:Nat=>some (B9 (n:Int))):=by kernel_rfl
theorem Zs:(List.range' 32 16).map (fun n:Nat=>(jb (aL tb (bh tb [5,18,22,25,28,41,47,50,54,57,63,70,74,77,80] 999 (eZ Tryz.f229 (j_ Tryz.f229) [.int .u8 (n:Int)])))).bind (fun s=>nZ tb s Tryz.f229.results.toList))=(List.range' 32 16).map (fun n:Nat=>some (B9 (n:Int))):=by kernel_rfl
theorem Zt:(List.range' 48 16).map (fun n:Nat=>(jb (aL tb (bh tb [5,18,22,25,28,41,47,50,54,57,63,70,74,77,80] 999 (eZ Tryz.f229 (j_ Tryz.f229) [.int .u8 (n:Int)])))).bind (fun s=>nZ tb s Tryz.f229.results.toList))=(List.range' 48 16).map (fun n:Nat=>some (B9 (n:Int))):=by kernel_rfl
theorem Zu:(List.range' 64 16).map (fun n:Nat=>(jb (aL tb (bh tb [5,18,22,25,28,41,47,50,54,57,63,70,74,77,80] 999 (eZ Tryz.f229 (j_ Tryz.f229) [.int .u8 (n:Int)])))).bind (fun s=>nZ tb s Tryz.f229.results.toList))=(List.range' 64 16).map (fun n:Nat=>some (B9 (n:Int))):=by kernel_rfl
theorem Zv:(List.range' 80 16).map (fun n:Nat=>(jb (aL tb (bh tb [5,18,22,25,28,41,47,50,54,57,63,70,74,77,80] 999 (eZ Tryz.f229 (j_ Tryz.f229) [.int .u8 (n:Int)])))).bind (fun s=>nZ tb s Tryz.f229.results.toList))=(List.range' 80 16).map (fun n:Nat=>some (B9 (n:Int))):=by kernel_rfl
theorem Zw:(List.range' 96 16).map (fun n:Nat=>(jb (aL tb (bh tb [5,18,22,25,28,41,47,50,54,57,63,70,74,77,80] 999 (eZ Tryz.f229 (j_ Tryz.f229) [.int .u8 (n:Int)])))).bind (fun s=>nZ tb s Tryz.f229.results.toList))=(List.range' 96 16).map (fun n:Nat=>some (B9 (n:Int))):=by kernel_rfl
theorem Zx:(List.range' 112 16).map (fun n:Nat=>(jb (aL tb (bh tb [5,18,22,25,28,41,47,50,54,57,63,70,74,77,80] 999 (eZ Tryz.f229 (j_ Tryz.f229) [.int .u8 (n:Int)])))).bind (fun s=>nZ tb s Tryz.f229.results.toList))=(List.range' 112 16).map (fun n:Nat=>some (B9 (n:Int))):=by kernel_rfl
theorem Zy:(List.range' 128 16).map (fun n:Nat=>(jb (aL tb (bh tb [5,18,22,25,28,41,47,50,54,57,63,70,74,77,80] 999 (eZ Tryz.f229 (j_ Tryz.f229) [.int .u8 (n:Int)])))).bind (fun s=>nZ tb s Tryz.f229.results.toList))=(List.range' 128 16).map (fun n:Nat=>some (B9 (n:Int))):=by kernel_rfl
theorem Zz:(List.range' 144 16).map (fun n:Nat=>(jb (aL tb (bh tb [5,18,22,25,28,41,47,50,54,57,63,70,74,77,80] 999 (eZ Tryz.f229 (j_ Tryz.f229) [.int .u8 (n:Int)])))).bind (fun s=>nZ tb s Tryz.f229.results.toList))=(List.range' 144 16).map (fun n:Nat=>some (B9 (n:Int))):=by kernel_rfl
theorem Wj:(List.range' 160 16).map (fun n:Nat=>(jb (aL tb (bh tb [5,18,22,25,28,41,47,50,54,57,63,70,74,77,80] 999 (eZ Tryz.f229 (j_ Tryz.f229) [.int .u8 (n:Int)])))).bind (fun s=>nZ tb s Tryz.f229.results.toList))=(List.range' 160 16).map (fun n:Nat=>some (B9 (n:Int))):=by kernel_rfl
theorem Wk:(List.range' 176 16).map (fun n:Nat=>(jb (aL tb (bh tb [5,18,22,25,28,41,47,50,54,57,63,70,74,77,80] 999 (eZ Tryz.f229 (j_ Tryz.f229) [.int .u8 (n:Int)])))).bind (fun s=>nZ tb s Tryz.f229.results.toList))=(List.range' 176 16).map (fun n:Nat=>some (B9 (n:Int))):=by kernel_rfl
theorem Wl:(List.range' 192 16).map (fun n:Nat=>(jb (aL tb (bh tb [5,18,22,25,28,41,47,50,54,57,63,70,74,77,80] 999 (eZ Tryz.f229 (j_ Tryz.f229) [.int .u8 (n:Int)])))).bind (fun s=>nZ tb s Tryz.f229.results.toList))=(List.range' 192 16).map (fun n:Nat=>some (B9 (n:Int))):=by kernel_rfl
theorem Wm:(List.range' 208 16).map (fun n:Nat=>(jb (aL tb (bh tb [5,18,22,25,28,41,47,50,54,57,63,70,74,77,80] 999 (eZ Tryz.f229 (j_ Tryz.f229) [.int .u8 (n:Int)])))).bind (fun s=>nZ tb s Tryz.f229.results.toList))=(List.range' 208 16).map (fun n:Nat=>some (B9 (n:Int))):=by kernel_rfl
theorem Wn:(List.range' 224 16).map (fun n:Nat=>(jb (aL tb (bh tb [5,18,22,25,28,41,47,50,54,57,63,70,74,77,80] 999 (eZ Tryz.f229 (j_ Tryz.f229) [.int .u8 (n:Int)])))).bind (fun s=>nZ tb s Tryz.f229.results.toList))=(List.range' 224 16).map (fun n:Nat=>some (B9 (n:Int))):=by kernel_rfl
theorem Wo:(List.range' 240 16).map (fun n:Nat=>(jb (aL tb (bh tb [5,18,22,25,28,41,47,50,54,57,63,70,74,77,80] 999 (eZ Tryz.f229 (j_ Tryz.f229) [.int .u8 (n:Int)])))).bind (fun s=>nZ tb s Tryz.f229.results.toList))=(List.range' 240 16).map (fun n:Nat=>some (B9 (n:Int))):=by kernel_rfl
theorem Wi{n:Nat}(hn:n<256):(jb (aL tb (bh tb [5,18,22,25,28,41,47,50,54,57,63,70,74,77,80] 999 (eZ Tryz.f229 (j_ Tryz.f229) [.int .u8 (n:Int)])))).bind (fun s=>nZ tb s Tryz.f229.results.toList)=some (B9 (n:Int)):=by
 by_cases h0:n<16
 ·exact List.map_inj_left.1 Zq n (List.mem_range'_1.2 ⟨by omega,by omega⟩)
 by_cases h1:n<32
 ·exact List.map_inj_left.1 Zr n (List.mem_range'_1.2 ⟨by omega,by omega⟩)
 by_cases h2:n<48
 ·exact List.map_inj_left.1 Zs n (List.mem_range'_1.2 ⟨by omega,by omega⟩)
 by_cases h3:n<64
 ·exact List.map_inj_left.1 Zt n (List.mem_range'_1.2 ⟨by omega,by omega⟩)
 by_cases h4:n<80
 ·exact List.map_inj_left.1 Zu n (List.mem_range'_1.2 ⟨by omega,by omega⟩)
 by_cases h5:n<96
 ·exact List.map_inj_left.1 Zv n (List.mem_range'_1.2 ⟨by omega,by omega⟩)
 by_cases h6:n<112
 ·exact List.map_inj_left.1 Zw n (List.mem_range'_1.2 ⟨by omega,by omega⟩)
 by_cases h7:n<128
 ·exact List.map_inj_left.1 Zx n (List.mem_range'_1.2 ⟨by omega,by omega⟩)
 by_cases h8:n<144
 ·exact List.map_inj_left.1 Zy n (List.mem_range'_1.2 ⟨by omega,by omega⟩)
 by_cases h9:n<160
 ·exact List.map_inj_left.1 Zz n (List.mem_range'_1.2 ⟨by omega,by omega⟩)
 by_cases h10:n<176
 ·exact List.map_inj_left.1 Wj n (List.mem_range'_1.2 ⟨by omega,by omega⟩)
 by_cases h11:n<192
 ·exact List.map_inj_left.1 Wk n (List.mem_range'_1.2 ⟨by omega,by omega⟩)
 by_cases h12:n<208
 ·exact List.map_inj_left.1 Wl n (List.mem_range'_1.2 ⟨by omega,by omega⟩)
 by_cases h13:n<224
 ·exact List.map_inj_left.1 Wm n (List.mem_range'_1.2 ⟨by omega,by omega⟩)
 by_cases h14:n<240
 ·exact List.map_inj_left.1 Wn n (List.mem_range'_1.2 ⟨by omega,by omega⟩)
 exact List.map_inj_left.1 Wo n (List.mem_range'_1.2 ⟨by omega,by omega⟩)
section
variable{Γ:List aD}
theorem Ui(k:Int)(hk:yP k):aw tb Tryz.prog 229 [.int .u8 k] Γ (jq (B9 k)):=by
 obtain⟨n,rfl⟩:∃n:Nat,k=n:=⟨k.toNat,by have:=hk.1;omega⟩;refine aw.of_W (c:=j_ Tryz.f229) aB Tryz.func229 (by kernel_rfl) ?_;exact W.r [5,18,22,25,28,41,47,50,54,57,63,70,74,77,80] (B9 (n:Int)) (h:=(Wi (by have:=hk.2;omega))) ⟨rfl,rfl⟩ bT
theorem WG(k:Int)(hk:yP k)(s:QN)(hs:ET k=some s):aw tb Tryz.prog 229 [.int .u8 k] Γ (jq (.tuple #[.agg #[.int .u8 s.data,.int .i64 s.part,.int .i64 s.least,.int .i64 s.most],.bool true])):=by
 have:=Ui (Γ:=Γ) k hk;unfold B9 at this;rw[hs]at this;exact this
theorem WE(k:Int)(hk:yP k)(hs:ET k=none):aw tb Tryz.prog 229 [.int .u8 k] Γ (jq (.tuple #[.agg #[.int .u8 0,.int .i64 0,.int .i64 0,.int .i64 0],.bool false])):=by
 have:=Ui (Γ:=Γ) k hk;unfold B9 at this;rw[hs]at this;exact this
end
theorem Qj{k:Int}{s:QN}(h:ET k=some s):1≤s.part∧s.part≤176∧0≤s.least∧s.most≤8191:=by
 have key:∀(c:Prop) [Decidable c] (a:QN) (o:Option QN),(if c then some a else o)=some s→(1≤a.part∧a.part≤176∧0≤a.least∧a.most≤8191)→(o=some s→1≤s.part∧s.part≤176∧0≤s.least∧s.most≤8191)→1≤s.part∧s.part≤176∧0≤s.least∧s.most≤8191:=by
  intro c _ a o h1 h2 h3;by_cases hc:c
  ·rw[if_pos hc]at h1;injection h1 with h1;subst h1;exact h2
  ·rw[if_neg hc]at h1;exact h3 h1
 unfold ET at h;refine key _ _ _ h (by decide) (fun h=>?_);refine key _ _ _ h (by decide) (fun h=>?_);refine key _ _ _ h (by decide) (fun h=>?_);refine key _ _ _ h (by decide) (fun h=>?_);refine key _ _ _ h (by decide) (fun h=>?_);refine key _ _ _ h (by decide) (fun h=>?_);refine key _ _ _ h (by decide) (fun h=>?_);refine key _ _ _ h (by decide) (fun h=>?_);refine key _ _ _ h (by decide) (fun h=>?_);refine key _ _ _ h (by decide) (fun h=>?_);refine key _ _ _ h (by decide) (fun h=>?_);refine key _ _ _ h (by decide) (fun h=>?_);refine key _ _ _ h (by decide) (fun h=>?_);refine key _ _ _ h (by decide) (fun h=>?_);refine key _ _ _ h (by decide) (fun h=>?_);simp at h
def stp(T:Tb)(c:fG):fG:=match aL T c with
 | .next c'=>c'
 |_=>c
theorem W.stp{T:Tb}{P:Program}{fin:VS→List aD→Prop}{c:fG}{Γ:List aD}(h:W T P fin (YtgaaopjagcaojaaGreat.stp T c) Γ):W T P fin c Γ:=by
 unfold YtgaaopjagcaojaaGreat.stp at h;split at h
 ·rename_i c' he;exact W.next he h
 ·exact h
section
variable{Γ:List aD}
theorem Py(d a l e:Int):aw tb Tryz.prog 230 [.agg #[.int .u8 d,.int .i64 a,.int .i64 l,.int .i64 e]] Γ (jq (.int .i64 (max a 1))):=by
 refine aw.of_W aB Tryz.func230 rfl ?_;refine MO [] .i64 a 1 (max a 1) rfl ?_;exact W.r [] (.int .i64 (max a 1)) ⟨rfl,rfl⟩ bT
theorem Qm:∀n:_root_.Fin 256,([95,63,36]:List UInt8).contains (n.val.toUInt8)=(decide (n.val=95)||decide (n.val=63)||decide (n.val=36)):=by decide+kernel
theorem zL{k:Int}(hk:yP k):decide (Lib.indexByte (⟨#[95,63,36]⟩:ByteArray).data.toList k.toNat.toUInt8≥0)=(k==95||k==63||k==36):=by
 obtain⟨n,rfl⟩:∃n:Nat,k=n:=⟨k.toNat,by have:=hk.1;omega⟩;have hn:n<256:=by have:=hk.2;omega
 rw[qI];have:=Qm ⟨n,hn⟩;simp only[jc]at this⊢;rw[this];congr 1
 ·congr 1
  ·rw[sZ];simp;omega
  ·rw[sZ];simp;omega
 ·rw[sZ];simp;omega
theorem xU{k:Int}(h:(65≤k∧k≤90)∨(97≤k∧k≤122)∨(48≤k∧k≤57)):jQ k=true:=by
 unfold jQ;simp only[eu,aM,dp];omega
theorem rT{k:Int}(h1:¬(65≤k∧k≤90))(h2:¬(97≤k∧k≤122))(h3:¬(48≤k∧k≤57)):jQ k=(k==95||k==63||k==36):=by
 unfold jQ;rw[←Bool.decide_and,←Bool.decide_and,←Bool.decide_and,aj h1,aj h2,aj h3];rfl
theorem GO(k:Int)(hk:yP k):aw tb Tryz.prog 232 [.int .u8 k] Γ (jq (.bool (jQ k))):=by
 refine aw.of_W aB Tryz.func232 rfl ?_;by_cases h0:65≤k∧k≤90
 ·refine bj [] 5 (decide (k≥65)) (au (by omega)) ?_;refine bj [5] 9 (decide (k≤90)) (au (by omega)) ?_;exact W.r [25,20,17,12,9] (.bool true) ⟨by rw[xU (by omega)],rfl⟩ bT
 by_cases h1:97≤k∧k≤122
 ·refine bj [] 5 (decide (k≥65)) (au (by omega)) ?_;refine aQ [5] 9 (decide (k≤90)) (aj (by omega)) ?_;refine bj [9] 12 (decide (k≥97)) (au (by omega)) ?_;refine bj [9,12] 17 (decide (k≤122)) (au (by omega)) ?_;exact W.r [25,20,17] (.bool true) ⟨by rw[xU (by omega)],rfl⟩ bT
 by_cases h2:48≤k∧k≤57
 ·refine aQ [] 5 (decide (k≥65)) (aj (by omega)) ?_;refine aQ [9,5] 12 (decide (k≥97)) (aj (by omega)) ?_;refine bj [17,9,12] 20 (decide (k≥48)) (au (by omega)) ?_;refine bj [17,20] 25 (decide (k≤57)) (au (by omega)) ?_;exact W.r [25] (.bool true) ⟨by rw[xU (by omega)],rfl⟩ bT
 by_cases h3:k<48
 ·refine aQ [] 5 (decide (k≥65)) (aj (by omega)) ?_;refine aQ [9,5] 12 (decide (k≥97)) (aj (by omega)) ?_;refine aQ [17,9,12] 20 (decide (k≥48)) (aj (by omega)) ?_;refine aq [25,17,20] (Kg ⟨#[95,63,36]⟩ k) ?_;rintro _ _ ⟨rfl,rfl⟩;exact W.r [25] (.bool (decide (Lib.indexByte (⟨#[95,63,36]⟩:ByteArray).data.toList k.toNat.toUInt8≥0))) ⟨by rw[zL hk,rT (by omega) (by omega) (by omega)],rfl⟩ bT
 by_cases h4:k<65
 ·refine aQ [] 5 (decide (k≥65)) (aj (by omega)) ?_;refine aQ [9,5] 12 (decide (k≥97)) (aj (by omega)) ?_;refine bj [17,9,12] 20 (decide (k≥48)) (au (by omega)) ?_;refine aQ [17,20] 25 (decide (k≤57)) (aj (by omega)) ?_;refine aq [25] (Kg ⟨#[95,63,36]⟩ k) ?_;rintro _ _ ⟨rfl,rfl⟩;exact W.r [25] (.bool (decide (Lib.indexByte (⟨#[95,63,36]⟩:ByteArray).data.toList k.toNat.toUInt8≥0))) ⟨by rw[zL hk,rT (by omega) (by omega) (by omega)],rfl⟩ bT
 by_cases h5:k<97
 ·refine bj [] 5 (decide (k≥65)) (au (by omega)) ?_;refine aQ [5] 9 (decide (k≤90)) (aj (by omega)) ?_;refine aQ [9] 12 (decide (k≥97)) (aj (by omega)) ?_;refine bj [17,9,12] 20 (decide (k≥48)) (au (by omega)) ?_;refine aQ [17,20] 25 (decide (k≤57)) (aj (by omega)) ?_;refine aq [25] (Kg ⟨#[95,63,36]⟩ k) ?_;rintro _ _ ⟨rfl,rfl⟩;exact W.r [25] (.bool (decide (Lib.indexByte (⟨#[95,63,36]⟩:ByteArray).data.toList k.toNat.toUInt8≥0))) ⟨by rw[zL hk,rT (by omega) (by omega) (by omega)],rfl⟩ bT
 refine bj [] 5 (decide (k≥65)) (au (by omega)) ?_;refine aQ [5] 9 (decide (k≤90)) (aj (by omega)) ?_;refine bj [9] 12 (decide (k≥97)) (au (by omega)) ?_;refine aQ [9,12] 17 (decide (k≤122)) (aj (by omega)) ?_;refine bj [17] 20 (decide (k≥48)) (au (by omega)) ?_;refine aQ [17,20] 25 (decide (k≤57)) (aj (by omega)) ?_;refine aq [25] (Kg ⟨#[95,63,36]⟩ k) ?_;rintro _ _ ⟨rfl,rfl⟩;exact W.r [25] (.bool (decide (Lib.indexByte (⟨#[95,63,36]⟩:ByteArray).data.toList k.toNat.toUInt8≥0))) ⟨by rw[zL hk,rT (by omega) (by omega) (by omega)],rfl⟩ bT
theorem ni{b:List Int}(hb:kW b):iW (iH b)=fI b:=Fk (fun z hz=>by
 unfold fI at hz;split at hz
 ·exact hb z (List.dropLast_subset _ hz)
 ·exact hb z hz)
theorem kO{b:List Int}(hb:kW b):kW (fI b):=fun z hz=>by
 unfold fI at hz;split at hz
 ·exact hb z (List.dropLast_subset _ hz)
 ·exact hb z hz
theorem Ma(b:List Int):(fI b).length≤b.length:=by
 unfold fI;split
 ·simp
 ·exact ak _
theorem yh(b:List Int):(iH b).size=(fI b).length:=strOfNums_size _
theorem wZ{l:List Int}(hl:kW l):decide (Lib.indexByte (Lib.bytesOf l) (0:Int).toNat.toUInt8<0)= !l.contains 0:=by
 have h:=qI (Lib.bytesOf l) (0:Int).toNat.toUInt8;have e:(Lib.bytesOf l).contains (0:Int).toNat.toUInt8=l.contains 0:=by
  rw[sZ,List.contains_iff_mem,List.contains_iff_mem];unfold Lib.bytesOf;rw[zW];constructor
  ·rintro⟨z,hz,e⟩;have:=hl z hz;have e2:=dH UInt8.toNat e;have e3:(UInt8.ofNat z.toNat).toNat=z.toNat % 256:=rfl;have e4:z.toNat % 256=0:=by
    rw[←e3];exact e2
   have:z=0:=by omega
   subst this;exact hz
  ·intro hz;exact⟨0,hz,rfl⟩
 rw[←e,←h];rw[sZ];simp
theorem G9{r:Re}(h:ET r.k=none):fk r=false:=by
 unfold fk;rw[h]
theorem ui{r:Re}{s:QN}(h:ET r.k=some s):fk r=(r.d==s.data&&((r.b.length:Int) % s.part==0&&(decide (s.least≤(r.b.length:Int)/s.part)&&(decide ((r.b.length:Int)/s.part≤s.most)&&
   (if D8 r.k then !(fI r.b).contains 0 else if D7 r.k then(fI r.b).all jQ else true))))):=by
 unfold fk;rw[h]
theorem PB(s:Sl)(r:Re) [h:aW (xG s) r Γ]:aw tb Tryz.prog 180 [rev r s] Γ (jq (.bool (fk r))):=by
 obtain⟨k,d,b⟩:=r;refine aw.of_W aB Tryz.func180 rfl ?_;refine qD (yP k) rfl (fun I w _ hh=>(h.p hh).1) (fun hk=>?_);refine W.more (Δ:=[BF s b]) rfl (fun I w _ hh=>aS (h.p hh).2.2) ?_;refine xH s (hm:=rfl) (fun h1 h2 h3 h4=>?_);cases hsh:ET k with
 |none=>
  have hno:fk ⟨k,d,b⟩=false:=G9 hsh;refine aq [] (WE k hk hsh) ?_;rintro _ _ ⟨rfl,rfl⟩;refine aq [] (Py 0 0 0 0) ?_;rintro _ _ ⟨rfl,rfl⟩;refine W.quo [] (s.n:Int) (max 0 1) (IntKind.i64.wrap ((s.n:Int).tdiv 1)) (by decide) rfl ?_;refine bj [] 22 (!false) rfl ?_;exact W.r [29,38,44,49,22] (.bool false) ⟨by rw[hno],rfl⟩ bT
 |some sh=>
  have hreq:fk ⟨k,d,b⟩=_:=ui hsh;simp only at hreq;obtain⟨hp1,hp2,hp3,hp4⟩:=Qj hsh;have hmx:max sh.part 1=sh.part:=by omega
  have hq:(s.n:Int).tdiv (max sh.part 1)=(b.length:Int)/sh.part:=by rw[hmx,h1,Int.tdiv_eq_ediv_of_nonneg (by omega)]
  have hm:(s.n:Int).tmod (max sh.part 1)=(b.length:Int) % sh.part:=by rw[hmx,h1,fJ (by omega)]
  refine aq [] (WG k hk sh hsh) ?_;rintro _ _ ⟨rfl,rfl⟩;refine aq [] (Py sh.data sh.part sh.least sh.most) ?_;rintro _ _ ⟨rfl,rfl⟩;obtain⟨q,hqq⟩:∃q,(b.length:Int)/sh.part=q:=⟨_,rfl⟩;obtain⟨m,hmm⟩:∃m,(b.length:Int) % sh.part=m:=⟨_,rfl⟩;have hq0:0≤q:=by rw[←hqq];exact Int.ediv_nonneg (by omega) (by omega)
  have hq1:q≤b.length:=by rw[←hqq];exact Int.ediv_le_self _ (by omega)
  rw[hqq]at hq hreq;rw[hmm]at hm hreq;refine W.quo [] (s.n:Int) (max sh.part 1) q (by omega) (by rw[hq,af];omega) ?_;refine aQ [] 22 (!true) rfl ?_;by_cases hd:sh.data=d
  rotate_left
  ·refine bj [22] 29 (sh.data != d) (by simpa using hd) ?_;exact W.r [38,44,49,29] (.bool false) ⟨by rw[hreq,show(d==sh.data)=false by rw[ed];exact fun e=>hd e.symm];rfl,rfl⟩ bT
  subst hd;rw[show(sh.data==sh.data)=true by simp,dA]at hreq;refine aQ [22] 29 (sh.data != sh.data) (by simp) ?_;refine aq [29] (Py sh.data sh.part sh.least sh.most) ?_;rintro _ _ ⟨rfl,rfl⟩;refine xI [29] .i64 (s.n:Int) (max sh.part 1) m (by omega) hm ?_;by_cases hm0:m=0
  rotate_left
  ·refine bj [29] 38 (m != 0) (by simpa using hm0) ?_;exact W.r [44,49,38] (.bool false) ⟨by rw[hreq,show(m==0)=false by rw[ed];exact hm0];rfl,rfl⟩ bT
  subst hm0;rw[show((0:Int)==0)=true by decide,dA]at hreq;refine aQ [29] 38 ((0:Int) != 0) (by decide) ?_;by_cases hlt:q<sh.least
  ·refine bj [38] 44 (decide (q<sh.least)) (au hlt) ?_;exact W.r [49,44] (.bool false) ⟨by rw[hreq,aj (by omega)];rfl,rfl⟩ bT
  rw[au (show sh.least≤q by omega),dA]at hreq;refine aQ [38] 44 (decide (q<sh.least)) (aj hlt) ?_;by_cases hgt:q>sh.most
  ·refine bj [44] 49 (decide (q>sh.most)) (au hgt) ?_;exact W.r [49] (.bool false) ⟨by rw[hreq,aj (by omega)];rfl,rfl⟩ bT
  rw[au (show q≤sh.most by omega),dA]at hreq;refine aQ [44] 49 (decide (q>sh.most)) (aj hgt) ?_;have hz:(iH b).size≤9223372036854775807:=by
   have:=Ma b;rw[yh];omega
  by_cases k2:k=2
  ·subst k2;refine aq [49,52] (np s (b:=b)) ?_;rintro _ _ ⟨rfl,rfl⟩;refine Ab [] 9 28 5 (iH b) Tryz.underlying9 Tryz.underlying28 Tryz.underlying5 hz (fun B cap hcap=>?_);refine aq [] (GM B 0 (iH b).size cap (iW (iH b)) 0) ?_;rintro _ _ ⟨rfl,rfl⟩;refine W.r [] (.bool (decide (Lib.indexByte (Lib.bytesOf (iW (iH b))) (0:Int).toNat.toUInt8<0))) ⟨?_,rfl⟩ bT;rw[hreq,ni h3,wZ (kO h3)];rfl
  by_cases k25:k=25
  ·subst k25;refine aq [49,52] (np s (b:=b)) ?_;rintro _ _ ⟨rfl,rfl⟩;refine Ab [] 9 28 5 (iH b) Tryz.underlying9 Tryz.underlying28 Tryz.underlying5 hz (fun B cap hcap=>?_);refine aq [] (GM B 0 (iH b).size cap (iW (iH b)) 0) ?_;rintro _ _ ⟨rfl,rfl⟩;refine W.r [] (.bool (decide (Lib.indexByte (Lib.bytesOf (iW (iH b))) (0:Int).toNat.toUInt8<0))) ⟨?_,rfl⟩ bT;rw[hreq,ni h3,wZ (kO h3)];rfl
  by_cases k44:k=44
  ·subst k44;refine aq [49,52] (np s (b:=b)) ?_;rintro _ _ ⟨rfl,rfl⟩;refine Ab [] 9 28 5 (iH b) Tryz.underlying9 Tryz.underlying28 Tryz.underlying5 hz (fun B cap hcap=>?_);refine aq [] (GM B 0 (iH b).size cap (iW (iH b)) 0) ?_;rintro _ _ ⟨rfl,rfl⟩;refine W.r [] (.bool (decide (Lib.indexByte (Lib.bytesOf (iW (iH b))) (0:Int).toNat.toUInt8<0))) ⟨?_,rfl⟩ bT;rw[hreq,ni h3,wZ (kO h3)];rfl
  by_cases k55:k=55
  ·subst k55;refine aq [49,52] (np s (b:=b)) ?_;rintro _ _ ⟨rfl,rfl⟩;refine Ab [] 9 28 5 (iH b) Tryz.underlying9 Tryz.underlying28 Tryz.underlying5 hz (fun B cap hcap=>?_);refine aq [] (GM B 0 (iH b).size cap (iW (iH b)) 0) ?_;rintro _ _ ⟨rfl,rfl⟩;refine W.r [] (.bool (decide (Lib.indexByte (Lib.bytesOf (iW (iH b))) (0:Int).toNat.toUInt8<0))) ⟨?_,rfl⟩ bT;rw[hreq,ni h3,wZ (kO h3)];rfl
  by_cases k58:k=58
  ·subst k58;refine aq [49,52] (np s (b:=b)) ?_;rintro _ _ ⟨rfl,rfl⟩;refine Ab [] 9 28 5 (iH b) Tryz.underlying9 Tryz.underlying28 Tryz.underlying5 hz (fun B cap hcap=>?_);refine aq [] (GM B 0 (iH b).size cap (iW (iH b)) 0) ?_;rintro _ _ ⟨rfl,rfl⟩;refine W.r [] (.bool (decide (Lib.indexByte (Lib.bytesOf (iW (iH b))) (0:Int).toNat.toUInt8<0))) ⟨?_,rfl⟩ bT;rw[hreq,ni h3,wZ (kO h3)];rfl
  by_cases k6:k=6
  ·subst k6;have hreq2:fk ⟨6,sh.data,b⟩=(fI b).all jQ:=hreq;refine aq [49,52,64] (np s (b:=b)) ?_;rintro _ _ ⟨rfl,rfl⟩;refine Ab [] 9 28 5 (iH b) Tryz.underlying9 Tryz.underlying28 Tryz.underlying5 hz (fun B cap hcap=>?_);have hlen:(fI b).length=(iH b).size:=(yh b).symm;refine zd [] [72] (fun a:Nat×Int=>[(72,.int .i64 a.2)]) (fun _=>[]) (fun _=>[BF ⟨some ⟨B,0,none⟩,(iH b).size,cap⟩ (iW (iH b))]) (fun a=>a.2=a.1∧a.1≤(fI b).length∧∀(j:Nat) (z:Int),j<a.1→(fI b)[j]? =some z→jQ z=true) (fun a=>(fI b).length-a.1) (0,0) ⟨rfl,aJ _,fun j z hj=>absurd hj (hZ _)⟩ (eC eK eE) ?_;rintro⟨i,z⟩ R ⟨hzi,hi,hall⟩ close;simp only at hzi hi hall;by_cases hil:i<(fI b).length
   ·obtain⟨y,hy⟩:∃y,(fI b)[i]? =some y:=⟨_,ai hil⟩;have hyb:yP y:=kO h3 y (aK hy);refine bj [] 73 (decide (z<((iH b).size:Int))) (au (by omega)) ?_;refine bW [73] 1 B 0 (iH b).size cap .i64 i z hzi aB (by omega) ?_;refine dJ [] 1 B (0+i*1) (.int .u8 y) aB (fun I w _ hh=>?_) ?_
    ·have hb:=(aW.p (k:=BF ⟨some ⟨B,0,none⟩,(iH b).size,cap⟩) (a:=iW (iH b)) inferInstance hh).2.2.2;rw[fK];exact RA.cell hb (by rw[ni h3,bK,hy];rfl)
    refine aq [] (GO y hyb) ?_;rintro _ _ ⟨rfl,rfl⟩;cases hly:jQ y with
    |false=>
     refine bj [] 78 (!false) rfl ?_;refine W.r [78] (.bool false) ⟨?_,rfl⟩ bT;rw[hreq2,show(fI b).all jQ=false from List.all_eq_false.2 ⟨y,aK hy,by rw[hly];decide⟩]
    |true=>
     refine aQ [] 78 (!true) rfl ?_;refine close [78] _ _ (i+1,IntKind.i64.wrap (z+1)) (by kernel_rfl) (by kernel_rfl) ⟨by simp only[af];omega,hil,fun j x hj hx=>?_⟩ (by simp only;omega) (eC eK eE);by_cases hji:j<i
     ·exact hall j x hji hx
     ·have:j=i:=by simp only at hj;omega
      subst this;rw[hy]at hx;injection hx with hx;subst hx;exact hly
   ·refine aQ [] 73 (decide (z<((iH b).size:Int))) (aj (by omega)) ?_;refine W.r [73] (.bool true) ⟨?_,rfl⟩ bT;rw[hreq2,show(fI b).all jQ=true from List.all_eq_true.2 (fun y hy=>by
     obtain⟨j,hj⟩:=mP hy;exact hall j y (by have:=(List.getElem?_eq_some_iff.1 hj).1;omega) hj)]
  by_cases k18:k=18
  ·subst k18;have hreq2:fk ⟨18,sh.data,b⟩=(fI b).all jQ:=hreq;refine aq [49,52,64] (np s (b:=b)) ?_;rintro _ _ ⟨rfl,rfl⟩;refine Ab [] 9 28 5 (iH b) Tryz.underlying9 Tryz.underlying28 Tryz.underlying5 hz (fun B cap hcap=>?_);have hlen:(fI b).length=(iH b).size:=(yh b).symm;refine zd [] [72] (fun a:Nat×Int=>[(72,.int .i64 a.2)]) (fun _=>[]) (fun _=>[BF ⟨some ⟨B,0,none⟩,(iH b).size,cap⟩ (iW (iH b))]) (fun a=>a.2=a.1∧a.1≤(fI b).length∧∀(j:Nat) (z:Int),j<a.1→(fI b)[j]? =some z→jQ z=true) (fun a=>(fI b).length-a.1) (0,0) ⟨rfl,aJ _,fun j z hj=>absurd hj (hZ _)⟩ (eC eK eE) ?_;rintro⟨i,z⟩ R ⟨hzi,hi,hall⟩ close;simp only at hzi hi hall;by_cases hil:i<(fI b).length
   ·obtain⟨y,hy⟩:∃y,(fI b)[i]? =some y:=⟨_,ai hil⟩;have hyb:yP y:=kO h3 y (aK hy);refine bj [] 73 (decide (z<((iH b).size:Int))) (au (by omega)) ?_;refine bW [73] 1 B 0 (iH b).size cap .i64 i z hzi aB (by omega) ?_;refine dJ [] 1 B (0+i*1) (.int .u8 y) aB (fun I w _ hh=>?_) ?_
    ·have hb:=(aW.p (k:=BF ⟨some ⟨B,0,none⟩,(iH b).size,cap⟩) (a:=iW (iH b)) inferInstance hh).2.2.2;rw[fK];exact RA.cell hb (by rw[ni h3,bK,hy];rfl)
    refine aq [] (GO y hyb) ?_;rintro _ _ ⟨rfl,rfl⟩;cases hly:jQ y with
    |false=>
     refine bj [] 78 (!false) rfl ?_;refine W.r [78] (.bool false) ⟨?_,rfl⟩ bT;rw[hreq2,show(fI b).all jQ=false from List.all_eq_false.2 ⟨y,aK hy,by rw[hly];decide⟩]
    |true=>
     refine aQ [] 78 (!true) rfl ?_;refine close [78] _ _ (i+1,IntKind.i64.wrap (z+1)) (by kernel_rfl) (by kernel_rfl) ⟨by simp only[af];omega,hil,fun j x hj hx=>?_⟩ (by simp only;omega) (eC eK eE);by_cases hji:j<i
     ·exact hall j x hji hx
     ·have:j=i:=by simp only at hj;omega
      subst this;rw[hy]at hx;injection hx with hx;subst hx;exact hly
   ·refine aQ [] 73 (decide (z<((iH b).size:Int))) (aj (by omega)) ?_;refine W.r [73] (.bool true) ⟨?_,rfl⟩ bT;rw[hreq2,show(fI b).all jQ=true from List.all_eq_true.2 (fun y hy=>by
     obtain⟨j,hj⟩:=mP hy;exact hall j y (by have:=(List.getElem?_eq_some_iff.1 hj).1;omega) hj)]
  have hnt:D8 k=false:=by simp[D8,k2,k25,k44,k55,k58]
  have hnn:D7 k=false:=by simp[D7,k6,k18]
  rw[hnt,hnn]at hreq;refine aQ [49] 52 (k==2) (beq_eq_false_iff_ne.2 k2) ?_;refine W.stp ?_;refine aQ [] 52 (k==25) (beq_eq_false_iff_ne.2 k25) ?_;refine W.stp ?_;refine aQ [] 52 (k==44) (beq_eq_false_iff_ne.2 k44) ?_;refine W.stp ?_;refine aQ [] 52 (k==55) (beq_eq_false_iff_ne.2 k55) ?_;refine W.stp ?_;refine aQ [] 52 (k==58) (beq_eq_false_iff_ne.2 k58) ?_;refine W.stp ?_;refine aQ [52] 64 (k==6) (beq_eq_false_iff_ne.2 k6) ?_;refine W.stp ?_;refine aQ [52] 64 (k==18) (beq_eq_false_iff_ne.2 k18) ?_;refine W.stp ?_;exact W.r [64] (.bool true) ⟨by rw[hreq];rfl,rfl⟩ bT
end
theorem SK{k:Int}{s:QN}(h:ET k=some s):s.part*s.most≤65528:=by
 have key:∀(c:Prop) [Decidable c] (a:QN) (o:Option QN),(if c then some a else o)=some s→(a.part*a.most≤65528)→(o=some s→s.part*s.most≤65528)→s.part*s.most≤65528:=by
  intro c _ a o h1 h2 h3;by_cases hc:c
  ·rw[if_pos hc]at h1;injection h1 with h1;subst h1;exact h2
  ·rw[if_neg hc]at h1;exact h3 h1
 unfold ET at h;refine key _ _ _ h (by decide) (fun h=>?_);refine key _ _ _ h (by decide) (fun h=>?_);refine key _ _ _ h (by decide) (fun h=>?_);refine key _ _ _ h (by decide) (fun h=>?_);refine key _ _ _ h (by decide) (fun h=>?_);refine key _ _ _ h (by decide) (fun h=>?_);refine key _ _ _ h (by decide) (fun h=>?_);refine key _ _ _ h (by decide) (fun h=>?_);refine key _ _ _ h (by decide) (fun h=>?_);refine key _ _ _ h (by decide) (fun h=>?_);refine key _ _ _ h (by decide) (fun h=>?_);refine key _ _ _ h (by decide) (fun h=>?_);refine key _ _ _ h (by decide) (fun h=>?_);refine key _ _ _ h (by decide) (fun h=>?_);refine key _ _ _ h (by decide) (fun h=>?_);simp at h
theorem Db{r:Re}(h:fk r=true):∃s,ET r.k=some s∧r.d=s.data∧(r.b.length:Int) % s.part=0∧s.least≤(r.b.length:Int)/s.part∧(r.b.length:Int)/s.part≤s.most:=by
 cases hs:ET r.k with
 |none=>rw[G9 hs]at h;simp at h
 |some s=>
  rw[ui hs]at h;simp only[aM,jM,dp]at h;exact⟨s,rfl,h.1,h.2.1,h.2.2.1,h.2.2.2.1⟩
theorem nW{r:Re}(h:fk r=true):r.b.length≤65528:=by
 obtain⟨s,hs,_,h1,_,h2⟩:=Db h;have h3:=SK hs;obtain⟨p1,_⟩:=Qj hs;have h4:=Int.mul_ediv_add_emod (r.b.length:Int) s.part;rw[h1,vd]at h4;have h5:s.part*((r.b.length:Int)/s.part)≤s.part*s.most:=lA h2 (by omega);omega
def qQ(x:Im):Prop:=x.f≠ []∧∀r∈x.f,fk r=true
theorem kS{x:Im}{k:Int}{r:Re}(h:dW x k=some r):r∈x.f∧r.k=k:=by
 unfold dW at h;exact⟨List.mem_of_find?_eq_some h,by simpa using List.find?_some h⟩
theorem qQ.short{x:Im}(h:qQ x):∀r∈x.f,r.b.length≤1000000:=fun r hr=>by
 have:=nW (h.2 r hr);omega
theorem qQ.len{x:Im}(h:qQ x){k:Int}{r:Re}(hf:dW x k=some r){s:QN}(hs:ET k=some s):r.d=s.data∧(r.b.length:Int) % s.part=0∧s.least≤(r.b.length:Int)/s.part∧(r.b.length:Int)/s.part≤s.most:=by
 obtain⟨hm,hk⟩:=kS hf;obtain⟨s',hs',h1,h2,h3,h4⟩:=Db (h.2 r hm);rw[hk,hs]at hs';injection hs' with hs';subst hs';exact⟨h1,h2,h3,h4⟩
def XT(k:Int):Prop:=ET k=some ⟨2,2,1,1⟩∨ET k=some ⟨1,2,1,1⟩∨ET k=some ⟨3,4,1,1⟩
theorem qQ.num{x:Im}(h:qQ x){k:Int}{r:Re}(hf:dW x k=some r)(hk:XT k):r.b.length=2∨(r.d=3∧r.b.length=4):=by
 rcases hk with hk|hk|hk<;>obtain⟨h1,h2,h3,h4⟩:=h.len hf hk<;>simp only at h1 h2 h3 h4<;>omega
def cB(x:Im)(k w:Int):Int:=match dW x k with
 |none=>w
 |some r=>if r.d=2∨r.b.length % 4≠0 then(dT r.b).headD 0 else(fj r.b).headD 0
def kj:List Int→List Dp
 |a::b::r=>⟨a,b⟩::kj r
 |_=>[]
def bJ(x:Im):List Dp:=match dW x 16 with
 |some r=>kj (fj r.b)
 |none=>[]
def cJ(x:Im):Int:=(x.f.headD default).k
def bN(x:Im):Int×Int:=match dW x 19 with
 |none=>(1,1)
 |some r=>((dT r.b).headD 0,(dT r.b).getD 1 0)
def jj(x:Im):Option (List Int):=(dW x 18).map fun r=>fI r.b
theorem yc:∀l:List Int,(kj l).length=l.length/2
 | []=>by simp[kj]
 | [_]=>by simp[kj]
 |a::b::r=>by
  have:=yc r;simp only[kj,aC];omega
theorem GQ:∀(l:List Int) (k:Nat) (a b:Int),l[2*k]? =some a→l[2*k+1]? =some b→(kj l)[k]? =some ⟨a,b⟩
 | [],k,a,b,h,_=>by simp at h
 | [x],k,a,b,_,h=>by
  have:=(List.getElem?_eq_some_iff.1 h).1;simp at this
 |x::y::r,0,a,b,h1,h2=>by
  simp at h1 h2;subst h1 h2;rfl
 |x::y::r,k+1,a,b,h1,h2=>by
  simp only[kj,eV];exact GQ r k a b (by simpa [fA]using h1) (by simpa [fA]using h2)
def zi(s:Sl)(l:List Dp):aD where
 p I w:=s.n=l.length∧(s.n≤s.c∧s.c≤maxLen)∧(RA s.ao (l.flatMap eg)).p I w
 up:=by
  rintro I I' w w' ⟨h1,h2,h⟩ g1 g2 g3;exact⟨h1,h2,(RA s.ao _).up h g1 g2 g3⟩
section
variable{T:Tb}{P:Program}{fin:VS→List aD→Prop}{c:fG}{Γ:List aD}
theorem MQ(s:Sl){l:List Int} [h:aW (NL s) l Γ](hm:dD c.k=false)(hc:s.n=l.length→s.n≤s.c∧s.c≤9223372036854775807→(l≠ []→∃bb off,s.ao=some ⟨bb,off,none⟩)→W T P fin c Γ):W T P fin c Γ:=
 qD (s.n=l.length∧(s.n≤s.c∧s.c≤9223372036854775807)∧(l≠ []→∃bb off,s.ao=some ⟨bb,off,none⟩)) hm (fun I w _ hh=>by
  obtain⟨h1,h2,h4⟩:=h.p hh;refine⟨h1,h2,fun hne=>?_⟩;obtain⟨bb,off,ha,_⟩:=h4 (by simpa using hne);exact⟨bb,off,ha⟩) (fun hq=>hc hq.1 hq.2.1 hq.2.2)
theorem sL(bb off n c:Nat){l:List Int} [h:aW (NL ⟨some ⟨bb,off,none⟩,n,c⟩) l Γ]{i:Nat}{z:Int}(hz:l[i]? =some z):∀I w,br T I w→aG Γ I w→w.cell? ⟨bb,off+i*1,none⟩=some (.int .i64 z):=fun I w _ hh=>by
 rw[fK];exact RA.cell (h.p hh).2.2 (by rw[bK,hz];rfl)
theorem Jk(s:Sl){l:List Dp} [h:aW (zi s) l Γ](hm:dD c.k=false)(hc:s.n=l.length→s.n≤s.c∧s.c≤9223372036854775807→(l≠ []→∃bb off,s.ao=some ⟨bb,off,none⟩)→W T P fin c Γ):W T P fin c Γ:=
 qD (s.n=l.length∧(s.n≤s.c∧s.c≤9223372036854775807)∧(l≠ []→∃bb off,s.ao=some ⟨bb,off,none⟩)) hm (fun I w _ hh=>by
  obtain⟨h1,h2,h4⟩:=h.p hh;refine⟨h1,h2,fun hne=>?_⟩;obtain⟨bb,off,ha,_⟩:=h4 (by cases l with|nil=>exact absurd rfl hne|cons a r=>simp[eg]);exact⟨bb,off,ha⟩) (fun hq=>hc hq.1 hq.2.1 hq.2.2)
theorem oC(bb off n c:Nat){l:List Dp} [h:aW (zi ⟨some ⟨bb,off,none⟩,n,c⟩) l Γ]{i:Nat}{d:Dp}(hd:l[i]? =some d):∀I w,br T I w→aG Γ I w→∀j v,(eg d)[j]? =some v→w.cell? ⟨bb,off+i*2+j,none⟩=some v:=fun I w _ hh j v hv=>by
 rw[gU];exact RA.cell (h.p hh).2.2 (eH hd j v hv)
theorem nh(u:Sl){r:Re} [h:aW (xG u) r Γ]:∀(I:fQ) (w:World),br T I w→aG Γ I w→aG [BF u r.b] I w:=fun I w _ hh=>aS (h.p hh).2.2
end
section
variable{Γ:List aD}{L M:Nat}
def XS(u:Sl)(l:List Int):Prop:=u.n=l.length∧(u.n≤u.c∧u.c≤9223372036854775807)∧(l≠ []→∃bb off,u.ao=some ⟨bb,off,none⟩)
theorem JS{u:Sl}{l:List Int}{I:fQ}{w:World}(h:(NL u l).p I w):XS u l:=by
 obtain⟨h1,h2,h4⟩:=h;refine⟨h1,h2,fun hne=>?_⟩;obtain⟨bb,off,ha,_⟩:=h4 (by simpa using hne);exact⟨bb,off,ha⟩
theorem A7(s:Sl){b:List Int} [h:aW (BF s) b Γ](hl:b.length≤1000000)(h4:b.length % 4=0):aw tb Tryz.prog 126 [aZ s] Γ (fun v Δ=>∃u:Sl,XS u (fj b)∧v=.tuple #[aZ u,.int .i64 0]∧Δ=[NL u (fj b)]):=by
 have:=Ka (Γ:=Γ) s hl;rw[show(b.length % 4==0)=true by simpa using h4]at this;refine(pZ (fun v Δ=>∃u:Sl,XS u (fj b)∧v=.tuple #[aZ u,.int .i64 0]∧Δ=[NL u (fj b)]) this ?_).post (fun _ _ h=>h.2);rintro v Δ ⟨u,rfl,rfl⟩ I w hh;exact⟨u,JS hh.h0',rfl,rfl⟩
theorem Pq(s:Sl){b:List Int} [h:aW (BF s) b Γ](hl:b.length≤1000000)(h4:¬b.length % 4=0):aw tb Tryz.prog 126 [aZ s] Γ (jq (.tuple #[.slice none 0 0,.int .i64 3])):=by
 have:=Ka (Γ:=Γ) s hl;rw[show(b.length % 4==0)=false by simpa using h4]at this;exact this
theorem x9(s:Sl){b:List Int} [h:aW (BF s) b Γ](hl:b.length≤1000000)(h4:b.length % 2=0):aw tb Tryz.prog 129 [aZ s] Γ (fun v Δ=>∃u:Sl,XS u (dT b)∧v=.tuple #[aZ u,.int .i64 0]∧Δ=[NL u (dT b)]):=by
 have:=PC (Γ:=Γ) s hl;rw[show(b.length % 2==0)=true by simpa using h4]at this;refine(pZ (fun v Δ=>∃u:Sl,XS u (dT b)∧v=.tuple #[aZ u,.int .i64 0]∧Δ=[NL u (dT b)]) this ?_).post (fun _ _ h=>h.2);rintro v Δ ⟨u,rfl,rfl⟩ I w hh;exact⟨u,JS hh.h0',rfl,rfl⟩
theorem iE(f p:Sl){x:Im} [h:aW (mI f p) x Γ](k w:Int)(hx:qQ x)(hk:XT k):
  aw tb Tryz.prog 127 [lY f p,.int .u8 k,.int .i64 w] Γ (jq (.int .i64 (cB x k w))):=by
 refine aw.of_W aB Tryz.func127 rfl ?_;cases ho:dW x k with
 |none=>
  have e:cB x k w=w:=by unfold cB;rw[ho]
  refine aq [] (j6 f p (x:=x) k hx.short ho) ?_;rintro _ _ ⟨rfl,rfl⟩;refine bj [] 18 (!false) rfl ?_;exact W.r [18] (.int .i64 w) ⟨by rw[e],rfl⟩ bT
 |some r=>
  have e:cB x k w=if r.d=2∨r.b.length % 4≠0 then(dT r.b).headD 0 else(fj r.b).headD 0:=by unfold cB;rw[ho]
  have hln:=hx.num ho hk;have hsh:=hx.short r (kS ho).1;have hs0:(dT r.b)[0]? =some ((dT r.b).headD 0):=by
   have:=sq r.b;cases hq:dT r.b with
   |nil=>rw[hq]at this;simp at this;omega
   |cons a l=>rfl
  have hs1:dT r.b≠ []:=by intro e;rw[e]at hs0;simp at hs0
  refine aq [] (j7 f p (x:=x) k hx.short ho) ?_;rintro _ _ ⟨u,rfl,rfl⟩;refine aQ [] 18 (!true) rfl ?_;refine W.more (Δ:=[BF u r.b]) (by kernel_rfl) (nh u) ?_;by_cases h4:r.b.length % 4=0
  ·have hl0:(fj r.b)[0]? =some ((fj r.b).headD 0):=by
    have:=q8 r.b;cases hq:fj r.b with
    |nil=>rw[hq]at this;simp at this;omega
    |cons a l=>rfl
   have hl1:fj r.b≠ []:=by intro e;rw[e]at hl0;simp at hl0
   refine aq [18] (A7 u (b:=r.b) hsh h4) ?_;rintro _ _ ⟨u2,⟨g1,g2,g3⟩,rfl,rfl⟩;have hd:r.d=3:=by omega
   rw[if_neg (by omega)]at e;refine aQ [] 29 (r.d==2) (by rw[hd];decide) ?_;refine aQ [29] 32 ((0:Int) != 0) (by decide) ?_;obtain⟨bb,off,ha⟩:=g3 hl1;obtain⟨ua,un,uc⟩:=u2;simp only at g1 g2 ha;subst ha;refine bW [32] 1 bb off un uc .i64 0 0 rfl aB (by have:=(List.getElem?_eq_some_iff.1 hl0).1;omega) ?_;refine dJ [] 1 bb (off+0*1) (.int .i64 ((fj r.b).headD 0)) aB (sL bb off un uc hl0) ?_;exact W.r [] (.int .i64 ((fj r.b).headD 0)) ⟨by rw[e],rfl⟩ bT
  ·rw[if_pos (.inr h4)]at e;have h2:r.b.length % 2=0:=by omega
   refine aq [18] (Pq u (b:=r.b) hsh h4) ?_;rintro _ _ ⟨rfl,rfl⟩;refine W.d [] 29 (r.d==2) (fun _=>?_) (fun _=>?_)
   ·refine aq [32,29] (x9 u (b:=r.b) hsh h2) ?_;rintro _ _ ⟨u2,⟨g1,g2,g3⟩,rfl,rfl⟩;obtain⟨bb,off,ha⟩:=g3 hs1;obtain⟨ua,un,uc⟩:=u2;simp only at g1 g2 ha;subst ha;refine bW [] 1 bb off un uc .i64 0 0 rfl aB (by have:=(List.getElem?_eq_some_iff.1 hs0).1;omega) ?_;refine dJ [] 1 bb (off+0*1) (.int .i64 ((dT r.b).headD 0)) aB (sL bb off un uc hs0) ?_;exact W.r [] (.int .i64 ((dT r.b).headD 0)) ⟨by rw[e],rfl⟩ bT
   ·refine bj [29] 32 ((3:Int) != 0) (by decide) ?_;refine aq [32] (x9 u (b:=r.b) hsh h2) ?_;rintro _ _ ⟨u2,⟨g1,g2,g3⟩,rfl,rfl⟩;obtain⟨bb,off,ha⟩:=g3 hs1;obtain⟨ua,un,uc⟩:=u2;simp only at g1 g2 ha;subst ha;refine bW [] 1 bb off un uc .i64 0 0 rfl aB (by have:=(List.getElem?_eq_some_iff.1 hs0).1;omega) ?_;refine dJ [] 1 bb (off+0*1) (.int .i64 ((dT r.b).headD 0)) aB (sL bb off un uc hs0) ?_;exact W.r [] (.int .i64 ((dT r.b).headD 0)) ⟨by rw[e],rfl⟩ bT
theorem gC(f p:Sl){x:Im} [h:aW (mI f p) x Γ](hx:qQ x):aw tb Tryz.prog 81 [lY f p] Γ (jq (.int .u8 (cJ x))):=by
 obtain⟨fa,fn,fc⟩:=f;refine aw.of_W aB Tryz.func81 rfl ?_;refine W.more (Δ:=[la ⟨fa,fn,fc⟩ x.f]) rfl (fun I w _ hh=>aS (h.p hh).1) ?_;refine W.len dd dC.r ⟨fa,fn,fc⟩ rfl (fun h1 h2 h3=>?_);simp only at h1 h2 h3;have hr:x.f[0]? =some (x.f.headD default):=by
  have:=hx.1;cases hq:x.f with
  |nil=>exact absurd hq this
  |cons a l=>rfl
 refine p6 ⟨fa,fn,fc⟩ hr (fun b off u ha=>?_);simp only at ha;subst ha;refine bW [] 3 b off fn fc .i64 0 0 rfl aB (by have:=(List.getElem?_eq_some_iff.1 hr).1;omega) ?_;refine bZ [] 0 b (off+0*3) aB ?_;refine dJ [] 1 b (off+0*3+0) (.int .u8 (cJ x)) aB (fun I w hd hh=>cA b (off+0*3) I w hd hh 0 _ rfl) ?_;exact W.r [] (.int .u8 (cJ x)) ⟨rfl,rfl⟩ bT
theorem w_(f p:Sl){x:Im} [h:aW (mI f p) x Γ](hx:qQ x):aw tb Tryz.prog 79 [lY f p] Γ (jq (.tuple #[.string (strOfNums ((jj x).getD [])),.bool (jj x).isSome])):=by
 refine aw.of_W aB Tryz.func79 rfl ?_;unfold jj;cases ho:dW x 18 with
 |none=>
  refine aq [] (j6 f p (x:=x) 18 hx.short ho) ?_;rintro _ _ ⟨rfl,rfl⟩;refine gT [] (Γ':=[BF ⟨none,0,0⟩ []]) (fun I w _ _=>aS (rH _ _ _)) (np ⟨none,0,0⟩ (b:=[])) ?_;rintro _ _ ⟨rfl,rfl⟩;exact W.r [] (.tuple #[.string (iH []),.bool false]) ⟨rfl,rfl⟩ bT
 |some r=>
  refine aq [] (j7 f p (x:=x) 18 hx.short ho) ?_;rintro _ _ ⟨u,rfl,rfl⟩;refine gT [] (nh u) (np u (b:=r.b)) ?_;rintro _ _ ⟨rfl,rfl⟩;exact W.r [] (.tuple #[.string (iH r.b),.bool true]) ⟨rfl,rfl⟩ bT
theorem tS(f p:Sl){x:Im} [h:aW (mI f p) x Γ](hx:qQ x):aw tb Tryz.prog 83 [lY f p] Γ (jq (.tuple #[.int .i64 (bN x).1,.int .i64 (bN x).2])):=by
 refine aw.of_W aB Tryz.func83 rfl ?_;cases ho:dW x 19 with
 |none=>
  have e:bN x=(1,1):=by unfold bN;rw[ho]
  refine aq [] (j6 f p (x:=x) 19 hx.short ho) ?_;rintro _ _ ⟨rfl,rfl⟩;refine bj [] 14 (!false) rfl ?_;exact W.r [14] (.tuple #[.int .i64 1,.int .i64 1]) ⟨by rw[e],rfl⟩ bT
 |some r=>
  have hsh:=hx.short r (kS ho).1;obtain⟨_,l1,l2,l3⟩:=hx.len ho (s:=⟨2,4,1,1⟩) rfl;simp only at l1 l2 l3;have hs:(dT r.b).length=2:=by rw[sq];omega
  obtain⟨a,b,hab⟩:∃a b,dT r.b=[a,b]:=by
   match hq:dT r.b,hs with
   | [a,b],_=>exact⟨a,b,rfl⟩
  have e:bN x=(a,b):=by unfold bN;rw[ho];simp[hab]
  refine aq [] (j7 f p (x:=x) 19 hx.short ho) ?_;rintro _ _ ⟨u,rfl,rfl⟩;refine aQ [] 14 (!true) rfl ?_;refine W.more (Δ:=[BF u r.b]) (by kernel_rfl) (nh u) ?_;refine aq [14] (x9 u (b:=r.b) hsh (by omega)) ?_;rintro _ _ ⟨u2,⟨g1,g2,g3⟩,rfl,rfl⟩;rw[hab]at g1 g3⊢;obtain⟨bb,off,ha⟩:=g3 (by simp);obtain⟨ua,un,uc⟩:=u2;simp only[aC,a_]at g1 g2 ha;subst ha;refine bW [] 1 bb off un uc .i64 0 0 rfl aB (by omega) ?_;refine dJ [] 1 bb (off+0*1) (.int .i64 a) aB (sL bb off un uc (l:=[a,b]) rfl) ?_;refine bW [] 1 bb off un uc .i64 1 1 rfl aB (by omega) ?_;refine dJ [] 1 bb (off+1*1) (.int .i64 b) aB (sL bb off un uc (l:=[a,b]) rfl) ?_;exact W.r [] (.tuple #[.int .i64 a,.int .i64 b]) ⟨by rw[e],rfl⟩ bT
theorem Pz(f p:Sl){x:Im} [h:aW (mI f p) x Γ](hx:qQ x):aw tb Tryz.prog 80 [lY f p] Γ (fun v Δ=>∃u:Sl,v=aZ u∧Δ=[zi u (bJ x)]):=by
 refine aw.of_W aB Tryz.func80 rfl ?_;cases ho:dW x 16 with
 |none=>
  have e:bJ x=[]:=by unfold bJ;rw[ho]
  rw[e];refine aq [] (j6 f p (x:=x) 16 hx.short ho) ?_;rintro _ _ ⟨rfl,rfl⟩;refine gT [] (Γ':=[BF ⟨none,0,0⟩ []]) (fun I w _ _=>aS (rH _ _ _)) (A7 ⟨none,0,0⟩ (b:=[]) (by decide) (by decide)) ?_;rintro _ _ ⟨u2,⟨g1,g2,g3⟩,rfl,rfl⟩;have hu0:u2.n=0:=g1;refine j2 [] 1 ?_;refine aQ [] 24 (decide (IntKind.i64.wrap (0+1)<(u2.n:Int))) (by rw[hu0];decide) ?_;exact W.r [24] (.slice none 0 0) ⟨⟨none,0,0⟩,rfl,rfl⟩ (fun I w _ _=>aS ⟨rfl,⟨ak _,aJ _⟩,RA.nil _ _ _⟩)
 |some r=>
  have hsh:=nW (hx.2 r (kS ho).1);obtain⟨_,l1,l2,l3⟩:=hx.len ho (s:=⟨3,8,1,8191⟩) rfl;simp only at l1 l2 l3;have hln:=q8 r.b;refine aq [] (j7 f p (x:=x) 16 hx.short ho) ?_;rintro _ _ ⟨u,rfl,rfl⟩;refine gT [] (nh u) (A7 u (b:=r.b) (by omega) (by omega)) ?_;rintro _ _ ⟨u2,⟨g1,g2,g3⟩,rfl,rfl⟩;obtain⟨l,hl⟩:∃l,fj r.b=l:=⟨_,rfl⟩;have e:bJ x=kj l:=by unfold bJ;rw[ho,←hl]
  rw[hl]at hln g1 g3⊢;rw[e];have hpl:=yc l;refine gV [] [7,8] (fun a:S7=>[(7,a.v),(8,.int .i64 a.z)]) (fun _=>[]) (fun a=>a.O) (fun _=>[NL u2 l]) (fun a=>a.z=2*(a.i:Int)∧2*a.i≤l.length∧cF 2 a.O a.v a.i (((kj l).take a.i).flatMap eg)) (fun a=>l.length-2*a.i) ⟨0,0,.slice none 0 0,[]⟩ ⟨rfl,aJ _,cF.nil 2⟩ (eC eK eE) ?_;rintro⟨i,z,v,O⟩ K ⟨hz,hi,hg⟩ close;simp only at hz hi hg;by_cases hlt:2*i+1<l.length
  ·obtain⟨a,ha⟩:∃x,l[2*i]? =some x:=⟨_,ai (by omega)⟩;obtain⟨b,hb⟩:∃x,l[2*i+1]? =some x:=⟨_,ai hlt⟩;obtain⟨bb,off,hao⟩:=g3 (by rintro rfl;simp at hlt);obtain⟨ua,un,uc⟩:=u2;simp only at g1 g2 hao;subst hao;refine bj [] 24 (decide (IntKind.i64.wrap (z+1)<(un:Int))) (au (by rw[af];omega)) ?_;refine bW [24] 1 bb off un uc .i64 (2*i) z (by omega) aB (by omega) ?_;refine dJ [] 1 bb (off+2*i*1) (.int .i64 a) aB (sL bb off un uc ha) ?_;refine bW [] 1 bb off un uc .i64 (2*i+1) (IntKind.i64.wrap (z+1)) (by rw[af];omega) aB (by omega) ?_;refine dJ [] 1 bb (off+(2*i+1)*1) (.int .i64 b) aB (sL bb off un uc hb) ?_;refine cH [] 1 (eg ⟨a,b⟩) aB (fun B=>?_);refine W.app [] O [] O [] 2 16 i 1 v (.slice (some ⟨B,0,none⟩) 1 1) (((kj l).take i).flatMap eg) (eg ⟨a,b⟩) aB (by simp) hg (bX B O 1 2 rfl 1) (qH _) (by omega) (by decide) (fun v' O' hg'=>?_);refine close [] _ _ ⟨i+1,IntKind.i64.wrap (z+2),v',O'⟩ (by kernel_rfl) (by simp only[az,ah];kernel_rfl) ⟨by simp only[af];omega,by simp only;omega,cF.cast ?_ rfl hg'⟩ (by simp only;omega) (eC eK eE);rw[lR (GQ l i a b ha hb),bp];simp
  ·refine aQ [] 24 (decide (IntKind.i64.wrap (z+1)<(u2.n:Int))) (aj (by rw[af];omega)) ?_;have hi2:i=(kj l).length:=by omega
   rw[aU (by omega)]at hg;refine l_ (by simp only[az,ah];kernel_rfl) hg (fun ao c' hv hc'=>?_);subst hv;have hcm:c'≤maxLen:=ph hg;refine W.r [24] (.slice ao i c') ⟨⟨ao,i,c'⟩,rfl,rfl⟩ (fun I w _ hh=>aS (show(zi ⟨ao,i,c'⟩ (kj l)).p I w from⟨hi2,⟨hc',hcm⟩,aW.p (k:=RA ao) (a:=(kj l).flatMap eg) inferInstance hh⟩))
end
abbrev PO(pb:Nat)(sl:Sl)(at':Nat):List (Nat×List Value):=[(pb,[aZ sl,.int .i64 at'])]
abbrev fo(b:Nat):Value:=.pointer (some ⟨b,0,none⟩)
abbrev yy:Value:=.iface 149 (.agg #[])
abbrev su(B:Prop):Tb:=ZY [122,123,121,183,124,182,73] B yy
theorem aR(B:Prop):(su B).Ok Tryz.prog:=ZZ _ B yy
def W6(ks:List Int)(l:List Re):Bool:=match l with
 |r::_=>ks.contains r.k
 | []=>false
theorem uX(k:Int)(l:List Re):W6 [k] l=dK k l:=by
 cases l with
 |nil=>rfl
 |cons r m=>
  by_cases h:r.k=k<;>simp[W6,dK,h]
section
variable{T:Tb}{P:Program}{fin:VS→List aD→Prop}{c:fG}{Γ:List aD}
theorem W.pan(D:List Nat)(n:Nat)(v:Value)(hp:T.pan [{v,recovered:=false}])(hh:N0 T (bh T D n c))(h:xi T (bh T D n c)=some v:=by kernel_rfl):W T P fin c Γ:=
 eD D n (.panic v h hp hh)
end
theorem Bo{k:Int}{rs:List Re}{i:Nat}{r:Re}(h:rs[i]? =some r):gE k (rs.drop i)=if r.k=k∧fk r=true then some (r,rs.drop (i+1))else none:=by
 rw[show rs.drop i=r::rs.drop (i+1)from by
  have:=(List.getElem?_eq_some_iff.1 h);obtain⟨h1,h2⟩:=this;rw[bC h1,h2]]
 rfl
theorem Ha{ks:List Int}{rs:List Re}{i:Nat}{r:Re}(h:rs[i]? =some r):W6 ks (rs.drop i)=ks.contains r.k:=by
 rw[show rs.drop i=r::rs.drop (i+1)from by
  have:=(List.getElem?_eq_some_iff.1 h);obtain⟨h1,h2⟩:=this;rw[bC h1,h2]]
 rfl
section
variable{Γ:List aD}
theorem Pg(b n:Nat){ks:List Int}(k:Int) [h:aW (ek b) (ks.map (Value.int .u8)) Γ](hn:n=ks.length)(hn2:n≤8191):
  aw tb Tryz.prog 228 [.slice (some ⟨b,0,none⟩) n n,.int .u8 k] Γ (fun v Δ=>∃z:Int,v=.int .i64 z∧Δ=[]∧decide (z≥0)=ks.contains k):=by
 refine aw.of_W aB Tryz.func228 rfl ?_;refine zd [] [8] (fun a:Nat×Int=>[(8,.int .i64 a.2)]) (fun _=>[]) (fun _=>[ek b (ks.map (Value.int .u8))]) (fun a=>a.2=a.1∧a.1≤n∧∀i (h:i<ks.length),i<a.1→ks[i]'h≠k) (fun a=>n-a.1) (0,0) ⟨rfl,aJ _,fun i _ h=>by omega⟩ (eC eK eE) ?_;rintro⟨i,z⟩ K ⟨hz,hi,hall⟩ close;simp only at hz hi hall;by_cases hlt:i<n
 ·have hil:i<ks.length:=by omega
  refine bj [] 9 (decide (z<(n:Int))) (au (by omega)) ?_;refine bW [9] 1 b 0 n n .i64 i z hz aB hlt ?_;refine dJ [] 1 b (0+i*1) (.int .u8 (ks[i]'hil)) aB (fun I w _ hh=>by
   have:=aW.p (k:=ek b) (a:=ks.map (Value.int .u8)) inferInstance hh;exact RA.cell (RA.of_row this (fun _ _ q=>q)) (by rw[fK,bK,ai hil];rfl)) ?_
  refine W.d [] 16 (k==ks[i]'hil) (fun hb=>?_) (fun hb=>?_)
  ·refine W.r [16] (.int .i64 z) ⟨z,rfl,rfl,?_⟩ bT;rw[au (by omega),eq_of_beq hb];exact(List.contains_iff_mem.2 (dY hil)).symm
  ·refine close [16] _ _ (i+1,IntKind.i64.wrap (z+1)) (by kernel_rfl) (by kernel_rfl) ⟨by simp only[af];omega,hlt,fun j hj hji=>?_⟩ (by simp only;omega) (eC eK eE);by_cases hj2:j<i
   ·exact hall j hj hj2
   ·obtain rfl:j=i:=by simp only at hji;omega
    exact fun e=>kB hb e.symm
 ·refine aQ [] 9 (decide (z<(n:Int))) (aj (by omega)) ?_;refine W.r [9] (.int .i64 (-1)) ⟨-1,rfl,rfl,?_⟩ bT;cases hc:ks.contains k with
  |false=>rfl
  |true=>
   obtain⟨j,hj,he⟩:=uz (List.contains_iff_mem.1 hc);exact absurd he (hall j hj (by omega))
theorem GL(b n:Nat){ks:List Int}(k:Int) [h:aW (ek b) (ks.map (Value.int .u8)) Γ](hn:n=ks.length)(hn2:n≤8191):
  aw tb Tryz.prog 179 [.slice (some ⟨b,0,none⟩) n n,.int .u8 k] Γ (jq (.bool (ks.contains k))):=by
 refine aw.of_W aB Tryz.func179 rfl ?_;refine aq [] (Pg b n (ks:=ks) k hn hn2) ?_;rintro _ _ ⟨z,rfl,rfl,hz⟩;exact W.r [] (.bool (decide (z≥0))) ⟨by rw[hz],rfl⟩ bT
theorem r9(B:Prop)(pb:Nat)(sl:Sl)(at' kb n:Nat){rs:List Re}{ks:List Int} [h:aW (la sl) rs Γ] [h2:aW (ek kb) (ks.map (Value.int .u8)) Γ](hn:n=ks.length)(hn2:n≤8191):
  dB (su B) Tryz.prog 122 [fo pb,.slice (some ⟨kb,0,none⟩) n n] (PO pb sl at') [] Γ (fun v O M Δ=>v=.bool (W6 ks (rs.drop at'))∧O=PO pb sl at'∧M=[]∧Δ=[]):=by
 refine dB.of_W (aR B) Tryz.func122 rfl ?_;obtain⟨sa,sn,sc⟩:=sl;refine W.len dd dC.r ⟨sa,sn,sc⟩ rfl (fun h1 h2 h3=>?_);simp only at h1 h2 h3;by_cases hlt:at'<sn
 ·obtain⟨r,hr⟩:∃r,rs[at']? =some r:=⟨_,ai (by omega)⟩;refine p6 ⟨sa,sn,sc⟩ hr (fun b off u ha=>?_);simp only at ha;subst ha;refine bZ [] 1 pb 0 (aR B) ?_;refine dR [] (PO pb ⟨some ⟨b,off,none⟩,sn,sc⟩ at') pb (0+1) 1 [.slice (some ⟨b,off,none⟩) sn sc,.int .i64 at'] (.int .i64 at') (aR B) (.head _) rfl ?_;refine bZ [] 0 pb 0 (aR B) ?_;refine dR [] (PO pb ⟨some ⟨b,off,none⟩,sn,sc⟩ at') pb (0+0) 1 [.slice (some ⟨b,off,none⟩) sn sc,.int .i64 at'] (.slice (some ⟨b,off,none⟩) sn sc) (aR B) (.head _) rfl ?_;refine bj [] 15 (decide ((at':Int)<(sn:Int))) (au (by omega)) ?_;refine bZ [15] 0 pb 0 (aR B) ?_;refine dR [15] (PO pb ⟨some ⟨b,off,none⟩,sn,sc⟩ at') pb (0+0) 1 [.slice (some ⟨b,off,none⟩) sn sc,.int .i64 at'] (.slice (some ⟨b,off,none⟩) sn sc) (aR B) (.head _) rfl ?_;refine bZ [15] 1 pb 0 (aR B) ?_;refine dR [15] (PO pb ⟨some ⟨b,off,none⟩,sn,sc⟩ at') pb (0+1) 1 [.slice (some ⟨b,off,none⟩) sn sc,.int .i64 at'] (.int .i64 at') (aR B) (.head _) rfl ?_;refine bW [15] 3 b off sn sc .i64 at' at' rfl (aR B) hlt ?_;refine bZ [15] 0 b (off+at'*3) (aR B) ?_;refine dJ [15] 1 b (off+at'*3+0) (.int .u8 r.k) (aR B) (fun I w hd hh=>cA (T:=su B) b (off+at'*3) I w hd hh 0 _ rfl) ?_;refine aq [15] (GL kb n (ks:=ks) r.k hn hn2).m ?_;rintro _ _ ⟨rfl,rfl⟩;exact j1 [15] (.bool (ks.contains r.k)) (PO pb ⟨some ⟨b,off,none⟩,sn,sc⟩ at') [] ⟨by rw[Ha hr],rfl,rfl,rfl⟩ bT
 ·refine bZ [] 1 pb 0 (aR B) ?_;refine dR [] (PO pb ⟨sa,sn,sc⟩ at') pb (0+1) 1 [.slice sa sn sc,.int .i64 at'] (.int .i64 at') (aR B) (.head _) rfl ?_;refine bZ [] 0 pb 0 (aR B) ?_;refine dR [] (PO pb ⟨sa,sn,sc⟩ at') pb (0+0) 1 [.slice sa sn sc,.int .i64 at'] (.slice sa sn sc) (aR B) (.head _) rfl ?_;refine aQ [] 15 (decide ((at':Int)<(sn:Int))) (aj (by omega)) ?_;exact j1 [15] (.bool false) (PO pb ⟨sa,sn,sc⟩ at') [] ⟨by rw[bu (by omega)];rfl,rfl,rfl,rfl⟩ bT
def UF(k:Int)(pb:Nat)(sl:Sl)(at':Nat)(rs:List Re)(v:Value)(O:List (Nat×List Value))(M:List (Nat×List (Value×Value)))(Δ:List aD):Prop:=
 ∃(r:Re) (u:Sl),gE k (rs.drop at')=some (r,rs.drop (at'+1))∧v=rev r u∧O=PO pb sl (at'+1)∧M=[]∧Δ=[xG u r]
theorem mq(B:Prop)(pb:Nat)(sl:Sl)(at':Nat)(k:Int){rs:List Re} [h:aW (la sl) rs Γ](hB:gE k (rs.drop at')=none→B):
  dB (su B) Tryz.prog 123 [fo pb,.int .u8 k] (PO pb sl at') [] Γ (UF k pb sl at' rs):=by
 refine dB.of_W (aR B) Tryz.func123 rfl ?_;obtain⟨sa,sn,sc⟩:=sl;refine W.len dd dC.r ⟨sa,sn,sc⟩ rfl (fun h1 h2 h3=>?_);simp only at h1 h2 h3;by_cases hlt:at'<sn
 ·obtain⟨r,hr⟩:∃r,rs[at']? =some r:=⟨_,ai (by omega)⟩;rw[Bo hr]at hB;refine p6 ⟨sa,sn,sc⟩ hr (fun b off u ha=>?_);simp only at ha;subst ha;refine cH [] 1 [.int .u8 k] (aR B) (fun kb=>?_);refine cZ [] [] (PO pb ⟨some ⟨b,off,none⟩,sn,sc⟩ at') [] [] [] [] ⟨rfl,by rfl,trivial⟩ (r9 B pb ⟨some ⟨b,off,none⟩,sn,sc⟩ at' kb 1 (rs:=rs) (ks:=[k]) rfl (by decide)) ?_;rintro _ _ _ _ ⟨rfl,rfl,rfl,rfl⟩;rw[Ha hr];by_cases hk:r.k=k
  ·refine aQ [] 11 (![k].contains r.k) (by simp[hk]) ?_;refine bZ [11] 0 pb 0 (aR B) ?_;refine dR [11] (PO pb ⟨some ⟨b,off,none⟩,sn,sc⟩ at') pb (0+0) 1 [.slice (some ⟨b,off,none⟩) sn sc,.int .i64 at'] (.slice (some ⟨b,off,none⟩) sn sc) (aR B) (.head _) rfl ?_;refine bZ [11] 1 pb 0 (aR B) ?_;refine dR [11] (PO pb ⟨some ⟨b,off,none⟩,sn,sc⟩ at') pb (0+1) 1 [.slice (some ⟨b,off,none⟩) sn sc,.int .i64 at'] (.int .i64 at') (aR B) (.head _) rfl ?_;refine bW [11] 3 b off sn sc .i64 at' at' rfl (aR B) hlt ?_;refine cV [11] b (off+at'*3) [.int .u8 r.k,.int .u8 r.d,aZ u] (aR B) (cA b (off+at'*3)) ?_;refine aq [11] (PB u r).m ?_;rintro _ _ ⟨rfl,rfl⟩;by_cases hg:fk r=true
   ·refine aQ [11] 24 (!fk r) (by rw[hg];rfl) ?_;have hsh:=nW hg;have hw:IntKind.i64.wrap ((at':Int)+1)=((at'+1:Nat):Int):=by rw[af];omega
    refine bZ [24] 1 pb 0 (aR B) ?_;refine dR [] (PO pb ⟨some ⟨b,off,none⟩,sn,sc⟩ at') pb (0+1) 1 [.slice (some ⟨b,off,none⟩) sn sc,.int .i64 at'] (.int .i64 at') (aR B) (.head _) rfl ?_;refine bZ [] 1 pb 0 (aR B) ?_;refine nD [] (PO pb ⟨some ⟨b,off,none⟩,sn,sc⟩ at') [] [] 1 pb (0+1) [.slice (some ⟨b,off,none⟩) sn sc,.int .i64 at'] (.int .i64 (IntKind.i64.wrap ((at':Int)+1))) [.slice (some ⟨b,off,none⟩) sn sc,.int .i64 ((at'+1:Nat):Int)] (aR B) rfl rfl (JZ _ _) (ak _) (by rw[hw];rfl) ?_;refine bZ [] 0 pb 0 (aR B) ?_;refine dR [] (PO pb ⟨some ⟨b,off,none⟩,sn,sc⟩ (at'+1)) pb (0+0) 1 [.slice (some ⟨b,off,none⟩) sn sc,.int .i64 ((at'+1:Nat):Int)] (.slice (some ⟨b,off,none⟩) sn sc) (aR B) (.head _) rfl ?_;refine bZ [] 1 pb 0 (aR B) ?_;refine dR [] (PO pb ⟨some ⟨b,off,none⟩,sn,sc⟩ (at'+1)) pb (0+1) 1 [.slice (some ⟨b,off,none⟩) sn sc,.int .i64 ((at'+1:Nat):Int)] (.int .i64 ((at'+1:Nat):Int)) (aR B) (.head _) rfl ?_;refine bW [] 3 b off sn sc .i64 at' (IntKind.i64.wrap (((at'+1:Nat):Int)-1)) (by rw[af];omega) (aR B) hlt ?_;refine cV [] b (off+at'*3) [.int .u8 r.k,.int .u8 r.d,aZ u] (aR B) (cA b (off+at'*3)) ?_;refine gT [] (nh u (r:=r)) (J8 u (b:=r.b) (by omega)).m ?_;rintro _ _ ⟨u2,rfl,rfl⟩;refine j1 [] (rev r u2) (PO pb ⟨some ⟨b,off,none⟩,sn,sc⟩ (at'+1)) [] ⟨r,u2,by rw[Bo hr,if_pos ⟨hk,hg⟩],rfl,rfl,rfl,rfl⟩ (fun I w _ hh=>?_)
    have g:=aW.p (k:=xG u) (a:=r) inferInstance hh;exact aS ⟨g.1,g.2.1,aW.p (k:=BF u2) (a:=r.b) inferInstance hh⟩
   ·refine bj [11] 24 (!fk r) (by simpa using hg) ?_;exact W.pan [24] 1 yy ⟨hB (by rw[if_neg (fun q=>hg q.2)]),rfl⟩ ⟨[],trivial,fun x hx=>by simp at hx⟩
  ·refine bj [] 11 (![k].contains r.k) (by simp[hk]) ?_;refine bj [11] 24 true rfl ?_;exact W.pan [24] 1 yy ⟨hB (by rw[if_neg (fun q=>hk q.1)]),rfl⟩ ⟨[],trivial,fun x hx=>by simp at hx⟩
 ·have hd:rs.drop at'=[]:=bu (by omega);refine cH [] 1 [.int .u8 k] (aR B) (fun kb=>?_);refine cZ [] [] (PO pb ⟨sa,sn,sc⟩ at') [] [] [] [] ⟨rfl,by rfl,trivial⟩ (r9 B pb ⟨sa,sn,sc⟩ at' kb 1 (rs:=rs) (ks:=[k]) rfl (by decide)) ?_;rintro _ _ _ _ ⟨rfl,rfl,rfl,rfl⟩;rw[hd];refine bj [] 11 (!W6 [k] []) rfl ?_;refine bj [11] 24 true rfl ?_;exact W.pan [24] 1 yy ⟨hB (by rw[hd];rfl),rfl⟩ ⟨[],trivial,fun x hx=>by simp at hx⟩
end
def iO(v:Value)(es:List dC):aD where
 p I w:=(OS dd (0,es)).p I w
 up:=(OS dd (0,es)).up
def Jf(p:n_ (List Re))(N:Nat)(pb:Nat)(sl:Sl)(at':Nat)(rs:List Re)(v:Value)(O:List (Nat×List Value))(M:List (Nat×List (Value×Value)))(Δ:List aD):Prop:=
 ∃(es:List dC) (at2:Nat) (Or:List (Nat×List Value)),p (rs.drop at')=some (es.map dC.r,rs.drop at2)∧at'≤at2∧es.length≤N∧O=PO pb sl at2++Or∧cF 3 Or v es.length (es.flatMap dd.cells)∧M=[]∧Δ=[iO v es]
structure RSt where
 i:Nat
 z:Int
 v:Value
 O:List (Nat×List Value)
 a:Nat
 es:List dC
theorem SG(es:List dC):(es.flatMap dd.cells).length=es.length*3:=qy dd es
theorem Br{k:Int}{ks:List Int}{l:List Re}(h:k<256∨dK (k % 256) l=true):dj (k::ks) l=match gE (k % 256) l with
  |some (r,m)=>(match dj ks m with
   |some (rs,m')=>some (r::rs,m')
   |none=>none)
  |none=>none:=by
 rw[dj,if_pos h];rfl
theorem LZ{k:Int}{ks:List Int}{l:List Re}(h:¬(k<256∨dK (k % 256) l=true)):dj (k::ks) l=dj ks l:=by
 rw[dj,if_neg h]
theorem ir{α:Type}{l:List α}{i:Nat}{a:α}(h:l[i]? =some a):l.drop i=a::l.drop (i+1):=by
 obtain⟨h1,h2⟩:=List.getElem?_eq_some_iff.1 h;rw[bC h1,h2]
section
variable{T:Tb}{Γ:List aD}
theorem O_:∀(I:fQ) (w:World),br T I w→aG Γ I w→(OS dd (0,[])).p I w:=fun I w _ _ e he=>by simp at he
theorem J7{es:List dC}(u:Sl){r:Re} [h1:aW (OS dd) (0,es) Γ] [h2:aW (xG u) r Γ]:∀(I:fQ) (w:World),br T I w→aG Γ I w→(OS dd (0,es++[⟨u,r⟩])).p I w:=fun I w _ hh e he=>by
 rcases List.mem_append.1 he with he|he
 ·exact h1.p hh e he
 ·simp only[aF,aE,bL]at he;subst he;exact h2.p hh
end
section
variable{Γ:List aD}
theorem mr(B:Prop)(pb:Nat)(sl:Sl)(at' kb n:Nat){rs:List Re}{ks:List Int} [h:aW (la sl) rs Γ] [h2:aW (ek kb) (ks.map (Value.int .i64)) Γ](hn:n=ks.length)(hn2:n≤1000)(hB:dj ks (rs.drop at')=none→B):
  dB (su B) Tryz.prog 121 [fo pb,.slice (some ⟨kb,0,none⟩) n n] (PO pb sl at') [] Γ (Jf (dj ks) n pb sl at' rs):=by
 refine dB.of_W (aR B) Tryz.func121 rfl ?_;refine gV [] [5,10] (fun a:RSt=>[(5,a.v),(10,.int .i64 a.z)]) (fun _=>[]) (fun a=>PO pb sl a.a++a.O) (fun a=>[la sl rs,ek kb (ks.map (Value.int .i64)),OS dd (0,a.es)]) (fun a=>a.z=a.i∧a.i≤n∧at'≤a.a∧a.es.length≤a.i∧cF 3 a.O a.v a.es.length (a.es.flatMap dd.cells)∧dj ks (rs.drop at')=(match dj (ks.drop a.i) (rs.drop a.a)with
   |some (x,m)=>some (a.es.map dC.r++x,m)
   |none=>none)) (fun a=>n-a.i) ⟨0,0,.slice none 0 0,[],at',[]⟩ ⟨rfl,aJ _,ak _,aJ _,cF.nil 3,by
    simp only[gX,dk,az];cases dj ks (rs.drop at')<;>rfl⟩ (eC eK (eC eK (eC O_ eE))) ?_
 rintro⟨i,z,v,O,a,es⟩ K ⟨hz,hi,ha,hes,hg,hp⟩ close;simp only at hz hi ha hes hg hp;by_cases hlt:i<n
 ·obtain⟨k,hk⟩:∃k,ks[i]? =some k:=⟨_,ai (by omega)⟩;rw[ir hk]at hp;have hw:IntKind.u8.wrap k=k % 256:=mH k;refine bj [] 11 (decide (z<(n:Int))) (au (by omega)) ?_;refine bW [11] 1 kb 0 n n .i64 i z hz (aR B) hlt ?_;refine dJ [] 1 kb (0+i*1) (.int .i64 k) (aR B) (fun I w _ hh=>by
   have:=aW.p (k:=ek kb) (a:=ks.map (Value.int .i64)) inferInstance hh;exact RA.cell (RA.of_row this (fun _ _ q=>q)) (by rw[fK,bK,hk];rfl)) ?_
  have hgo:(k<256∨dK (k % 256) (rs.drop a)=true)→∀(D:List Nat) (c:fG),True:=fun _ _ _=>trivial;by_cases h256:k<256
  ·have hone:=Br (ks:=ks.drop (i+1)) (l:=rs.drop a) (k:=k) (.inl h256);refine bj [] 16 (decide (k<256)) (au h256) ?_;refine bZ [24,16] 0 pb 0 (aR B) ?_;refine cZ [] [] (PO pb sl a) O [] [] [] ⟨rfl,by rfl,trivial⟩ (mq B pb sl a (IntKind.u8.wrap k) (rs:=rs) (fun hno=>hB (by rw[hw]at hno;rw[hp,hone,hno]))) ?_;rintro _ _ _ _ ⟨r,u,hm,rfl,rfl,rfl,rfl⟩;rw[hw]at hm;rw[hone,hm]at hp;refine cH [] 1 [.int .u8 r.k,.int .u8 r.d,aZ u] (aR B) (fun b5=>?_);refine W.app [] (PO pb sl (a+1)++O) (PO pb sl (a+1)) O [] 3 32 es.length 1 v (.slice (some ⟨b5,0,none⟩) 1 1) (es.flatMap dd.cells) [.int .u8 r.k,.int .u8 r.d,aZ u] (aR B) (by simp) hg (bX b5 _ 1 3 rfl 1) (by simp[Value.oneCell']) (by omega) (by decide) (fun v' O' hg'=>?_);refine close [] _ _ ⟨i+1,IntKind.i64.wrap (z+1),v',O',a+1,es++[⟨u,r⟩]⟩ (by kernel_rfl) (by simp only[ah];kernel_rfl) ⟨by simp only[af];omega,hlt,by simp only;omega,by simp only[aA,aC,a_];omega,cF.cast (by simp[dd]) (by simp) hg',?_⟩ (by simp only;omega) (eC eK (eC eK (eC (J7 u) eE)));rw[hp];simp only;cases dj (ks.drop (i+1)) (rs.drop (a+1))with
   |none=>rfl
   |some q=>simp
  ·refine aQ [] 16 (decide (k<256)) (aj h256) ?_;refine bZ [16] 0 pb 0 (aR B) ?_;refine cH [16] 1 [.int .u8 (IntKind.u8.wrap k)] (aR B) (fun b7=>?_);refine cZ [16] [] (PO pb sl a) O [] [] [] ⟨rfl,by rfl,trivial⟩ (r9 B pb sl a b7 1 (rs:=rs) (ks:=[IntKind.u8.wrap k]) rfl (by decide)) ?_;rintro _ _ _ _ ⟨rfl,rfl,rfl,rfl⟩;rw[uX,hw];by_cases hs:dK (k % 256) (rs.drop a)=true
   ·have hone:=Br (ks:=ks.drop (i+1)) (l:=rs.drop a) (k:=k) (.inr hs);refine bj [16] 24 (dK (k % 256) (rs.drop a)) hs ?_;refine bZ [24] 0 pb 0 (aR B) ?_;refine cZ [] [] (PO pb sl a) O [] [] [] ⟨rfl,by rfl,trivial⟩ (mq B pb sl a (IntKind.u8.wrap k) (rs:=rs) (fun hno=>hB (by rw[hw]at hno;rw[hp,hone,hno]))) ?_;rintro _ _ _ _ ⟨r,u,hm,rfl,rfl,rfl,rfl⟩;rw[hw]at hm;rw[hone,hm]at hp;refine cH [] 1 [.int .u8 r.k,.int .u8 r.d,aZ u] (aR B) (fun b5=>?_);refine W.app [] (PO pb sl (a+1)++O) (PO pb sl (a+1)) O [] 3 32 es.length 1 v (.slice (some ⟨b5,0,none⟩) 1 1) (es.flatMap dd.cells) [.int .u8 r.k,.int .u8 r.d,aZ u] (aR B) (by simp) hg (bX b5 _ 1 3 rfl 1) (by simp[Value.oneCell']) (by omega) (by decide) (fun v' O' hg'=>?_);refine close [] _ _ ⟨i+1,IntKind.i64.wrap (z+1),v',O',a+1,es++[⟨u,r⟩]⟩ (by kernel_rfl) (by simp only[ah];kernel_rfl) ⟨by simp only[af];omega,hlt,by simp only;omega,by simp only[aA,aC,a_];omega,cF.cast (by simp[dd]) (by simp) hg',?_⟩ (by simp only;omega) (eC eK (eC eK (eC (J7 u) eE)));rw[hp];simp only;cases dj (ks.drop (i+1)) (rs.drop (a+1))with
    |none=>rfl
    |some q=>simp
   ·have hskip:=LZ (ks:=ks.drop (i+1)) (l:=rs.drop a) (k:=k) (fun q=>q.elim h256 hs);refine aQ [16] 24 (dK (k % 256) (rs.drop a)) (by simpa using hs) ?_;refine close [24] _ _ ⟨i+1,IntKind.i64.wrap (z+1),v,O,a,es⟩ (by kernel_rfl) (by kernel_rfl) ⟨by simp only[af];omega,hlt,ha,by simp only;omega,hg,by rw[hp,hskip]⟩ (by simp only;omega) (eC eK (eC eK (eC eK eE)))
 ·refine aQ [] 11 (decide (z<(n:Int))) (aj (by omega)) ?_;refine j1 [11] v (PO pb sl a++O) [] ⟨es,a,O,?_,ha,by omega,rfl,hg,rfl,rfl⟩ (eC (fun I w hd hh=>eK (k:=OS dd) (a:=(0,es)) I w hd hh) eE);rw[hp,bu (by omega)];simp[dj]
theorem Er(B:Prop)(pb:Nat)(sl:Sl)(at':Nat){rs:List Re} [h:aW (la sl) rs Γ](hB:jA (rs.drop at')=none→B):
  dB (su B) Tryz.prog 183 [fo pb] (PO pb sl at') [] Γ (Jf jA 3 pb sl at' rs):=by
 refine dB.of_W (aR B) Tryz.func183 rfl ?_;refine bZ [] 0 pb 0 (aR B) ?_;refine cH [] 1 [.int .u8 26] (aR B) (fun b1=>?_);refine cZ [] [] (PO pb sl at') [] [] [] [] ⟨rfl,by rfl,trivial⟩ (r9 B pb sl at' b1 1 (rs:=rs) (ks:=[26]) rfl (by decide)) ?_;rintro _ _ _ _ ⟨rfl,rfl,rfl,rfl⟩;rw[uX];by_cases hs:dK 26 (rs.drop at')=true
 ·have ht:jA (rs.drop at')=dj [26,283,284] (rs.drop at'):=by unfold jA;rw[if_pos hs]
  rw[ht]at hB;refine aQ [] 8 (!dK 26 (rs.drop at')) (by rw[hs];rfl) ?_;refine cH [8] 3 [.int .i64 26,.int .i64 283,.int .i64 284] (aR B) (fun b3=>?_);refine cZ [] [] (PO pb sl at') [] [] [] [] ⟨rfl,by rfl,trivial⟩ (mr B pb sl at' b3 3 (rs:=rs) (ks:=[26,283,284]) rfl (by decide) hB) ?_;rintro v _ _ _ ⟨es,a,O,hp,ha,hl,rfl,hg,rfl,rfl⟩;exact j1 [] v (PO pb sl a++O) [] (ho:=(by simp only[az,ah];kernel_rfl)) ⟨es,a,O,by rw[ht];exact hp,ha,hl,rfl,hg,rfl,rfl⟩ (eC eK eE)
 ·refine bj [] 8 (!dK 26 (rs.drop at')) (by simpa using hs) ?_;exact j1 [8] (.slice none 0 0) (PO pb sl at') [] ⟨[],at',[],by unfold jA;rw[if_neg hs];rfl,ak _,aJ _,by rw[ah],cF.nil 3,rfl,rfl⟩ (eC O_ eE)
end
theorem lr{z:Nat}{O:List (Nat×List Value)}{v:Value}{n:Nat}{xs:List Value}(h:cF z O v n xs):v.cells.size=1∧v.cells.toList=[v]∧v.oneCell'=true:=by
 rcases h.2 with⟨rfl,_,_⟩|⟨g,cap,cur,rfl,_⟩<;>exact⟨rfl,rfl,rfl⟩
section
variable{T:Tb}{P:Program}{fin:VS→List aD→Prop}{c:fG}{Γ:List aD}
theorem gY{own O:List (Nat×List Value)}{l:Value}{k z:Nat}{xs:List Value}(hg:cF z O l k xs)(hs:∀x∈O,x∈own):p5 T Γ own l k z xs:=by
 obtain⟨hl,h⟩:=hg;rcases h with⟨rfl,rfl,rfl⟩|⟨g,cap,cur,rfl,rfl,h1,h2,h3,h4⟩
 ·exact⟨none,0,rfl,hl,fun h=>absurd h (Nat.lt_irrefl _)⟩
 ·refine⟨some ⟨g,0,none⟩,cap,rfl,hl,fun _=>⟨⟨g,0,none⟩,rfl,fun I w _ _ ho j u hu=>?_⟩⟩;obtain⟨e,_,hb⟩:=ho g cur (hs _ (by simp));rw[gP,nH hb,bQ];rw[←h4,dF]at hu;split at hu
  ·exact hu
  ·simp at hu
theorem EY(A C:List (Nat×List Value)){k:List It}(hm:dD k=false):∀(O2:List (Nat×List Value)) (s:VS) (Γ:List aD),s.own=A++(O2++C)→W T P fin ⟨s.setOwn (A++C),k⟩ Γ→W T P fin ⟨s,k⟩ Γ
 | [],s,Γ,hs,h=>by
  rw[az]at hs;rw[←hs]at h;exact h
 |(b,cs)::O2,s,Γ,hs,h=>by
  refine W.pub (O1:=A) (O2:=O2++C) (b:=b) (cs:=cs) hm hs ?_;refine W.sub hm (fun I w _ hh F hF=>hh F (by simp[hF])) (EY A C hm O2 _ Γ rfl h)
theorem rE(A O2 C:List (Nat×List Value))(ho:(dN T 999 c).s.own=A++(O2++C))(hk:W T P fin ⟨(dN T 999 c).s.setOwn (A++C),(dN T 999 c).k⟩ Γ)(hm:dD (dN T 999 c).k=false:=by kernel_rfl):W T P fin c Γ:=
 W.code 999 (EY A C hm O2 _ Γ ho hk)
end
section
variable{Γ:List aD}
theorem nd(B:Prop)(xb:Nat)(v pv l:Value)(m k:Nat)(xs news:List Value)(A Or Or2:List (Nat×List Value))(hg:cF 3 Or v m xs)(hr:p5 (su B) Γ ((xb,[v,pv])::(A++(Or2++Or))) l k 3 news)(h1:∀u∈news,u.oneCell'=true)(hn:m+k≤1000000):
  dB (su B) Tryz.prog 182 [l,fo xb] ((xb,[v,pv])::(A++(Or2++Or))) [] Γ (fun u O M Δ=>u=.tuple #[]∧(∃v' O',O=(xb,[v',pv])::(A++O')∧cF 3 O' v' (m+k) (xs++news))∧M=[]∧Δ=[]):=by
 refine dB.of_W (aR B) Tryz.func182 rfl ?_;refine bZ [] 0 xb 0 (aR B) ?_;refine dR [] ((xb,[v,pv])::(A++(Or2++Or))) xb (0+0) 1 [v,pv] v (aR B) (.head _) rfl ?_;refine W.app [] ((xb,[v,pv])::(A++(Or2++Or))) ((xb,[v,pv])::(A++Or2)) Or [] 3 32 m k v l xs news (aR B) (by simp) hg hr h1 hn (by decide) (fun v' O' hg'=>?_);obtain⟨hs,hc,ho⟩:=lr hg';refine bZ [] 0 xb 0 (aR B) ?_;refine nD [] (((xb,[v,pv])::(A++Or2))++O'++[]) [] ((A++Or2)++O'++[]) 1 xb (0+0) [v,pv] v' [v',pv] (aR B) rfl hs (by rw[hc];intro u hu;simp at hu;subst hu;exact ho) (pT 1) (by rw[hc];rfl) ?_;refine rE ((xb,[v',pv])::A) Or2 O' (by simp only[az,ah,cT,aV];kernel_rfl) ?_;exact j1 [] (.tuple #[]) ((xb,[v',pv])::(A++O')) [] ⟨rfl,⟨v',O',rfl,hg'⟩,rfl,rfl⟩ bT
end
end Go.Proofs.YtgaaopjagcaojaaGreat
