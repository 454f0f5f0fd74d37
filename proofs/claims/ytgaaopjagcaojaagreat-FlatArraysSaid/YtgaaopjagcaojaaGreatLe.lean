import Derived.Test.YtgaaopjagcaojaaGreatPr
import Derived.Test.YtgaaopjagcaojaaGreatOw
import Derived.Laws.BitsLemmas
import Derived.Laws.Bits64
import Derived.Test.YtgaaopjagcaojaaGreatLa
import Derived.Deep.Slices
import Derived.Test.YtgaaopjagcaojaaGreatVk
import Derived.Lib.ConvBytes
import Derived.Lib.BytesEntry
import Derived.Laws.BytesArg
import Derived.Lib.EndianBits
set_option linter.unusedSimpArgs false
set_option linter.unusedVariables false
namespace Go.Proofs.YtgaaopjagcaojaaGreat
open Go.RowKit Go.IntWalk
def QC(k:Int):Rat:=(2:Rat)^k
theorem Pn(k:Nat):QC (k:Int)=(((2^k:Nat):Int):Rat):=by
 unfold QC;rw[Rat.zpow_natCast];simp
theorem Po(k:Nat):QC (-(k:Int))=Rat.divInt 1 ((2^k:Nat):Int):=by
 unfold QC;rw[Rat.zpow_neg,Rat.zpow_natCast,iu];simp[lg]
def be(l:List Int):Int:=l.foldl (fun m z=>256*m+z) 0
theorem yG(n:Int)(h₀:0≤n)(h₁:n<2^64):IntKind.u64.wrap n=n:=by
 rw[IntKind.wrap_u64];exact Int.emod_eq_of_lt h₀ (by simpa using h₁)
theorem LY{x:Int}(h₀:0≤x)(h₁:x<256):Go.bits .and .u8 x 127=x % 128:=bits_mask .u8 8 (by decide) wraps_u8 7 (by decide) x h₀ h₁
theorem JT{m x:Int}(h0:0≤m)(h1:m<72057594037927936)(h2:0≤x)(h3:x<256):Go.bits .or .u64 (256*m) (IntKind.u64.wrap x)=256*m+x:=by
 rw[yG x h2 (by simp;omega)];exact bits_join .u64 64 (by decide) yG 8 (256*m) x (by omega) (by simp) (by simp;omega) h2 (by simpa using h3) (by simp;omega)
theorem rp{m x:Int}(h0:0≤m)(h1:m<281474976710656)(h2:0≤x)(h3:x<256):
  IntKind.u64.wrap (Go.bits .or .u64 (256*m) (IntKind.u64.wrap x)*2^(min (8:Int).toNat IntKind.u64.bits))=256*(256*m+x):=by
 rw[JT h0 (by omega) h2 h3,show(min (8:Int).toNat IntKind.u64.bits)=8 by decide];rw[yG _ (by simp;omega) (by simp;omega)];simp;omega
def nV(zs:List Int):Rat:=if zs.length=8 then(if 127<zs.getD 0 0 then-1 else 1)*(be (zs.drop 1):Rat)*QC (4*(zs.getD 0 0 % 128-78))else 0
def sL(zs:List Int):Int:=if zs.length=8 then 0 else 3
def ke(zs:List Int):Prop:=∀z∈zs,0≤z∧z<256
theorem P8(n:Nat):(0:Int)<((2^n:Nat):Int):=Int.natCast_pos.2 (ki n)
section
variable{T:Tb}{Γ:List aE}
theorem SW(b off:Nat){xs:List Value} [h:aZ (RA (some ⟨b,off,none⟩)) xs Γ](k:Nat){v:Value}(hv:xs[k]? =some v):∀I w,bB T I w→aG Γ I w→w.cell? ⟨b,off+k*1,none⟩=some v:=fun I w _ hh=>by
 rw[fO];exact RA.cell (h.p hh) hv
theorem UC(b off:Nat){xs:List Value} [h:aZ (RA (some ⟨b,off,none⟩)) xs Γ](k:Nat){cs:List Value}(hv:∀(j:Nat) (v:Value),cs[j]? =some v→xs[k+j]? =some v):∀I w,bB T I w→aG Γ I w→∀j v,cs[j]? =some v→w.cell? ⟨b,off+k*1+j,none⟩=some v:=fun I w _ hh j v hj=>by
 rw[fO,ij];exact RA.cell (h.p hh) (hv j v hj)
end
section
variable{Γ:List aE}{L M:Nat}
theorem Ub(s:Sl)(z:Int)(k:Nat)(hz:z=k){x:Nat} [ha:aZ (NF s) (L,x) Γ](hk:k≤65536)(hL:L≤1000000000000:=by omega):
  au tb Tryz.prog 246 [mv s,.int .i64 z] Γ (fun v Δ=>∃u:Sl,v=.tuple #[mv u,.int .i64 0]∧Δ=[NF u (L+k/32+1,x*2^k)]):=by
 subst hz;exact Z3 s k hk hL
theorem R7(z k:Int)(hz:z=k)(h1: -400≤k)(h2:k≤400):au tb Tryz.prog 196 [.int .i64 z] Γ (sY 20 (QC k)):=by
 subst hz;refine au.of_W aB Tryz.func196 rfl ?_;refine W.d [] 10 (decide (z<0)) (fun hb=>?_) (fun hb=>?_)
 ·have hk:=kr hb;refine aj [10] (C_ 1 1 rfl (by decide)) ?_;rintro _ _ ⟨u1,rfl,rfl⟩;refine aj [] (Ub u1 ((IntKind.i64.wrap (0-z))) (-z).toNat (by rw[ah];omega) (by omega)) ?_;rintro _ _ ⟨u2,rfl,rfl⟩;refine aj [] (cV 1 (by omega) (by omega)) ?_;rintro _ _ ⟨u3,d3,rfl,rfl⟩;refine aj [] (vU u2) ?_;rintro _ _ ⟨u4,d4,rfl,rfl⟩;refine aj [] (zR u3 d3 u4 d4 (by have:=ki (-z).toNat;omega)) ?_;rintro _ _ ⟨n5,a5,m5,b5,rfl,rfl⟩;refine W.r [] (qv n5 a5 m5 b5) ⟨n5,a5,m5,b5,rfl,rfl⟩ (j9 (by omega) ?_);have:=Po (-z).toNat;rw[show(-(((-z).toNat:Nat):Int))=z by omega]at this;rw[this,la]
 ·have hk:=eL hb;refine aj [10] (C_ 1 1 rfl (by decide)) ?_;rintro _ _ ⟨u6,rfl,rfl⟩;refine aj [] (Ub u6 z z.toNat (by omega) (by omega)) ?_;rintro _ _ ⟨u7,rfl,rfl⟩;refine aj [] (vU u7) ?_;rintro _ _ ⟨u8,d8,rfl,rfl⟩;refine aj [] (cj u8 d8) ?_;rintro _ _ ⟨n9,a9,m9,b9,rfl,rfl⟩;refine W.r [] (qv n9 a9 m9 b9) ⟨n9,a9,m9,b9,rfl,rfl⟩ (j9 (by omega) ?_);have:=Pn z.toNat;rw[show((z.toNat:Nat):Int)=z by omega]at this;rw[this,la]
theorem tS(ao:Option Addr)(n c:Nat)(zs:List Int) [h:aZ (RA ao) (zs.map (Value.int .u8)) Γ](hn:n=zs.length)(hz:ke zs)(hc:n≤c):
  au tb Tryz.prog 132 [.slice ao n c] Γ (fun v Δ=>∃(n:Sl) (nb:Bool) (d:Sl) (db:Bool),v=.tuple #[qv n nb d db,.int .i64 (sL zs)]∧Δ=[QF n nb d db (50,nV zs)]):=by
 refine au.of_W aB Tryz.func132 rfl ?_;by_cases h8:zs.length=8
 ·obtain⟨z0,z1,z2,z3,z4,z5,z6,z7,rfl⟩:∃z0 z1 z2 z3 z4 z5 z6 z7,zs=[z0,z1,z2,z3,z4,z5,z6,z7]:=by
   match zs,h8 with
   | [z0,z1,z2,z3,z4,z5,z6,z7],_=>exact⟨_,_,_,_,_,_,_,_,rfl⟩
  subst hn;refine Fb ao (hm:=rfl) (by simp) (fun ba of e=>?_);subst e;simp only[aF,bE,cz,Nat.reduceAdd]at*;have b0:=hz z0 (by simp);have b1:=hz z1 (by simp);have b2:=hz z2 (by simp);have b3:=hz z3 (by simp);have b4:=hz z4 (by simp);have b5:=hz z5 (by simp);have b6:=hz z6 (by simp);have b7:=hz z7 (by simp);obtain⟨m1,e1⟩:∃m:Int,m=256*0+z1:=⟨_,rfl⟩;have c1:0≤m1∧m1<256:=by omega
  obtain⟨m2,e2⟩:∃m:Int,m=256*m1+z2:=⟨_,rfl⟩;have c2:0≤m2∧m2<65536:=by omega
  obtain⟨m3,e3⟩:∃m:Int,m=256*m2+z3:=⟨_,rfl⟩;have c3:0≤m3∧m3<16777216:=by omega
  obtain⟨m4,e4⟩:∃m:Int,m=256*m3+z4:=⟨_,rfl⟩;have c4:0≤m4∧m4<4294967296:=by omega
  obtain⟨m5,e5⟩:∃m:Int,m=256*m4+z5:=⟨_,rfl⟩;have c5:0≤m5∧m5<1099511627776:=by omega
  obtain⟨m6,e6⟩:∃m:Int,m=256*m5+z6:=⟨_,rfl⟩;have c6:0≤m6∧m6<281474976710656:=by omega
  obtain⟨m7,e7⟩:∃m:Int,m=256*m6+z7:=⟨_,rfl⟩;have c7:0≤m7∧m7<72057594037927936:=by omega
  have hbe:be ([z0,z1,z2,z3,z4,z5,z6,z7].drop 1)=m7:=by
   simp only[be,List.drop_succ_cons,ir,oF,List.foldl_nil];rw[e7,e6,e5,e4,e3,e2,e1]
  refine Cw [10] 1 ba of 8 c (some (.int .i64 ((1:Nat):Int))) none 1 8 aB (.inl rfl) (.inr ⟨rfl,rfl⟩) (by decide) (by omega) (by omega) ?_;refine Yf [] 7 (some ⟨ba,of+1*1,none⟩) (8-1) (c-1) aB (by decide) ?_;refine de [] ba (of+1*1) [.int .u8 z1,.int .u8 z2,.int .u8 z3,.int .u8 z4,.int .u8 z5,.int .u8 z6,.int .u8 z7] aB (UC ba of 1 (fun j v hv=>by rw[Nat.add_comm];exact hv)) ?_;refine j2 [] 8 ?_;refine W.shl [17] .u64 .u64 0 8 (256*0) (by decide) (by decide) ?_;refine W.shl [17] .u64 .u64 (Go.bits .or .u64 (256*0) (IntKind.u64.wrap z1)) 8 (256*m1) (by decide) (by rw[rp (by omega) (by omega) b1.1 b1.2,e1]) ?_;refine W.shl [17] .u64 .u64 (Go.bits .or .u64 (256*m1) (IntKind.u64.wrap z2)) 8 (256*m2) (by decide) (by rw[rp (by omega) (by omega) b2.1 b2.2,e2]) ?_;refine W.shl [17] .u64 .u64 (Go.bits .or .u64 (256*m2) (IntKind.u64.wrap z3)) 8 (256*m3) (by decide) (by rw[rp (by omega) (by omega) b3.1 b3.2,e3]) ?_;refine W.shl [17] .u64 .u64 (Go.bits .or .u64 (256*m3) (IntKind.u64.wrap z4)) 8 (256*m4) (by decide) (by rw[rp (by omega) (by omega) b4.1 b4.2,e4]) ?_;refine W.shl [17] .u64 .u64 (Go.bits .or .u64 (256*m4) (IntKind.u64.wrap z5)) 8 (256*m5) (by decide) (by rw[rp (by omega) (by omega) b5.1 b5.2,e5]) ?_;refine W.shl [17] .u64 .u64 (Go.bits .or .u64 (256*m5) (IntKind.u64.wrap z6)) 8 (256*m6) (by decide) (by rw[rp (by omega) (by omega) b6.1 b6.2,e6]) ?_;refine cA [17] 1 ba of 8 c .i64 0 0 rfl aB (by decide) ?_
  refine eg [] 1 ba (of+0*1) (.int .u8 z0) aB (SW ba of 0 rfl) ?_;refine aj [] (C_ (Go.bits .or .u64 (256*m6) (IntKind.u64.wrap z7)) m7.toNat (by rw[JT (by omega) (by omega) b7.1 b7.2];omega) (by omega)) ?_;rintro _ _ ⟨u13,rfl,rfl⟩;refine aj [] (vU u13) ?_;rintro _ _ ⟨u14,d14,rfl,rfl⟩;refine aj [] (cj u14 d14) ?_;rintro _ _ ⟨n15,a15,m15,b15,rfl,rfl⟩;refine aj [] (R7 (IntKind.i64.wrap (4*IntKind.i64.wrap (IntKind.i64.wrap (Go.bits .and .u8 z0 127)-78))) (4*(z0 % 128-78)) (by rw[LY b0.1 b0.2];simp only[ah];omega) (by omega) (by omega)) ?_;rintro _ _ ⟨n16,a16,m16,b16,rfl,rfl⟩;refine aj [] (bR n15 a15 m15 b15 n16 a16 m16 b16) ?_;rintro _ _ ⟨n17,a17,m17,b17,rfl,rfl⟩;refine cA [] 1 ba of 8 c .i64 0 0 rfl aB (by decide) ?_;refine eg [] 1 ba (of+0*1) (.int .u8 z0) aB (SW ba of 0 rfl) ?_;have hm7:((m7.toNat:Nat):Int)=m7:=by omega
  refine W.d [] 41 (decide (z0>127)) (fun hb=>?_) (fun hb=>?_)
  ·have hk:=kr hb;refine aj [41] (ph n17 a17 m17 b17) ?_;rintro _ _ ⟨n20,a20,m20,b20,rfl,rfl⟩;refine W.r [] (.tuple #[qv n20 a20 m20 b20,.int .i64 0]) ⟨n20,a20,m20,b20,rfl,rfl⟩ (j9 (by omega) ?_);unfold nV;rw[if_pos (show([z0,z1,z2,z3,z4,z5,z6,z7]:List Int).length=8 from rfl),hbe,hm7];show-((m7:Rat)*_)=(if 127<z0 then(-1:Rat)else 1)*_*QC (4*(z0 % 128-78));rw[if_pos hk];grind
  ·have hk:=eL hb;refine W.r [41] (.tuple #[qv n17 a17 m17 b17,.int .i64 0]) ⟨n17,a17,m17,b17,rfl,rfl⟩ (j9 (by omega) ?_);unfold nV;rw[if_pos (show([z0,z1,z2,z3,z4,z5,z6,z7]:List Int).length=8 from rfl),hbe,hm7];show(m7:Rat)*_=(if 127<z0 then(-1:Rat)else 1)*_*QC (4*(z0 % 128-78));rw[if_neg (by omega)];grind
 ·have hd:nV zs=0:=by unfold nV;rw[if_neg h8]
  refine bD [] 10 (((n:Nat):Int) != 8) (by simp;omega) ?_;refine W.r [10] (.tuple #[qv ⟨none,0,0⟩ false ⟨none,0,0⟩ false,.int .i64 3]) ⟨_,_,_,_,by rw[sL,if_neg h8],rfl⟩ (by rw[hd];exact kW)
end
open Go.RowKit Go.ChangeShapes Go.WideShapes
abbrev bz(s:Sl):Value:=.slice s.ao s.n s.c
def LF{α β:Type}(R:kT α)(num:α→β)(s:Sl)(l:List β):aE where
 p I w:=∃es:List α,es.map num=l∧s.n=l.length∧(s.n≤s.c∧s.c≤maxLen)∧(OL R s.ao (0,es)).p I w
 up:=by
  rintro I I' w w' ⟨es,h1,h2,h3,h⟩ g1 g2 g3;exact⟨es,h1,h2,h3,(OL R s.ao (0,es)).up h g1 g2 g3⟩
def BF(s:Sl)(b:List Int):aE where
 p I w:=s.n=b.length∧(s.n≤s.c∧s.c≤maxLen)∧ke b∧(RA s.ao (b.map (Value.int .u8))).p I w
 up:=by
  rintro I I' w w' ⟨h1,h2,h3,h⟩ g1 g2 g3;exact⟨h1,h2,h3,(RA s.ao _).up h g1 g2 g3⟩
def yX(k:Int):Prop:=0≤k∧k<256
def xR(s:Sl)(r:Re):aE where
 p I w:=yX r.k∧yX r.d∧(BF s r.b).p I w
 up:=by
  rintro I I' w w' ⟨h1,h2,h⟩ g1 g2 g3;exact⟨h1,h2,(BF s r.b).up h g1 g2 g3⟩
abbrev rev(r:Re)(s:Sl):Value:=.agg #[.int .u8 r.k,.int .u8 r.d,bz s]
structure dJ where
 s:Sl
 r:Re
def dw:kT dJ where
 z:=3
 cells e:=[.int .u8 e.r.k,.int .u8 e.r.d,bz e.s]
 len _:=rfl
 fact _ e:=xR e.s e.r
abbrev nX:Sl→List Re→aE:=LF dw dJ.r
def mr(f p:Sl)(x:Im):aE where
 p I w:=(nX f x.f).p I w∧(nX p x.p).p I w
 up:=by
  rintro I I' w w' ⟨h1,h2⟩ g1 g2 g3;exact⟨(nX f x.f).up h1 g1 g2 g3,(nX p x.p).up h2 g1 g2 g3⟩
abbrev mq(f p:Sl):Value:=.agg #[bz f,bz p]
structure nj where
 f:Sl
 p:Sl
 x:Im
def lJ:kT nj where
 z:=2
 cells e:=[bz e.f,bz e.p]
 len _:=rfl
 fact _ e:=mr e.f e.p e.x
abbrev uv:Sl→List Im→aE:=LF lJ nj.x
def xL(h i:Sl)(x:Ce):aE where
 p I w:=(nX h x.h).p I w∧(uv i x.i).p I w
 up:=by
  rintro I I' w w' ⟨h1,h2⟩ g1 g2 g3;exact⟨(nX h x.h).up h1 g1 g2 g3,(uv i x.i).up h2 g1 g2 g3⟩
structure qg where
 h:Sl
 i:Sl
 x:Ce
def pG:kT qg where
 z:=2
 cells e:=[bz e.h,bz e.i]
 len _:=rfl
 fact _ e:=xL e.h e.i e.x
abbrev pE:Sl→List Ce→aE:=LF pG qg.x
def Hy(h c:Sl)(t:Li):aE where
 p I w:=(nX h t.h).p I w∧(pE c t.c).p I w
 up:=by
  rintro I I' w w' ⟨h1,h2⟩ g1 g2 g3;exact⟨(nX h t.h).up h1 g1 g2 g3,(pE c t.c).up h2 g1 g2 g3⟩
section
variable{H:Type}{enc:TypeId×Value→H}{P:Program}{w:World}
abbrev As:f_:=fun _=>True
theorem uC{α β:Type}(R:kT α)(num:α→β){t e:TypeId}(ht:P.underlying t=some (.slice e))(hce:P.cellsOf e=R.z)(hz:0<R.z)
  (hel:∀n cs' y,DataW.trod enc P w 0 (fun _=>true) true n e cs'=some y→cs'.length=R.z→∃q:α,R.cells q=cs'∧(R.fact 0 q).p As w){c:Value}{n:Nat}{y:DataW H×List MemPlace}(h:DataW.trod enc P w 0 (fun _=>true) true n t [c]=some y):
  ∃(s:Sl) (l:List β),c=bz s∧(LF R num s l).p As w:=by
 rcases Go.Deep.open_slice ht h with⟨hcs,_⟩|⟨a,len,cap,m,n',D,Pl,hcs,_,hl,hml,hm,_,hx⟩
 ·simp at hcs;subst hcs;exact⟨⟨none,0,0⟩,[],rfl,[],rfl,rfl,⟨ai _,aM _⟩,fun e he=>absurd he (by simp),RA.nil _ _ _⟩
 ·simp at hcs;subst hcs;simp only[eW]at hm;subst hm;have each:∀i,i<m→∃q:α,(R.fact 0 q).p As w∧∀j v,(R.cells q)[j]? =some v→w.cell? (a.add (i*R.z+j))=some v:=by
   intro i hi';obtain⟨cs',g1,g2⟩:=hx i hi';rw[hce]at g1;obtain⟨_,hlen,hcell⟩:=World.cells?_some g1;obtain⟨q,hq,hf⟩:=hel _ _ _ g2 hlen;refine⟨q,hf,fun j v hv=>?_⟩;rw[hq]at hv;have hj:j<R.z:=by rw[←hlen];exact(List.getElem?_eq_some_iff.1 hv).1
   have e0:=hcell j hj;rw[Go.Deep.add_add]at e0;rw[e0];exact hv
  rcases Nat.eq_zero_or_pos len with h0|hpos0
  ·subst h0;exact⟨⟨some a,0,m⟩,[],rfl,[],rfl,rfl,⟨aM _,hml⟩,fun e he=>absurd he (by simp),RA.nil _ _ _⟩
  have:Inhabited α:=⟨(each 0 (by omega)).choose⟩;obtain⟨q,hq⟩:=Go.Deep.choose_lt each;have hlen:(((List.range len).map q).flatMap R.cells).length=len*R.z:=by
   rw[p_ R];simp
  refine⟨⟨some a,len,m⟩,((List.range len).map q).map num,rfl,(List.range len).map q,rfl,by simp,⟨hl,hml⟩,fun x hx'=>?_,fun hne=>?_⟩
  ·obtain⟨i,hir,rfl⟩:=List.mem_map.1 hx';exact(hq i (by have:=List.mem_range.1 hir;omega)).1
  ·have hpos:0<len:=by
    rcases Nat.eq_zero_or_pos len with h|h
    ·subst h;simp at hne
    ·exact h
   have hq0:0<(R.cells (q 0)).length:=by rw[R.len];exact hz
   have hc0:=(hq 0 (by omega)).2 0 _ (ar hq0);obtain⟨b,off,sp⟩:=a;have hsp:sp=none:=by
    simp only[Addr.add,ln,fm,eW]at hc0;unfold World.cell? at hc0;split at hc0
    ·cases sp with
     |none=>rfl
     |some x=>simp at hc0
    ·simp at hc0
   subst hsp;refine⟨b,off,rfl,trivial,fun k v hv=>?_⟩;have hk:k<len*R.z:=by
    have:=(List.getElem?_eq_some_iff.1 hv).1;simp only at this;omega
   have hi2:k/R.z<len:=Nat.div_lt_of_lt_mul (by rw[eA];exact hk);have hil:k/R.z<((List.range len).map q).length:=by simpa using hi2
   have hqe:((List.range len).map q)[k/R.z]'hil=q (k/R.z):=by simp
   have hj5:k % R.z<(R.cells (q (k/R.z))).length:=by rw[R.len];exact fF _ hz
   have hv2:=IY R hil (k % R.z) ((R.cells (q (k/R.z)))[k % R.z]'hj5) (by rw[hqe];exact ar hj5);have hke:k/R.z*R.z+k % R.z=k:=Nat.div_add_mod' k R.z;rw[hke,hv]at hv2;injection hv2 with hv2;have:=(hq (k/R.z) (by omega)).2 (k % R.z) _ (ar hj5);rw[gp,hke]at this;rw[hv2,←this]
theorem FN:∀es:List Int,es.flatMap (fun z=>[(Value.int .u8 z:Value)])=es.map (Value.int .u8)
 | []=>rfl
 |z::r=>by rw[bj,FN r];rfl
theorem DU{z:Int}(hw:(Lit.int .u8 z).wf=true):0≤z∧z<256:=by
 have h:IntKind.u8.min≤z∧z≤IntKind.u8.max:=by simpa [Lit.wf]using hw
 have h1:IntKind.u8.min=0:=by decide
 have h2:IntKind.u8.max=255:=by decide
 omega
theorem H6{t e:TypeId}(ht:P.underlying t=some (.slice e))(he:P.underlying e=some (.int .u8))(hce:P.cellsOf e=1){c:Value}{n:Nat}{y:DataW H×List MemPlace}(h:DataW.trod enc P w 0 (fun _=>true) true n t [c]=some y):
  ∃(s:Sl) (b:List Int),c=bz s∧(BF s b).p As w:=by
 let R:kT Int:=⟨1,fun z=>[.int .u8 z],fun _=>rfl,fun _ z=>⟨fun _ _=>0≤z∧z<256,fun h _ _ _=>h⟩⟩
 obtain⟨s,l,rfl,es,h1,h2,h3,h4,h5⟩:=uC R id ht hce (Nat.lt_succ_self 0) (fun n cs' y hy hl=>by
  match cs',hl with
  | [v],_=>
   obtain⟨z,rfl,hw⟩:=tp he hy;refine⟨z,rfl,?_⟩;show 0≤z∧z<256;exact DU hw) h
 rw[List.map_id]at h1;subst h1;refine⟨s,es,rfl,h2,h3,fun z hz=>h4 z hz,?_⟩;have e:es.flatMap R.cells=es.map (Value.int .u8):=by
  show es.flatMap (fun z=>[(Value.int .u8 z:Value)])=_;exact FN es
 simp only at h5;rw[e]at h5;exact h5
theorem vZ{t:TypeId}{fs:Array Field}{n:Nat}{cs:List Value}{y:DataW H×List MemPlace}(ht:P.underlying t=some (.struct fs))(h:DataW.trod enc P w 0 (fun _=>true) true n t cs=some y):
  ∀(i:Nat) (f:Field),fs[i]? =some f→f.offset=i→P.cellsOf f.type=1→∀c,cs[i]? =some c→∃n y,DataW.trod enc P w 0 (fun _=>true) true n f.type [c]=some y:=by
 obtain⟨xs,n',_,hx,hl,hlen,hff⟩:=DataW.trod_struct ht h;intro i f hi ho hc c hcs;have hix:i<xs.length:=by
  have:=(Array.getElem?_eq_some_iff.1 hi).1;omega
 have:=hff i f hi;rw[ho,hc]at this;refine⟨n',xs[i],?_⟩;have e:(cs.drop i).take 1=[c]:=by
  obtain⟨hlt,rfl⟩:=List.getElem?_eq_some_iff.1 hcs;rw[bI hlt];rfl
 rw[e]at this;rw[this,ar hix]
structure KG(P:Program)(tb':TypeId) where
 tbs:TypeId
 re:TypeId
 res:TypeId
 im:TypeId
 ims:TypeId
 ce:TypeId
 ces:TypeId
 r0:Field
 r1:Field
 r2:Field
 i0:Field
 i1:Field
 c0:Field
 c1:Field
 hb:P.underlying tb'=some (.int .u8)∧P.cellsOf tb'=1
 hbs:P.underlying tbs=some (.slice tb')∧P.cellsOf tbs=1
 hr:P.underlying re=some (.struct #[r0,r1,r2])∧P.cellsOf re=3
 hr0:r0.type=tb'∧r0.offset=0
 hr1:r1.type=tb'∧r1.offset=1
 hr2:r2.type=tbs∧r2.offset=2
 hrs:P.underlying res=some (.slice re)∧P.cellsOf res=1
 hi:P.underlying im=some (.struct #[i0,i1])∧P.cellsOf im=2
 hi0:i0.type=res∧i0.offset=0
 hi1:i1.type=res∧i1.offset=1
 his:P.underlying ims=some (.slice im)∧P.cellsOf ims=1
 hc:P.underlying ce=some (.struct #[c0,c1])∧P.cellsOf ce=2
 hc0:c0.type=res∧c0.offset=0
 hc1:c1.type=ims∧c1.offset=1
 hcs:P.underlying ces=some (.slice ce)∧P.cellsOf ces=1
theorem KG.recs{tb':TypeId}(L:KG P tb'){c:Value}{n:Nat}{y:DataW H×List MemPlace}(h:DataW.trod enc P w 0 (fun _=>true) true n L.res [c]=some y):∃(s:Sl) (l:List Re),c=bz s∧(nX s l).p As w:=by
 refine uC dw dJ.r L.hrs.1 L.hr.2 (by decide) (fun n cs' y hy hl=>?_) h;have hs:=vZ L.hr.1 hy
 match cs',hl with
 | [v0,v1,v2],_=>
  obtain⟨_,_,q0⟩:=hs 0 L.r0 rfl L.hr0.2 (by rw[L.hr0.1];exact L.hb.2) v0 rfl;obtain⟨_,_,q1⟩:=hs 1 L.r1 rfl L.hr1.2 (by rw[L.hr1.1];exact L.hb.2) v1 rfl;obtain⟨_,_,q2⟩:=hs 2 L.r2 rfl L.hr2.2 (by rw[L.hr2.1];exact L.hbs.2) v2 rfl;rw[L.hr0.1]at q0;rw[L.hr1.1]at q1;rw[L.hr2.1]at q2;obtain⟨a,rfl,wa⟩:=tp L.hb.1 q0;obtain⟨b,rfl,wb⟩:=tp L.hb.1 q1;obtain⟨s,bs,rfl,hf⟩:=H6 L.hbs.1 L.hb.1 L.hb.2 q2;exact⟨⟨s,⟨a,b,bs⟩⟩,rfl,DU wa,DU wb,hf⟩
theorem KG.items{tb':TypeId}(L:KG P tb'){c:Value}{n:Nat}{y:DataW H×List MemPlace}(h:DataW.trod enc P w 0 (fun _=>true) true n L.ims [c]=some y):∃(s:Sl) (l:List Im),c=bz s∧(uv s l).p As w:=by
 refine uC lJ nj.x L.his.1 L.hi.2 (by decide) (fun n cs' y hy hl=>?_) h;have hs:=vZ L.hi.1 hy
 match cs',hl with
 | [v0,v1],_=>
  obtain⟨_,_,q0⟩:=hs 0 L.i0 rfl L.hi0.2 (by rw[L.hi0.1];exact L.hrs.2) v0 rfl;obtain⟨_,_,q1⟩:=hs 1 L.i1 rfl L.hi1.2 (by rw[L.hi1.1];exact L.hrs.2) v1 rfl;rw[L.hi0.1]at q0;rw[L.hi1.1]at q1;obtain⟨f,lf,rfl,hf⟩:=L.recs q0;obtain⟨p,lp,rfl,hp⟩:=L.recs q1;exact⟨⟨f,p,⟨lf,lp⟩⟩,rfl,hf,hp⟩
theorem KG.cells{tb':TypeId}(L:KG P tb'){c:Value}{n:Nat}{y:DataW H×List MemPlace}(h:DataW.trod enc P w 0 (fun _=>true) true n L.ces [c]=some y):∃(s:Sl) (l:List Ce),c=bz s∧(pE s l).p As w:=by
 refine uC pG qg.x L.hcs.1 L.hc.2 (by decide) (fun n cs' y hy hl=>?_) h;have hs:=vZ L.hc.1 hy
 match cs',hl with
 | [v0,v1],_=>
  obtain⟨_,_,q0⟩:=hs 0 L.c0 rfl L.hc0.2 (by rw[L.hc0.1];exact L.hrs.2) v0 rfl;obtain⟨_,_,q1⟩:=hs 1 L.c1 rfl L.hc1.2 (by rw[L.hc1.1];exact L.his.2) v1 rfl;rw[L.hc0.1]at q0;rw[L.hc1.1]at q1;obtain⟨f,lf,rfl,hf⟩:=L.recs q0;obtain⟨p,lp,rfl,hp⟩:=L.items q1;exact⟨⟨f,p,⟨lf,lp⟩⟩,rfl,hf,hp⟩
end
section
variable{T:Tb}{P:Program}{fin:VS→List aE→Prop}{c:fM}{Γ:List aE}
theorem Mu{α β:Type}(R:kT α)(num:α→β)(s:Sl){l:List β} [h:aZ (LF R num s) l Γ]{k:Nat}{x:β}(hk:l[k]? =some x)(hm:dG c.k=false)(hz:0<R.z)
  (hc:∀b off e,s.ao=some ⟨b,off,none⟩→num e=x→W T P fin c (R.fact 0 e::RA (some ⟨b,off+k*R.z,none⟩) (R.cells e)::Γ)):W T P fin c Γ:=
 W.elim (α:=Nat×Nat×α) (fun q=>s.ao=some ⟨q.1,q.2.1,none⟩∧num q.2.2=x) (fun q=>[R.fact 0 q.2.2,RA (some ⟨q.1,q.2.1+k*R.z,none⟩) (R.cells q.2.2)]) hm (fun I w _ hh=>by
  obtain⟨es,rfl,h2,h3,h4,h5⟩:=h.p hh;rw[bN]at hk;obtain⟨e,he,hex⟩:∃e,es[k]? =some e∧num e=x:=by
   cases hq:es[k]? with
   |none=>rw[hq]at hk;simp at hk
   |some e=>rw[hq]at hk;exact⟨e,rfl,by simpa using hk⟩
  obtain⟨hlt,rfl⟩:=List.getElem?_eq_some_iff.1 he;obtain⟨b,off,ha,hI,hr⟩:=h5 (by
   intro e0;have:=p_ R es;simp only at e0;rw[e0]at this;have h2:0<es.length*R.z:=iz (by omega) hz;simp at this;omega)
  refine⟨(b,off,es[k]),⟨ha,hex⟩,aG.cons (h4 _ (dW hlt)) (aV (fun _=>⟨b,off+k*R.z,rfl,hI,fun i v hv=>?_⟩))⟩;rw[ij];exact hr _ v (IY R hlt i v hv)) (fun q hq=>hc q.1 q.2.1 q.2.2 hq.1 hq.2)
theorem W.len{α β:Type}(R:kT α)(num:α→β)(s:Sl){l:List β} [h:aZ (LF R num s) l Γ](hm:dG c.k=false)(hc:s.n=l.length→s.n≤s.c→s.c≤9223372036854775807→W T P fin c Γ):W T P fin c Γ:=
 qx (s.n=l.length∧s.n≤s.c∧s.c≤9223372036854775807) hm (fun I w _ hh=>by
  obtain⟨es,_,h2,h3,_⟩:=h.p hh;exact⟨h2,h3.1,h3.2⟩) (fun hq=>hc hq.1 hq.2.1 hq.2.2)
end
section
variable{T:Tb}{P:Program}{fin:VS→List aE→Prop}{c:fM}{Γ:List aE}
def G8(e:Ev):Option (Option Addr×TypeId):=
 match e with
 | .read o c'=>match o.op with
  | .binOp .eql t x y _=>match c'.s.ev x,c'.s.ev y with
   | .val (.slice ao _ _),.val (.slice none _ _)=>some (ao,t)
   |_,_=>none
  |_=>none
 |_=>none
theorem Mz(D:List Nat)(ao:Option Addr)(t el:TypeId)(ht:P.underlying t=some (.slice el))
  (hk:W T P fin (gy (aJ T (bh T D 999 c)) (.bool ao.isNone)) Γ)(h:G8 (aJ T (bh T D 999 c))=some (ao,t):=by kernel_rfl)(hg:P.eqGuardType P.depth t=false:=by kernel_rfl):W T P fin c Γ:=by
 refine eF D 999 ?_;generalize bh T D 999 c=c1 at*;unfold G8 at h;split at h
 ·rename_i o c' he;rw[he]at hk;split at h
  ·rename_i ty u v yt hop;split at h
   ·rename_i ao' n1 c1' n2 c2' ha hb;simp only[aq,aI]at h;obtain⟨rfl,rfl⟩:=h;refine W.read _ he (.any ?_) hk;intro w;have hr:(Op.equal ty (.slice ao' n1 c1') (.slice none n2 c2')).run P w=.ok ao'.isNone w:=by
     unfold Op.equal;rw[show Op.maxDepth=(Op.maxDepth-1)+1 by decide];unfold Op.equalIn;simp only[cB,cP ht,bC];cases ao'<;>rfl
    have hgd:(eqGuard .eql ty u v (.slice ao' n1 c1') (.slice none n2 c2')).run P w=.ok () w:=by
     unfold eqGuard;simp[hg]
    have hb2:(binOp .eql ty (.slice ao' n1 c1') (.slice none n2 c2')).run P w=.ok (.bool ao'.isNone) w:=by
     show(do pure (.bool (←Op.equal ty (.slice ao' n1 c1') (.slice none n2 c2'))):Sem Value).run P w=_;simp only[cB,hr,bC,dS]
    simp only[execOp,hop,cE ha,cE hb,cB,hgd,bC,hb2,dS]
   ·simp at h
  ·simp at h
 ·simp at h
def jc(s:ByteArray):List Int:=s.data.toList.map fun b=>(b.toNat:Int)
theorem uz(s:ByteArray):(jc s).length=s.size:=by
 unfold jc;rw[bL,uu];rfl
theorem tg(s:ByteArray):ke (jc s):=fun z hz=>by
 obtain⟨b,_,rfl⟩:=List.mem_map.1 hz;have:=b.toNat_lt;omega
theorem MS{b:List Int}(hb:ke b):jc (strOfNums b)=b:=by
 unfold jc;rw[strOfNums_data,List.map_map];refine(nQ (fun z hz=>?_)).trans (List.map_id b);have:=hb z hz;simp only[Function.comp];rw[show(UInt8.ofNat z.toNat).toNat=z.toNat % 256 from rfl];simp only[id];omega
def Kl(e:Ev):Option (TypeId×TypeId×ByteArray):=
 match e with
 | .ask o c'=>match o.op with
  | .convert src dst x=>match c'.s.ev x with
   | .val (.string s)=>some (src,dst,s)
   |_=>none
  |_=>none
 |_=>none
theorem An(D:List Nat)(src dst el:TypeId)(s:ByteArray)(hs:P.underlying src=some .string)(hd:P.underlying dst=some (.slice el))(he:P.underlying el=some (.int .u8))(hz:s.size≤9223372036854775807)
  (hk:∀b cap,s.size≤cap→W T P fin (gy (aJ T (bh T D 999 c)) (.slice (some ⟨b,0,none⟩) s.size cap)) (BF ⟨some ⟨b,0,none⟩,s.size,cap⟩ (jc s)::Γ))(h:Kl (aJ T (bh T D 999 c))=some (src,dst,s):=by kernel_rfl):W T P fin c Γ:=by
 refine eF D 999 ?_;generalize bh T D 999 c=c1 at*;unfold Kl at h;split at h
 ·rename_i o c' hev;rw[hev]at hk;split at h
  ·rename_i sr ds x hop;split at h
   ·rename_i s' hx;simp only[aq,aI]at h;obtain⟨rfl,rfl,rfl⟩:=h;refine W.ask (fun v Δ=>∃b cap,s'.size≤cap∧v=.slice (some ⟨b,0,none⟩) s'.size cap∧Δ=[BF ⟨some ⟨b,0,none⟩,s'.size,cap⟩ (jc s')]) hev ?_ (fun v Δ ⟨b,cap,h1,h2,h3⟩=>by subst h2 h3;exact hk b cap h1);intro I w hdd hh;have hrun:=Lib.run_convert_string_bytes w sr ds el s' hs hd he;refine⟨.slice (some ⟨w.heap.size,0,none⟩) s'.size (grownCap w s'.size 0 el),_,Lib.bytesWorld w el s',?_,⟨w.heap.size,grownCap w s'.size 0 el,grownCap_ge _ _ _ _,rfl,rfl⟩,?_,?_⟩
    ·simp only[execOp,hop,cE hx,cB,hrun,bC,dS]
    ·exact⟨rfl,rfl,rfl,by rw[Lib.bytesWorld_size];omega,fun k hk=>Lib.bytesWorld_at_old w el s' k hk⟩
    ·refine aV ⟨(uz s').symm,⟨grownCap_ge _ _ _ _,grownCap_le_maxLen _ _ _ _ hz⟩,tg s',fun hne=>⟨w.heap.size,0,rfl,fun hlt=>absurd hlt (Nat.lt_irrefl _),fun i v hv=>?_⟩⟩;have hi:i<s'.size:=by
      have:=(List.getElem?_eq_some_iff.1 hv).1;rw[bL,uz]at this;exact this
     rw[cz,Lib.bytesWorld_cell w el s' i hi];rw[←hv];simp only[jc,List.map_map,bN,List.getD];have hi2:i<s'.data.toList.length:=by rw[uu];exact hi
     rw[ar hi2];rfl
   ·simp at h
  ·simp at h
 ·simp at h
end
theorem qE:∀(l:List UInt8) (c:UInt8),decide (Lib.indexByte l c≥0)=l.contains c
 | [],c=>rfl
 |b::l,c=>by
  rw[Rt,List.contains_cons,←qE l c];have hge:=Lib.indexByte_ge l c;by_cases h:b==c
  ·have:=eq_of_beq h;subst this;simp
  ·have h2:(c==b)=false:=by
    rw[fE];rintro rfl;simp at h
   rw[if_neg h,h2,Bool.false_or];by_cases h1:Lib.indexByte l c= -1
   ·rw[h1];decide
   ·rw[if_neg (by simpa using h1)];simp only[ge_iff_le,rI];omega
section
variable{Γ:List aE}
set_option maxRecDepth 100000 in
theorem PQ(s:ByteArray)(k:Int)(w:World):Calls Tryz.prog 272 #[.string s,.int .u8 k] w fun e w'=>e=.returned (.int .i64 (Lib.indexByte s.data.toList k.toNat.toUInt8))∧w'=w:=by
 go_enter Tryz.func272,Tryz.ntmps272
 go_wp2
 rw[run_callFunc_extern Tryz.func276 (by kernel_rfl) (by kernel_rfl) (by kernel_rfl) (e:=Extern.BytealgIndexByte.indexByte) (by kernel_rfl),Lib.run_indexByteString];simp only[Result.andThen];rw[Oper.upon_value]
 go_wp2
 go_ret
 exact⟨rfl,rfl⟩
theorem WG(s:ByteArray)(k:Int):au tb Tryz.prog 272 [.string s,.int .u8 k] Γ (jv (.int .i64 (Lib.indexByte s.data.toList k.toNat.toUInt8))):=
 ⟨⟨_,Tryz.func272,by kernel_rfl,by kernel_rfl⟩,fun I w hd hh=>by
  refine(PQ s k w).mono ?_;rintro e w' ⟨rfl,rfl⟩;exact⟨_,_,rfl,⟨rfl,rfl⟩,Below.refl _ _,aG.nil _ _⟩⟩
theorem J8(s:ByteArray)(k:Int):au tb Tryz.prog 264 [.string s,.int .u8 k] Γ (jv (.int .i64 (Lib.indexByte s.data.toList k.toNat.toUInt8))):=by
 refine au.of_W aB Tryz.func264 rfl ?_;refine aj [] (WG s k) ?_;rintro _ _ ⟨rfl,rfl⟩;exact W.r [] (.int .i64 (Lib.indexByte s.data.toList k.toNat.toUInt8)) ⟨rfl,rfl⟩ bU
set_option maxRecDepth 100000 in
theorem MO(ao:Option Addr)(n c:Nat)(r:Int)(k:Int)(w:World)(hrun:(Extern.BytealgIndexByte.indexByte #[.slice ao n c,.int .u8 k]).run Tryz.prog w=.ok (.int .i64 r) w):Calls Tryz.prog 231 #[.slice ao n c,.int .u8 k] w fun e w'=>e=.returned (.int .i64 r)∧w'=w:=by
 go_enter Tryz.func231,Tryz.ntmps231
 go_wp2
 rw[run_callFunc_extern Tryz.func263 (by kernel_rfl) (by kernel_rfl) (by kernel_rfl) (e:=Extern.BytealgIndexByte.indexByte) (by kernel_rfl),hrun];simp only[Result.andThen];rw[Oper.upon_value]
 go_wp2
 go_ret
 exact⟨rfl,rfl⟩
theorem GL(bb off n c:Nat)(b:List Int)(k:Int) [h:aZ (BF ⟨some ⟨bb,off,none⟩,n,c⟩) b Γ]:au tb Tryz.prog 231 [.slice (some ⟨bb,off,none⟩) n c,.int .u8 k] Γ (jv (.int .i64 (Lib.indexByte (Lib.bytesOf b) k.toNat.toUInt8))):=
 ⟨⟨_,Tryz.func231,by kernel_rfl,by kernel_rfl⟩,fun I w hd hh=>by
  obtain⟨h1,h2,h3,h4⟩:=h.p hh;have hrun:=Lib.run_indexByteSlice (P:=Tryz.prog) (w:=w) bb off n c b h1.symm (fun i hi=>by
   have hb:i<b.length:=by have:=h1;simp only at this;omega
   obtain⟨b',off',ha,_,hr⟩:=h4 (by intro e;rw[List.map_eq_nil_iff]at e;rw[e]at hb;simp at hb);simp only[aq,Addr.mk.injEq]at ha;obtain⟨rfl,rfl,_⟩:=ha;refine hr i _ ?_;rw[bN,List.getD,ar hb];rfl) k
  refine(MO _ n c _ k w hrun).mono ?_;rintro e w' ⟨rfl,rfl⟩;exact⟨_,_,rfl,⟨rfl,rfl⟩,Below.refl _ _,aG.nil _ _⟩⟩
end
section
variable{T:Tb}{P:Program}{fin:VS→List aE→Prop}{c:fM}{Γ:List aE}
theorem eC{F:aE}{Δ:List aE}(h:∀(I:f_) (w:World),bB T I w→aG Γ I w→F.p I w)(h':∀(I:f_) (w:World),bB T I w→aG Γ I w→aG Δ I w):∀(I:f_) (w:World),bB T I w→aG Γ I w→aG (F::Δ) I w:=fun I w hd hh=>aG.cons (h I w hd hh) (h' I w hd hh)
theorem eK{α:Type}{k:α→aE}{a:α} [h:aZ k a Γ]:∀(I:f_) (w:World),bB T I w→aG Γ I w→(k a).p I w:=fun I w _ hh=>h.p hh
theorem eE:∀(I:f_) (w:World),bB T I w→aG Γ I w→aG [] I w:=fun I w _ _=>aG.nil _ _
theorem xS(s:Sl){b:List Int} [h:aZ (BF s) b Γ](hc:s.n=b.length→s.n≤s.c∧s.c≤9223372036854775807→ke b→(b≠ []→∃bb off,s.ao=some ⟨bb,off,none⟩)→W T P fin c Γ)(hm:dG c.k=false:=by kernel_rfl):W T P fin c Γ:=
 qx (s.n=b.length∧(s.n≤s.c∧s.c≤9223372036854775807)∧ke b∧(b≠ []→∃bb off,s.ao=some ⟨bb,off,none⟩)) hm (fun I w _ hh=>by
  obtain⟨h1,h2,h3,h4⟩:=h.p hh;refine⟨h1,h2,h3,fun hne=>?_⟩;obtain⟨bb,off,ha,_⟩:=h4 (by simpa using hne);exact⟨bb,off,ha⟩) (fun hq=>hc hq.1 hq.2.1 hq.2.2.1 hq.2.2.2)
theorem PA(s:Sl){b:List Int} [h:aZ (BF s) b Γ](own:List (Nat×List Value))(hn:s.n=b.length)(ha:b≠ []→∃bb off,s.ao=some ⟨bb,off,none⟩):qP T Γ own (bz s) s.n 1 (b.map (Value.int .u8)):=
 ⟨s.ao,s.c,rfl,by simp[hn],fun hpos=>by
  obtain⟨bb,off,e⟩:=ha (by intro e;rw[e]at hn;simp at hn;omega);refine⟨⟨bb,off,none⟩,e,fun I w _ hh _ j u hu=>?_⟩;rw[gp];have:=(h.p hh).2.2.2;rw[e]at this;exact RA.cell this hu⟩
theorem KS{g n cap:Nat}{cur:List Value}{b:List Int}{I:f_}{w:World}(h:(dY g cur).p I w)(hb:ke b)(hn:n=b.length)(hc:n≤cap∧cap≤maxLen)(ht:cur.take (n*1)=b.map (Value.int .u8)):(BF ⟨some ⟨g,0,none⟩,n,cap⟩ b).p I w:=
 ⟨hn,hc,hb,RA.of_row h (fun i v hv=>by
  rw[←ht,di]at hv;split at hv
  ·exact hv
  ·simp at hv)⟩
theorem qB(ao:Option Addr)(I:f_)(w:World):(BF ⟨ao,0,0⟩ []).p I w:=⟨rfl,⟨ai _,aM _⟩,fun z hz=>absurd hz (by simp),RA.nil _ _ _⟩
end
section
variable{Γ:List aE}
theorem JW(s:Sl){b:List Int} [h:aZ (BF s) b Γ](hl:b.length≤1000000):
  au tb Tryz.prog 181 [bz s] Γ (fun v Δ=>∃u:Sl,v=bz u∧Δ=[BF u b]):=by
 refine au.of_W aB Tryz.func181 rfl ?_;refine xS s (hm:=rfl) (fun h1 h2 h3 h4=>?_);refine Mz [] s.ao 28 5 Tryz.underlying28 ?_;refine W.d [] 4 s.ao.isNone (fun h0=>?_) (fun h0=>?_)
 ·have hb:b=[]:=Classical.byContradiction fun hne=>by
   obtain⟨bb,off,e⟩:=h4 hne;rw[e]at h0;simp at h0
  subst hb;exact W.r [4] (.slice none 0 0) ⟨⟨none,0,0⟩,rfl,rfl⟩ (fun I w _ _=>aV (qB _ _ _))
 ·refine S2 [4] aB (fun b1=>?_);refine SZ [] [] 1 1 s.n b1 0 (bz s) (b.map (Value.int .u8)) aB (by kernel_rfl) (PA s [] h1 h4) (by omega) (by decide) (fun hz=>?_) (fun g cap cur hp hcap hml hlen htake=>?_)
  ·have hb:b=[]:=aL (by omega);subst hb;exact W.r [] (.slice (some ⟨b1,0,none⟩) 0 0) ⟨⟨some ⟨b1,0,none⟩,0,0⟩,rfl,rfl⟩ (fun I w _ _=>aV (qB _ _ _))
  ·refine DL [] [] g cur ?_;exact W.r [] (.slice (some ⟨g,0,none⟩) s.n cap) ⟨⟨some ⟨g,0,none⟩,s.n,cap⟩,rfl,rfl⟩ (fun I w _ hh=>aV (KS (aZ.p (k:=dY g) (a:=cur) inferInstance hh) h3 h1 ⟨hcap,hml⟩ htake))
def iS(b:List Int):ByteArray:=strOfNums (ib b)
theorem nd(s:Sl){b:List Int} [h:aZ (BF s) b Γ]:au tb Tryz.prog 39 [bz s] Γ (jv (.string (iS b))):=by
 refine au.of_W aB Tryz.func39 rfl ?_;refine xS s (hm:=rfl) (fun h1 h2 h3 h4=>?_);by_cases hb:b=[]
 ·subst hb;have h0:s.n=0:=h1;refine W.more (Δ:=[RA s.ao (([]:List Int).map (Value.int .u8))]) rfl (fun I w _ _=>aV (RA.nil _ _ _)) ?_;refine aS [] 8 (decide ((s.n:Int)>0)) (by simp[h0]) ?_;refine MA [8,15] s.ao s.n s.c [] aB h1 ?_;exact W.r [] (.string (strOfNums [])) ⟨rfl,rfl⟩ bU
 ·obtain⟨bb,off,hao⟩:=h4 hb;have hpos:0<b.length:=List.length_pos_iff.2 hb;refine W.more (Δ:=[RA (some ⟨bb,off,none⟩) (b.map (Value.int .u8))]) rfl (fun I w _ hh=>aV (by rw[←hao];exact(h.p hh).2.2.2)) ?_;obtain⟨z,hz⟩:∃z,b[b.length-1]? =some z:=⟨_,ar (by omega)⟩;have hlast:b.getLast?=some z:=by rw[gj];exact hz
  obtain⟨sa,sn,sc⟩:=s;simp only at h1 h2 h4 hao;subst hao;refine bD [] 8 (decide ((sn:Int)>0)) (aw (by omega)) ?_;refine cA [8] 1 bb off sn sc .i64 (b.length-1) (IntKind.i64.wrap ((sn:Int)-1)) (by rw[ah];omega) aB (by omega) ?_;refine eg [8] 1 bb (off+(b.length-1)*1) (.int .u8 z) aB (fun I w _ hh=>?_) ?_
  ·rw[fO];exact RA.cell (aZ.p (k:=RA (some ⟨bb,off,none⟩)) (a:=b.map (Value.int .u8)) inferInstance hh) (by rw[bN,hz];rfl)
  refine W.d [8] 15 (z==0) (fun h0=>?_) (fun h0=>?_)
  ·have h0:=eq_of_beq h0;subst h0;refine W.more (Δ:=[RA (some ⟨bb,off+0*1,none⟩) (b.dropLast.map (Value.int .u8))]) (by kernel_rfl) (fun I w _ hh=>aV (fun hne=>?_)) ?_
   ·obtain⟨b',off',ha,hI,hr⟩:=(aZ.p (k:=RA (some ⟨bb,off,none⟩)) (a:=b.map (Value.int .u8)) inferInstance hh) (by simpa using hb);simp only[aq,Addr.mk.injEq]at ha;obtain⟨rfl,rfl,_⟩:=ha;refine⟨bb,off,by simp,hI,fun i v hv=>hr i v ?_⟩;rw[bN]at hv⊢;rw[List.dropLast_eq_take,di]at hv;split at hv
    ·exact hv
    ·simp at hv
   refine Cw [15] 1 bb off sn sc none (some (.int .i64 (IntKind.i64.wrap ((sn:Int)-1)))) 0 (b.length-1) aB (.inr ⟨rfl,rfl⟩) (.inl (by rw[ah];congr;omega)) (aM _) (by omega) (by omega) ?_;refine MA [] (some ⟨bb,off+0*1,none⟩) (b.length-1-0) (sc-0) b.dropLast aB (by simp) ?_;exact W.r [] (.string (strOfNums b.dropLast)) ⟨by rw[iS,ib,if_pos hlast],rfl⟩ bU
  ·refine MA [15] (some ⟨bb,off,none⟩) sn sc b aB h1 ?_;exact W.r [] (.string (strOfNums b)) ⟨by rw[iS,ib,if_neg (by rw[hlast];intro e;injection e with e;subst e;simp at h0)],rfl⟩ bU
end
def NL(s:Sl)(l:List Int):aE where
 p I w:=s.n=l.length∧(s.n≤s.c∧s.c≤maxLen)∧(RA s.ao (l.map (Value.int .i64))).p I w
 up:=by
  rintro I I' w w' ⟨h1,h2,h⟩ g1 g2 g3;exact⟨h1,h2,(RA s.ao _).up h g1 g2 g3⟩
def Si(a b:Int):Int:=if 256*a+b<32768 then 256*a+b else 256*a+b-65536
def Sj(a b c d:Int):Int:=if 16777216*a+65536*b+256*c+d<2147483648 then 16777216*a+65536*b+256*c+d else 16777216*a+65536*b+256*c+d-4294967296
def dM:List Int→List Int
 |a::b::r=>Si a b::dM r
 |_=>[]
def fe:List Int→List Int
 |a::b::c::d::r=>Sj a b c d::fe r
 |_=>[]
theorem r_:∀l:List Int,(dM l).length=l.length/2
 | []=>by simp[dM]
 | [_]=>by simp[dM]
 |a::b::r=>by
  have:=r_ r;simp only[dM,aF];omega
theorem qY:∀l:List Int,(fe l).length=l.length/4
 | []=>by simp[fe]
 | [_]=>by simp[fe]
 | [_,_]=>by simp[fe]
 | [_,_,_]=>by simp[fe]
 |a::b::c::d::r=>by
  have:=qY r;simp only[fe,aF];omega
theorem Dq:∀(l:List Int) (k:Nat) (a b:Int),l[2*k]? =some a→l[2*k+1]? =some b→(dM l)[k]? =some (Si a b)
 | [],k,a,b,h,_=>by simp at h
 | [x],k,a,b,_,h=>by
  have:=(List.getElem?_eq_some_iff.1 h).1;simp at this
  try omega
 |x::y::r,0,a,b,h1,h2=>by
  simp at h1 h2;subst h1 h2;rfl
 |x::y::r,k+1,a,b,h1,h2=>by
  simp only[dM,fL];exact Dq r k a b (by simpa [fD]using h1) (by simpa [fD]using h2)
theorem Gg:∀(l:List Int) (k:Nat) (a b c d:Int),l[4*k]? =some a→l[4*k+1]? =some b→l[4*k+2]? =some c→l[4*k+3]? =some d→(fe l)[k]? =some (Sj a b c d)
 | [],k,a,b,c,d,h,_,_,_=>by simp at h
 | [x],k,a,b,c,d,_,h,_,_=>by
  have:=(List.getElem?_eq_some_iff.1 h).1;simp at this
  try omega
 | [x,y],k,a,b,c,d,_,_,h,_=>by
  have:=(List.getElem?_eq_some_iff.1 h).1;simp at this
  try omega
 | [x,y,z],k,a,b,c,d,_,_,_,h=>by
  have:=(List.getElem?_eq_some_iff.1 h).1;simp at this
  try omega
 |x::y::z::u::r,0,a,b,c,d,h1,h2,h3,h4=>by
  simp at h1 h2 h3 h4;subst h1 h2 h3 h4;rfl
 |x::y::z::u::r,k+1,a,b,c,d,h1,h2,h3,h4=>by
  simp only[fe,fL];exact Gg r k a b c d (by simpa [fD]using h1) (by simpa [fD]using h2) (by simpa [fD]using h3) (by simpa [fD]using h4)
theorem DA(n:Int)(h₀:0≤n)(h₁:n<2^16):IntKind.u16.wrap n=n:=by rw[IntKind.wrap_u16];omega
theorem uW(n:Int)(h₀:0≤n)(h₁:n<2^32):IntKind.u32.wrap n=n:=by rw[ig];omega
theorem WT{a b:Int}(ha:yX a)(hb:yX b):IntKind.i64.wrap (IntKind.i16.wrap (Go.bits .or .u16 (256*a) (IntKind.u16.wrap b)))=Si a b:=by
 obtain⟨a0,a1⟩:=ha;obtain⟨b0,b1⟩:=hb;rw[DA b b0 (by omega),bits_join .u16 16 (by decide) DA 8 (256*a) b (by omega) (by simp) (by simp;omega) b0 (by simpa using b1) (by simp;omega)];unfold Si;rw[show ∀n:Int,IntKind.i16.wrap n=(n+32768) % 65536-32768 from fun n=>by simp[IntKind.wrap,IntKind.bits,IntKind.signed];omega,ah];split<;>omega
theorem WV{a b c d:Int}(ha:yX a)(hb:yX b)(hc:yX c)(hd:yX d):IntKind.i64.wrap (IntKind.i32.wrap (Go.bits .or .u32 (Go.bits .or .u32 (Go.bits .or .u32 (16777216*a) (65536*b)) (256*c)) (IntKind.u32.wrap d)))=Sj a b c d:=by
 obtain⟨a0,a1⟩:=ha;obtain⟨b0,b1⟩:=hb;obtain⟨c0,c1⟩:=hc;obtain⟨d0,d1⟩:=hd;rw[uW d d0 (by omega)];rw[bits_join .u32 32 (by decide) uW 24 (16777216*a) (65536*b) (by omega) (by simp) (by simp;omega) (by omega) (by simp;omega) (by simp;omega)];rw[bits_join .u32 32 (by decide) uW 16 (16777216*a+65536*b) (256*c) (by omega) (by simp;omega) (by simp;omega) (by omega) (by simp;omega) (by simp;omega)];rw[bits_join .u32 32 (by decide) uW 8 (16777216*a+65536*b+256*c) d (by omega) (by simp;omega) (by simp;omega) (by omega) (by simp;omega) (by simp;omega)];unfold Sj;rw[IntKind.wrap_i32,ah];split<;>omega
structure SO where
 i:Nat
 z:Int
 v:Value
 O:List (Nat×List Value)
theorem F7{l:List Int}:∀u∈l.map (Value.int .i64),u.oneCell'=true:=fun u hu=>by
 obtain⟨z,_,rfl⟩:=List.mem_map.1 hu;rfl
theorem JH(z:Int):∀u∈([.int .i64 z]:List Value),u.oneCell'=true:=fun u hu=>by
 simp only[aD,aC,bp]at hu;subst hu;rfl
theorem oZ{z n c:Nat}{O:List (Nat×List Value)}{ao:Option Addr}{xs:List Value}(hg:cG z O (.slice ao n c) n xs):c≤maxLen:=by
 rcases hg.2 with⟨e,_⟩|⟨g,cap,cur,e,_,_,hml,_⟩
 ·injection e with _ _ e3;rw[e3];exact aM _
 ·injection e with _ _ e3;rw[e3];exact hml
section
variable{T:Tb}{Γ:List aE}
theorem CD(bb off n c:Nat){b:List Int} [h:aZ (BF ⟨some ⟨bb,off,none⟩,n,c⟩) b Γ]{i:Nat}{z:Int}(hz:b[i]? =some z):∀I w,bB T I w→aG Γ I w→w.cell? ⟨bb,off+i*1,none⟩=some (.int .u8 z):=fun I w _ hh=>by
 rw[fO];exact RA.cell (h.p hh).2.2.2 (by rw[bN,hz];rfl)
def xQ(ok:Bool)(l:List Int)(v:Value)(Δ:List aE):Prop:=if ok then ∃u:Sl,v=.tuple #[bz u,.int .i64 0]∧Δ=[NL u l]else v=.tuple #[.slice none 0 0,.int .i64 3]∧Δ=[]
theorem O_(s:Sl){b:List Int} [h:aZ (BF s) b Γ](hl:b.length≤1000000):au tb Tryz.prog 129 [bz s] Γ (xQ (b.length % 2==0) (dM b)):=by
 refine au.of_W aB Tryz.func129 rfl ?_;refine xS s (hm:=rfl) (fun h1 h2 h3 h4=>?_);refine mH [] .i64 (s.n:Int) 2 ((b.length % 2:Nat):Int) (by decide) (by rw[h1,fN (by omega)];rfl) ?_;by_cases hev:b.length % 2=0
 rotate_left
 ·refine bD [] 9 (((b.length % 2:Nat):Int) != 0) (by simp;omega) ?_;exact W.r [9] (.tuple #[.slice none 0 0,.int .i64 3]) (by unfold xQ;rw[if_neg (by simpa using hev)];exact⟨rfl,rfl⟩) bU
 have hok:(b.length % 2==0)=true:=by simpa using hev
 rw[hok];refine aS [] 9 (((b.length % 2:Nat):Int) != 0) (by simp;omega) ?_;have hln:=r_ b;refine j0 [9] [4,5] (fun a:SO=>[(4,a.v),(5,.int .i64 a.z)]) (fun _=>[]) (fun a=>a.O) (fun _=>[BF s b]) (fun a=>a.z=2*(a.i:Int)∧2*a.i≤b.length∧cG 1 a.O a.v a.i (((dM b).take a.i).map (Value.int .i64))) (fun a=>b.length-2*a.i) ⟨0,0,.slice none 0 0,[]⟩ ⟨rfl,aM _,cG.nil 1⟩ (eC eK eE) ?_;rintro⟨i,z,v,O⟩ K ⟨hz,hi,hg⟩ close;simp only at hz hi hg;by_cases hlt:2*i<b.length
 ·obtain⟨x,hx⟩:∃x,b[2*i]? =some x:=⟨_,ar hlt⟩;obtain⟨y,hy⟩:∃y,b[2*i+1]? =some y:=⟨_,ar (by omega)⟩;have hxb:yX x:=h3 x (aO hx);have hyb:yX y:=h3 y (aO hy);obtain⟨bb,off,hao⟩:=h4 (by rintro rfl;simp at hlt);obtain⟨sa,sn,sc⟩:=s;simp only at h1 h2 hao;subst hao;refine bD [] 13 (decide (z<(sn:Int))) (aw (by omega)) ?_;refine cA [13] 1 bb off sn sc .i64 (2*i) z (by omega) aB (by omega) ?_;refine eg [] 1 bb (off+2*i*1) (.int .u8 x) aB (CD bb off sn sc hx) ?_;refine W.shl [] .u16 .u64 (IntKind.u16.wrap x) 8 (256*x) (by decide) (by unfold yX at hxb;rw[show(min (8:Int).toNat IntKind.u16.bits)=8 by decide,IntKind.wrap_u16,IntKind.wrap_u16];simp;omega) ?_;refine cA [] 1 bb off sn sc .i64 (2*i+1) (IntKind.i64.wrap (z+1)) (by rw[ah];omega) aB (by omega) ?_;refine eg [] 1 bb (off+(2*i+1)*1) (.int .u8 y) aB (CD bb off sn sc hy) ?_;refine cI [] 1 [.int .i64 (IntKind.i64.wrap (IntKind.i16.wrap (Go.bits .or .u16 (256*x) (IntKind.u16.wrap y))))] aB (fun B=>?_);refine W.app [] O [] O [] 1 8 i 1 v (.slice (some ⟨B,0,none⟩) 1 1) (((dM b).take i).map (Value.int .i64)) [.int .i64 (IntKind.i64.wrap (IntKind.i16.wrap (Go.bits .or .u16 (256*x) (IntKind.u16.wrap y))))] aB (by simp) hg (bW B O 1 1 rfl 1) (JH _) (by omega) (by decide) (fun v' O' hg'=>?_);refine close [] _ _ ⟨i+1,IntKind.i64.wrap (z+2),v',O'⟩ (by kernel_rfl) (by simp only[aA,af];kernel_rfl) ⟨by simp only[ah];omega,by simp only;omega,cG.cast ?_ rfl hg'⟩ (by simp only;omega) (eC eK eE)
  rw[WT hxb hyb,lH (Dq b i x y hx hy),aX];rfl
 ·refine aS [] 13 (decide (z<(s.n:Int))) (ak (by omega)) ?_;have hi2:i=(dM b).length:=by omega
  rw[aW (by omega)]at hg;refine lQ (by simp only[aA,af];kernel_rfl) hg (fun ao c' hv hc'=>?_);subst hv;have hcm:c'≤maxLen:=oZ hg;refine W.r [13] (.tuple #[.slice ao i c',.int .i64 0]) (by unfold xQ;rw[if_pos rfl];exact⟨⟨ao,i,c'⟩,rfl,rfl⟩) (fun I w _ hh=>aV (show(NL ⟨ao,i,c'⟩ (dM b)).p I w from⟨hi2,⟨hc',hcm⟩,aZ.p (k:=RA ao) (a:=(dM b).map (Value.int .i64)) inferInstance hh⟩))
theorem JZ(s:Sl){b:List Int} [h:aZ (BF s) b Γ](hl:b.length≤1000000):au tb Tryz.prog 126 [bz s] Γ (xQ (b.length % 4==0) (fe b)):=by
 refine au.of_W aB Tryz.func126 rfl ?_;refine xS s (hm:=rfl) (fun h1 h2 h3 h4=>?_);refine mH [] .i64 (s.n:Int) 4 ((b.length % 4:Nat):Int) (by decide) (by rw[h1,fN (by omega)];rfl) ?_;by_cases hev:b.length % 4=0
 rotate_left
 ·refine bD [] 9 (((b.length % 4:Nat):Int) != 0) (by simp;omega) ?_;exact W.r [9] (.tuple #[.slice none 0 0,.int .i64 3]) (by unfold xQ;rw[if_neg (by simpa using hev)];exact⟨rfl,rfl⟩) bU
 have hok:(b.length % 4==0)=true:=by simpa using hev
 rw[hok];refine aS [] 9 (((b.length % 4:Nat):Int) != 0) (by simp;omega) ?_;have hln:=qY b;refine j0 [9] [4,5] (fun a:SO=>[(4,a.v),(5,.int .i64 a.z)]) (fun _=>[]) (fun a=>a.O) (fun _=>[BF s b]) (fun a=>a.z=4*(a.i:Int)∧4*a.i≤b.length∧cG 1 a.O a.v a.i (((fe b).take a.i).map (Value.int .i64))) (fun a=>b.length-4*a.i) ⟨0,0,.slice none 0 0,[]⟩ ⟨rfl,aM _,cG.nil 1⟩ (eC eK eE) ?_;rintro⟨i,z,v,O⟩ K ⟨hz,hi,hg⟩ close;simp only at hz hi hg;by_cases hlt:4*i<b.length
 ·obtain⟨x,hx⟩:∃x,b[4*i]? =some x:=⟨_,ar hlt⟩;obtain⟨y,hy⟩:∃y,b[4*i+1]? =some y:=⟨_,ar (by omega)⟩;obtain⟨x2,hx2⟩:∃y,b[4*i+2]? =some y:=⟨_,ar (by omega)⟩;obtain⟨x3,hx3⟩:∃y,b[4*i+3]? =some y:=⟨_,ar (by omega)⟩;have hxb:yX x:=h3 x (aO hx);have hyb:yX y:=h3 y (aO hy);have hb2:yX x2:=h3 x2 (aO hx2);have hb3:yX x3:=h3 x3 (aO hx3);obtain⟨bb,off,hao⟩:=h4 (by rintro rfl;simp at hlt);obtain⟨sa,sn,sc⟩:=s;simp only at h1 h2 hao;subst hao;refine bD [] 13 (decide (z<(sn:Int))) (aw (by omega)) ?_;refine cA [13] 1 bb off sn sc .i64 (4*i) z (by omega) aB (by omega) ?_;refine eg [] 1 bb (off+4*i*1) (.int .u8 x) aB (CD bb off sn sc hx) ?_;refine W.shl [] .u32 .u64 (IntKind.u32.wrap x) 24 (16777216*x) (by decide) (by unfold yX at hxb;rw[show(min (24:Int).toNat IntKind.u32.bits)=24 by decide,ig,ig];simp;omega) ?_;refine cA [] 1 bb off sn sc .i64 (4*i+1) (IntKind.i64.wrap (z+1)) (by rw[ah];omega) aB (by omega) ?_;refine eg [] 1 bb (off+(4*i+1)*1) (.int .u8 y) aB (CD bb off sn sc hy) ?_;refine W.shl [] .u32 .u64 (IntKind.u32.wrap y) 16 (65536*y) (by decide) (by unfold yX at hyb;rw[show(min (16:Int).toNat IntKind.u32.bits)=16 by decide,ig,ig];simp;omega) ?_
  refine cA [] 1 bb off sn sc .i64 (4*i+2) (IntKind.i64.wrap (z+2)) (by rw[ah];omega) aB (by omega) ?_;refine eg [] 1 bb (off+(4*i+2)*1) (.int .u8 x2) aB (CD bb off sn sc hx2) ?_;refine W.shl [] .u32 .u64 (IntKind.u32.wrap x2) 8 (256*x2) (by decide) (by unfold yX at hb2;rw[show(min (8:Int).toNat IntKind.u32.bits)=8 by decide,ig,ig];simp;omega) ?_;refine cA [] 1 bb off sn sc .i64 (4*i+3) (IntKind.i64.wrap (z+3)) (by rw[ah];omega) aB (by omega) ?_;refine eg [] 1 bb (off+(4*i+3)*1) (.int .u8 x3) aB (CD bb off sn sc hx3) ?_;refine cI [] 1 [.int .i64 (IntKind.i64.wrap (IntKind.i32.wrap (Go.bits .or .u32 (Go.bits .or .u32 (Go.bits .or .u32 (16777216*x) (65536*y)) (256*x2)) (IntKind.u32.wrap x3))))] aB (fun B=>?_);refine W.app [] O [] O [] 1 8 i 1 v (.slice (some ⟨B,0,none⟩) 1 1) (((fe b).take i).map (Value.int .i64)) [.int .i64 (IntKind.i64.wrap (IntKind.i32.wrap (Go.bits .or .u32 (Go.bits .or .u32 (Go.bits .or .u32 (16777216*x) (65536*y)) (256*x2)) (IntKind.u32.wrap x3))))] aB (by simp) hg (bW B O 1 1 rfl 1) (JH _) (by omega) (by decide) (fun v' O' hg'=>?_);refine close [] _ _ ⟨i+1,IntKind.i64.wrap (z+4),v',O'⟩ (by kernel_rfl) (by simp only[aA,af];kernel_rfl) ⟨by simp only[ah];omega,by simp only;omega,cG.cast ?_ rfl hg'⟩ (by simp only;omega) (eC eK eE);rw[WV hxb hyb hb2 hb3,lH (Gg b i x y x2 x3 hx hy hx2 hx3),aX]
  rfl
 ·refine aS [] 13 (decide (z<(s.n:Int))) (ak (by omega)) ?_;have hi2:i=(fe b).length:=by omega
  rw[aW (by omega)]at hg;refine lQ (by simp only[aA,af];kernel_rfl) hg (fun ao c' hv hc'=>?_);subst hv;have hcm:c'≤maxLen:=oZ hg;refine W.r [13] (.tuple #[.slice ao i c',.int .i64 0]) (by unfold xQ;rw[if_pos rfl];exact⟨⟨ao,i,c'⟩,rfl,rfl⟩) (fun I w _ hh=>aV (show(NL ⟨ao,i,c'⟩ (fe b)).p I w from⟨hi2,⟨hc',hcm⟩,aZ.p (k:=RA ao) (a:=(fe b).map (Value.int .i64)) inferInstance hh⟩))
end
end Go.Proofs.YtgaaopjagcaojaaGreat
