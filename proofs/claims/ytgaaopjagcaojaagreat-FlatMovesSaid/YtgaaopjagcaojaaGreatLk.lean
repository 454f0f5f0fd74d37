import Derived.Test.YtgaaopjagcaojaaGreatRc
import Derived.Test.YtgaaopjagcaojaaGreatOw
import Derived.Laws.BitsLemmas
import Derived.Laws.Bits64
import Derived.Test.YtgaaopjagcaojaaGreatLa
import Derived.Deep.Slices
import Derived.Test.YtgaaopjagcaojaaGreatVk
import Derived.Lib.ConvBytes
import Derived.Lib.BytesEntry
import Derived.Laws.BytesArg
import Derived.Lib.EndianBits
set_option linter.unusedSimpArgs false
set_option linter.unusedVariables false
set_option maxHeartbeats 1000000
namespace Go.Proofs.YtgaaopjagcaojaaGreat
open Go.RowKit Go.IntWalk
abbrev mI:=@Go.IntKind.wrap_u8
def RU(k:Int):Rat:=(2:Rat)^k
theorem Qq(k:Nat):RU (k:Int)=(((2^k:Nat):Int):Rat):=by
 unfold RU;rw[Rat.zpow_natCast];simp
theorem Qr(k:Nat):RU (-(k:Int))=Rat.divInt 1 ((2^k:Nat):Int):=by
 unfold RU;rw[Rat.zpow_neg,Rat.zpow_natCast,jn];simp[lz]
def be(l:List Int):Int:=l.foldl (fun m z=>256*m+z) 0
theorem yV(n:Int)(h₀:0≤n)(h₁:n<2^64):IntKind.u64.wrap n=n:=by
 rw[IntKind.wrap_u64];exact Int.emod_eq_of_lt h₀ (by simpa using h₁)
theorem MW{x:Int}(h₀:0≤x)(h₁:x<256):Go.bits .and .u8 x 127=x % 128:=bits_mask .u8 8 (by decide) wraps_u8 7 (by decide) x h₀ h₁
theorem KJ{m x:Int}(h0:0≤m)(h2:0≤x)(h3:x<256)(h1:m<72057594037927936:=by omega):Go.bits .or .u64 (256*m) (IntKind.u64.wrap x)=256*m+x:=by
 rw[yV x h2 (by simp;omega)];exact bits_join .u64 64 (by decide) yV 8 (256*m) x (by omega) (by simp) (by simp;omega) h2 (by simpa using h3) (by simp;omega)
theorem ru{m x:Int}(h2:0≤x)(h3:x<256)(h0:0≤m:=by omega)(h1:m<281474976710656:=by omega):
  IntKind.u64.wrap (Go.bits .or .u64 (256*m) (IntKind.u64.wrap x)*2^(min (8:Int).toNat IntKind.u64.bits))=256*(256*m+x):=by
 rw[KJ h0 h2 h3,show(min (8:Int).toNat IntKind.u64.bits)=8 by decide];rw[yV _ (by simp;omega) (by simp;omega)];simp;omega
def xN(zs:List Int):Rat:=if zs.length=8 then(if 127<zs.getD 0 0 then-1 else 1)*(be (zs.drop 1):Rat)*RU (4*(zs.getD 0 0 % 128-78))else 0
def LM(zs:List Int):Int:=if zs.length=8 then 0 else 3
def kU(zs:List Int):Prop:=∀z∈zs,0≤z∧z<256
theorem Rf(n:Nat):(0:Int)<((2^n:Nat):Int):=Int.natCast_pos.2 (kn n)
section
variable{T:Tb}{Γ:List aC}
theorem Ud(b off:Nat){xs:List Value} [h:aZ (RA (some ⟨b,off,none⟩)) xs Γ](k:Nat){v:Value}(hv:xs[k]? =some v):∀I w,bj T I w→aD Γ I w→w.cell? ⟨b,off+k*1,none⟩=some v:=fun I w _ hh=>by
 rw[fE];exact RA.cell (h.p hh) hv
theorem VE(b off:Nat){xs:List Value} [h:aZ (RA (some ⟨b,off,none⟩)) xs Γ](k:Nat){cs:List Value}(hv:∀(j:Nat) (v:Value),cs[j]? =some v→xs[k+j]? =some v):∀I w,bj T I w→aD Γ I w→∀j v,cs[j]? =some v→w.cell? ⟨b,off+k*1+j,none⟩=some v:=fun I w _ hh j v hj=>by
 rw[fE,g_];exact RA.cell (h.p hh) (hv j v hj)
end
section
variable{Γ:List aC}{L M:Nat}
theorem Ve(s:Sl)(z:Int)(k:Nat)(hz:z=k){x:Nat} [ha:aZ (NF s) (L,x) Γ](hL:L≤1000000000000:=by omega)(hk:k≤65536:=by omega):
  aw tb Tryz.prog 246 [mv s,.int .i64 z] Γ (fun v Δ=>∃u:Sl,v=.tuple #[mv u,.int .i64 0]∧Δ=[NF u (L+k/32+1,x*2^k)]):=by
 subst hz;exact aaJ s k hk hL
theorem Tp(z k:Int)(hz:z=k)(h1: -400≤k)(h2:k≤400):aw tb Tryz.prog 196 [.int .i64 z] Γ (s9 20 (RU k)):=by
 subst hz;refine aw.of_W au Tryz.func196 rfl (W.d [] 10 (decide (z<0)) (fun hb=>?_) (fun hb=>?_))
 ·have hk:=jo hb;refine W.c1 [10] (Dv 1 1 rfl (hx:=(by decide))) (fun u1=>W.c1 [] (Ve u1 ((IntKind.i64.wrap (0-z))) (-z).toNat (by rw[af];omega)) (fun u2=>bR [] (dW 1) (fun u3 d3=>bR [] (wu u2) (fun u4 d4=>bz [] (z9 u3 d3 u4 d4 (by have:=kn (-z).toNat;omega)) (fun n5 a5 m5 b5=>W.r [] (qv n5 a5 m5 b5) ⟨n5,a5,m5,b5,rfl,rfl⟩ (pq ?_))))));have:=Qr (-z).toNat;rw[show(-(((-z).toNat:Nat):Int))=z by omega]at this;rw[this,ly]
 ·have hk:=eO hb;refine W.c1 [10] (Dv 1 1 rfl (hx:=(by decide))) (fun u6=>W.c1 [] (Ve u6 z z.toNat (by omega)) (fun u7=>bR [] (wu u7) (fun u8 d8=>bz [] (cD u8 d8) (fun n9 a9 m9 b9=>W.r [] (qv n9 a9 m9 b9) ⟨n9,a9,m9,b9,rfl,rfl⟩ (pq ?_)))));have:=Qq z.toNat;rw[show((z.toNat:Nat):Int)=z by omega]at this;rw[this,ly]
theorem Qa(ao:Option Addr)(n c:Nat)(zs:List Int) [h:aZ (RA ao) (zs.map (Value.int .u8)) Γ](hn:n=zs.length)(hz:kU zs)(hc:n≤c):
  aw tb Tryz.prog 132 [.slice ao n c] Γ (fun v Δ=>∃(n:Sl) (nb:Bool) (d:Sl) (db:Bool),v=.tuple #[qv n nb d db,.int .i64 (LM zs)]∧Δ=[QF n nb d db (50,xN zs)]):=by
 refine aw.of_W au Tryz.func132 rfl ?_;by_cases h8:zs.length=8
 ·obtain⟨z0,z1,z2,z3,z4,z5,z6,z7,rfl⟩:∃z0 z1 z2 z3 z4 z5 z6 z7,zs=[z0,z1,z2,z3,z4,z5,z6,z7]:=by
   match zs,h8 with
   | [z0,z1,z2,z3,z4,z5,z6,z7],_=>exact⟨_,_,_,_,_,_,_,_,rfl⟩
  subst hn;refine IC ao rfl (by simp) (fun ba of e=>?_);subst e;simp only[aB,a_,bU,Nat.reduceAdd]at*;have b0:=hz z0 (by simp);have b1:=hz z1 (by simp);have b2:=hz z2 (by simp);have b3:=hz z3 (by simp);have b4:=hz z4 (by simp);have b5:=hz z5 (by simp);have b6:=hz z6 (by simp);have b7:=hz z7 (by simp);obtain⟨m1,e1⟩:∃m:Int,m=256*0+z1:=⟨_,rfl⟩;have c1:0≤m1∧m1<256:=by omega
  obtain⟨m2,e2⟩:∃m:Int,m=256*m1+z2:=⟨_,rfl⟩;have c2:0≤m2∧m2<65536:=by omega
  obtain⟨m3,e3⟩:∃m:Int,m=256*m2+z3:=⟨_,rfl⟩;have c3:0≤m3∧m3<16777216:=by omega
  obtain⟨m4,e4⟩:∃m:Int,m=256*m3+z4:=⟨_,rfl⟩;have c4:0≤m4∧m4<4294967296:=by omega
  obtain⟨m5,e5⟩:∃m:Int,m=256*m4+z5:=⟨_,rfl⟩;have c5:0≤m5∧m5<1099511627776:=by omega
  obtain⟨m6,e6⟩:∃m:Int,m=256*m5+z6:=⟨_,rfl⟩;have c6:0≤m6∧m6<281474976710656:=by omega
  obtain⟨m7,e7⟩:∃m:Int,m=256*m6+z7:=⟨_,rfl⟩;have c7:0≤m7∧m7<72057594037927936:=by omega
  have hbe:be ([z0,z1,z2,z3,z4,z5,z6,z7].drop 1)=m7:=by
   simp only[be,List.drop_succ_cons,h_,oU,List.foldl_nil];rw[e7,e6,e5,e4,e3,e2,e1]
  refine CL [10] 1 ba of 8 c (some (.int .i64 ((1:Nat):Int))) none 1 8 au (.inl rfl) (.inr ⟨rfl,rfl⟩) (by decide) (Zf [] 7 (some ⟨ba,of+1*1,none⟩) (8-1) (c-1) au (by decide) (cJ [] ba (of+1*1) [.int .u8 z1,.int .u8 z2,.int .u8 z3,.int .u8 z4,.int .u8 z5,.int .u8 z6,.int .u8 z7] au (VE ba of 1 (fun j v hv=>by rw[Nat.add_comm];exact hv)) (j5 [] 8 (W.shl [17] .u64 .u64 0 8 (256*0) (by decide) (W.shl [17] .u64 .u64 (Go.bits .or .u64 (256*0) (IntKind.u64.wrap z1)) 8 (256*m1) (by rw[ru b1.1 b1.2,e1]) (W.shl [17] .u64 .u64 (Go.bits .or .u64 (256*m1) (IntKind.u64.wrap z2)) 8 (256*m2) (by rw[ru b2.1 b2.2,e2]) (W.shl [17] .u64 .u64 (Go.bits .or .u64 (256*m2) (IntKind.u64.wrap z3)) 8 (256*m3) (by rw[ru b3.1 b3.2,e3]) (W.shl [17] .u64 .u64 (Go.bits .or .u64 (256*m3) (IntKind.u64.wrap z4)) 8 (256*m4) (by rw[ru b4.1 b4.2,e4]) (W.shl [17] .u64 .u64 (Go.bits .or .u64 (256*m4) (IntKind.u64.wrap z5)) 8 (256*m5) (by rw[ru b5.1 b5.2,e5]) (W.shl [17] .u64 .u64 (Go.bits .or .u64 (256*m5) (IntKind.u64.wrap z6)) 8 (256*m6) (by rw[ru b6.1 b6.2,e6]) ?_))))))))));refine bI [17] 1 ba of 8 c .i64 0 0 rfl au (by decide) (cX [] 1 ba (of+0*1) (.int .u8 z0) au (Ud ba of 0 rfl) (W.c1 [] (Dv (Go.bits .or .u64 (256*m6) (IntKind.u64.wrap z7)) m7.toNat (by rw[KJ (by omega) b7.1 b7.2];omega)) (fun u13=>bR [] (wu u13) (fun u14 d14=>?_))))
  refine bz [] (cD u14 d14) (fun n15 a15 m15 b15=>bz [] (Tp (IntKind.i64.wrap (4*IntKind.i64.wrap (IntKind.i64.wrap (Go.bits .and .u8 z0 127)-78))) (4*(z0 % 128-78)) (by rw[MW b0.1 b0.2];simp only[af];omega) (by omega) (by omega)) (fun n16 a16 m16 b16=>bz [] (bY n15 a15 m15 b15 n16 a16 m16 b16) (fun n17 a17 m17 b17=>bI [] 1 ba of 8 c .i64 0 0 rfl au (by decide) (cX [] 1 ba (of+0*1) (.int .u8 z0) au (Ud ba of 0 rfl) ?_))));have hm7:((m7.toNat:Nat):Int)=m7:=by omega
  refine W.d [] 41 (decide (z0>127)) (fun hb=>?_) (fun hb=>?_)
  ·have hk:=jo hb;refine bz [41] (pK n17 a17 m17 b17) (fun n20 a20 m20 b20=>W.r [] (.tuple #[qv n20 a20 m20 b20,.int .i64 0]) ⟨n20,a20,m20,b20,rfl,rfl⟩ (pq ?_));unfold xN;rw[if_pos (show([z0,z1,z2,z3,z4,z5,z6,z7]:List Int).length=8 from rfl),hbe,hm7];show-((m7:Rat)*_)=(if 127<z0 then(-1:Rat)else 1)*_*RU (4*(z0 % 128-78));rw[if_pos hk];grind
  ·have hk:=eO hb;refine W.r [41] (.tuple #[qv n17 a17 m17 b17,.int .i64 0]) ⟨n17,a17,m17,b17,rfl,rfl⟩ (pq ?_);unfold xN;rw[if_pos (show([z0,z1,z2,z3,z4,z5,z6,z7]:List Int).length=8 from rfl),hbe,hm7];show(m7:Rat)*_=(if 127<z0 then(-1:Rat)else 1)*_*RU (4*(z0 % 128-78));rw[if_neg (by omega)];grind
 ·have hd:xN zs=0:=by unfold xN;rw[if_neg h8]
  refine bh [] 10 (((n:Nat):Int) != 8) (by simp;omega) (W.r [10] (.tuple #[qv ⟨none,0,0⟩ false ⟨none,0,0⟩ false,.int .i64 3]) ⟨_,_,_,_,by rw[LM,if_neg h8],rfl⟩ (by rw[hd];exact mK))
end
open Go.RowKit Go.ChangeShapes Go.WideShapes
abbrev aY(s:Sl):Value:=.slice s.ao s.n s.c
def LF{α β:Type}(R:kV α)(num:α→β)(s:Sl)(l:List β):aC where
 p I w:=∃es:List α,es.map num=l∧s.n=l.length∧(s.n≤s.c∧s.c≤maxLen)∧(OL R s.ao (0,es)).p I w
 up:=by
  rintro I I' w w' ⟨es,h1,h2,h3,h⟩ g1 g2 g3;exact⟨es,h1,h2,h3,(OL R s.ao (0,es)).up h g1 g2 g3⟩
def BF(s:Sl)(b:List Int):aC where
 p I w:=s.n=b.length∧(s.n≤s.c∧s.c≤maxLen)∧kU b∧(RA s.ao (b.map (Value.int .u8))).p I w
 up:=by
  rintro I I' w w' ⟨h1,h2,h3,h⟩ g1 g2 g3;exact⟨h1,h2,h3,(RA s.ao _).up h g1 g2 g3⟩
def ze(k:Int):Prop:=0≤k∧k<256
def wJ(s:Sl)(r:Re):aC where
 p I w:=ze r.k∧ze r.d∧(BF s r.b).p I w
 up:=by
  rintro I I' w w' ⟨h1,h2,h⟩ g1 g2 g3;exact⟨h1,h2,(BF s r.b).up h g1 g2 g3⟩
abbrev rev(r:Re)(s:Sl):Value:=.agg #[.int .u8 r.k,.int .u8 r.d,aY s]
structure dE where
 s:Sl
 r:Re
def de:kV dE where
 z:=3
 cells e:=[.int .u8 e.r.k,.int .u8 e.r.d,aY e.s]
 len _:=rfl
 fact _ e:=wJ e.s e.r
abbrev kW:Sl→List Re→aC:=LF de dE.r
def oE(f p:Sl)(x:Im):aC where
 p I w:=(kW f x.f).p I w∧(kW p x.p).p I w
 up:=by
  rintro I I' w w' ⟨h1,h2⟩ g1 g2 g3;exact⟨(kW f x.f).up h1 g1 g2 g3,(kW p x.p).up h2 g1 g2 g3⟩
abbrev nd(f p:Sl):Value:=.agg #[aY f,aY p]
structure mR where
 f:Sl
 p:Sl
 x:Im
def kM:kV mR where
 z:=2
 cells e:=[aY e.f,aY e.p]
 len _:=rfl
 fact _ e:=oE e.f e.p e.x
abbrev qA:Sl→List Im→aC:=LF kM mR.x
def zJ(h i:Sl)(x:Ce):aC where
 p I w:=(kW h x.h).p I w∧(qA i x.i).p I w
 up:=by
  rintro I I' w w' ⟨h1,h2⟩ g1 g2 g3;exact⟨(kW h x.h).up h1 g1 g2 g3,(qA i x.i).up h2 g1 g2 g3⟩
structure lT where
 h:Sl
 i:Sl
 x:Ce
def gT:kV lT where
 z:=2
 cells e:=[aY e.h,aY e.i]
 len _:=rfl
 fact _ e:=zJ e.h e.i e.x
abbrev lL:Sl→List Ce→aC:=LF gT lT.x
def yX(h c:Sl)(t:Li):aC where
 p I w:=(kW h t.h).p I w∧(lL c t.c).p I w
 up:=by
  rintro I I' w w' ⟨h1,h2⟩ g1 g2 g3;exact⟨(kW h t.h).up h1 g1 g2 g3,(lL c t.c).up h2 g1 g2 g3⟩
section
variable{H:Type}{enc:TypeId×Value→H}{P:Program}{w:World}
abbrev vE:gd:=fun _=>True
theorem uO{α β:Type}(R:kV α)(num:α→β){t e:TypeId}(ht:P.underlying t=some (.slice e))(hce:P.cellsOf e=R.z)
  (hel:∀n cs' y,DataW.trod enc P w 0 (fun _=>true) true n e cs'=some y→cs'.length=R.z→∃q:α,R.cells q=cs'∧(R.fact 0 q).p vE w){c:Value}{n:Nat}{y:DataW H×List MemPlace}(h:DataW.trod enc P w 0 (fun _=>true) true n t [c]=some y)(hz:0<R.z:=by decide):
  ∃(s:Sl) (l:List β),c=aY s∧(LF R num s l).p vE w:=by
 rcases Go.Deep.open_slice ht h with⟨hcs,_⟩|⟨a,len,cap,m,n',D,Pl,hcs,_,hl,hml,hm,_,hx⟩
 ·simp at hcs;subst hcs;exact⟨⟨none,0,0⟩,[],rfl,[],rfl,rfl,⟨aj _,aH _⟩,fun e he=>absurd he (by simp),RA.nil _ _ _⟩
 ·simp at hcs;subst hcs;simp only[fj]at hm;subst hm;have each:∀i,i<m→∃q:α,(R.fact 0 q).p vE w∧∀j v,(R.cells q)[j]? =some v→w.cell? (a.add (i*R.z+j))=some v:=by
   intro i hi';obtain⟨cs',g1,g2⟩:=hx i hi';rw[hce]at g1;obtain⟨_,hlen,hcell⟩:=World.cells?_some g1;obtain⟨q,hq,hf⟩:=hel _ _ _ g2 hlen;refine⟨q,hf,fun j v hv=>?_⟩;rw[hq]at hv;have hj:j<R.z:=by rw[←hlen];exact(List.getElem?_eq_some_iff.1 hv).1
   have e0:=hcell j hj;rw[Go.Deep.add_add]at e0;rw[e0];exact hv
  rcases Nat.eq_zero_or_pos len with h0|hpos0
  ·subst h0;exact⟨⟨some a,0,m⟩,[],rfl,[],rfl,rfl,⟨aH _,hml⟩,fun e he=>absurd he (by simp),RA.nil _ _ _⟩
  have:Inhabited α:=⟨(each 0 (by omega)).choose⟩;obtain⟨q,hq⟩:=Go.Deep.choose_lt each;have hlen:(((List.range len).map q).flatMap R.cells).length=len*R.z:=by
   rw[qp R];simp
  refine⟨⟨some a,len,m⟩,((List.range len).map q).map num,rfl,(List.range len).map q,rfl,by simp,⟨hl,hml⟩,fun x hx'=>?_,fun hne=>?_⟩
  ·obtain⟨i,hir,rfl⟩:=List.mem_map.1 hx';exact(hq i (by have:=List.mem_range.1 hir;omega)).1
  ·have hpos:0<len:=by
    rcases Nat.eq_zero_or_pos len with h|h
    ·subst h;simp at hne
    ·exact h
   have hq0:0<(R.cells (q 0)).length:=by rw[R.len];exact hz
   have hc0:=(hq 0 (by omega)).2 0 _ (ah hq0);obtain⟨b,off,sp⟩:=a;have hsp:sp=none:=by
    simp only[Addr.add,qD,fK,fj]at hc0;unfold World.cell? at hc0;split at hc0
    ·cases sp with
     |none=>rfl
     |some x=>simp at hc0
    ·simp at hc0
   subst hsp;refine⟨b,off,rfl,trivial,fun k v hv=>?_⟩;have hk:k<len*R.z:=by
    have:=(List.getElem?_eq_some_iff.1 hv).1;simp only at this;omega
   have hi2:k/R.z<len:=Nat.div_lt_of_lt_mul (by rw[fp];exact hk);have hil:k/R.z<((List.range len).map q).length:=by simpa using hi2
   have hqe:((List.range len).map q)[k/R.z]'hil=q (k/R.z):=by simp
   have hj5:k % R.z<(R.cells (q (k/R.z))).length:=by rw[R.len];exact fG _ hz
   have hv2:=E8 R hil (k % R.z) ((R.cells (q (k/R.z)))[k % R.z]'hj5) (by rw[hqe];exact ah hj5);have hke:k/R.z*R.z+k % R.z=k:=Nat.div_add_mod' k R.z;rw[hke,hv]at hv2;injection hv2 with hv2;have:=(hq (k/R.z) (by omega)).2 (k % R.z) _ (ah hj5);rw[gZ,hke]at this;rw[hv2,←this]
theorem Gh:∀es:List Int,es.flatMap (fun z=>[(Value.int .u8 z:Value)])=es.map (Value.int .u8)
 | []=>rfl
 |z::r=>by rw[bB,Gh r];rfl
theorem Ee{z:Int}(hw:(Lit.int .u8 z).wf=true):0≤z∧z<256:=by
 have h:IntKind.u8.min≤z∧z≤IntKind.u8.max:=by simpa [Lit.wf]using hw
 have h1:IntKind.u8.min=0:=by decide
 have h2:IntKind.u8.max=255:=by decide
 omega
theorem IM{t e:TypeId}(ht:P.underlying t=some (.slice e))(he:P.underlying e=some (.int .u8))(hce:P.cellsOf e=1){c:Value}{n:Nat}{y:DataW H×List MemPlace}(h:DataW.trod enc P w 0 (fun _=>true) true n t [c]=some y):
  ∃(s:Sl) (b:List Int),c=aY s∧(BF s b).p vE w:=by
 let R:kV Int:=⟨1,fun z=>[.int .u8 z],fun _=>rfl,fun _ z=>⟨fun _ _=>0≤z∧z<256,fun h _ _ _=>h⟩⟩
 obtain⟨s,l,rfl,es,h1,h2,h3,h4,h5⟩:=uO R id ht hce (hz:=(Nat.lt_succ_self 0)) (fun n cs' y hy hl=>by
  match cs',hl with
  | [v],_=>
   obtain⟨z,rfl,hw⟩:=AJ he hy;refine⟨z,rfl,?_⟩;show 0≤z∧z<256;exact Ee hw) h
 rw[List.map_id]at h1;subst h1;refine⟨s,es,rfl,h2,h3,fun z hz=>h4 z hz,?_⟩;have e:es.flatMap R.cells=es.map (Value.int .u8):=by
  show es.flatMap (fun z=>[(Value.int .u8 z:Value)])=_;exact Gh es
 simp only at h5;rw[e]at h5;exact h5
theorem wD{t:TypeId}{fs:Array Field}{n:Nat}{cs:List Value}{y:DataW H×List MemPlace}(ht:P.underlying t=some (.struct fs))(h:DataW.trod enc P w 0 (fun _=>true) true n t cs=some y):
  ∀(i:Nat) (f:Field),fs[i]? =some f→f.offset=i→P.cellsOf f.type=1→∀c,cs[i]? =some c→∃n y,DataW.trod enc P w 0 (fun _=>true) true n f.type [c]=some y:=by
 obtain⟨xs,n',_,hx,hl,hlen,hff⟩:=DataW.trod_struct ht h;intro i f hi ho hc c hcs;have hix:i<xs.length:=by
  have:=(Array.getElem?_eq_some_iff.1 hi).1;omega
 have:=hff i f hi;rw[ho,hc]at this;refine⟨n',xs[i],?_⟩;have e:(cs.drop i).take 1=[c]:=by
  obtain⟨hlt,rfl⟩:=List.getElem?_eq_some_iff.1 hcs;rw[bA hlt];rfl
 rw[e]at this;rw[this,ah hix]
structure Ar(P:Program)(tb':TypeId) where
 tbs:TypeId
 re:TypeId
 res:TypeId
 im:TypeId
 ims:TypeId
 ce:TypeId
 ces:TypeId
 r0:Field
 r1:Field
 r2:Field
 i0:Field
 i1:Field
 c0:Field
 c1:Field
 hb:P.underlying tb'=some (.int .u8)∧P.cellsOf tb'=1
 hbs:P.underlying tbs=some (.slice tb')∧P.cellsOf tbs=1
 hr:P.underlying re=some (.struct #[r0,r1,r2])∧P.cellsOf re=3
 hr0:r0.type=tb'∧r0.offset=0
 hr1:r1.type=tb'∧r1.offset=1
 hr2:r2.type=tbs∧r2.offset=2
 hrs:P.underlying res=some (.slice re)∧P.cellsOf res=1
 hi:P.underlying im=some (.struct #[i0,i1])∧P.cellsOf im=2
 hi0:i0.type=res∧i0.offset=0
 hi1:i1.type=res∧i1.offset=1
 his:P.underlying ims=some (.slice im)∧P.cellsOf ims=1
 hc:P.underlying ce=some (.struct #[c0,c1])∧P.cellsOf ce=2
 hc0:c0.type=res∧c0.offset=0
 hc1:c1.type=ims∧c1.offset=1
 hcs:P.underlying ces=some (.slice ce)∧P.cellsOf ces=1
theorem Ar.recs{tb':TypeId}(L:Ar P tb'){c:Value}{n:Nat}{y:DataW H×List MemPlace}(h:DataW.trod enc P w 0 (fun _=>true) true n L.res [c]=some y):∃(s:Sl) (l:List Re),c=aY s∧(kW s l).p vE w:=by
 refine uO de dE.r L.hrs.1 L.hr.2 (fun n cs' y hy hl=>?_) h;have hs:=wD L.hr.1 hy
 match cs',hl with
 | [v0,v1,v2],_=>
  obtain⟨_,_,q0⟩:=hs 0 L.r0 rfl L.hr0.2 (by rw[L.hr0.1];exact L.hb.2) v0 rfl;obtain⟨_,_,q1⟩:=hs 1 L.r1 rfl L.hr1.2 (by rw[L.hr1.1];exact L.hb.2) v1 rfl;obtain⟨_,_,q2⟩:=hs 2 L.r2 rfl L.hr2.2 (by rw[L.hr2.1];exact L.hbs.2) v2 rfl;rw[L.hr0.1]at q0;rw[L.hr1.1]at q1;rw[L.hr2.1]at q2;obtain⟨a,rfl,wa⟩:=AJ L.hb.1 q0;obtain⟨b,rfl,wb⟩:=AJ L.hb.1 q1;obtain⟨s,bs,rfl,hf⟩:=IM L.hbs.1 L.hb.1 L.hb.2 q2;exact⟨⟨s,⟨a,b,bs⟩⟩,rfl,Ee wa,Ee wb,hf⟩
theorem Ar.items{tb':TypeId}(L:Ar P tb'){c:Value}{n:Nat}{y:DataW H×List MemPlace}(h:DataW.trod enc P w 0 (fun _=>true) true n L.ims [c]=some y):∃(s:Sl) (l:List Im),c=aY s∧(qA s l).p vE w:=by
 refine uO kM mR.x L.his.1 L.hi.2 (fun n cs' y hy hl=>?_) h;have hs:=wD L.hi.1 hy
 match cs',hl with
 | [v0,v1],_=>
  obtain⟨_,_,q0⟩:=hs 0 L.i0 rfl L.hi0.2 (by rw[L.hi0.1];exact L.hrs.2) v0 rfl;obtain⟨_,_,q1⟩:=hs 1 L.i1 rfl L.hi1.2 (by rw[L.hi1.1];exact L.hrs.2) v1 rfl;rw[L.hi0.1]at q0;rw[L.hi1.1]at q1;obtain⟨f,lf,rfl,hf⟩:=L.recs q0;obtain⟨p,lp,rfl,hp⟩:=L.recs q1;exact⟨⟨f,p,⟨lf,lp⟩⟩,rfl,hf,hp⟩
theorem Ar.cells{tb':TypeId}(L:Ar P tb'){c:Value}{n:Nat}{y:DataW H×List MemPlace}(h:DataW.trod enc P w 0 (fun _=>true) true n L.ces [c]=some y):∃(s:Sl) (l:List Ce),c=aY s∧(lL s l).p vE w:=by
 refine uO gT lT.x L.hcs.1 L.hc.2 (fun n cs' y hy hl=>?_) h;have hs:=wD L.hc.1 hy
 match cs',hl with
 | [v0,v1],_=>
  obtain⟨_,_,q0⟩:=hs 0 L.c0 rfl L.hc0.2 (by rw[L.hc0.1];exact L.hrs.2) v0 rfl;obtain⟨_,_,q1⟩:=hs 1 L.c1 rfl L.hc1.2 (by rw[L.hc1.1];exact L.his.2) v1 rfl;rw[L.hc0.1]at q0;rw[L.hc1.1]at q1;obtain⟨f,lf,rfl,hf⟩:=L.recs q0;obtain⟨p,lp,rfl,hp⟩:=L.items q1;exact⟨⟨f,p,⟨lf,lp⟩⟩,rfl,hf,hp⟩
theorem Px{tb' t:TypeId}{f0 f1:Field}(L:Ar P tb')(ht:P.underlying t=some (.struct #[f0,f1]))(hct:P.cellsOf t=2)(h0:f0.type=L.res∧f0.offset=0)(h1:f1.type=L.ces∧f1.offset=1)
  {v:Value}{d:DataW H}{ps:List MemPlace}{r:Reach}{b0:Nat}(hval:Value.okWide P w r b0 t v)(h:DataW.Trod enc P w 0 (fun _=>true) true t v d ps):
  ∃(hs cs:Sl) (t:Li),v=.agg #[aY hs,aY cs]∧(yX hs cs t).p vE w:=by
 obtain⟨cs,rfl,hsz,hf⟩:=Jp ht hval h;rw[hct]at hsz;obtain⟨c0,c1,rfl⟩:∃a b,cs= #[a,b]:=⟨cs[0],cs[1],by
  apply Array.ext (by simpa using hsz);intro i h1 h2;simp at h2
  match i,h2 with
  |0,_=>rfl
  |1,_=>rfl⟩
 obtain⟨_,_,q0⟩:=hf 0 f0 rfl h0.2 (by rw[h0.1];exact L.hrs.2) c0 rfl;obtain⟨_,_,q1⟩:=hf 1 f1 rfl h1.2 (by rw[h1.1];exact L.hcs.2) c1 rfl;rw[h0.1]at q0;rw[h1.1]at q1;obtain⟨hs,lh,rfl,hh⟩:=L.recs q0;obtain⟨cs,lc,rfl,hc⟩:=L.cells q1;exact⟨hs,cs,⟨lh,lc⟩,rfl,hh,hc⟩
end
section
variable{T:Tb}{P:Program}{fin:VS→List aC→Prop}{c:fF}{Γ:List aC}
theorem IA{α β:Type}(R:kV α)(num:α→β)(s:Sl){l:List β} [h:aZ (LF R num s) l Γ]{k:Nat}{x:β}(hk:l[k]? =some x)(hm:dF c.k=false)
  (hc:∀b off e,s.ao=some ⟨b,off,none⟩→num e=x→W T P fin c (R.fact 0 e::RA (some ⟨b,off+k*R.z,none⟩) (R.cells e)::Γ))(hz:0<R.z:=by decide):W T P fin c Γ:=
 W.elim (α:=Nat×Nat×α) (fun q=>s.ao=some ⟨q.1,q.2.1,none⟩∧num q.2.2=x) (fun q=>[R.fact 0 q.2.2,RA (some ⟨q.1,q.2.1+k*R.z,none⟩) (R.cells q.2.2)]) hm (fun I w _ hh=>by
  obtain⟨es,rfl,h2,h3,h4,h5⟩:=h.p hh;rw[bL]at hk;obtain⟨e,he,hex⟩:∃e,es[k]? =some e∧num e=x:=by
   cases hq:es[k]? with
   |none=>rw[hq]at hk;simp at hk
   |some e=>rw[hq]at hk;exact⟨e,rfl,by simpa using hk⟩
  obtain⟨hlt,rfl⟩:=List.getElem?_eq_some_iff.1 he;obtain⟨b,off,ha,hI,hr⟩:=h5 (by
   intro e0;have:=qp R es;simp only at e0;rw[e0]at this;have h2:0<es.length*R.z:=iw (by omega) hz;simp at this;omega)
  refine⟨(b,off,es[k]),⟨ha,hex⟩,aD.cons (h4 _ (d_ hlt)) (aT (fun _=>⟨b,off+k*R.z,rfl,hI,fun i v hv=>?_⟩))⟩;rw[g_];exact hr _ v (E8 R hlt i v hv)) (fun q hq=>hc q.1 q.2.1 q.2.2 hq.1 hq.2)
theorem W.len{α β:Type}(R:kV α)(num:α→β)(s:Sl){l:List β} [h:aZ (LF R num s) l Γ](hm:dF c.k=false)(hc:s.n=l.length→s.n≤s.c→s.c≤9223372036854775807→W T P fin c Γ):W T P fin c Γ:=
 qE (s.n=l.length∧s.n≤s.c∧s.c≤9223372036854775807) hm (fun I w _ hh=>by
  obtain⟨es,_,h2,h3,_⟩:=h.p hh;exact⟨h2,h3.1,h3.2⟩) (fun hq=>hc hq.1 hq.2.1 hq.2.2)
end
section
variable{T:Tb}{P:Program}{fin:VS→List aC→Prop}{c:fF}{Γ:List aC}
def HA(e:Ev):Option (Option Addr×TypeId):=
 match e with
 | .read o c'=>match o.op with
  | .binOp .eql t x y _=>match c'.s.ev x,c'.s.ev y with
   | .val (.slice ao _ _),.val (.slice none _ _)=>some (ao,t)
   |_,_=>none
  |_=>none
 |_=>none
theorem Nt(D:List Nat)(ao:Option Addr)(t el:TypeId)(ht:P.underlying t=some (.slice el))
  (hk:W T P fin (fH (aE T (aV T D 999 c)) (.bool ao.isNone)) Γ)(h:HA (aE T (aV T D 999 c))=some (ao,t):=by kernel_rfl)(hg:P.eqGuardType P.depth t=false:=by kernel_rfl):W T P fin c Γ:=by
 refine ez D 999 ?_;generalize aV T D 999 c=c1 at*;unfold HA at h;split at h
 ·rename_i o c' he;rw[he]at hk;split at h
  ·rename_i ty u v yt hop;split at h
   ·rename_i ao' n1 c1' n2 c2' ha hb;simp only[aq,aG]at h;obtain⟨rfl,rfl⟩:=h;refine W.read _ he (.any ?_) hk;intro w;have hr:(Op.equal ty (.slice ao' n1 c1') (.slice none n2 c2')).run P w=.ok ao'.isNone w:=by
     unfold Op.equal;rw[show Op.maxDepth=(Op.maxDepth-1)+1 by decide];unfold Op.equalIn;simp only[cB,cM ht,bu];cases ao'<;>rfl
    have hgd:(eqGuard .eql ty u v (.slice ao' n1 c1') (.slice none n2 c2')).run P w=.ok () w:=by
     unfold eqGuard;simp[hg]
    have hb2:(binOp .eql ty (.slice ao' n1 c1') (.slice none n2 c2')).run P w=.ok (.bool ao'.isNone) w:=by
     show(do pure (.bool (←Op.equal ty (.slice ao' n1 c1') (.slice none n2 c2'))):Sem Value).run P w=_;simp only[cB,hr,bu,dT]
    simp only[execOp,hop,cE ha,cE hb,cB,hgd,bu,hb2,dT]
   ·simp at h
  ·simp at h
 ·simp at h
def jf(s:ByteArray):List Int:=s.data.toList.map fun b=>(b.toNat:Int)
theorem qV(s:ByteArray):(jf s).length=s.size:=by
 unfold jf;rw[bM,uJ];rfl
theorem tt(s:ByteArray):kU (jf s):=fun z hz=>by
 obtain⟨b,_,rfl⟩:=List.mem_map.1 hz;have:=b.toNat_lt;omega
theorem FQ{b:List Int}(hb:kU b):jf (strOfNums b)=b:=by
 unfold jf;rw[strOfNums_data,List.map_map];refine(jz (fun z hz=>?_)).trans (List.map_id b);have:=hb z hz;simp only[Function.comp];rw[show(UInt8.ofNat z.toNat).toNat=z.toNat % 256 from rfl];simp only[id];omega
def Ld(e:Ev):Option (TypeId×TypeId×ByteArray):=
 match e with
 | .ask o c'=>match o.op with
  | .convert src dst x=>match c'.s.ev x with
   | .val (.string s)=>some (src,dst,s)
   |_=>none
  |_=>none
 |_=>none
theorem Ay(D:List Nat)(src dst el:TypeId)(s:ByteArray)(hs:P.underlying src=some .string)(hd:P.underlying dst=some (.slice el))(he:P.underlying el=some (.int .u8))(hz:s.size≤9223372036854775807)
  (hk:∀b cap,s.size≤cap→W T P fin (fH (aE T (aV T D 999 c)) (.slice (some ⟨b,0,none⟩) s.size cap)) (BF ⟨some ⟨b,0,none⟩,s.size,cap⟩ (jf s)::Γ))(h:Ld (aE T (aV T D 999 c))=some (src,dst,s):=by kernel_rfl):W T P fin c Γ:=by
 refine ez D 999 ?_;generalize aV T D 999 c=c1 at*;unfold Ld at h;split at h
 ·rename_i o c' hev;rw[hev]at hk;split at h
  ·rename_i sr ds x hop;split at h
   ·rename_i s' hx;simp only[aq,aG]at h;obtain⟨rfl,rfl,rfl⟩:=h;refine W.ask (fun v Δ=>∃b cap,s'.size≤cap∧v=.slice (some ⟨b,0,none⟩) s'.size cap∧Δ=[BF ⟨some ⟨b,0,none⟩,s'.size,cap⟩ (jf s')]) hev ?_ (fun v Δ ⟨b,cap,h1,h2,h3⟩=>by subst h2 h3;exact hk b cap h1);intro I w hdd hh;have hrun:=Lib.run_convert_string_bytes w sr ds el s' hs hd he;refine⟨.slice (some ⟨w.heap.size,0,none⟩) s'.size (grownCap w s'.size 0 el),_,Lib.bytesWorld w el s',?_,⟨w.heap.size,grownCap w s'.size 0 el,grownCap_ge _ _ _ _,rfl,rfl⟩,?_,?_⟩
    ·simp only[execOp,hop,cE hx,cB,hrun,bu,dT]
    ·exact⟨rfl,rfl,rfl,by rw[Lib.bytesWorld_size];omega,fun k hk=>Lib.bytesWorld_at_old w el s' k hk⟩
    ·refine aT ⟨(qV s').symm,⟨grownCap_ge _ _ _ _,grownCap_le_maxLen _ _ _ _ hz⟩,tt s',fun hne=>⟨w.heap.size,0,rfl,fun hlt=>absurd hlt (Nat.lt_irrefl _),fun i v hv=>?_⟩⟩;have hi:i<s'.size:=by
      have:=(List.getElem?_eq_some_iff.1 hv).1;rw[bM,qV]at this;exact this
     rw[bU,Lib.bytesWorld_cell w el s' i hi];rw[←hv];simp only[jf,List.map_map,bL,List.getD];have hi2:i<s'.data.toList.length:=by rw[uJ];exact hi
     rw[ah hi2];rfl
   ·simp at h
  ·simp at h
 ·simp at h
end
theorem qI:∀(l:List UInt8) (c:UInt8),decide (Lib.indexByte l c≥0)=l.contains c
 | [],c=>rfl
 |b::l,c=>by
  rw[SE,List.contains_cons,←qI l c];have hge:=Lib.indexByte_ge l c;by_cases h:b==c
  ·have:=eq_of_beq h;subst this;simp
  ·have h2:(c==b)=false:=by
    rw[cP];rintro rfl;simp at h
   rw[if_neg h,h2,Bool.false_or];by_cases h1:Lib.indexByte l c= -1
   ·rw[h1];decide
   ·rw[if_neg (by simpa using h1)];simp only[ge_iff_le,rO];omega
section
variable{Γ:List aC}
set_option maxRecDepth 100000 in
theorem QV(s:ByteArray)(k:Int)(w:World):Calls Tryz.prog 272 #[.string s,.int .u8 k] w fun e w'=>e=.returned (.int .i64 (Lib.indexByte s.data.toList k.toNat.toUInt8))∧w'=w:=by
 go_enter Tryz.func272,Tryz.ntmps272
 go_wp2
 rw[run_callFunc_extern Tryz.func276 (by kernel_rfl) (by kernel_rfl) (by kernel_rfl) (e:=Extern.BytealgIndexByte.indexByte) (by kernel_rfl),Lib.run_indexByteString];simp only[Result.andThen];rw[Oper.upon_value]
 go_wp2
 go_ret
 exact⟨rfl,rfl⟩
theorem XE(s:ByteArray)(k:Int):aw tb Tryz.prog 272 [.string s,.int .u8 k] Γ (jy (.int .i64 (Lib.indexByte s.data.toList k.toNat.toUInt8))):=
 ⟨⟨_,Tryz.func272,by kernel_rfl,by kernel_rfl⟩,fun I w hd hh=>by
  refine(QV s k w).mono ?_;rintro e w' ⟨rfl,rfl⟩;exact⟨_,_,rfl,⟨rfl,rfl⟩,bD _ _,aD.nil _ _⟩⟩
theorem KU(s:ByteArray)(k:Int):aw tb Tryz.prog 264 [.string s,.int .u8 k] Γ (jy (.int .i64 (Lib.indexByte s.data.toList k.toNat.toUInt8))):=by
 refine aw.of_W au Tryz.func264 rfl (W.c0 [] (XE s k) (W.r [] (.int .i64 (Lib.indexByte s.data.toList k.toNat.toUInt8)) ⟨rfl,rfl⟩ bX))
set_option maxRecDepth 100000 in
theorem ND(ao:Option Addr)(n c:Nat)(r:Int)(k:Int)(w:World)(hrun:(Extern.BytealgIndexByte.indexByte #[.slice ao n c,.int .u8 k]).run Tryz.prog w=.ok (.int .i64 r) w):Calls Tryz.prog 231 #[.slice ao n c,.int .u8 k] w fun e w'=>e=.returned (.int .i64 r)∧w'=w:=by
 go_enter Tryz.func231,Tryz.ntmps231
 go_wp2
 rw[run_callFunc_extern Tryz.func263 (by kernel_rfl) (by kernel_rfl) (by kernel_rfl) (e:=Extern.BytealgIndexByte.indexByte) (by kernel_rfl),hrun];simp only[Result.andThen];rw[Oper.upon_value]
 go_wp2
 go_ret
 exact⟨rfl,rfl⟩
theorem Hj(bb off n c:Nat)(b:List Int)(k:Int) [h:aZ (BF ⟨some ⟨bb,off,none⟩,n,c⟩) b Γ]:aw tb Tryz.prog 231 [.slice (some ⟨bb,off,none⟩) n c,.int .u8 k] Γ (jy (.int .i64 (Lib.indexByte (Lib.bytesOf b) k.toNat.toUInt8))):=
 ⟨⟨_,Tryz.func231,by kernel_rfl,by kernel_rfl⟩,fun I w hd hh=>by
  obtain⟨h1,h2,h3,h4⟩:=h.p hh;have hrun:=Lib.run_indexByteSlice (P:=Tryz.prog) (w:=w) bb off n c b h1.symm (fun i hi=>by
   have hb:i<b.length:=by have:=h1;simp only at this;omega
   obtain⟨b',off',ha,_,hr⟩:=h4 (by intro e;rw[List.map_eq_nil_iff]at e;rw[e]at hb;simp at hb);simp only[aq,mJ]at ha;obtain⟨rfl,rfl,_⟩:=ha;refine hr i _ ?_;rw[bL,List.getD,ah hb];rfl) k
  refine(ND _ n c _ k w hrun).mono ?_;rintro e w' ⟨rfl,rfl⟩;exact⟨_,_,rfl,⟨rfl,rfl⟩,bD _ _,aD.nil _ _⟩⟩
end
section
variable{T:Tb}{P:Program}{fin:VS→List aC→Prop}{c:fF}{Γ:List aC}
theorem eC{F:aC}{Δ:List aC}(h:∀(I:gd) (w:World),bj T I w→aD Γ I w→F.p I w)(h':∀(I:gd) (w:World),bj T I w→aD Γ I w→aD Δ I w):∀(I:gd) (w:World),bj T I w→aD Γ I w→aD (F::Δ) I w:=fun I w hd hh=>aD.cons (h I w hd hh) (h' I w hd hh)
theorem eK{α:Type}{k:α→aC}{a:α} [h:aZ k a Γ]:∀(I:gd) (w:World),bj T I w→aD Γ I w→(k a).p I w:=fun I w _ hh=>h.p hh
theorem eE:∀(I:gd) (w:World),bj T I w→aD Γ I w→aD [] I w:=fun I w _ _=>aD.nil _ _
theorem Fv(s:Sl){b:List Int} [h:aZ (BF s) b Γ](hm:dF c.k=false)(hc:s.n=b.length→s.n≤s.c∧s.c≤9223372036854775807→kU b→(b≠ []→∃bb off,s.ao=some ⟨bb,off,none⟩)→W T P fin c Γ):W T P fin c Γ:=
 qE (s.n=b.length∧(s.n≤s.c∧s.c≤9223372036854775807)∧kU b∧(b≠ []→∃bb off,s.ao=some ⟨bb,off,none⟩)) hm (fun I w _ hh=>by
  obtain⟨h1,h2,h3,h4⟩:=h.p hh;refine⟨h1,h2,h3,fun hne=>?_⟩;obtain⟨bb,off,ha,_⟩:=h4 (by simpa using hne);exact⟨bb,off,ha⟩) (fun hq=>hc hq.1 hq.2.1 hq.2.2.1 hq.2.2.2)
theorem QJ(s:Sl){b:List Int} [h:aZ (BF s) b Γ](own:List (Nat×List Value))(hn:s.n=b.length)(ha:b≠ []→∃bb off,s.ao=some ⟨bb,off,none⟩):pY T Γ own (aY s) s.n 1 (b.map (Value.int .u8)):=
 ⟨s.ao,s.c,rfl,by simp[hn],fun hpos=>by
  obtain⟨bb,off,e⟩:=ha (by intro e;rw[e]at hn;simp at hn;omega);refine⟨⟨bb,off,none⟩,e,fun I w _ hh _ j u hu=>?_⟩;rw[gZ];have:=(h.p hh).2.2.2;rw[e]at this;exact RA.cell this hu⟩
theorem LD{g n cap:Nat}{cur:List Value}{b:List Int}{I:gd}{w:World}(h:(eT g cur).p I w)(hb:kU b)(hn:n=b.length)(hc:n≤cap∧cap≤maxLen)(ht:cur.take (n*1)=b.map (Value.int .u8)):(BF ⟨some ⟨g,0,none⟩,n,cap⟩ b).p I w:=
 ⟨hn,hc,hb,RA.of_row h (fun i v hv=>by
  rw[←ht,dz]at hv;split at hv
  ·exact hv
  ·simp at hv)⟩
theorem rL(ao:Option Addr)(I:gd)(w:World):(BF ⟨ao,0,0⟩ []).p I w:=⟨rfl,⟨aj _,aH _⟩,fun z hz=>absurd hz (by simp),RA.nil _ _ _⟩
end
section
variable{Γ:List aC}
theorem KM(s:Sl){b:List Int} [h:aZ (BF s) b Γ](hl:b.length≤1000000):
  aw tb Tryz.prog 181 [aY s] Γ (fun v Δ=>∃u:Sl,v=aY u∧Δ=[BF u b]):=by
 refine aw.of_W au Tryz.func181 rfl (Fv s rfl (fun h1 h2 h3 h4=>Nt [] s.ao 28 5 Tryz.underlying28 (W.d [] 4 s.ao.isNone (fun h0=>?_) (fun h0=>?_))))
 ·have hb:b=[]:=Classical.byContradiction fun hne=>by
   obtain⟨bb,off,e⟩:=h4 hne;rw[e]at h0;simp at h0
  subst hb;exact W.r [4] (.slice none 0 0) ⟨⟨none,0,0⟩,rfl,rfl⟩ (fun I w _ _=>aT (rL _ _ _))
 ·refine Nn [4] au (fun b1=>Nl [] [] 1 1 s.n b1 0 (aY s) (b.map (Value.int .u8)) au (by kernel_rfl) (QJ s [] h1 h4) (by decide) (fun hz=>?_) (fun g cap cur hp hcap hml hlen htake=>?_))
  ·have hb:b=[]:=aL (by omega);subst hb;exact W.r [] (.slice (some ⟨b1,0,none⟩) 0 0) ⟨⟨some ⟨b1,0,none⟩,0,0⟩,rfl,rfl⟩ (fun I w _ _=>aT (rL _ _ _))
  ·refine D7 [] [] g cur (W.r [] (.slice (some ⟨g,0,none⟩) s.n cap) ⟨⟨some ⟨g,0,none⟩,s.n,cap⟩,rfl,rfl⟩ (fun I w _ hh=>aT (LD (aZ.p (k:=eT g) (a:=cur) inferInstance hh) h3 h1 ⟨hcap,hml⟩ htake)))
def ik(b:List Int):ByteArray:=strOfNums (fI b)
theorem nI(s:Sl){b:List Int} [h:aZ (BF s) b Γ]:aw tb Tryz.prog 39 [aY s] Γ (jy (.string (ik b))):=by
 refine aw.of_W au Tryz.func39 rfl (Fv s rfl (fun h1 h2 h3 h4=>?_));by_cases hb:b=[]
 ·subst hb;have h0:s.n=0:=h1;refine W.more (Δ:=[RA s.ao (([]:List Int).map (Value.int .u8))]) rfl (fun I w _ _=>aT (RA.nil _ _ _)) (aO [] 8 (decide ((s.n:Int)>0)) (by simp[h0]) (CM [8,15] s.ao s.n s.c [] au h1 (W.r [] (.string (strOfNums [])) ⟨rfl,rfl⟩ bX)))
 ·obtain⟨bb,off,hao⟩:=h4 hb;have hpos:0<b.length:=List.length_pos_iff.2 hb;refine W.more (Δ:=[RA (some ⟨bb,off,none⟩) (b.map (Value.int .u8))]) rfl (fun I w _ hh=>aT (by rw[←hao];exact(h.p hh).2.2.2)) ?_;obtain⟨z,hz⟩:∃z,b[b.length-1]? =some z:=⟨_,ah (by omega)⟩;have hlast:b.getLast?=some z:=by rw[fo];exact hz
  obtain⟨sa,sn,sc⟩:=s;simp only at h1 h2 h4 hao;subst hao;refine bh [] 8 (decide ((sn:Int)>0)) (ar (by omega)) (bI [8] 1 bb off sn sc .i64 (b.length-1) (IntKind.i64.wrap ((sn:Int)-1)) (by rw[af];omega) au (by omega) (cX [8] 1 bb (off+(b.length-1)*1) (.int .u8 z) au (fun I w _ hh=>?_) ?_))
  ·rw[fE];exact RA.cell (aZ.p (k:=RA (some ⟨bb,off,none⟩)) (a:=b.map (Value.int .u8)) inferInstance hh) (by rw[bL,hz];rfl)
  refine W.d [8] 15 (z==0) (fun h0=>?_) (fun h0=>?_)
  ·have h0:=eq_of_beq h0;subst h0;refine W.more (Δ:=[RA (some ⟨bb,off+0*1,none⟩) (b.dropLast.map (Value.int .u8))]) (by kernel_rfl) (fun I w _ hh=>aT (fun hne=>?_)) ?_
   ·obtain⟨b',off',ha,hI,hr⟩:=(aZ.p (k:=RA (some ⟨bb,off,none⟩)) (a:=b.map (Value.int .u8)) inferInstance hh) (by simpa using hb);simp only[aq,mJ]at ha;obtain⟨rfl,rfl,_⟩:=ha;refine⟨bb,off,by simp,hI,fun i v hv=>hr i v ?_⟩;rw[bL]at hv⊢;rw[List.dropLast_eq_take,dz]at hv;split at hv
    ·exact hv
    ·simp at hv
   refine CL [15] 1 bb off sn sc none (some (.int .i64 (IntKind.i64.wrap ((sn:Int)-1)))) 0 (b.length-1) au (.inr ⟨rfl,rfl⟩) (.inl (by rw[af];congr;omega)) (aH _) (CM [] (some ⟨bb,off+0*1,none⟩) (b.length-1-0) (sc-0) b.dropLast au (by simp) (W.r [] (.string (strOfNums b.dropLast)) ⟨by rw[ik,fI,if_pos hlast],rfl⟩ bX))
  ·refine CM [15] (some ⟨bb,off,none⟩) sn sc b au h1 (W.r [] (.string (strOfNums b)) ⟨by rw[ik,fI,if_neg (by rw[hlast];intro e;injection e with e;subst e;simp at h0)],rfl⟩ bX)
end
def NL(s:Sl)(l:List Int):aC where
 p I w:=s.n=l.length∧(s.n≤s.c∧s.c≤maxLen)∧(RA s.ao (l.map (Value.int .i64))).p I w
 up:=by
  rintro I I' w w' ⟨h1,h2,h⟩ g1 g2 g3;exact⟨h1,h2,(RA s.ao _).up h g1 g2 g3⟩
def XR(a b:Int):Int:=if 256*a+b<32768 then 256*a+b else 256*a+b-65536
def TG(a b c d:Int):Int:=if 16777216*a+65536*b+256*c+d<2147483648 then 16777216*a+65536*b+256*c+d else 16777216*a+65536*b+256*c+d-4294967296
def dU:List Int→List Int
 |a::b::r=>XR a b::dU r
 |_=>[]
def e_:List Int→List Int
 |a::b::c::d::r=>TG a b c d::e_ r
 |_=>[]
theorem ss:∀l:List Int,(dU l).length=l.length/2
 | []=>by simp[dU]
 | [_]=>by simp[dU]
 |a::b::r=>by
  have:=ss r;simp only[dU,aB];omega
theorem q7:∀l:List Int,(e_ l).length=l.length/4
 | []=>by simp[e_]
 | [_]=>by simp[e_]
 | [_,_]=>by simp[e_]
 | [_,_,_]=>by simp[e_]
 |a::b::c::d::r=>by
  have:=q7 r;simp only[e_,aB];omega
theorem DL:∀(l:List Int) (k:Nat) (a b:Int),l[2*k]? =some a→l[2*k+1]? =some b→(dU l)[k]? =some (XR a b)
 | [],k,a,b,h,_=>by simp at h
 | [x],k,a,b,_,h=>by
  have:=(List.getElem?_eq_some_iff.1 h).1;simp at this
  try omega
 |x::y::r,0,a,b,h1,h2=>by
  simp at h1 h2;subst h1 h2;rfl
 |x::y::r,k+1,a,b,h1,h2=>by
  simp only[dU,ek];exact DL r k a b (by simpa [fD]using h1) (by simpa [fD]using h2)
theorem GL:∀(l:List Int) (k:Nat) (a b c d:Int),l[4*k]? =some a→l[4*k+1]? =some b→l[4*k+2]? =some c→l[4*k+3]? =some d→(e_ l)[k]? =some (TG a b c d)
 | [],k,a,b,c,d,h,_,_,_=>by simp at h
 | [x],k,a,b,c,d,_,h,_,_=>by
  have:=(List.getElem?_eq_some_iff.1 h).1;simp at this
  try omega
 | [x,y],k,a,b,c,d,_,_,h,_=>by
  have:=(List.getElem?_eq_some_iff.1 h).1;simp at this
  try omega
 | [x,y,z],k,a,b,c,d,_,_,_,h=>by
  have:=(List.getElem?_eq_some_iff.1 h).1;simp at this
  try omega
 |x::y::z::u::r,0,a,b,c,d,h1,h2,h3,h4=>by
  simp at h1 h2 h3 h4;subst h1 h2 h3 h4;rfl
 |x::y::z::u::r,k+1,a,b,c,d,h1,h2,h3,h4=>by
  simp only[e_,ek];exact GL r k a b c d (by simpa [fD]using h1) (by simpa [fD]using h2) (by simpa [fD]using h3) (by simpa [fD]using h4)
theorem DU(n:Int)(h₀:0≤n)(h₁:n<2^16):IntKind.u16.wrap n=n:=by rw[IntKind.wrap_u16];omega
theorem vt(n:Int)(h₀:0≤n)(h₁:n<2^32):IntKind.u32.wrap n=n:=by rw[g9];omega
theorem XT{a b:Int}(ha:ze a)(hb:ze b):IntKind.i64.wrap (IntKind.i16.wrap (Go.bits .or .u16 (256*a) (IntKind.u16.wrap b)))=XR a b:=by
 obtain⟨a0,a1⟩:=ha;obtain⟨b0,b1⟩:=hb;rw[DU b b0 (by omega),bits_join .u16 16 (by decide) DU 8 (256*a) b (by omega) (by simp) (by simp;omega) b0 (by simpa using b1) (by simp;omega)];unfold XR;rw[show ∀n:Int,IntKind.i16.wrap n=(n+32768) % 65536-32768 from fun n=>by simp[IntKind.wrap,IntKind.bits,IntKind.signed];omega,af];split<;>omega
theorem XV{a b c d:Int}(ha:ze a)(hb:ze b)(hc:ze c)(hd:ze d):IntKind.i64.wrap (IntKind.i32.wrap (Go.bits .or .u32 (Go.bits .or .u32 (Go.bits .or .u32 (16777216*a) (65536*b)) (256*c)) (IntKind.u32.wrap d)))=TG a b c d:=by
 obtain⟨a0,a1⟩:=ha;obtain⟨b0,b1⟩:=hb;obtain⟨c0,c1⟩:=hc;obtain⟨d0,d1⟩:=hd;rw[vt d d0 (by omega)];rw[bits_join .u32 32 (by decide) vt 24 (16777216*a) (65536*b) (by omega) (by simp) (by simp;omega) (by omega) (by simp;omega) (by simp;omega)];rw[bits_join .u32 32 (by decide) vt 16 (16777216*a+65536*b) (256*c) (by omega) (by simp;omega) (by simp;omega) (by omega) (by simp;omega) (by simp;omega)];rw[bits_join .u32 32 (by decide) vt 8 (16777216*a+65536*b+256*c) d (by omega) (by simp;omega) (by simp;omega) (by omega) (by simp;omega) (by simp;omega)];unfold TG;rw[IntKind.wrap_i32,af];split<;>omega
structure T9 where
 i:Nat
 z:Int
 v:Value
 O:List (Nat×List Value)
theorem Gz{l:List Int}:∀u∈l.map (Value.int .i64),u.oneCell'=true:=fun u hu=>by
 obtain⟨z,_,rfl⟩:=List.mem_map.1 hu;rfl
theorem Kw(z:Int):∀u∈([.int .i64 z]:List Value),u.oneCell'=true:=fun u hu=>by
 simp only[aF,aJ,b_]at hu;subst hu;rfl
theorem pz{z n c:Nat}{O:List (Nat×List Value)}{ao:Option Addr}{xs:List Value}(hg:cH z O (.slice ao n c) n xs):c≤maxLen:=by
 rcases hg.2 with⟨e,_⟩|⟨g,cap,cur,e,_,_,hml,_⟩
 ·injection e with _ _ e3;rw[e3];exact aH _
 ·injection e with _ _ e3;rw[e3];exact hml
section
variable{T:Tb}{Γ:List aC}
theorem CR(bb off n c:Nat){b:List Int} [h:aZ (BF ⟨some ⟨bb,off,none⟩,n,c⟩) b Γ]{i:Nat}{z:Int}(hz:b[i]? =some z):∀I w,bj T I w→aD Γ I w→w.cell? ⟨bb,off+i*1,none⟩=some (.int .u8 z):=fun I w _ hh=>by
 rw[fE];exact RA.cell (h.p hh).2.2.2 (by rw[bL,hz];rfl)
def x5(ok:Bool)(l:List Int)(v:Value)(Δ:List aC):Prop:=if ok then ∃u:Sl,v=.tuple #[aY u,.int .i64 0]∧Δ=[NL u l]else v=.tuple #[.slice none 0 0,.int .i64 3]∧Δ=[]
theorem Qd(s:Sl){b:List Int} [h:aZ (BF s) b Γ](hl:b.length≤1000000):aw tb Tryz.prog 129 [aY s] Γ (x5 (b.length % 2==0) (dU b)):=by
 refine aw.of_W au Tryz.func129 rfl (Fv s rfl (fun h1 h2 h3 h4=>oA [] .i64 (s.n:Int) 2 ((b.length % 2:Nat):Int) (by rw[h1,fT (by omega)];rfl) ?_));by_cases hev:b.length % 2=0
 rotate_left
 ·refine bh [] 9 (((b.length % 2:Nat):Int) != 0) (by simp;omega) (W.r [9] (.tuple #[.slice none 0 0,.int .i64 3]) (by unfold x5;rw[if_neg (by simpa using hev)];exact⟨rfl,rfl⟩) bX)
 have hok:(b.length % 2==0)=true:=by simpa using hev
 rw[hok];refine aO [] 9 (((b.length % 2:Nat):Int) != 0) (by simp;omega) ?_;have hln:=ss b;refine gY [9] [4,5] (fun a:T9=>[(4,a.v),(5,.int .i64 a.z)]) (fun _=>[]) (fun a=>a.O) (fun _=>[BF s b]) (fun a=>a.z=2*(a.i:Int)∧2*a.i≤b.length∧cH 1 a.O a.v a.i (((dU b).take a.i).map (Value.int .i64))) (fun a=>b.length-2*a.i) ⟨0,0,.slice none 0 0,[]⟩ ⟨rfl,aH _,cH.nil 1⟩ (eC eK eE) ?_;rintro⟨i,z,v,O⟩ K ⟨hz,hi,hg⟩ close;simp only at hz hi hg;by_cases hlt:2*i<b.length
 ·obtain⟨x,hx⟩:∃x,b[2*i]? =some x:=⟨_,ah hlt⟩;obtain⟨y,hy⟩:∃y,b[2*i+1]? =some y:=⟨_,ah (by omega)⟩;have hxb:ze x:=h3 x (aM hx);have hyb:ze y:=h3 y (aM hy);obtain⟨bb,off,hao⟩:=h4 (by rintro rfl;simp at hlt);obtain⟨sa,sn,sc⟩:=s;simp only at h1 h2 hao;subst hao;refine bh [] 13 (decide (z<(sn:Int))) (ar (by omega)) (bI [13] 1 bb off sn sc .i64 (2*i) z (by omega) au (by omega) (cX [] 1 bb (off+2*i*1) (.int .u8 x) au (CR bb off sn sc hx) (W.shl [] .u16 .u64 (IntKind.u16.wrap x) 8 (256*x) (by unfold ze at hxb;rw[show(min (8:Int).toNat IntKind.u16.bits)=8 by decide,IntKind.wrap_u16,IntKind.wrap_u16];simp;omega) (bI [] 1 bb off sn sc .i64 (2*i+1) (IntKind.i64.wrap (z+1)) (by rw[af];omega) au (by omega) (cX [] 1 bb (off+(2*i+1)*1) (.int .u8 y) au (CR bb off sn sc hy) (cW [] 1 [.int .i64 (IntKind.i64.wrap (IntKind.i16.wrap (Go.bits .or .u16 (256*x) (IntKind.u16.wrap y))))] au (fun B=>W.app [] O [] O [] 1 8 i 1 v (.slice (some ⟨B,0,none⟩) 1 1) (((dU b).take i).map (Value.int .i64)) [.int .i64 (IntKind.i64.wrap (IntKind.i16.wrap (Go.bits .or .u16 (256*x) (IntKind.u16.wrap y))))] au hg (cg B O 1 1 rfl 1) (Kw _) (fun v' O' hg'=>close [] _ _ ⟨i+1,IntKind.i64.wrap (z+2),v',O'⟩ (by kernel_rfl) (by simp only[az,ai];kernel_rfl) ⟨by simp only[af];omega,by simp only;omega,cH.cast ?_ rfl hg'⟩ (by simp only;omega) (eC eK eE)))))))))
  rw[XT hxb hyb,kS (DL b i x y hx hy),aS];rfl
 ·refine aO [] 13 (decide (z<(s.n:Int))) (ak (by omega)) ?_;have hi2:i=(dU b).length:=by omega
  rw[aR (by omega)]at hg;refine l8 (by simp only[az,ai];kernel_rfl) hg (fun ao c' hv hc'=>?_);subst hv;have hcm:c'≤maxLen:=pz hg;refine W.r [13] (.tuple #[.slice ao i c',.int .i64 0]) (by unfold x5;rw[if_pos rfl];exact⟨⟨ao,i,c'⟩,rfl,rfl⟩) (fun I w _ hh=>aT (show(NL ⟨ao,i,c'⟩ (dU b)).p I w from⟨hi2,⟨hc',hcm⟩,aZ.p (k:=RA ao) (a:=(dU b).map (Value.int .i64)) inferInstance hh⟩))
theorem KP(s:Sl){b:List Int} [h:aZ (BF s) b Γ](hl:b.length≤1000000):aw tb Tryz.prog 126 [aY s] Γ (x5 (b.length % 4==0) (e_ b)):=by
 refine aw.of_W au Tryz.func126 rfl (Fv s rfl (fun h1 h2 h3 h4=>oA [] .i64 (s.n:Int) 4 ((b.length % 4:Nat):Int) (by rw[h1,fT (by omega)];rfl) ?_));by_cases hev:b.length % 4=0
 rotate_left
 ·refine bh [] 9 (((b.length % 4:Nat):Int) != 0) (by simp;omega) (W.r [9] (.tuple #[.slice none 0 0,.int .i64 3]) (by unfold x5;rw[if_neg (by simpa using hev)];exact⟨rfl,rfl⟩) bX)
 have hok:(b.length % 4==0)=true:=by simpa using hev
 rw[hok];refine aO [] 9 (((b.length % 4:Nat):Int) != 0) (by simp;omega) ?_;have hln:=q7 b;refine gY [9] [4,5] (fun a:T9=>[(4,a.v),(5,.int .i64 a.z)]) (fun _=>[]) (fun a=>a.O) (fun _=>[BF s b]) (fun a=>a.z=4*(a.i:Int)∧4*a.i≤b.length∧cH 1 a.O a.v a.i (((e_ b).take a.i).map (Value.int .i64))) (fun a=>b.length-4*a.i) ⟨0,0,.slice none 0 0,[]⟩ ⟨rfl,aH _,cH.nil 1⟩ (eC eK eE) ?_;rintro⟨i,z,v,O⟩ K ⟨hz,hi,hg⟩ close;simp only at hz hi hg;by_cases hlt:4*i<b.length
 ·obtain⟨x,hx⟩:∃x,b[4*i]? =some x:=⟨_,ah hlt⟩;obtain⟨y,hy⟩:∃y,b[4*i+1]? =some y:=⟨_,ah (by omega)⟩;obtain⟨x2,hx2⟩:∃y,b[4*i+2]? =some y:=⟨_,ah (by omega)⟩;obtain⟨x3,hx3⟩:∃y,b[4*i+3]? =some y:=⟨_,ah (by omega)⟩;have hxb:ze x:=h3 x (aM hx);have hyb:ze y:=h3 y (aM hy);have hb2:ze x2:=h3 x2 (aM hx2);have hb3:ze x3:=h3 x3 (aM hx3);obtain⟨bb,off,hao⟩:=h4 (by rintro rfl;simp at hlt);obtain⟨sa,sn,sc⟩:=s;simp only at h1 h2 hao;subst hao;refine bh [] 13 (decide (z<(sn:Int))) (ar (by omega)) (bI [13] 1 bb off sn sc .i64 (4*i) z (by omega) au (by omega) (cX [] 1 bb (off+4*i*1) (.int .u8 x) au (CR bb off sn sc hx) (W.shl [] .u32 .u64 (IntKind.u32.wrap x) 24 (16777216*x) (by unfold ze at hxb;rw[show(min (24:Int).toNat IntKind.u32.bits)=24 by decide,g9,g9];simp;omega) (bI [] 1 bb off sn sc .i64 (4*i+1) (IntKind.i64.wrap (z+1)) (by rw[af];omega) au (by omega) (cX [] 1 bb (off+(4*i+1)*1) (.int .u8 y) au (CR bb off sn sc hy) (W.shl [] .u32 .u64 (IntKind.u32.wrap y) 16 (65536*y) (by unfold ze at hyb;rw[show(min (16:Int).toNat IntKind.u32.bits)=16 by decide,g9,g9];simp;omega) (bI [] 1 bb off sn sc .i64 (4*i+2) (IntKind.i64.wrap (z+2)) (by rw[af];omega) au (by omega) ?_)))))))
  refine cX [] 1 bb (off+(4*i+2)*1) (.int .u8 x2) au (CR bb off sn sc hx2) (W.shl [] .u32 .u64 (IntKind.u32.wrap x2) 8 (256*x2) (by unfold ze at hb2;rw[show(min (8:Int).toNat IntKind.u32.bits)=8 by decide,g9,g9];simp;omega) (bI [] 1 bb off sn sc .i64 (4*i+3) (IntKind.i64.wrap (z+3)) (by rw[af];omega) au (by omega) (cX [] 1 bb (off+(4*i+3)*1) (.int .u8 x3) au (CR bb off sn sc hx3) (cW [] 1 [.int .i64 (IntKind.i64.wrap (IntKind.i32.wrap (Go.bits .or .u32 (Go.bits .or .u32 (Go.bits .or .u32 (16777216*x) (65536*y)) (256*x2)) (IntKind.u32.wrap x3))))] au (fun B=>W.app [] O [] O [] 1 8 i 1 v (.slice (some ⟨B,0,none⟩) 1 1) (((e_ b).take i).map (Value.int .i64)) [.int .i64 (IntKind.i64.wrap (IntKind.i32.wrap (Go.bits .or .u32 (Go.bits .or .u32 (Go.bits .or .u32 (16777216*x) (65536*y)) (256*x2)) (IntKind.u32.wrap x3))))] au hg (cg B O 1 1 rfl 1) (Kw _) (fun v' O' hg'=>close [] _ _ ⟨i+1,IntKind.i64.wrap (z+4),v',O'⟩ (by kernel_rfl) (by simp only[az,ai];kernel_rfl) ⟨by simp only[af];omega,by simp only;omega,cH.cast ?_ rfl hg'⟩ (by simp only;omega) (eC eK eE)))))));rw[XV hxb hyb hb2 hb3,kS (GL b i x y x2 x3 hx hy hx2 hx3),aS];rfl
 ·refine aO [] 13 (decide (z<(s.n:Int))) (ak (by omega)) ?_;have hi2:i=(e_ b).length:=by omega
  rw[aR (by omega)]at hg;refine l8 (by simp only[az,ai];kernel_rfl) hg (fun ao c' hv hc'=>?_);subst hv;have hcm:c'≤maxLen:=pz hg;refine W.r [13] (.tuple #[.slice ao i c',.int .i64 0]) (by unfold x5;rw[if_pos rfl];exact⟨⟨ao,i,c'⟩,rfl,rfl⟩) (fun I w _ hh=>aT (show(NL ⟨ao,i,c'⟩ (e_ b)).p I w from⟨hi2,⟨hc',hcm⟩,aZ.p (k:=RA ao) (a:=(e_ b).map (Value.int .i64)) inferInstance hh⟩))
end
section
variable{T:Tb}{P:Program}{fin:VS→List aC→Prop}{c:fF}{Γ:List aC}
theorem o8(s:Sl){l:List Re} [h:aZ (kW s) l Γ]{k:Nat}{r:Re}(hk:l[k]? =some r)
  (hc:∀b off u,s.ao=some ⟨b,off,none⟩→W T P fin c (wJ u r::RA (some ⟨b,off+k*3,none⟩) [.int .u8 r.k,.int .u8 r.d,aY u]::Γ))(hm:dF c.k=false:=by kernel_rfl):W T P fin c Γ:=
 IA de dE.r s hk hm (fun b off e ha he=>by
  obtain⟨u,q⟩:=e;have he:q=r:=he;subst he;exact hc b off u ha)
theorem vB(s:Sl){l:List Im} [h:aZ (qA s) l Γ]{k:Nat}{x:Im}(hk:l[k]? =some x)
  (hc:∀b off f p,s.ao=some ⟨b,off,none⟩→W T P fin c (oE f p x::RA (some ⟨b,off+k*2,none⟩) [aY f,aY p]::Γ))(hm:dF c.k=false:=by kernel_rfl):W T P fin c Γ:=
 IA kM mR.x s hk hm (fun b off e ha he=>by
  obtain⟨f,p,q⟩:=e;have he:q=x:=he;subst he;exact hc b off f p ha)
theorem sJ(s:Sl){l:List Ce} [h:aZ (lL s) l Γ]{k:Nat}{x:Ce}(hk:l[k]? =some x)
  (hc:∀b off f p,s.ao=some ⟨b,off,none⟩→W T P fin c (zJ f p x::RA (some ⟨b,off+k*2,none⟩) [aY f,aY p]::Γ))(hm:dF c.k=false:=by kernel_rfl):W T P fin c Γ:=
 IA gT lT.x s hk hm (fun b off e ha he=>by
  obtain⟨f,p,q⟩:=e;have he:q=x:=he;subst he;exact hc b off f p ha)
theorem bH(b o:Nat){cs:List Value} [h:aZ (RA (some ⟨b,o,none⟩)) cs Γ]:∀I w,bj T I w→aD Γ I w→∀j v,cs[j]? =some v→w.cell? ⟨b,o+j,none⟩=some v:=fun I w _ hh j v hv=>RA.cell (h.p hh) hv
end
def dJ(x:Im)(k:Int):Option Re:=x.f.find? (fun r=>r.k==k)
def qW(c:Ce):List Int:=match c.h.find? (fun r=>r.k==6)with
 |some r=>fI r.b
 |none=>[]
theorem Em{l:List Re}{k:Int}{i:Nat}{r:Re}(hr:l[i]? =some r)(hk:r.k=k)(hb:∀(j:Nat) (q:Re),j<i→l[j]? =some q→q.k≠k):l.find? (fun r=>r.k==k)=some r:=by
 induction l generalizing i with
 |nil=>simp at hr
 |cons x l ih=>
  cases i with
  |zero=>
   simp at hr;subst hr;simp[hk]
  |succ i=>
   have:=hb 0 x (Nat.succ_pos i) rfl;rw[List.find?_cons_of_neg (by simpa using this)];exact ih (by simpa using hr) (fun j q hj hq=>hb (j+1) q (by omega) (by simpa using hq))
theorem En{l:List Re}{k:Int}(hb:∀(j:Nat) (q:Re),l[j]? =some q→q.k≠k):l.find? (fun r=>r.k==k)=none:=by
 rw[List.find?_eq_none];intro q hq;obtain⟨j,hj⟩:=mS hq;simpa using hb j q hj
def KA:Value:=.agg #[.int .u8 0,.int .u8 0,.slice none 0 0]
def Iq(o:Option Re)(v:Value)(Δ:List aC):Prop:=match o with
 |some r=>∃u:Sl,v=.tuple #[rev r u,.bool true]∧Δ=[wJ u r]
 |none=>v=.tuple #[KA,.bool false]∧Δ=[]
section
variable{Γ:List aC}
theorem KO(f p:Sl){x:Im} [h:aZ (oE f p) x Γ](k:Int)(hb:∀r∈x.f,r.b.length≤1000000):
  aw tb Tryz.prog 125 [nd f p,.int .u8 k] Γ (Iq (dJ x k)):=by
 obtain⟨fa,fn,fc⟩:=f;refine aw.of_W au Tryz.func125 rfl (W.more (Δ:=[kW ⟨fa,fn,fc⟩ x.f]) rfl (fun I w _ hh=>aT (h.p hh).1) (W.len de dE.r ⟨fa,fn,fc⟩ rfl (fun h1 h2 h3=>?_)));simp only at h1 h2 h3;refine x7 [] [5,11] (fun a:Nat×Int=>[(5,.bool false),(11,.int .i64 a.2)]) (fun _=>[]) (fun _=>[kW ⟨fa,fn,fc⟩ x.f]) (fun a=>a.2=a.1∧a.1≤fn∧∀(j:Nat) (q:Re),j<a.1→x.f[j]? =some q→q.k≠k) (fun a=>fn-a.1) (0,0) ⟨rfl,aH _,fun j q hj=>absurd hj (gG _)⟩ (eC eK eE) ?_;rintro⟨i,z⟩ K ⟨hz,hi,hall⟩ close;simp only at hz hi hall;by_cases hlt:i<fn
 ·obtain⟨r,hr⟩:∃r,x.f[i]? =some r:=⟨_,ah (by omega)⟩;refine o8 ⟨fa,fn,fc⟩ hr (fun b off u ha=>?_);simp only at ha;subst ha;refine bh [] 12 (decide (z<(fn:Int))) (ar (by omega)) (bI [12] 3 b off fn fc .i64 i z hz au hlt (cJ [] b (off+i*3) [.int .u8 r.k,.int .u8 r.d,aY u] au (bH b (off+i*3)) (W.d [] 18 (r.k==k) (fun hk=>?_) (fun hk=>?_))))
  ·have hk:=eq_of_beq hk;refine W.more (Δ:=[BF u r.b]) (by kernel_rfl) (fun I w _ hh=>aT (aZ.p (k:=wJ u) (a:=r) inferInstance hh).2.2) (W.c1 [18] (KM u (b:=r.b) (hb r (aM hr))) (fun u2=>W.r [] (.tuple #[rev r u2,.bool true]) ?_ (fun I w _ hh=>?_) (Δ:=[wJ u2 r])))
   ·rw[show dJ x k=some r from Em hr hk hall];exact⟨u2,rfl,rfl⟩
   ·have g:=aZ.p (k:=wJ u) (a:=r) inferInstance hh;exact aT ⟨g.1,g.2.1,aZ.p (k:=BF u2) (a:=r.b) inferInstance hh⟩
  ·refine close [18] _ _ (i+1,IntKind.i64.wrap (z+1)) (by kernel_rfl) (by kernel_rfl) ⟨by simp only[af];omega,hlt,fun j q hj hq=>?_⟩ (by simp only;omega) (eC eK eE);by_cases hji:j<i
   ·exact hall j q hji hq
   ·obtain rfl:j=i:=by simp only at hj;omega
    rw[hr]at hq;injection hq with hq;subst hq;exact jv hk
 ·refine aO [] 12 (decide (z<(fn:Int))) (ak (by omega)) (W.r [12] (.tuple #[KA,.bool false]) ?_ bX);rw[show dJ x k=none from En (fun j q hq=>hall j q (by have:=(List.getElem?_eq_some_iff.1 hq).1;omega) hq)];exact⟨rfl,rfl⟩
theorem rj(f p:Sl){x:Im} [h:aZ (oE f p) x Γ](k:Int)(hb:∀r∈x.f,r.b.length≤1000000){r:Re}(ho:dJ x k=some r):
  aw tb Tryz.prog 125 [nd f p,.int .u8 k] Γ (fun v Δ=>∃u:Sl,v=.tuple #[rev r u,.bool true]∧Δ=[wJ u r]):=by
 have:=KO (Γ:=Γ) f p (x:=x) k hb;rw[ho]at this;exact this
theorem ri(f p:Sl){x:Im} [h:aZ (oE f p) x Γ](k:Int)(hb:∀r∈x.f,r.b.length≤1000000)(ho:dJ x k=none):
  aw tb Tryz.prog 125 [nd f p,.int .u8 k] Γ (jy (.tuple #[KA,.bool false])):=by
 have:=KO (Γ:=Γ) f p (x:=x) k hb;rw[ho]at this;exact this
theorem uZ(f p:Sl){x:Ce} [h:aZ (zJ f p) x Γ]:
  aw tb Tryz.prog 17 [nd f p] Γ (jy (.string (strOfNums (qW x)))):=by
 obtain⟨fa,fn,fc⟩:=f;refine aw.of_W au Tryz.func17 rfl (W.more (Δ:=[kW ⟨fa,fn,fc⟩ x.h]) rfl (fun I w _ hh=>aT (h.p hh).1) (W.len de dE.r ⟨fa,fn,fc⟩ rfl (fun h1 h2 h3=>?_)));simp only at h1 h2 h3;refine x7 [] [2,8] (fun a:Nat×Int=>[(2,.string ⟨#[]⟩),(8,.int .i64 a.2)]) (fun _=>[]) (fun _=>[kW ⟨fa,fn,fc⟩ x.h]) (fun a=>a.2=a.1∧a.1≤fn∧∀(j:Nat) (q:Re),j<a.1→x.h[j]? =some q→q.k≠6) (fun a=>fn-a.1) (0,0) ⟨rfl,aH _,fun j q hj=>absurd hj (gG _)⟩ (eC eK eE) ?_;rintro⟨i,z⟩ K ⟨hz,hi,hall⟩ close;simp only at hz hi hall;by_cases hlt:i<fn
 ·obtain⟨r,hr⟩:∃r,x.h[i]? =some r:=⟨_,ah (by omega)⟩;refine o8 ⟨fa,fn,fc⟩ hr (fun b off u ha=>?_);simp only at ha;subst ha;refine bh [] 9 (decide (z<(fn:Int))) (ar (by omega)) (bI [9] 3 b off fn fc .i64 i z hz au hlt (cJ [] b (off+i*3) [.int .u8 r.k,.int .u8 r.d,aY u] au (bH b (off+i*3)) (W.d [] 14 (r.k==6) (fun hk=>?_) (fun hk=>?_))))
  ·have hk:=eq_of_beq hk;refine W.more (Δ:=[BF u r.b]) (by kernel_rfl) (fun I w _ hh=>aT (aZ.p (k:=wJ u) (a:=r) inferInstance hh).2.2) (W.c0 [14] (nI u (b:=r.b)) (W.r [] (.string (ik r.b)) ⟨?_,rfl⟩ bX));unfold qW;rw[Em hr hk hall];rfl
  ·refine close [14] _ _ (i+1,IntKind.i64.wrap (z+1)) (by kernel_rfl) (by kernel_rfl) ⟨by simp only[af];omega,hlt,fun j q hj hq=>?_⟩ (by simp only;omega) (eC eK eE);by_cases hji:j<i
   ·exact hall j q hji hq
   ·obtain rfl:j=i:=by simp only at hj;omega
    rw[hr]at hq;injection hq with hq;subst hq;exact jv hk
 ·refine aO [] 9 (decide (z<(fn:Int))) (ak (by omega)) (W.r [9] (.string ⟨#[]⟩) ⟨?_,rfl⟩ bX);unfold qW;rw[En (fun j q hq=>hall j q (by have:=(List.getElem?_eq_some_iff.1 hq).1;omega) hq)];rfl
end
def ke(fn:Func):Code:=fn.body.getD .skip
def CD(k:Int):Value:=match E9 k with
 |some s=>.tuple #[.agg #[.int .u8 s.data,.int .i64 s.part,.int .i64 s.least,.int .i64 s.most],.bool true]
 |none=>.tuple #[.agg #[.int .u8 0,.int .i64 0,.int .i64 0,.int .i64 0],.bool false]
theorem aaq:(List.range' 0 16).map (fun n:Nat=>(jl (aE tb (aV tb [5,18,22,25,28,41,47,50,54,57,63,70,74,77,80] 999 (fg Tryz.f229 (ke Tryz.f229) [.int .u8 (n:Int)])))).bind (fun s=>ou tb s Tryz.f229.results.toList))=(List.range' 0 16).map (fun n:Nat=>some (CD (n:Int))):=by kernel_rfl
theorem aar:(List.range' 16 16).map (fun n:Nat=>(jl (aE tb (aV tb [5,18,22,25,28,41,47,50,54,57,63,70,74,77,80] 999 (fg Tryz.f229 (ke Tryz.f229) [.int .u8 (n:Int)])))).bind (fun s=>ou tb s Tryz.f229.results.toList))=(List.range' 16 16).map (fun n:Nat=>some (CD (n:Int))):=by kernel_rfl
theorem aas:(List.range' 32 16).map (fun n:Nat=>(jl (aE tb (aV tb [5,18,22,25,28,41,47,50,54,57,63,70,74,77,80] 999 (fg Tryz.f229 (ke Tryz.f229) [.int .u8 (n:Int)])))).bind (fun s=>ou tb s Tryz.f229.results.toList))=(List.range' 32 16).map (fun n:Nat=>some (CD (n:Int))):=by kernel_rfl
theorem aat:(List.range' 48 16).map (fun n:Nat=>(jl (aE tb (aV tb [5,18,22,25,28,41,47,50,54,57,63,70,74,77,80] 999 (fg Tryz.f229 (ke Tryz.f229) [.int .u8 (n:Int)])))).bind (fun s=>ou tb s Tryz.f229.results.toList))=(List.range' 48 16).map (fun n:Nat=>some (CD (n:Int))):=by kernel_rfl
theorem aau:(List.range' 64 16).map (fun n:Nat=>(jl (aE tb (aV tb [5,18,22,25,28,41,47,50,54,57,63,70,74,77,80] 999 (fg Tryz.f229 (ke Tryz.f229) [.int .u8 (n:Int)])))).bind (fun s=>ou tb s Tryz.f229.results.toList))=(List.range' 64 16).map (fun n:Nat=>some (CD (n:Int))):=by kernel_rfl
theorem aav:(List.range' 80 16).map (fun n:Nat=>(jl (aE tb (aV tb [5,18,22,25,28,41,47,50,54,57,63,70,74,77,80] 999 (fg Tryz.f229 (ke Tryz.f229) [.int .u8 (n:Int)])))).bind (fun s=>ou tb s Tryz.f229.results.toList))=(List.range' 80 16).map (fun n:Nat=>some (CD (n:Int))):=by kernel_rfl
theorem aaw:(List.range' 96 16).map (fun n:Nat=>(jl (aE tb (aV tb [5,18,22,25,28,41,47,50,54,57,63,70,74,77,80] 999 (fg Tryz.f229 (ke Tryz.f229) [.int .u8 (n:Int)])))).bind (fun s=>ou tb s Tryz.f229.results.toList))=(List.range' 96 16).map (fun n:Nat=>some (CD (n:Int))):=by kernel_rfl
theorem aax:(List.range' 112 16).map (fun n:Nat=>(jl (aE tb (aV tb [5,18,22,25,28,41,47,50,54,57,63,70,74,77,80] 999 (fg Tryz.f229 (ke Tryz.f229) [.int .u8 (n:Int)])))).bind (fun s=>ou tb s Tryz.f229.results.toList))=(List.range' 112 16).map (fun n:Nat=>some (CD (n:Int))):=by kernel_rfl
theorem aay:(List.range' 128 16).map (fun n:Nat=>(jl (aE tb (aV tb [5,18,22,25,28,41,47,50,54,57,63,70,74,77,80] 999 (fg Tryz.f229 (ke Tryz.f229) [.int .u8 (n:Int)])))).bind (fun s=>ou tb s Tryz.f229.results.toList))=(List.range' 128 16).map (fun n:Nat=>some (CD (n:Int))):=by kernel_rfl
theorem aaz:(List.range' 144 16).map (fun n:Nat=>(jl (aE tb (aV tb [5,18,22,25,28,41,47,50,54,57,63,70,74,77,80] 999 (fg Tryz.f229 (ke Tryz.f229) [.int .u8 (n:Int)])))).bind (fun s=>ou tb s Tryz.f229.results.toList))=(List.range' 144 16).map (fun n:Nat=>some (CD (n:Int))):=by kernel_rfl
theorem Xe:(List.range' 160 16).map (fun n:Nat=>(jl (aE tb (aV tb [5,18,22,25,28,41,47,50,54,57,63,70,74,77,80] 999 (fg Tryz.f229 (ke Tryz.f229) [.int .u8 (n:Int)])))).bind (fun s=>ou tb s Tryz.f229.results.toList))=(List.range' 160 16).map (fun n:Nat=>some (CD (n:Int))):=by kernel_rfl
theorem Xf:(List.range' 176 16).map (fun n:Nat=>(jl (aE tb (aV tb [5,18,22,25,28,41,47,50,54,57,63,70,74,77,80] 999 (fg Tryz.f229 (ke Tryz.f229) [.int .u8 (n:Int)])))).bind (fun s=>ou tb s Tryz.f229.results.toList))=(List.range' 176 16).map (fun n:Nat=>some (CD (n:Int))):=by kernel_rfl
theorem Xg:(List.range' 192 16).map (fun n:Nat=>(jl (aE tb (aV tb [5,18,22,25,28,41,47,50,54,57,63,70,74,77,80] 999 (fg Tryz.f229 (ke Tryz.f229) [.int .u8 (n:Int)])))).bind (fun s=>ou tb s Tryz.f229.results.toList))=(List.range' 192 16).map (fun n:Nat=>some (CD (n:Int))):=by kernel_rfl
theorem Xh:(List.range' 208 16).map (fun n:Nat=>(jl (aE tb (aV tb [5,18,22,25,28,41,47,50,54,57,63,70,74,77,80] 999 (fg Tryz.f229 (ke Tryz.f229) [.int .u8 (n:Int)])))).bind (fun s=>ou tb s Tryz.f229.results.toList))=(List.range' 208 16).map (fun n:Nat=>some (CD (n:Int))):=by kernel_rfl
theorem Xi:(List.range' 224 16).map (fun n:Nat=>(jl (aE tb (aV tb [5,18,22,25,28,41,47,50,54,57,63,70,74,77,80] 999 (fg Tryz.f229 (ke Tryz.f229) [.int .u8 (n:Int)])))).bind (fun s=>ou tb s Tryz.f229.results.toList))=(List.range' 224 16).map (fun n:Nat=>some (CD (n:Int))):=by kernel_rfl
theorem Xj:(List.range' 240 16).map (fun n:Nat=>(jl (aE tb (aV tb [5,18,22,25,28,41,47,50,54,57,63,70,74,77,80] 999 (fg Tryz.f229 (ke Tryz.f229) [.int .u8 (n:Int)])))).bind (fun s=>ou tb s Tryz.f229.results.toList))=(List.range' 240 16).map (fun n:Nat=>some (CD (n:Int))):=by kernel_rfl
theorem Xd{n:Nat}(hn:n<256):(jl (aE tb (aV tb [5,18,22,25,28,41,47,50,54,57,63,70,74,77,80] 999 (fg Tryz.f229 (ke Tryz.f229) [.int .u8 (n:Int)])))).bind (fun s=>ou tb s Tryz.f229.results.toList)=some (CD (n:Int)):=by
 by_cases h0:n<16
 ·exact List.map_inj_left.1 aaq n (List.mem_range'_1.2 ⟨by omega,by omega⟩)
 by_cases h1:n<32
 ·exact List.map_inj_left.1 aar n (List.mem_range'_1.2 ⟨by omega,by omega⟩)
 by_cases h2:n<48
 ·exact List.map_inj_left.1 aas n (List.mem_range'_1.2 ⟨by omega,by omega⟩)
 by_cases h3:n<64
 ·exact List.map_inj_left.1 aat n (List.mem_range'_1.2 ⟨by omega,by omega⟩)
 by_cases h4:n<80
 ·exact List.map_inj_left.1 aau n (List.mem_range'_1.2 ⟨by omega,by omega⟩)
 by_cases h5:n<96
 ·exact List.map_inj_left.1 aav n (List.mem_range'_1.2 ⟨by omega,by omega⟩)
 by_cases h6:n<112
 ·exact List.map_inj_left.1 aaw n (List.mem_range'_1.2 ⟨by omega,by omega⟩)
 by_cases h7:n<128
 ·exact List.map_inj_left.1 aax n (List.mem_range'_1.2 ⟨by omega,by omega⟩)
 by_cases h8:n<144
 ·exact List.map_inj_left.1 aay n (List.mem_range'_1.2 ⟨by omega,by omega⟩)
 by_cases h9:n<160
 ·exact List.map_inj_left.1 aaz n (List.mem_range'_1.2 ⟨by omega,by omega⟩)
 by_cases h10:n<176
 ·exact List.map_inj_left.1 Xe n (List.mem_range'_1.2 ⟨by omega,by omega⟩)
 by_cases h11:n<192
 ·exact List.map_inj_left.1 Xf n (List.mem_range'_1.2 ⟨by omega,by omega⟩)
 by_cases h12:n<208
 ·exact List.map_inj_left.1 Xg n (List.mem_range'_1.2 ⟨by omega,by omega⟩)
 by_cases h13:n<224
 ·exact List.map_inj_left.1 Xh n (List.mem_range'_1.2 ⟨by omega,by omega⟩)
 by_cases h14:n<240
 ·exact List.map_inj_left.1 Xi n (List.mem_range'_1.2 ⟨by omega,by omega⟩)
 exact List.map_inj_left.1 Xj n (List.mem_range'_1.2 ⟨by omega,by omega⟩)
section
variable{Γ:List aC}
theorem Vd(k:Int)(hk:ze k):aw tb Tryz.prog 229 [.int .u8 k] Γ (jy (CD k)):=by
 obtain⟨n,rfl⟩:∃n:Nat,k=n:=⟨k.toNat,by have:=hk.1;omega⟩;refine aw.of_W (c:=ke Tryz.f229) au Tryz.func229 (by kernel_rfl) (W.r [5,18,22,25,28,41,47,50,54,57,63,70,74,77,80] (CD (n:Int)) (h:=(Xd (by have:=hk.2;omega))) ⟨rfl,rfl⟩ bX)
theorem XC(k:Int)(hk:ze k)(s:Rv)(hs:E9 k=some s):aw tb Tryz.prog 229 [.int .u8 k] Γ (jy (.tuple #[.agg #[.int .u8 s.data,.int .i64 s.part,.int .i64 s.least,.int .i64 s.most],.bool true])):=by
 have:=Vd (Γ:=Γ) k hk;unfold CD at this;rw[hs]at this;exact this
theorem XB(k:Int)(hk:ze k)(hs:E9 k=none):aw tb Tryz.prog 229 [.int .u8 k] Γ (jy (.tuple #[.agg #[.int .u8 0,.int .i64 0,.int .i64 0,.int .i64 0],.bool false])):=by
 have:=Vd (Γ:=Γ) k hk;unfold CD at this;rw[hs]at this;exact this
end
theorem QU{k:Int}{s:Rv}(h:E9 k=some s):1≤s.part∧s.part≤176∧0≤s.least∧s.most≤8191:=by
 have key:∀(c:Prop) [Decidable c] (a:Rv) (o:Option Rv),(if c then some a else o)=some s→(1≤a.part∧a.part≤176∧0≤a.least∧a.most≤8191)→(o=some s→1≤s.part∧s.part≤176∧0≤s.least∧s.most≤8191)→1≤s.part∧s.part≤176∧0≤s.least∧s.most≤8191:=by
  intro c _ a o h1 h2 h3;by_cases hc:c
  ·rw[if_pos hc]at h1;injection h1 with h1;subst h1;exact h2
  ·rw[if_neg hc]at h1;exact h3 h1
 unfold E9 at h;refine key _ _ _ h (by decide) (fun h=>key _ _ _ h (by decide) (fun h=>key _ _ _ h (by decide) (fun h=>key _ _ _ h (by decide) (fun h=>key _ _ _ h (by decide) (fun h=>key _ _ _ h (by decide) (fun h=>key _ _ _ h (by decide) (fun h=>key _ _ _ h (by decide) (fun h=>key _ _ _ h (by decide) (fun h=>key _ _ _ h (by decide) (fun h=>key _ _ _ h (by decide) (fun h=>?_)))))))))));refine key _ _ _ h (by decide) (fun h=>key _ _ _ h (by decide) (fun h=>key _ _ _ h (by decide) (fun h=>key _ _ _ h (by decide) (fun h=>?_))));simp at h
def stp(T:Tb)(c:fF):fF:=match aE T c with
 | .next c'=>c'
 |_=>c
theorem W.stp{T:Tb}{P:Program}{fin:VS→List aC→Prop}{c:fF}{Γ:List aC}(h:W T P fin (YtgaaopjagcaojaaGreat.stp T c) Γ):W T P fin c Γ:=by
 unfold YtgaaopjagcaojaaGreat.stp at h;split at h
 ·rename_i c' he;exact W.next he h
 ·exact h
section
variable{Γ:List aC}
theorem P7(d a l e:Int):aw tb Tryz.prog 230 [.agg #[.int .u8 d,.int .i64 a,.int .i64 l,.int .i64 e]] Γ (jy (.int .i64 (max a 1))):=by
 refine aw.of_W au Tryz.func230 rfl (Np [] .i64 a 1 (max a 1) rfl (W.r [] (.int .i64 (max a 1)) ⟨rfl,rfl⟩ bX))
theorem QX:∀n:_root_.Fin 256,([95,63,36]:List UInt8).contains (n.val.toUInt8)=(decide (n.val=95)||decide (n.val=63)||decide (n.val=36)):=by decide+kernel
theorem Ah{k:Int}(hk:ze k):decide (Lib.indexByte (⟨#[95,63,36]⟩:ByteArray).data.toList k.toNat.toUInt8≥0)=(k==95||k==63||k==36):=by
 obtain⟨n,rfl⟩:∃n:Nat,k=n:=⟨k.toNat,by have:=hk.1;omega⟩;have hn:n<256:=by have:=hk.2;omega
 rw[qI];have:=QX ⟨n,hn⟩;simp only[jm]at this⊢;rw[this];congr 1
 ·congr 1
  ·rw[sZ];simp;omega
  ·rw[sZ];simp;omega
 ·rw[sZ];simp;omega
theorem yq{k:Int}(h:(65≤k∧k≤90)∨(97≤k∧k≤122)∨(48≤k∧k≤57):=by omega):jW k=true:=by
 unfold jW;simp only[dI,aK,cY];omega
theorem rU{k:Int}(h1:¬(65≤k∧k≤90):=by omega)(h2:¬(97≤k∧k≤122):=by omega)(h3:¬(48≤k∧k≤57):=by omega):jW k=(k==95||k==63||k==36):=by
 unfold jW;rw[←Bool.decide_and,←Bool.decide_and,←Bool.decide_and,ak h1,ak h2,ak h3];rfl
theorem Hm(k:Int)(hk:ze k):aw tb Tryz.prog 232 [.int .u8 k] Γ (jy (.bool (jW k))):=by
 refine aw.of_W au Tryz.func232 rfl ?_;by_cases h0:65≤k∧k≤90
 ·refine bh [] 5 (decide (k≥65)) (ar (by omega)) (bh [5] 9 (decide (k≤90)) (ar (by omega)) (W.r [25,20,17,12,9] (.bool true) ⟨by rw[yq],rfl⟩ bX))
 by_cases h1:97≤k∧k≤122
 ·refine bh [] 5 (decide (k≥65)) (ar (by omega)) (aO [5] 9 (decide (k≤90)) (ak (by omega)) (bh [9] 12 (decide (k≥97)) (ar (by omega)) (bh [9,12] 17 (decide (k≤122)) (ar (by omega)) (W.r [25,20,17] (.bool true) ⟨by rw[yq],rfl⟩ bX))))
 by_cases h2:48≤k∧k≤57
 ·refine aO [] 5 (decide (k≥65)) (ak (by omega)) (aO [9,5] 12 (decide (k≥97)) (ak (by omega)) (bh [17,9,12] 20 (decide (k≥48)) (ar (by omega)) (bh [17,20] 25 (decide (k≤57)) (ar (by omega)) (W.r [25] (.bool true) ⟨by rw[yq],rfl⟩ bX))))
 by_cases h3:k<48
 ·refine aO [] 5 (decide (k≥65)) (ak (by omega)) (aO [9,5] 12 (decide (k≥97)) (ak (by omega)) (aO [17,9,12] 20 (decide (k≥48)) (ak (by omega)) (W.c0 [25,17,20] (KU ⟨#[95,63,36]⟩ k) (W.r [25] (.bool (decide (Lib.indexByte (⟨#[95,63,36]⟩:ByteArray).data.toList k.toNat.toUInt8≥0))) ⟨by rw[Ah hk,rU],rfl⟩ bX))))
 by_cases h4:k<65
 ·refine aO [] 5 (decide (k≥65)) (ak (by omega)) (aO [9,5] 12 (decide (k≥97)) (ak (by omega)) (bh [17,9,12] 20 (decide (k≥48)) (ar (by omega)) (aO [17,20] 25 (decide (k≤57)) (ak (by omega)) (W.c0 [25] (KU ⟨#[95,63,36]⟩ k) (W.r [25] (.bool (decide (Lib.indexByte (⟨#[95,63,36]⟩:ByteArray).data.toList k.toNat.toUInt8≥0))) ⟨by rw[Ah hk,rU],rfl⟩ bX)))))
 by_cases h5:k<97
 ·refine bh [] 5 (decide (k≥65)) (ar (by omega)) (aO [5] 9 (decide (k≤90)) (ak (by omega)) (aO [9] 12 (decide (k≥97)) (ak (by omega)) (bh [17,9,12] 20 (decide (k≥48)) (ar (by omega)) (aO [17,20] 25 (decide (k≤57)) (ak (by omega)) (W.c0 [25] (KU ⟨#[95,63,36]⟩ k) (W.r [25] (.bool (decide (Lib.indexByte (⟨#[95,63,36]⟩:ByteArray).data.toList k.toNat.toUInt8≥0))) ⟨by rw[Ah hk,rU],rfl⟩ bX))))))
 refine bh [] 5 (decide (k≥65)) (ar (by omega)) (aO [5] 9 (decide (k≤90)) (ak (by omega)) (bh [9] 12 (decide (k≥97)) (ar (by omega)) (aO [9,12] 17 (decide (k≤122)) (ak (by omega)) (bh [17] 20 (decide (k≥48)) (ar (by omega)) (aO [17,20] 25 (decide (k≤57)) (ak (by omega)) (W.c0 [25] (KU ⟨#[95,63,36]⟩ k) (W.r [25] (.bool (decide (Lib.indexByte (⟨#[95,63,36]⟩:ByteArray).data.toList k.toNat.toUInt8≥0))) ⟨by rw[Ah hk,rU],rfl⟩ bX)))))))
theorem nA{b:List Int}(hb:kU b):jf (ik b)=fI b:=FQ (fun z hz=>by
 unfold fI at hz;split at hz
 ·exact hb z (List.dropLast_subset _ hz)
 ·exact hb z hz)
theorem kJ{b:List Int}(hb:kU b):kU (fI b):=fun z hz=>by
 unfold fI at hz;split at hz
 ·exact hb z (List.dropLast_subset _ hz)
 ·exact hb z hz
theorem MP(b:List Int):(fI b).length≤b.length:=by
 unfold fI;split
 ·simp
 ·exact aj _
theorem yP(b:List Int):(ik b).size=(fI b).length:=strOfNums_size _
theorem xw{l:List Int}(hl:kU l):decide (Lib.indexByte (Lib.bytesOf l) (0:Int).toNat.toUInt8<0)= !l.contains 0:=by
 have h:=qI (Lib.bytesOf l) (0:Int).toNat.toUInt8;have e:(Lib.bytesOf l).contains (0:Int).toNat.toUInt8=l.contains 0:=by
  rw[sZ,rA,rA];unfold Lib.bytesOf;rw[As];constructor
  ·rintro⟨z,hz,e⟩;have:=hl z hz;have e2:=dM UInt8.toNat e;have e3:(UInt8.ofNat z.toNat).toNat=z.toNat % 256:=rfl;have e4:z.toNat % 256=0:=by
    rw[←e3];exact e2
   have:z=0:=by omega
   subst this;exact hz
  ·intro hz;exact⟨0,hz,rfl⟩
 rw[←e,←h];rw[sZ];simp
theorem HI{r:Re}(h:E9 r.k=none):fr r=false:=by
 unfold fr;rw[h]
theorem uA{r:Re}{s:Rv}(h:E9 r.k=some s):fr r=(r.d==s.data&&((r.b.length:Int) % s.part==0&&(decide (s.least≤(r.b.length:Int)/s.part)&&(decide ((r.b.length:Int)/s.part≤s.most)&&
   (if EA r.k then !(fI r.b).contains 0 else if Ez r.k then(fI r.b).all jW else true))))):=by
 unfold fr;rw[h]
theorem Qb(s:Sl)(r:Re) [h:aZ (wJ s) r Γ]:aw tb Tryz.prog 180 [rev r s] Γ (jy (.bool (fr r))):=by
 obtain⟨k,d,b⟩:=r;refine aw.of_W au Tryz.func180 rfl (qE (ze k) rfl (fun I w _ hh=>(h.p hh).1) (fun hk=>W.more (Δ:=[BF s b]) rfl (fun I w _ hh=>aT (h.p hh).2.2) (Fv s rfl (fun h1 h2 h3 h4=>?_))));cases hsh:E9 k with
 |none=>
  have hno:fr ⟨k,d,b⟩=false:=HI hsh;refine W.c0 [] (XB k hk hsh) (W.c0 [] (P7 0 0 0 0) (W.quo [] (s.n:Int) (max 0 1) (IntKind.i64.wrap ((s.n:Int).tdiv 1)) (by decide) rfl (bh [] 22 (!false) rfl (W.r [29,38,44,49,22] (.bool false) ⟨by rw[hno],rfl⟩ bX))))
 |some sh=>
  have hreq:fr ⟨k,d,b⟩=_:=uA hsh;simp only at hreq;obtain⟨hp1,hp2,hp3,hp4⟩:=QU hsh;have hmx:max sh.part 1=sh.part:=by omega
  have hq:(s.n:Int).tdiv (max sh.part 1)=(b.length:Int)/sh.part:=by rw[hmx,h1,Int.tdiv_eq_ediv_of_nonneg (by omega)]
  have hm:(s.n:Int).tmod (max sh.part 1)=(b.length:Int) % sh.part:=by rw[hmx,h1,fT (by omega)]
  refine W.c0 [] (XC k hk sh hsh) (W.c0 [] (P7 sh.data sh.part sh.least sh.most) ?_);obtain⟨q,hqq⟩:∃q,(b.length:Int)/sh.part=q:=⟨_,rfl⟩;obtain⟨m,hmm⟩:∃m,(b.length:Int) % sh.part=m:=⟨_,rfl⟩;have hq0:0≤q:=by rw[←hqq];exact Int.ediv_nonneg (by omega) (by omega)
  have hq1:q≤b.length:=by rw[←hqq];exact Int.ediv_le_self _ (by omega)
  rw[hqq]at hq hreq;rw[hmm]at hm hreq;refine W.quo [] (s.n:Int) (max sh.part 1) q (by omega) (by rw[hq,af];omega) (aO [] 22 (!true) rfl ?_);by_cases hd:sh.data=d
  rotate_left
  ·refine bh [22] 29 (sh.data != d) (by simpa using hd) (W.r [38,44,49,29] (.bool false) ⟨by rw[hreq,show(d==sh.data)=false by rw[cP];exact fun e=>hd e.symm];rfl,rfl⟩ bX)
  subst hd;rw[show(sh.data==sh.data)=true by simp,dK]at hreq;refine aO [22] 29 (sh.data != sh.data) (by simp) (W.c0 [29] (P7 sh.data sh.part sh.least sh.most) (oA [29] .i64 (s.n:Int) (max sh.part 1) m (hb:=(by omega)) hm ?_));by_cases hm0:m=0
  rotate_left
  ·refine bh [29] 38 (m != 0) (by simpa using hm0) (W.r [44,49,38] (.bool false) ⟨by rw[hreq,show(m==0)=false by rw[cP];exact hm0];rfl,rfl⟩ bX)
  subst hm0;rw[show((0:Int)==0)=true by decide,dK]at hreq;refine aO [29] 38 ((0:Int) != 0) (by decide) ?_;by_cases hlt:q<sh.least
  ·refine bh [38] 44 (decide (q<sh.least)) (ar hlt) (W.r [49,44] (.bool false) ⟨by rw[hreq,ak (by omega)];rfl,rfl⟩ bX)
  rw[ar (show sh.least≤q by omega),dK]at hreq;refine aO [38] 44 (decide (q<sh.least)) (ak hlt) ?_;by_cases hgt:q>sh.most
  ·refine bh [44] 49 (decide (q>sh.most)) (ar hgt) (W.r [49] (.bool false) ⟨by rw[hreq,ak (by omega)];rfl,rfl⟩ bX)
  rw[ar (show q≤sh.most by omega),dK]at hreq;refine aO [44] 49 (decide (q>sh.most)) (ak hgt) ?_;have hz:(ik b).size≤9223372036854775807:=by
   have:=MP b;rw[yP];omega
  by_cases k2:k=2
  ·subst k2;refine W.c0 [49,52] (nI s (b:=b)) (Ay [] 9 28 5 (ik b) Tryz.underlying9 Tryz.underlying28 Tryz.underlying5 hz (fun B cap hcap=>W.c0 [] (Hj B 0 (ik b).size cap (jf (ik b)) 0) (W.r [] (.bool (decide (Lib.indexByte (Lib.bytesOf (jf (ik b))) (0:Int).toNat.toUInt8<0))) ⟨?_,rfl⟩ bX)));rw[hreq,nA h3,xw (kJ h3)];rfl
  by_cases k25:k=25
  ·subst k25;refine W.c0 [49,52] (nI s (b:=b)) (Ay [] 9 28 5 (ik b) Tryz.underlying9 Tryz.underlying28 Tryz.underlying5 hz (fun B cap hcap=>W.c0 [] (Hj B 0 (ik b).size cap (jf (ik b)) 0) (W.r [] (.bool (decide (Lib.indexByte (Lib.bytesOf (jf (ik b))) (0:Int).toNat.toUInt8<0))) ⟨?_,rfl⟩ bX)));rw[hreq,nA h3,xw (kJ h3)];rfl
  by_cases k44:k=44
  ·subst k44;refine W.c0 [49,52] (nI s (b:=b)) (Ay [] 9 28 5 (ik b) Tryz.underlying9 Tryz.underlying28 Tryz.underlying5 hz (fun B cap hcap=>W.c0 [] (Hj B 0 (ik b).size cap (jf (ik b)) 0) (W.r [] (.bool (decide (Lib.indexByte (Lib.bytesOf (jf (ik b))) (0:Int).toNat.toUInt8<0))) ⟨?_,rfl⟩ bX)));rw[hreq,nA h3,xw (kJ h3)];rfl
  by_cases k55:k=55
  ·subst k55;refine W.c0 [49,52] (nI s (b:=b)) (Ay [] 9 28 5 (ik b) Tryz.underlying9 Tryz.underlying28 Tryz.underlying5 hz (fun B cap hcap=>W.c0 [] (Hj B 0 (ik b).size cap (jf (ik b)) 0) (W.r [] (.bool (decide (Lib.indexByte (Lib.bytesOf (jf (ik b))) (0:Int).toNat.toUInt8<0))) ⟨?_,rfl⟩ bX)));rw[hreq,nA h3,xw (kJ h3)];rfl
  by_cases k58:k=58
  ·subst k58;refine W.c0 [49,52] (nI s (b:=b)) (Ay [] 9 28 5 (ik b) Tryz.underlying9 Tryz.underlying28 Tryz.underlying5 hz (fun B cap hcap=>W.c0 [] (Hj B 0 (ik b).size cap (jf (ik b)) 0) (W.r [] (.bool (decide (Lib.indexByte (Lib.bytesOf (jf (ik b))) (0:Int).toNat.toUInt8<0))) ⟨?_,rfl⟩ bX)));rw[hreq,nA h3,xw (kJ h3)];rfl
  by_cases k6:k=6
  ·subst k6;have hreq2:fr ⟨6,sh.data,b⟩=(fI b).all jW:=hreq;refine W.c0 [49,52,64] (nI s (b:=b)) (Ay [] 9 28 5 (ik b) Tryz.underlying9 Tryz.underlying28 Tryz.underlying5 hz (fun B cap hcap=>?_));have hlen:(fI b).length=(ik b).size:=(yP b).symm;refine x7 [] [72] (fun a:Nat×Int=>[(72,.int .i64 a.2)]) (fun _=>[]) (fun _=>[BF ⟨some ⟨B,0,none⟩,(ik b).size,cap⟩ (jf (ik b))]) (fun a=>a.2=a.1∧a.1≤(fI b).length∧∀(j:Nat) (z:Int),j<a.1→(fI b)[j]? =some z→jW z=true) (fun a=>(fI b).length-a.1) (0,0) ⟨rfl,aH _,fun j z hj=>absurd hj (gG _)⟩ (eC eK eE) ?_;rintro⟨i,z⟩ R ⟨hzi,hi,hall⟩ close;simp only at hzi hi hall;by_cases hil:i<(fI b).length
   ·obtain⟨y,hy⟩:∃y,(fI b)[i]? =some y:=⟨_,ah hil⟩;have hyb:ze y:=kJ h3 y (aM hy);refine bh [] 73 (decide (z<((ik b).size:Int))) (ar (by omega)) (bI [73] 1 B 0 (ik b).size cap .i64 i z hzi au (by omega) (cX [] 1 B (0+i*1) (.int .u8 y) au (fun I w _ hh=>?_) ?_))
    ·have hb:=(aZ.p (k:=BF ⟨some ⟨B,0,none⟩,(ik b).size,cap⟩) (a:=jf (ik b)) inferInstance hh).2.2.2;rw[fE];exact RA.cell hb (by rw[nA h3,bL,hy];rfl)
    refine W.c0 [] (Hm y hyb) ?_;cases hly:jW y with
    |false=>
     refine bh [] 78 (!false) rfl (W.r [78] (.bool false) ⟨?_,rfl⟩ bX);rw[hreq2,show(fI b).all jW=false from List.all_eq_false.2 ⟨y,aM hy,by rw[hly];decide⟩]
    |true=>
     refine aO [] 78 (!true) rfl (close [78] _ _ (i+1,IntKind.i64.wrap (z+1)) (by kernel_rfl) (by kernel_rfl) ⟨by simp only[af];omega,hil,fun j x hj hx=>?_⟩ (by simp only;omega) (eC eK eE));by_cases hji:j<i
     ·exact hall j x hji hx
     ·have:j=i:=by simp only at hj;omega
      subst this;rw[hy]at hx;injection hx with hx;subst hx;exact hly
   ·refine aO [] 73 (decide (z<((ik b).size:Int))) (ak (by omega)) (W.r [73] (.bool true) ⟨?_,rfl⟩ bX);rw[hreq2,show(fI b).all jW=true from List.all_eq_true.2 (fun y hy=>by
     obtain⟨j,hj⟩:=mS hy;exact hall j y (by have:=(List.getElem?_eq_some_iff.1 hj).1;omega) hj)]
  by_cases k18:k=18
  ·subst k18;have hreq2:fr ⟨18,sh.data,b⟩=(fI b).all jW:=hreq;refine W.c0 [49,52,64] (nI s (b:=b)) (Ay [] 9 28 5 (ik b) Tryz.underlying9 Tryz.underlying28 Tryz.underlying5 hz (fun B cap hcap=>?_));have hlen:(fI b).length=(ik b).size:=(yP b).symm;refine x7 [] [72] (fun a:Nat×Int=>[(72,.int .i64 a.2)]) (fun _=>[]) (fun _=>[BF ⟨some ⟨B,0,none⟩,(ik b).size,cap⟩ (jf (ik b))]) (fun a=>a.2=a.1∧a.1≤(fI b).length∧∀(j:Nat) (z:Int),j<a.1→(fI b)[j]? =some z→jW z=true) (fun a=>(fI b).length-a.1) (0,0) ⟨rfl,aH _,fun j z hj=>absurd hj (gG _)⟩ (eC eK eE) ?_;rintro⟨i,z⟩ R ⟨hzi,hi,hall⟩ close;simp only at hzi hi hall;by_cases hil:i<(fI b).length
   ·obtain⟨y,hy⟩:∃y,(fI b)[i]? =some y:=⟨_,ah hil⟩;have hyb:ze y:=kJ h3 y (aM hy);refine bh [] 73 (decide (z<((ik b).size:Int))) (ar (by omega)) (bI [73] 1 B 0 (ik b).size cap .i64 i z hzi au (by omega) (cX [] 1 B (0+i*1) (.int .u8 y) au (fun I w _ hh=>?_) ?_))
    ·have hb:=(aZ.p (k:=BF ⟨some ⟨B,0,none⟩,(ik b).size,cap⟩) (a:=jf (ik b)) inferInstance hh).2.2.2;rw[fE];exact RA.cell hb (by rw[nA h3,bL,hy];rfl)
    refine W.c0 [] (Hm y hyb) ?_;cases hly:jW y with
    |false=>
     refine bh [] 78 (!false) rfl (W.r [78] (.bool false) ⟨?_,rfl⟩ bX);rw[hreq2,show(fI b).all jW=false from List.all_eq_false.2 ⟨y,aM hy,by rw[hly];decide⟩]
    |true=>
     refine aO [] 78 (!true) rfl (close [78] _ _ (i+1,IntKind.i64.wrap (z+1)) (by kernel_rfl) (by kernel_rfl) ⟨by simp only[af];omega,hil,fun j x hj hx=>?_⟩ (by simp only;omega) (eC eK eE));by_cases hji:j<i
     ·exact hall j x hji hx
     ·have:j=i:=by simp only at hj;omega
      subst this;rw[hy]at hx;injection hx with hx;subst hx;exact hly
   ·refine aO [] 73 (decide (z<((ik b).size:Int))) (ak (by omega)) (W.r [73] (.bool true) ⟨?_,rfl⟩ bX);rw[hreq2,show(fI b).all jW=true from List.all_eq_true.2 (fun y hy=>by
     obtain⟨j,hj⟩:=mS hy;exact hall j y (by have:=(List.getElem?_eq_some_iff.1 hj).1;omega) hj)]
  have hnt:EA k=false:=by simp[EA,k2,k25,k44,k55,k58]
  have hnn:Ez k=false:=by simp[Ez,k6,k18]
  rw[hnt,hnn]at hreq;refine aO [49] 52 (k==2) (beq_eq_false_iff_ne.2 k2) (W.stp (aO [] 52 (k==25) (beq_eq_false_iff_ne.2 k25) (W.stp (aO [] 52 (k==44) (beq_eq_false_iff_ne.2 k44) (W.stp (aO [] 52 (k==55) (beq_eq_false_iff_ne.2 k55) (W.stp (aO [] 52 (k==58) (beq_eq_false_iff_ne.2 k58) (W.stp (aO [52] 64 (k==6) (beq_eq_false_iff_ne.2 k6) ?_))))))))));refine W.stp (aO [52] 64 (k==18) (beq_eq_false_iff_ne.2 k18) (W.stp (W.r [64] (.bool true) ⟨by rw[hreq];rfl,rfl⟩ bX)))
end
theorem TK{k:Int}{s:Rv}(h:E9 k=some s):s.part*s.most≤65528:=by
 have key:∀(c:Prop) [Decidable c] (a:Rv) (o:Option Rv),(if c then some a else o)=some s→(a.part*a.most≤65528)→(o=some s→s.part*s.most≤65528)→s.part*s.most≤65528:=by
  intro c _ a o h1 h2 h3;by_cases hc:c
  ·rw[if_pos hc]at h1;injection h1 with h1;subst h1;exact h2
  ·rw[if_neg hc]at h1;exact h3 h1
 unfold E9 at h;refine key _ _ _ h (by decide) (fun h=>key _ _ _ h (by decide) (fun h=>key _ _ _ h (by decide) (fun h=>key _ _ _ h (by decide) (fun h=>key _ _ _ h (by decide) (fun h=>key _ _ _ h (by decide) (fun h=>key _ _ _ h (by decide) (fun h=>key _ _ _ h (by decide) (fun h=>key _ _ _ h (by decide) (fun h=>key _ _ _ h (by decide) (fun h=>key _ _ _ h (by decide) (fun h=>?_)))))))))));refine key _ _ _ h (by decide) (fun h=>key _ _ _ h (by decide) (fun h=>key _ _ _ h (by decide) (fun h=>key _ _ _ h (by decide) (fun h=>?_))));simp at h
theorem DF{r:Re}(h:fr r=true):∃s,E9 r.k=some s∧r.d=s.data∧(r.b.length:Int) % s.part=0∧s.least≤(r.b.length:Int)/s.part∧(r.b.length:Int)/s.part≤s.most:=by
 cases hs:E9 r.k with
 |none=>rw[HI hs]at h;simp at h
 |some s=>
  rw[uA hs]at h;simp only[aK,eJ,cY]at h;exact⟨s,rfl,h.1,h.2.1,h.2.2.1,h.2.2.2.1⟩
theorem oh{r:Re}(h:fr r=true):r.b.length≤65528:=by
 obtain⟨s,hs,_,h1,_,h2⟩:=DF h;have h3:=TK hs;obtain⟨p1,_⟩:=QU hs;have h4:=Int.mul_ediv_add_emod (r.b.length:Int) s.part;rw[h1,qx]at h4;have h5:s.part*((r.b.length:Int)/s.part)≤s.part*s.most:=lx h2 (by omega);omega
def qu(x:Im):Prop:=x.f≠ []∧∀r∈x.f,fr r=true
theorem kO{x:Im}{k:Int}{r:Re}(h:dJ x k=some r):r∈x.f∧r.k=k:=by
 unfold dJ at h;exact⟨List.mem_of_find?_eq_some h,by simpa using List.find?_some h⟩
theorem qu.short{x:Im}(h:qu x):∀r∈x.f,r.b.length≤1000000:=fun r hr=>by
 have:=oh (h.2 r hr);omega
theorem qu.len{x:Im}(h:qu x){k:Int}{r:Re}(hf:dJ x k=some r){s:Rv}(hs:E9 k=some s):r.d=s.data∧(r.b.length:Int) % s.part=0∧s.least≤(r.b.length:Int)/s.part∧(r.b.length:Int)/s.part≤s.most:=by
 obtain⟨hm,hk⟩:=kO hf;obtain⟨s',hs',h1,h2,h3,h4⟩:=DF (h.2 r hm);rw[hk,hs]at hs';injection hs' with hs';subst hs';exact⟨h1,h2,h3,h4⟩
def YX(k:Int):Prop:=E9 k=some ⟨2,2,1,1⟩∨E9 k=some ⟨1,2,1,1⟩∨E9 k=some ⟨3,4,1,1⟩
theorem qu.num{x:Im}(h:qu x){k:Int}{r:Re}(hf:dJ x k=some r)(hk:YX k):r.b.length=2∨(r.d=3∧r.b.length=4):=by
 rcases hk with hk|hk|hk<;>obtain⟨h1,h2,h3,h4⟩:=h.len hf hk<;>simp only at h1 h2 h3 h4<;>omega
def cC(x:Im)(k w:Int):Int:=match dJ x k with
 |none=>w
 |some r=>if r.d=2∨r.b.length % 4≠0 then(dU r.b).headD 0 else(e_ r.b).headD 0
def kh:List Int→List Dp
 |a::b::r=>⟨a,b⟩::kh r
 |_=>[]
def bT(x:Im):List Dp:=match dJ x 16 with
 |some r=>kh (e_ r.b)
 |none=>[]
def cz(x:Im):Int:=(x.f.headD default).k
def bJ(x:Im):Int×Int:=match dJ x 19 with
 |none=>(1,1)
 |some r=>((dU r.b).headD 0,(dU r.b).getD 1 0)
def ig(x:Im):Option (List Int):=(dJ x 18).map fun r=>fI r.b
theorem yI:∀l:List Int,(kh l).length=l.length/2
 | []=>by simp[kh]
 | [_]=>by simp[kh]
 |a::b::r=>by
  have:=yI r;simp only[kh,aB];omega
theorem Ho:∀(l:List Int) (k:Nat) (a b:Int),l[2*k]? =some a→l[2*k+1]? =some b→(kh l)[k]? =some ⟨a,b⟩
 | [],k,a,b,h,_=>by simp at h
 | [x],k,a,b,_,h=>by
  have:=(List.getElem?_eq_some_iff.1 h).1;simp at this
 |x::y::r,0,a,b,h1,h2=>by
  simp at h1 h2;subst h1 h2;rfl
 |x::y::r,k+1,a,b,h1,h2=>by
  simp only[kh,ek];exact Ho r k a b (by simpa [fD]using h1) (by simpa [fD]using h2)
def sS(s:Sl)(l:List Dp):aC where
 p I w:=s.n=l.length∧(s.n≤s.c∧s.c≤maxLen)∧(RA s.ao (l.flatMap ed)).p I w
 up:=by
  rintro I I' w w' ⟨h1,h2,h⟩ g1 g2 g3;exact⟨h1,h2,(RA s.ao _).up h g1 g2 g3⟩
section
variable{T:Tb}{P:Program}{fin:VS→List aC→Prop}{c:fF}{Γ:List aC}
theorem Nr(s:Sl){l:List Int} [h:aZ (NL s) l Γ](hm:dF c.k=false)(hc:s.n=l.length→s.n≤s.c∧s.c≤9223372036854775807→(l≠ []→∃bb off,s.ao=some ⟨bb,off,none⟩)→W T P fin c Γ):W T P fin c Γ:=
 qE (s.n=l.length∧(s.n≤s.c∧s.c≤9223372036854775807)∧(l≠ []→∃bb off,s.ao=some ⟨bb,off,none⟩)) hm (fun I w _ hh=>by
  obtain⟨h1,h2,h4⟩:=h.p hh;refine⟨h1,h2,fun hne=>?_⟩;obtain⟨bb,off,ha,_⟩:=h4 (by simpa using hne);exact⟨bb,off,ha⟩) (fun hq=>hc hq.1 hq.2.1 hq.2.2)
theorem sM(bb off n c:Nat){l:List Int} [h:aZ (NL ⟨some ⟨bb,off,none⟩,n,c⟩) l Γ]{i:Nat}{z:Int}(hz:l[i]? =some z):∀I w,bj T I w→aD Γ I w→w.cell? ⟨bb,off+i*1,none⟩=some (.int .i64 z):=fun I w _ hh=>by
 rw[fE];exact RA.cell (h.p hh).2.2 (by rw[bL,hz];rfl)
theorem CK(s:Sl){l:List Dp} [h:aZ (sS s) l Γ](hm:dF c.k=false)(hc:s.n=l.length→s.n≤s.c∧s.c≤9223372036854775807→(l≠ []→∃bb off,s.ao=some ⟨bb,off,none⟩)→W T P fin c Γ):W T P fin c Γ:=
 qE (s.n=l.length∧(s.n≤s.c∧s.c≤9223372036854775807)∧(l≠ []→∃bb off,s.ao=some ⟨bb,off,none⟩)) hm (fun I w _ hh=>by
  obtain⟨h1,h2,h4⟩:=h.p hh;refine⟨h1,h2,fun hne=>?_⟩;obtain⟨bb,off,ha,_⟩:=h4 (by cases l with|nil=>exact absurd rfl hne|cons a r=>simp[ed]);exact⟨bb,off,ha⟩) (fun hq=>hc hq.1 hq.2.1 hq.2.2)
theorem kH(bb off n c:Nat){l:List Dp} [h:aZ (sS ⟨some ⟨bb,off,none⟩,n,c⟩) l Γ]{i:Nat}{d:Dp}(hd:l[i]? =some d):∀I w,bj T I w→aD Γ I w→∀j v,(ed d)[j]? =some v→w.cell? ⟨bb,off+i*2+j,none⟩=some v:=fun I w _ hh j v hv=>by
 rw[g_];exact RA.cell (h.p hh).2.2 (eL hd j v hv)
theorem uu(u:Sl){r:Re} [h:aZ (wJ u) r Γ]:∀(I:gd) (w:World),bj T I w→aD Γ I w→aD [BF u r.b] I w:=fun I w _ hh=>aT (h.p hh).2.2
end
section
variable{Γ:List aC}{L M:Nat}
def YW(u:Sl)(l:List Int):Prop:=u.n=l.length∧(u.n≤u.c∧u.c≤9223372036854775807)∧(l≠ []→∃bb off,u.ao=some ⟨bb,off,none⟩)
theorem KB{u:Sl}{l:List Int}{I:gd}{w:World}(h:(NL u l).p I w):YW u l:=by
 obtain⟨h1,h2,h4⟩:=h;refine⟨h1,h2,fun hne=>?_⟩;obtain⟨bb,off,ha,_⟩:=h4 (by simpa using hne);exact⟨bb,off,ha⟩
theorem BB(s:Sl){b:List Int} [h:aZ (BF s) b Γ](hl:b.length≤1000000)(h4:b.length % 4=0):aw tb Tryz.prog 126 [aY s] Γ (fun v Δ=>∃u:Sl,YW u (e_ b)∧v=.tuple #[aY u,.int .i64 0]∧Δ=[NL u (e_ b)]):=by
 have:=KP (Γ:=Γ) s hl;rw[show(b.length % 4==0)=true by simpa using h4]at this;refine(pX (fun v Δ=>∃u:Sl,YW u (e_ b)∧v=.tuple #[aY u,.int .i64 0]∧Δ=[NL u (e_ b)]) this ?_).post (fun _ _ h=>h.2);rintro v Δ ⟨u,rfl,rfl⟩ I w hh;exact⟨u,KB hh.h0',rfl,rfl⟩
theorem PW(s:Sl){b:List Int} [h:aZ (BF s) b Γ](hl:b.length≤1000000)(h4:¬b.length % 4=0):aw tb Tryz.prog 126 [aY s] Γ (jy (.tuple #[.slice none 0 0,.int .i64 3])):=by
 have:=KP (Γ:=Γ) s hl;rw[show(b.length % 4==0)=false by simpa using h4]at this;exact this
theorem yE(s:Sl){b:List Int} [h:aZ (BF s) b Γ](hl:b.length≤1000000)(h4:b.length % 2=0):aw tb Tryz.prog 129 [aY s] Γ (fun v Δ=>∃u:Sl,YW u (dU b)∧v=.tuple #[aY u,.int .i64 0]∧Δ=[NL u (dU b)]):=by
 have:=Qd (Γ:=Γ) s hl;rw[show(b.length % 2==0)=true by simpa using h4]at this;refine(pX (fun v Δ=>∃u:Sl,YW u (dU b)∧v=.tuple #[aY u,.int .i64 0]∧Δ=[NL u (dU b)]) this ?_).post (fun _ _ h=>h.2);rintro v Δ ⟨u,rfl,rfl⟩ I w hh;exact⟨u,KB hh.h0',rfl,rfl⟩
theorem iR(f p:Sl){x:Im} [h:aZ (oE f p) x Γ](k w:Int)(hx:qu x)(hk:YX k):
  aw tb Tryz.prog 127 [nd f p,.int .u8 k,.int .i64 w] Γ (jy (.int .i64 (cC x k w))):=by
 refine aw.of_W au Tryz.func127 rfl ?_;cases ho:dJ x k with
 |none=>
  have e:cC x k w=w:=by unfold cC;rw[ho]
  refine W.c0 [] (ri f p (x:=x) k hx.short ho) (bh [] 18 (!false) rfl (W.r [18] (.int .i64 w) ⟨by rw[e],rfl⟩ bX))
 |some r=>
  have e:cC x k w=if r.d=2∨r.b.length % 4≠0 then(dU r.b).headD 0 else(e_ r.b).headD 0:=by unfold cC;rw[ho]
  have hln:=hx.num ho hk;have hsh:=hx.short r (kO ho).1;have hs0:(dU r.b)[0]? =some ((dU r.b).headD 0):=by
   have:=ss r.b;cases hq:dU r.b with
   |nil=>rw[hq]at this;simp at this;omega
   |cons a l=>rfl
  have hs1:dU r.b≠ []:=by intro e;rw[e]at hs0;simp at hs0
  refine W.c1 [] (rj f p (x:=x) k hx.short ho) (fun u=>aO [] 18 (!true) rfl (W.more (Δ:=[BF u r.b]) (by kernel_rfl) (uu u) ?_));by_cases h4:r.b.length % 4=0
  ·have hl0:(e_ r.b)[0]? =some ((e_ r.b).headD 0):=by
    have:=q7 r.b;cases hq:e_ r.b with
    |nil=>rw[hq]at this;simp at this;omega
    |cons a l=>rfl
   have hl1:e_ r.b≠ []:=by intro e;rw[e]at hl0;simp at hl0
   refine jD [18] (BB u (b:=r.b) hsh h4) ?_;rintro _ _ ⟨u2,⟨g1,g2,g3⟩,rfl,rfl⟩;have hd:r.d=3:=by omega
   rw[if_neg (by omega)]at e;refine aO [] 29 (r.d==2) (by rw[hd];decide) (aO [29] 32 ((0:Int) != 0) (by decide) ?_);obtain⟨bb,off,ha⟩:=g3 hl1;obtain⟨ua,un,uc⟩:=u2;simp only at g1 g2 ha;subst ha;refine bI [32] 1 bb off un uc .i64 0 0 rfl au (by have:=(List.getElem?_eq_some_iff.1 hl0).1;omega) (cX [] 1 bb (off+0*1) (.int .i64 ((e_ r.b).headD 0)) au (sM bb off un uc hl0) (W.r [] (.int .i64 ((e_ r.b).headD 0)) ⟨by rw[e],rfl⟩ bX))
  ·rw[if_pos (.inr h4)]at e;have h2:r.b.length % 2=0:=by omega
   refine W.c0 [18] (PW u (b:=r.b) hsh h4) (W.d [] 29 (r.d==2) (fun _=>?_) (fun _=>?_))
   ·refine jD [32,29] (yE u (b:=r.b) hsh h2) ?_;rintro _ _ ⟨u2,⟨g1,g2,g3⟩,rfl,rfl⟩;obtain⟨bb,off,ha⟩:=g3 hs1;obtain⟨ua,un,uc⟩:=u2;simp only at g1 g2 ha;subst ha;refine bI [] 1 bb off un uc .i64 0 0 rfl au (by have:=(List.getElem?_eq_some_iff.1 hs0).1;omega) (cX [] 1 bb (off+0*1) (.int .i64 ((dU r.b).headD 0)) au (sM bb off un uc hs0) (W.r [] (.int .i64 ((dU r.b).headD 0)) ⟨by rw[e],rfl⟩ bX))
   ·refine bh [29] 32 ((3:Int) != 0) (by decide) (jD [32] (yE u (b:=r.b) hsh h2) ?_);rintro _ _ ⟨u2,⟨g1,g2,g3⟩,rfl,rfl⟩;obtain⟨bb,off,ha⟩:=g3 hs1;obtain⟨ua,un,uc⟩:=u2;simp only at g1 g2 ha;subst ha;refine bI [] 1 bb off un uc .i64 0 0 rfl au (by have:=(List.getElem?_eq_some_iff.1 hs0).1;omega) (cX [] 1 bb (off+0*1) (.int .i64 ((dU r.b).headD 0)) au (sM bb off un uc hs0) (W.r [] (.int .i64 ((dU r.b).headD 0)) ⟨by rw[e],rfl⟩ bX))
theorem j7(f p:Sl){x:Im} [h:aZ (oE f p) x Γ](hx:qu x):aw tb Tryz.prog 81 [nd f p] Γ (jy (.int .u8 (cz x))):=by
 obtain⟨fa,fn,fc⟩:=f;refine aw.of_W au Tryz.func81 rfl (W.more (Δ:=[kW ⟨fa,fn,fc⟩ x.f]) rfl (fun I w _ hh=>aT (h.p hh).1) (W.len de dE.r ⟨fa,fn,fc⟩ rfl (fun h1 h2 h3=>?_)));simp only at h1 h2 h3;have hr:x.f[0]? =some (x.f.headD default):=by
  have:=hx.1;cases hq:x.f with
  |nil=>exact absurd hq this
  |cons a l=>rfl
 refine o8 ⟨fa,fn,fc⟩ hr (fun b off u ha=>?_);simp only at ha;subst ha;refine bI [] 3 b off fn fc .i64 0 0 rfl au (by have:=(List.getElem?_eq_some_iff.1 hr).1;omega) (bN [] 0 b (off+0*3) au (cX [] 1 b (off+0*3+0) (.int .u8 (cz x)) au (fun I w hd hh=>bH b (off+0*3) I w hd hh 0 _ rfl) (W.r [] (.int .u8 (cz x)) ⟨rfl,rfl⟩ bX)))
theorem xA(f p:Sl){x:Im} [h:aZ (oE f p) x Γ](hx:qu x):aw tb Tryz.prog 79 [nd f p] Γ (jy (.tuple #[.string (strOfNums ((ig x).getD [])),.bool (ig x).isSome])):=by
 refine aw.of_W au Tryz.func79 rfl ?_;unfold ig;cases ho:dJ x 18 with
 |none=>
  refine W.c0 [] (ri f p (x:=x) 18 hx.short ho) (jT [] (Γ':=[BF ⟨none,0,0⟩ []]) (fun I w _ _=>aT (rL _ _ _)) (nI ⟨none,0,0⟩ (b:=[])) ?_);rintro _ _ ⟨rfl,rfl⟩;exact W.r [] (.tuple #[.string (ik []),.bool false]) ⟨rfl,rfl⟩ bX
 |some r=>
  refine W.c1 [] (rj f p (x:=x) 18 hx.short ho) (fun u=>jT [] (uu u) (nI u (b:=r.b)) ?_);rintro _ _ ⟨rfl,rfl⟩;exact W.r [] (.tuple #[.string (ik r.b),.bool true]) ⟨rfl,rfl⟩ bX
theorem tY(f p:Sl){x:Im} [h:aZ (oE f p) x Γ](hx:qu x):aw tb Tryz.prog 83 [nd f p] Γ (jy (.tuple #[.int .i64 (bJ x).1,.int .i64 (bJ x).2])):=by
 refine aw.of_W au Tryz.func83 rfl ?_;cases ho:dJ x 19 with
 |none=>
  have e:bJ x=(1,1):=by unfold bJ;rw[ho]
  refine W.c0 [] (ri f p (x:=x) 19 hx.short ho) (bh [] 14 (!false) rfl (W.r [14] (.tuple #[.int .i64 1,.int .i64 1]) ⟨by rw[e],rfl⟩ bX))
 |some r=>
  have hsh:=hx.short r (kO ho).1;obtain⟨_,l1,l2,l3⟩:=hx.len ho (s:=⟨2,4,1,1⟩) rfl;simp only at l1 l2 l3;have hs:(dU r.b).length=2:=by rw[ss];omega
  obtain⟨a,b,hab⟩:∃a b,dU r.b=[a,b]:=by
   match hq:dU r.b,hs with
   | [a,b],_=>exact⟨a,b,rfl⟩
  have e:bJ x=(a,b):=by unfold bJ;rw[ho];simp[hab]
  refine W.c1 [] (rj f p (x:=x) 19 hx.short ho) (fun u=>aO [] 14 (!true) rfl (W.more (Δ:=[BF u r.b]) (by kernel_rfl) (uu u) (jD [14] (yE u (b:=r.b) hsh (by omega)) ?_)));rintro _ _ ⟨u2,⟨g1,g2,g3⟩,rfl,rfl⟩;rw[hab]at g1 g3⊢;obtain⟨bb,off,ha⟩:=g3 (by simp);obtain⟨ua,un,uc⟩:=u2;simp only[aB,a_]at g1 g2 ha;subst ha;refine bI [] 1 bb off un uc .i64 0 0 rfl au (by omega) (cX [] 1 bb (off+0*1) (.int .i64 a) au (sM bb off un uc (l:=[a,b]) rfl) (bI [] 1 bb off un uc .i64 1 1 rfl au (by omega) (cX [] 1 bb (off+1*1) (.int .i64 b) au (sM bb off un uc (l:=[a,b]) rfl) (W.r [] (.tuple #[.int .i64 a,.int .i64 b]) ⟨by rw[e],rfl⟩ bX))))
theorem P8(f p:Sl){x:Im} [h:aZ (oE f p) x Γ](hx:qu x):aw tb Tryz.prog 80 [nd f p] Γ (fun v Δ=>∃u:Sl,v=aY u∧Δ=[sS u (bT x)]):=by
 refine aw.of_W au Tryz.func80 rfl ?_;cases ho:dJ x 16 with
 |none=>
  have e:bT x=[]:=by unfold bT;rw[ho]
  rw[e];refine W.c0 [] (ri f p (x:=x) 16 hx.short ho) (jT [] (Γ':=[BF ⟨none,0,0⟩ []]) (fun I w _ _=>aT (rL _ _ _)) (BB ⟨none,0,0⟩ (b:=[]) (by decide) (by decide)) ?_);rintro _ _ ⟨u2,⟨g1,g2,g3⟩,rfl,rfl⟩;have hu0:u2.n=0:=g1;refine j5 [] 1 (aO [] 24 (decide (IntKind.i64.wrap (0+1)<(u2.n:Int))) (by rw[hu0];decide) (W.r [24] (.slice none 0 0) ⟨⟨none,0,0⟩,rfl,rfl⟩ (fun I w _ _=>aT ⟨rfl,⟨aj _,aH _⟩,RA.nil _ _ _⟩)))
 |some r=>
  have hsh:=oh (hx.2 r (kO ho).1);obtain⟨_,l1,l2,l3⟩:=hx.len ho (s:=⟨3,8,1,8191⟩) rfl;simp only at l1 l2 l3;have hln:=q7 r.b;refine W.c1 [] (rj f p (x:=x) 16 hx.short ho) (fun u=>jT [] (uu u) (BB u (b:=r.b) (by omega) (by omega)) ?_);rintro _ _ ⟨u2,⟨g1,g2,g3⟩,rfl,rfl⟩;obtain⟨l,hl⟩:∃l,e_ r.b=l:=⟨_,rfl⟩;have e:bT x=kh l:=by unfold bT;rw[ho,←hl]
  rw[hl]at hln g1 g3⊢;rw[e];have hpl:=yI l;refine gY [] [7,8] (fun a:T9=>[(7,a.v),(8,.int .i64 a.z)]) (fun _=>[]) (fun a=>a.O) (fun _=>[NL u2 l]) (fun a=>a.z=2*(a.i:Int)∧2*a.i≤l.length∧cH 2 a.O a.v a.i (((kh l).take a.i).flatMap ed)) (fun a=>l.length-2*a.i) ⟨0,0,.slice none 0 0,[]⟩ ⟨rfl,aH _,cH.nil 2⟩ (eC eK eE) ?_;rintro⟨i,z,v,O⟩ K ⟨hz,hi,hg⟩ close;simp only at hz hi hg;by_cases hlt:2*i+1<l.length
  ·obtain⟨a,ha⟩:∃x,l[2*i]? =some x:=⟨_,ah (by omega)⟩;obtain⟨b,hb⟩:∃x,l[2*i+1]? =some x:=⟨_,ah hlt⟩;obtain⟨bb,off,hao⟩:=g3 (by rintro rfl;simp at hlt);obtain⟨ua,un,uc⟩:=u2;simp only at g1 g2 hao;subst hao;refine bh [] 24 (decide (IntKind.i64.wrap (z+1)<(un:Int))) (ar (by rw[af];omega)) (bI [24] 1 bb off un uc .i64 (2*i) z (by omega) au (by omega) (cX [] 1 bb (off+2*i*1) (.int .i64 a) au (sM bb off un uc ha) (bI [] 1 bb off un uc .i64 (2*i+1) (IntKind.i64.wrap (z+1)) (by rw[af];omega) au (by omega) (cX [] 1 bb (off+(2*i+1)*1) (.int .i64 b) au (sM bb off un uc hb) (cW [] 1 (ed ⟨a,b⟩) au (fun B=>W.app [] O [] O [] 2 16 i 1 v (.slice (some ⟨B,0,none⟩) 1 1) (((kh l).take i).flatMap ed) (ed ⟨a,b⟩) au hg (cg B O 1 2 rfl 1) (qG _) (fun v' O' hg'=>close [] _ _ ⟨i+1,IntKind.i64.wrap (z+2),v',O'⟩ (by kernel_rfl) (by simp only[az,ai];kernel_rfl) ⟨by simp only[af];omega,by simp only;omega,cH.cast ?_ rfl hg'⟩ (by simp only;omega) (eC eK eE))))))));rw[kS (Ho l i a b ha hb),br];simp
  ·refine aO [] 24 (decide (IntKind.i64.wrap (z+1)<(u2.n:Int))) (ak (by rw[af];omega)) ?_;have hi2:i=(kh l).length:=by omega
   rw[aR (by omega)]at hg;refine l8 (by simp only[az,ai];kernel_rfl) hg (fun ao c' hv hc'=>?_);subst hv;have hcm:c'≤maxLen:=pz hg;refine W.r [24] (.slice ao i c') ⟨⟨ao,i,c'⟩,rfl,rfl⟩ (fun I w _ hh=>aT (show(sS ⟨ao,i,c'⟩ (kh l)).p I w from⟨hi2,⟨hc',hcm⟩,aZ.p (k:=RA ao) (a:=(kh l).flatMap ed) inferInstance hh⟩))
end
abbrev PO(pb:Nat)(sl:Sl)(at':Nat):List (Nat×List Value):=[(pb,[aY sl,.int .i64 at'])]
abbrev fu(b:Nat):Value:=.pointer (some ⟨b,0,none⟩)
abbrev yW:Value:=.iface 149 (.agg #[])
abbrev sw(B:Prop):Tb:=tbM [122,123,121,183,124,182,73] B yW
theorem aQ(B:Prop):(sw B).Ok Tryz.prog:=aaY _ B yW
def XY(ks:List Int)(l:List Re):Bool:=match l with
 |r::_=>ks.contains r.k
 | []=>false
theorem vm(k:Int)(l:List Re):XY [k] l=dL k l:=by
 cases l with
 |nil=>rfl
 |cons r m=>
  by_cases h:r.k=k<;>simp[XY,dL,h]
section
variable{T:Tb}{P:Program}{fin:VS→List aC→Prop}{c:fF}{Γ:List aC}
theorem W.pan(D:List Nat)(n:Nat)(v:Value)(hp:T.pan [{v,recovered:=false}])(hh:Ov T (aV T D n c))(h:xH T (aV T D n c)=some v:=by kernel_rfl):W T P fin c Γ:=
 ez D n (.panic v h hp hh)
end
theorem BU{k:Int}{rs:List Re}{i:Nat}{r:Re}(h:rs[i]? =some r):gK k (rs.drop i)=if r.k=k∧fr r=true then some (r,rs.drop (i+1))else none:=by
 rw[show rs.drop i=r::rs.drop (i+1)from by
  have:=(List.getElem?_eq_some_iff.1 h);obtain⟨h1,h2⟩:=this;rw[bA h1,h2]]
 rfl
theorem HK{ks:List Int}{rs:List Re}{i:Nat}{r:Re}(h:rs[i]? =some r):XY ks (rs.drop i)=ks.contains r.k:=by
 rw[show rs.drop i=r::rs.drop (i+1)from by
  have:=(List.getElem?_eq_some_iff.1 h);obtain⟨h1,h2⟩:=this;rw[bA h1,h2]]
 rfl
section
variable{Γ:List aC}
theorem PL(b n:Nat){ks:List Int}(k:Int) [h:aZ (eT b) (ks.map (Value.int .u8)) Γ](hn:n=ks.length)(hn2:n≤8191):
  aw tb Tryz.prog 228 [.slice (some ⟨b,0,none⟩) n n,.int .u8 k] Γ (fun v Δ=>∃z:Int,v=.int .i64 z∧Δ=[]∧decide (z≥0)=ks.contains k):=by
 refine aw.of_W au Tryz.func228 rfl (x7 [] [8] (fun a:Nat×Int=>[(8,.int .i64 a.2)]) (fun _=>[]) (fun _=>[eT b (ks.map (Value.int .u8))]) (fun a=>a.2=a.1∧a.1≤n∧∀i (h:i<ks.length),i<a.1→ks[i]'h≠k) (fun a=>n-a.1) (0,0) ⟨rfl,aH _,fun i _ h=>by omega⟩ (eC eK eE) ?_);rintro⟨i,z⟩ K ⟨hz,hi,hall⟩ close;simp only at hz hi hall;by_cases hlt:i<n
 ·have hil:i<ks.length:=by omega
  refine bh [] 9 (decide (z<(n:Int))) (ar (by omega)) (bI [9] 1 b 0 n n .i64 i z hz au hlt (cX [] 1 b (0+i*1) (.int .u8 (ks[i]'hil)) au (fun I w _ hh=>by
   have:=aZ.p (k:=eT b) (a:=ks.map (Value.int .u8)) inferInstance hh;exact RA.cell (RA.of_row this (fun _ _ q=>q)) (by rw[fE,bL,ah hil];rfl)) ?_))
  refine W.d [] 16 (k==ks[i]'hil) (fun hb=>?_) (fun hb=>?_)
  ·refine W.r [16] (.int .i64 z) ⟨z,rfl,rfl,?_⟩ bX;rw[ar (by omega),eq_of_beq hb];exact(List.contains_iff_mem.2 (d_ hil)).symm
  ·refine close [16] _ _ (i+1,IntKind.i64.wrap (z+1)) (by kernel_rfl) (by kernel_rfl) ⟨by simp only[af];omega,hlt,fun j hj hji=>?_⟩ (by simp only;omega) (eC eK eE);by_cases hj2:j<i
   ·exact hall j hj hj2
   ·obtain rfl:j=i:=by simp only at hji;omega
    exact fun e=>jv hb e.symm
 ·refine aO [] 9 (decide (z<(n:Int))) (ak (by omega)) (W.r [9] (.int .i64 (-1)) ⟨-1,rfl,rfl,?_⟩ bX);cases hc:ks.contains k with
  |false=>rfl
  |true=>
   obtain⟨j,hj,he⟩:=ox (List.contains_iff_mem.1 hc);exact absurd he (hall j hj (by omega))
theorem Hi(b n:Nat){ks:List Int}(k:Int) [h:aZ (eT b) (ks.map (Value.int .u8)) Γ](hn:n=ks.length)(hn2:n≤8191):
  aw tb Tryz.prog 179 [.slice (some ⟨b,0,none⟩) n n,.int .u8 k] Γ (jy (.bool (ks.contains k))):=by
 refine aw.of_W au Tryz.func179 rfl (jD [] (PL b n (ks:=ks) k hn hn2) ?_);rintro _ _ ⟨z,rfl,rfl,hz⟩;exact W.r [] (.bool (decide (z≥0))) ⟨by rw[hz],rfl⟩ bX
theorem r_(B:Prop)(pb:Nat)(sl:Sl)(at' kb n:Nat){rs:List Re}{ks:List Int} [h:aZ (kW sl) rs Γ] [h2:aZ (eT kb) (ks.map (Value.int .u8)) Γ](hn:n=ks.length)(hn2:n≤8191:=by decide):
  dD (sw B) Tryz.prog 122 [fu pb,.slice (some ⟨kb,0,none⟩) n n] (PO pb sl at') [] Γ (fun v O M Δ=>v=.bool (XY ks (rs.drop at'))∧O=PO pb sl at'∧M=[]∧Δ=[]):=by
 refine dD.of_W (aQ B) Tryz.func122 rfl ?_;obtain⟨sa,sn,sc⟩:=sl;refine W.len de dE.r ⟨sa,sn,sc⟩ rfl (fun h1 h2 h3=>?_);simp only at h1 h2 h3;by_cases hlt:at'<sn
 ·obtain⟨r,hr⟩:∃r,rs[at']? =some r:=⟨_,ah (by omega)⟩;refine o8 ⟨sa,sn,sc⟩ hr (fun b off u ha=>?_);simp only at ha;subst ha;refine bN [] 1 pb 0 (aQ B) (dS [] (PO pb ⟨some ⟨b,off,none⟩,sn,sc⟩ at') pb (0+1) 1 [.slice (some ⟨b,off,none⟩) sn sc,.int .i64 at'] (.int .i64 at') (aQ B) (.head _) rfl (bN [] 0 pb 0 (aQ B) (dS [] (PO pb ⟨some ⟨b,off,none⟩,sn,sc⟩ at') pb (0+0) 1 [.slice (some ⟨b,off,none⟩) sn sc,.int .i64 at'] (.slice (some ⟨b,off,none⟩) sn sc) (aQ B) (.head _) rfl (bh [] 15 (decide ((at':Int)<(sn:Int))) (ar (by omega)) (bN [15] 0 pb 0 (aQ B) (dS [15] (PO pb ⟨some ⟨b,off,none⟩,sn,sc⟩ at') pb (0+0) 1 [.slice (some ⟨b,off,none⟩) sn sc,.int .i64 at'] (.slice (some ⟨b,off,none⟩) sn sc) (aQ B) (.head _) rfl (bN [15] 1 pb 0 (aQ B) (dS [15] (PO pb ⟨some ⟨b,off,none⟩,sn,sc⟩ at') pb (0+1) 1 [.slice (some ⟨b,off,none⟩) sn sc,.int .i64 at'] (.int .i64 at') (aQ B) (.head _) rfl (bI [15] 3 b off sn sc .i64 at' at' rfl (aQ B) hlt (bN [15] 0 b (off+at'*3) (aQ B) ?_))))))))));refine cX [15] 1 b (off+at'*3+0) (.int .u8 r.k) (aQ B) (fun I w hd hh=>bH (T:=sw B) b (off+at'*3) I w hd hh 0 _ rfl) (W.c0 [15] (Hi kb n (ks:=ks) r.k hn hn2).m (ku [15] (.bool (ks.contains r.k)) (PO pb ⟨some ⟨b,off,none⟩,sn,sc⟩ at') [] ⟨by rw[HK hr],rfl,rfl,rfl⟩ bX))
 ·refine bN [] 1 pb 0 (aQ B) (dS [] (PO pb ⟨sa,sn,sc⟩ at') pb (0+1) 1 [.slice sa sn sc,.int .i64 at'] (.int .i64 at') (aQ B) (.head _) rfl (bN [] 0 pb 0 (aQ B) (dS [] (PO pb ⟨sa,sn,sc⟩ at') pb (0+0) 1 [.slice sa sn sc,.int .i64 at'] (.slice sa sn sc) (aQ B) (.head _) rfl (aO [] 15 (decide ((at':Int)<(sn:Int))) (ak (by omega)) (ku [15] (.bool false) (PO pb ⟨sa,sn,sc⟩ at') [] ⟨by rw[bp (by omega)];rfl,rfl,rfl,rfl⟩ bX)))))
def Vz(k:Int)(pb:Nat)(sl:Sl)(at':Nat)(rs:List Re)(v:Value)(O:List (Nat×List Value))(M:List (Nat×List (Value×Value)))(Δ:List aC):Prop:=
 ∃(r:Re) (u:Sl),gK k (rs.drop at')=some (r,rs.drop (at'+1))∧v=rev r u∧O=PO pb sl (at'+1)∧M=[]∧Δ=[wJ u r]
theorem mr(B:Prop)(pb:Nat)(sl:Sl)(at':Nat)(k:Int){rs:List Re} [h:aZ (kW sl) rs Γ](hB:gK k (rs.drop at')=none→B):
  dD (sw B) Tryz.prog 123 [fu pb,.int .u8 k] (PO pb sl at') [] Γ (Vz k pb sl at' rs):=by
 refine dD.of_W (aQ B) Tryz.func123 rfl ?_;obtain⟨sa,sn,sc⟩:=sl;refine W.len de dE.r ⟨sa,sn,sc⟩ rfl (fun h1 h2 h3=>?_);simp only at h1 h2 h3;by_cases hlt:at'<sn
 ·obtain⟨r,hr⟩:∃r,rs[at']? =some r:=⟨_,ah (by omega)⟩;rw[BU hr]at hB;refine o8 ⟨sa,sn,sc⟩ hr (fun b off u ha=>?_);simp only at ha;subst ha;refine cW [] 1 [.int .u8 k] (aQ B) (fun kb=>dp [] [] (PO pb ⟨some ⟨b,off,none⟩,sn,sc⟩ at') [] [] [] [] ⟨rfl,by rfl,trivial⟩ (r_ B pb ⟨some ⟨b,off,none⟩,sn,sc⟩ at' kb 1 (rs:=rs) (ks:=[k]) rfl) ?_);rintro _ _ _ _ ⟨rfl,rfl,rfl,rfl⟩;rw[HK hr];by_cases hk:r.k=k
  ·refine aO [] 11 (![k].contains r.k) (by simp[hk]) (bN [11] 0 pb 0 (aQ B) (dS [11] (PO pb ⟨some ⟨b,off,none⟩,sn,sc⟩ at') pb (0+0) 1 [.slice (some ⟨b,off,none⟩) sn sc,.int .i64 at'] (.slice (some ⟨b,off,none⟩) sn sc) (aQ B) (.head _) rfl (bN [11] 1 pb 0 (aQ B) (dS [11] (PO pb ⟨some ⟨b,off,none⟩,sn,sc⟩ at') pb (0+1) 1 [.slice (some ⟨b,off,none⟩) sn sc,.int .i64 at'] (.int .i64 at') (aQ B) (.head _) rfl (bI [11] 3 b off sn sc .i64 at' at' rfl (aQ B) hlt (cJ [11] b (off+at'*3) [.int .u8 r.k,.int .u8 r.d,aY u] (aQ B) (bH b (off+at'*3)) (W.c0 [11] (Qb u r).m ?_)))))));by_cases hg:fr r=true
   ·refine aO [11] 24 (!fr r) (by rw[hg];rfl) ?_;have hsh:=oh hg;have hw:IntKind.i64.wrap ((at':Int)+1)=((at'+1:Nat):Int):=by rw[af];omega
    refine bN [24] 1 pb 0 (aQ B) (dS [] (PO pb ⟨some ⟨b,off,none⟩,sn,sc⟩ at') pb (0+1) 1 [.slice (some ⟨b,off,none⟩) sn sc,.int .i64 at'] (.int .i64 at') (aQ B) (.head _) rfl (bN [] 1 pb 0 (aQ B) (oF [] (PO pb ⟨some ⟨b,off,none⟩,sn,sc⟩ at') [] [] 1 pb (0+1) [.slice (some ⟨b,off,none⟩) sn sc,.int .i64 at'] (.int .i64 (IntKind.i64.wrap ((at':Int)+1))) [.slice (some ⟨b,off,none⟩) sn sc,.int .i64 ((at'+1:Nat):Int)] (aQ B) rfl rfl (KH _ _) (aj _) (by rw[hw];rfl) (bN [] 0 pb 0 (aQ B) (dS [] (PO pb ⟨some ⟨b,off,none⟩,sn,sc⟩ (at'+1)) pb (0+0) 1 [.slice (some ⟨b,off,none⟩) sn sc,.int .i64 ((at'+1:Nat):Int)] (.slice (some ⟨b,off,none⟩) sn sc) (aQ B) (.head _) rfl (bN [] 1 pb 0 (aQ B) (dS [] (PO pb ⟨some ⟨b,off,none⟩,sn,sc⟩ (at'+1)) pb (0+1) 1 [.slice (some ⟨b,off,none⟩) sn sc,.int .i64 ((at'+1:Nat):Int)] (.int .i64 ((at'+1:Nat):Int)) (aQ B) (.head _) rfl (bI [] 3 b off sn sc .i64 at' (IntKind.i64.wrap (((at'+1:Nat):Int)-1)) (by rw[af];omega) (aQ B) hlt (cJ [] b (off+at'*3) [.int .u8 r.k,.int .u8 r.d,aY u] (aQ B) (bH b (off+at'*3)) (jT [] (uu u (r:=r)) (KM u (b:=r.b) (by omega)).m ?_))))))))));rintro _ _ ⟨u2,rfl,rfl⟩;refine ku [] (rev r u2) (PO pb ⟨some ⟨b,off,none⟩,sn,sc⟩ (at'+1)) [] ⟨r,u2,by rw[BU hr,if_pos ⟨hk,hg⟩],rfl,rfl,rfl,rfl⟩ (fun I w _ hh=>?_)
    have g:=aZ.p (k:=wJ u) (a:=r) inferInstance hh;exact aT ⟨g.1,g.2.1,aZ.p (k:=BF u2) (a:=r.b) inferInstance hh⟩
   ·refine bh [11] 24 (!fr r) (by simpa using hg) (W.pan [24] 1 yW ⟨hB (by rw[if_neg (fun q=>hg q.2)]),rfl⟩ ⟨[],trivial,fun x hx=>by simp at hx⟩)
  ·refine bh [] 11 (![k].contains r.k) (by simp[hk]) (bh [11] 24 true rfl (W.pan [24] 1 yW ⟨hB (by rw[if_neg (fun q=>hk q.1)]),rfl⟩ ⟨[],trivial,fun x hx=>by simp at hx⟩))
 ·have hd:rs.drop at'=[]:=bp (by omega);refine cW [] 1 [.int .u8 k] (aQ B) (fun kb=>dp [] [] (PO pb ⟨sa,sn,sc⟩ at') [] [] [] [] ⟨rfl,by rfl,trivial⟩ (r_ B pb ⟨sa,sn,sc⟩ at' kb 1 (rs:=rs) (ks:=[k]) rfl) ?_);rintro _ _ _ _ ⟨rfl,rfl,rfl,rfl⟩;rw[hd];refine bh [] 11 (!XY [k] []) rfl (bh [11] 24 true rfl (W.pan [24] 1 yW ⟨hB (by rw[hd];rfl),rfl⟩ ⟨[],trivial,fun x hx=>by simp at hx⟩))
end
def iY(v:Value)(es:List dE):aC where
 p I w:=(OS de (0,es)).p I w
 up:=(OS de (0,es)).up
def JX(p:oy (List Re))(N:Nat)(pb:Nat)(sl:Sl)(at':Nat)(rs:List Re)(v:Value)(O:List (Nat×List Value))(M:List (Nat×List (Value×Value)))(Δ:List aC):Prop:=
 ∃(es:List dE) (at2:Nat) (Or:List (Nat×List Value)),p (rs.drop at')=some (es.map dE.r,rs.drop at2)∧at'≤at2∧es.length≤N∧O=PO pb sl at2++Or∧cH 3 Or v es.length (es.flatMap de.cells)∧M=[]∧Δ=[iY v es]
structure RSt where
 i:Nat
 z:Int
 v:Value
 O:List (Nat×List Value)
 a:Nat
 es:List dE
theorem TC(es:List dE):(es.flatMap de.cells).length=es.length*3:=qp de es
theorem BW{k:Int}{ks:List Int}{l:List Re}(h:k<256∨dL (k % 256) l=true):dq (k::ks) l=match gK (k % 256) l with
  |some (r,m)=>(match dq ks m with
   |some (rs,m')=>some (r::rs,m')
   |none=>none)
  |none=>none:=by
 rw[dq,if_pos h];rfl
theorem MI{k:Int}{ks:List Int}{l:List Re}(h:¬(k<256∨dL (k % 256) l=true)):dq (k::ks) l=dq ks l:=by
 rw[dq,if_neg h]
theorem iJ{α:Type}{l:List α}{i:Nat}{a:α}(h:l[i]? =some a):l.drop i=a::l.drop (i+1):=by
 obtain⟨h1,h2⟩:=List.getElem?_eq_some_iff.1 h;rw[bA h1,h2]
section
variable{T:Tb}{Γ:List aC}
theorem PC:∀(I:gd) (w:World),bj T I w→aD Γ I w→(OS de (0,[])).p I w:=fun I w _ _ e he=>by simp at he
theorem KL{es:List dE}(u:Sl){r:Re} [h1:aZ (OS de) (0,es) Γ] [h2:aZ (wJ u) r Γ]:∀(I:gd) (w:World),bj T I w→aD Γ I w→(OS de (0,es++[⟨u,r⟩])).p I w:=fun I w _ hh e he=>by
 rcases List.mem_append.1 he with he|he
 ·exact h1.p hh e he
 ·simp only[aF,aJ,b_]at he;subst he;exact h2.p hh
end
section
variable{Γ:List aC}
theorem mu(B:Prop)(pb:Nat)(sl:Sl)(at' kb n:Nat){rs:List Re}{ks:List Int} [h:aZ (kW sl) rs Γ] [h2:aZ (eT kb) (ks.map (Value.int .i64)) Γ](hn:n=ks.length)(hB:dq ks (rs.drop at')=none→B)(hn2:n≤1000:=by decide):
  dD (sw B) Tryz.prog 121 [fu pb,.slice (some ⟨kb,0,none⟩) n n] (PO pb sl at') [] Γ (JX (dq ks) n pb sl at' rs):=by
 refine dD.of_W (aQ B) Tryz.func121 rfl (gY [] [5,10] (fun a:RSt=>[(5,a.v),(10,.int .i64 a.z)]) (fun _=>[]) (fun a=>PO pb sl a.a++a.O) (fun a=>[kW sl rs,eT kb (ks.map (Value.int .i64)),OS de (0,a.es)]) (fun a=>a.z=a.i∧a.i≤n∧at'≤a.a∧a.es.length≤a.i∧cH 3 a.O a.v a.es.length (a.es.flatMap de.cells)∧dq ks (rs.drop at')=(match dq (ks.drop a.i) (rs.drop a.a)with
   |some (x,m)=>some (a.es.map dE.r++x,m)
   |none=>none)) (fun a=>n-a.i) ⟨0,0,.slice none 0 0,[],at',[]⟩ ⟨rfl,aH _,aj _,aH _,cH.nil 3,by
    simp only[h_,dd,az];cases dq ks (rs.drop at')<;>rfl⟩ (eC eK (eC eK (eC PC eE))) ?_)
 rintro⟨i,z,v,O,a,es⟩ K ⟨hz,hi,ha,hes,hg,hp⟩ close;simp only at hz hi ha hes hg hp;by_cases hlt:i<n
 ·obtain⟨k,hk⟩:∃k,ks[i]? =some k:=⟨_,ah (by omega)⟩;rw[iJ hk]at hp;have hw:IntKind.u8.wrap k=k % 256:=mI k;refine bh [] 11 (decide (z<(n:Int))) (ar (by omega)) (bI [11] 1 kb 0 n n .i64 i z hz (aQ B) hlt (cX [] 1 kb (0+i*1) (.int .i64 k) (aQ B) (fun I w _ hh=>by
   have:=aZ.p (k:=eT kb) (a:=ks.map (Value.int .i64)) inferInstance hh;exact RA.cell (RA.of_row this (fun _ _ q=>q)) (by rw[fE,bL,hk];rfl)) ?_))
  have hgo:(k<256∨dL (k % 256) (rs.drop a)=true)→∀(D:List Nat) (c:fF),True:=fun _ _ _=>trivial;by_cases h256:k<256
  ·have hone:=BW (ks:=ks.drop (i+1)) (l:=rs.drop a) (k:=k) (.inl h256);refine bh [] 16 (decide (k<256)) (ar h256) (bN [24,16] 0 pb 0 (aQ B) (dp [] [] (PO pb sl a) O [] [] [] ⟨rfl,by rfl,trivial⟩ (mr B pb sl a (IntKind.u8.wrap k) (rs:=rs) (fun hno=>hB (by rw[hw]at hno;rw[hp,hone,hno]))) ?_));rintro _ _ _ _ ⟨r,u,hm,rfl,rfl,rfl,rfl⟩;rw[hw]at hm;rw[hone,hm]at hp;refine cW [] 1 [.int .u8 r.k,.int .u8 r.d,aY u] (aQ B) (fun b5=>W.app [] (PO pb sl (a+1)++O) (PO pb sl (a+1)) O [] 3 32 es.length 1 v (.slice (some ⟨b5,0,none⟩) 1 1) (es.flatMap de.cells) [.int .u8 r.k,.int .u8 r.d,aY u] (aQ B) hg (cg b5 _ 1 3 rfl 1) (by simp[Value.oneCell']) (fun v' O' hg'=>close [] _ _ ⟨i+1,IntKind.i64.wrap (z+1),v',O',a+1,es++[⟨u,r⟩]⟩ (by kernel_rfl) (by simp only[ai];kernel_rfl) ⟨by simp only[af];omega,hlt,by simp only;omega,by simp only[aA,aB,a_];omega,cH.cast (by simp[de]) (by simp) hg',?_⟩ (by simp only;omega) (eC eK (eC eK (eC (KL u) eE)))));rw[hp];simp only;cases dq (ks.drop (i+1)) (rs.drop (a+1))with
   |none=>rfl
   |some q=>simp
  ·refine aO [] 16 (decide (k<256)) (ak h256) (bN [16] 0 pb 0 (aQ B) (cW [16] 1 [.int .u8 (IntKind.u8.wrap k)] (aQ B) (fun b7=>dp [16] [] (PO pb sl a) O [] [] [] ⟨rfl,by rfl,trivial⟩ (r_ B pb sl a b7 1 (rs:=rs) (ks:=[IntKind.u8.wrap k]) rfl) ?_)));rintro _ _ _ _ ⟨rfl,rfl,rfl,rfl⟩;rw[vm,hw];by_cases hs:dL (k % 256) (rs.drop a)=true
   ·have hone:=BW (ks:=ks.drop (i+1)) (l:=rs.drop a) (k:=k) (.inr hs);refine bh [16] 24 (dL (k % 256) (rs.drop a)) hs (bN [24] 0 pb 0 (aQ B) (dp [] [] (PO pb sl a) O [] [] [] ⟨rfl,by rfl,trivial⟩ (mr B pb sl a (IntKind.u8.wrap k) (rs:=rs) (fun hno=>hB (by rw[hw]at hno;rw[hp,hone,hno]))) ?_));rintro _ _ _ _ ⟨r,u,hm,rfl,rfl,rfl,rfl⟩;rw[hw]at hm;rw[hone,hm]at hp;refine cW [] 1 [.int .u8 r.k,.int .u8 r.d,aY u] (aQ B) (fun b5=>W.app [] (PO pb sl (a+1)++O) (PO pb sl (a+1)) O [] 3 32 es.length 1 v (.slice (some ⟨b5,0,none⟩) 1 1) (es.flatMap de.cells) [.int .u8 r.k,.int .u8 r.d,aY u] (aQ B) hg (cg b5 _ 1 3 rfl 1) (by simp[Value.oneCell']) (fun v' O' hg'=>close [] _ _ ⟨i+1,IntKind.i64.wrap (z+1),v',O',a+1,es++[⟨u,r⟩]⟩ (by kernel_rfl) (by simp only[ai];kernel_rfl) ⟨by simp only[af];omega,hlt,by simp only;omega,by simp only[aA,aB,a_];omega,cH.cast (by simp[de]) (by simp) hg',?_⟩ (by simp only;omega) (eC eK (eC eK (eC (KL u) eE)))));rw[hp];simp only;cases dq (ks.drop (i+1)) (rs.drop (a+1))with
    |none=>rfl
    |some q=>simp
   ·have hskip:=MI (ks:=ks.drop (i+1)) (l:=rs.drop a) (k:=k) (fun q=>q.elim h256 hs);refine aO [16] 24 (dL (k % 256) (rs.drop a)) (by simpa using hs) (close [24] _ _ ⟨i+1,IntKind.i64.wrap (z+1),v,O,a,es⟩ (by kernel_rfl) (by kernel_rfl) ⟨by simp only[af];omega,hlt,ha,by simp only;omega,hg,by rw[hp,hskip]⟩ (by simp only;omega) (eC eK (eC eK (eC eK eE))))
 ·refine aO [] 11 (decide (z<(n:Int))) (ak (by omega)) (ku [11] v (PO pb sl a++O) [] ⟨es,a,O,?_,ha,by omega,rfl,hg,rfl,rfl⟩ (eC (fun I w hd hh=>eK (k:=OS de) (a:=(0,es)) I w hd hh) eE));rw[hp,bp (by omega)];simp[dq]
theorem ER(B:Prop)(pb:Nat)(sl:Sl)(at':Nat){rs:List Re} [h:aZ (kW sl) rs Γ](hB:jI (rs.drop at')=none→B):
  dD (sw B) Tryz.prog 183 [fu pb] (PO pb sl at') [] Γ (JX jI 3 pb sl at' rs):=by
 refine dD.of_W (aQ B) Tryz.func183 rfl (bN [] 0 pb 0 (aQ B) (cW [] 1 [.int .u8 26] (aQ B) (fun b1=>dp [] [] (PO pb sl at') [] [] [] [] ⟨rfl,by rfl,trivial⟩ (r_ B pb sl at' b1 1 (rs:=rs) (ks:=[26]) rfl) ?_)));rintro _ _ _ _ ⟨rfl,rfl,rfl,rfl⟩;rw[vm];by_cases hs:dL 26 (rs.drop at')=true
 ·have ht:jI (rs.drop at')=dq [26,283,284] (rs.drop at'):=by unfold jI;rw[if_pos hs]
  rw[ht]at hB;refine aO [] 8 (!dL 26 (rs.drop at')) (by rw[hs];rfl) (cW [8] 3 [.int .i64 26,.int .i64 283,.int .i64 284] (aQ B) (fun b3=>dp [] [] (PO pb sl at') [] [] [] [] ⟨rfl,by rfl,trivial⟩ (mu B pb sl at' b3 3 (rs:=rs) (ks:=[26,283,284]) rfl hB) ?_));rintro v _ _ _ ⟨es,a,O,hp,ha,hl,rfl,hg,rfl,rfl⟩;exact ku [] v (PO pb sl a++O) [] (ho:=(by simp only[az,ai];kernel_rfl)) ⟨es,a,O,by rw[ht];exact hp,ha,hl,rfl,hg,rfl,rfl⟩ (eC eK eE)
 ·refine bh [] 8 (!dL 26 (rs.drop at')) (by simpa using hs) (ku [8] (.slice none 0 0) (PO pb sl at') [] ⟨[],at',[],by unfold jI;rw[if_neg hs];rfl,aj _,aH _,by rw[ai],cH.nil 3,rfl,rfl⟩ (eC PC eE))
end
theorem lk{z:Nat}{O:List (Nat×List Value)}{v:Value}{n:Nat}{xs:List Value}(h:cH z O v n xs):v.cells.size=1∧v.cells.toList=[v]∧v.oneCell'=true:=by
 rcases h.2 with⟨rfl,_,_⟩|⟨g,cap,cur,rfl,_⟩<;>exact⟨rfl,rfl,rfl⟩
section
variable{T:Tb}{P:Program}{fin:VS→List aC→Prop}{c:fF}{Γ:List aC}
theorem ij{own O:List (Nat×List Value)}{l:Value}{k z:Nat}{xs:List Value}(hg:cH z O l k xs)(hs:∀x∈O,x∈own):pY T Γ own l k z xs:=by
 obtain⟨hl,h⟩:=hg;rcases h with⟨rfl,rfl,rfl⟩|⟨g,cap,cur,rfl,rfl,h1,h2,h3,h4⟩
 ·exact⟨none,0,rfl,hl,fun h=>absurd h (Nat.lt_irrefl _)⟩
 ·refine⟨some ⟨g,0,none⟩,cap,rfl,hl,fun _=>⟨⟨g,0,none⟩,rfl,fun I w _ _ ho j u hu=>?_⟩⟩;obtain⟨e,_,hb⟩:=ho g cur (hs _ (by simp));rw[gZ,nV hb,bU];rw[←h4,dz]at hu;split at hu
  ·exact hu
  ·simp at hu
theorem Fw(A C:List (Nat×List Value)){k:List It}(hm:dF k=false):∀(O2:List (Nat×List Value)) (s:VS) (Γ:List aC),s.own=A++(O2++C)→W T P fin ⟨s.setOwn (A++C),k⟩ Γ→W T P fin ⟨s,k⟩ Γ
 | [],s,Γ,hs,h=>by
  rw[az]at hs;rw[←hs]at h;exact h
 |(b,cs)::O2,s,Γ,hs,h=>by
  refine W.pub (O1:=A) (O2:=O2++C) (b:=b) (cs:=cs) hm hs (W.sub hm (fun I w _ hh F hF=>hh F (by simp[hF])) (Fw A C hm O2 _ Γ rfl h))
theorem rI(A O2 C:List (Nat×List Value))(ho:(dN T 999 c).s.own=A++(O2++C))(hk:W T P fin ⟨(dN T 999 c).s.setOwn (A++C),(dN T 999 c).k⟩ Γ)(hm:dF (dN T 999 c).k=false:=by kernel_rfl):W T P fin c Γ:=
 W.code 999 (Fw A C hm O2 _ Γ ho hk)
end
section
variable{Γ:List aC}
theorem nk(B:Prop)(xb:Nat)(v pv l:Value)(m k:Nat)(xs news:List Value)(A Or Or2:List (Nat×List Value))(hg:cH 3 Or v m xs)(hr:pY (sw B) Γ ((xb,[v,pv])::(A++(Or2++Or))) l k 3 news)(h1:∀u∈news,u.oneCell'=true)(hn:m+k≤1000000:=by omega):
  dD (sw B) Tryz.prog 182 [l,fu xb] ((xb,[v,pv])::(A++(Or2++Or))) [] Γ (fun u O M Δ=>u=.tuple #[]∧(∃v' O',O=(xb,[v',pv])::(A++O')∧cH 3 O' v' (m+k) (xs++news))∧M=[]∧Δ=[]):=by
 refine dD.of_W (aQ B) Tryz.func182 rfl (bN [] 0 xb 0 (aQ B) (dS [] ((xb,[v,pv])::(A++(Or2++Or))) xb (0+0) 1 [v,pv] v (aQ B) (.head _) rfl (W.app [] ((xb,[v,pv])::(A++(Or2++Or))) ((xb,[v,pv])::(A++Or2)) Or [] 3 32 m k v l xs news (aQ B) hg hr h1 (hn:=hn) (fun v' O' hg'=>?_))));obtain⟨hs,hc,ho⟩:=lk hg';refine bN [] 0 xb 0 (aQ B) (oF [] (((xb,[v,pv])::(A++Or2))++O'++[]) [] ((A++Or2)++O'++[]) 1 xb (0+0) [v,pv] v' [v',pv] (aQ B) rfl hs (by rw[hc];intro u hu;simp at hu;subst hu;exact ho) (pT 1) (by rw[hc];rfl) (rI ((xb,[v',pv])::A) Or2 O' (by simp only[az,ai,dA,aU];kernel_rfl) (ku [] (.tuple #[]) ((xb,[v',pv])::(A++O')) [] ⟨rfl,⟨v',O',rfl,hg'⟩,rfl,rfl⟩ bX)))
end
end Go.Proofs.YtgaaopjagcaojaaGreat
