import Derived.Test.YtgaaopjagcaojaaGreatRc
import Derived.Test.YtgaaopjagcaojaaGreatMaths
import Derived.Laws.MakeOwn
import Derived.Laws.BytesArg
import Derived.Test.YtgaaopjagcaojaaGreatProg
import Derived.Test.YtgaaopjagcaojaaGreatNatM
import Derived.Deep.RegionHeld3
import Derived.Deep.RegionWith
import Derived.Deep.DrawnRows
import Derived.BigRegion
import Derived.Deep.DeepCutAuto
import Derived.Deep.LoopGhost
set_option linter.unusedSimpArgs false
set_option linter.unusedVariables false
set_option maxHeartbeats 8000000
namespace Go.Proofs.YtgaaopjagcaojaaGreat
open Go.RowKit Go.IntWalk
abbrev af:=@Go.IntKind.wrap_i64
def xX(f:Nat→Rat):Prop:=∃e:Rat,0<e∧∃K,∀k,K≤k→e≤f k
def wF(f:Nat→Rat):Prop:=∀e:Rat,0<e→∃K,∀k,K≤k→ -e≤f k∧f k≤e
def vy(f:Nat→Rat):Prop:=∃C:Rat,0<C∧∀k,-C≤f k∧f k≤C
def oM(f:Nat→Rat)(s:Int):Prop:=(s=1∧xX f)∨(s=0∧wF f)∨(s= -1∧xX (fun k=> -f k))
theorem w8{e:Rat}(h:0<e):0<e*Rat.divInt 1 2∧e*Rat.divInt 1 2+e*Rat.divInt 1 2=e:=by
 have h2:Rat.divInt 1 2+Rat.divInt 1 2=1:=by decide+kernel
 have h3:(0:Rat)<Rat.divInt 1 2:=by decide+kernel
 exact⟨fU h h3,by rw[←Rat.mul_add,h2,sT]⟩
theorem xX.congr{f g:Nat→Rat}(h:xX f)(e:∀k,f k=g k):xX g:=by rwa [funext e]at h
theorem wF.congr{f g:Nat→Rat}(h:wF f)(e:∀k,f k=g k):wF g:=by rwa [funext e]at h
theorem oM.eqf{f g:Nat→Rat}{s:Int}(h:oM f s)(e:∀k,f k=g k):oM g s:=by rwa [funext e]at h
theorem xX.add_nul{f g:Nat→Rat}(h:xX f)(h':wF g):xX (fun k=>f k+g k):=by
 obtain⟨e,he,K,hK⟩:=h;obtain⟨h1,h2⟩:=w8 he;obtain⟨K',hK'⟩:=h' _ h1;refine⟨_,h1,max K K',fun k hk=>?_⟩;have a:=hK k (by omega);have b:=(hK' k (by omega)).1;grind
theorem xX.add{f g:Nat→Rat}(h:xX f)(h':xX g):xX (fun k=>f k+g k):=by
 obtain⟨e,he,K,hK⟩:=h;obtain⟨e',he',K',hK'⟩:=h';refine⟨e,he,max K K',fun k hk=>?_⟩;have a:=hK k (by omega);have b:=hK' k (by omega);grind
theorem xX.mul{f g:Nat→Rat}(h:xX f)(h':xX g):xX (fun k=>f k*g k):=by
 obtain⟨e,he,K,hK⟩:=h;obtain⟨e',he',K',hK'⟩:=h';refine⟨e*e',fU he he',max K K',fun k hk=>?_⟩;have a:=hK k (by omega);have b:=hK' k (by omega);have h1:0≤(f k-e)*g k:=bE (by grind) (by grind);have h2:0≤e*(g k-e'):=bE (by grind) (by grind);grind
theorem wF.neg{f:Nat→Rat}(h:wF f):wF (fun k=> -f k):=by
 intro e he;obtain⟨K,hK⟩:=h e he;exact⟨K,fun k hk=>by have:=hK k hk;grind⟩
theorem wF.add{f g:Nat→Rat}(h:wF f)(h':wF g):wF (fun k=>f k+g k):=by
 intro e he;obtain⟨h1,h2⟩:=w8 he;obtain⟨K,hK⟩:=h _ h1;obtain⟨K',hK'⟩:=h' _ h1;refine⟨max K K',fun k hk=>?_⟩;have a:=hK k (by omega);have b:=hK' k (by omega);grind
theorem Ba{c:Rat}(h:0<c):∃d:Rat,0<d∧d*c=1:=by
 refine⟨c⁻¹,Rat.inv_pos.2 h,Rat.inv_mul_cancel _ (by grind)⟩
theorem wF.mul{f g:Nat→Rat}(h:wF f)(h':vy g):wF (fun k=>f k*g k):=by
 intro e he;obtain⟨C,hC,hg⟩:=h';obtain⟨d,hd,hdc⟩:=Ba hC;obtain⟨K,hK⟩:=h (e*d) (fU he hd);refine⟨K,fun k hk=>?_⟩;obtain⟨a1,a2⟩:=hK k hk;obtain⟨b1,b2⟩:=hg k;have hb:e*d*C=e:=by rw[Rat.mul_assoc,hdc,sT]
 have h1:0≤(e*d-f k)*(C-g k):=bE (by grind) (by grind);have h2:0≤(e*d-f k)*(C+g k):=bE (by grind) (by grind);have h3:0≤(e*d+f k)*(C-g k):=bE (by grind) (by grind);have h4:0≤(e*d+f k)*(C+g k):=bE (by grind) (by grind);constructor<;>grind
theorem vy.const(x:Rat):vy (fun _=>x):=by
 by_cases h:0≤x
 ·exact⟨x+1,by grind,fun k=>by constructor<;>grind⟩
 ·exact⟨1-x,by grind,fun k=>by constructor<;>grind⟩
theorem vy.add{f g:Nat→Rat}(h:vy f)(h':vy g):vy (fun k=>f k+g k):=by
 obtain⟨C,hC,hf⟩:=h;obtain⟨D,hD,hg⟩:=h';exact⟨C+D,by grind,fun k=>by have:=hf k;have:=hg k;constructor<;>grind⟩
theorem vy.neg{f:Nat→Rat}(h:vy f):vy (fun k=> -f k):=by
 obtain⟨C,hC,hf⟩:=h;exact⟨C,hC,fun k=>by have:=hf k;constructor<;>grind⟩
theorem vy.mul{f g:Nat→Rat}(h:vy f)(h':vy g):vy (fun k=>f k*g k):=by
 obtain⟨C,hC,hf⟩:=h;obtain⟨D,hD,hg⟩:=h';refine⟨C*D,fU hC hD,fun k=>?_⟩;obtain⟨a1,a2⟩:=hf k;obtain⟨b1,b2⟩:=hg k;have h1:0≤(C-f k)*(D-g k):=bE (by grind) (by grind);have h2:0≤(C-f k)*(D+g k):=bE (by grind) (by grind);have h3:0≤(C+f k)*(D-g k):=bE (by grind) (by grind);have h4:0≤(C+f k)*(D+g k):=bE (by grind) (by grind);constructor<;>grind
theorem xX.not_nul{f:Nat→Rat}(h:xX f)(h':wF f):False:=by
 obtain⟨e,he,K,hK⟩:=h;obtain⟨h1,h2⟩:=w8 he;obtain⟨K',hK'⟩:=h' _ h1;have a:=hK (max K K') (by omega);have b:=(hK' (max K K') (by omega)).2;grind
theorem xX.not_neg{f:Nat→Rat}(h:xX f)(h':xX (fun k=> -f k)):False:=by
 obtain⟨e,he,K,hK⟩:=h;obtain⟨e',he',K',hK'⟩:=h';have a:=hK (max K K') (by omega);have b:=hK' (max K K') (by omega);grind
theorem oM.unique{f:Nat→Rat}{s t:Int}(h:oM f s)(h':oM f t):s=t:=by
 have nn:∀{g:Nat→Rat},wF (fun k=> -g k)→wF g:=fun{g} h=>h.neg.congr (fun k=>by grind);rcases h with⟨rfl,h⟩|⟨rfl,h⟩|⟨rfl,h⟩<;>rcases h' with⟨rfl,h'⟩|⟨rfl,h'⟩|⟨rfl,h'⟩
 ·rfl
 ·exact(h.not_nul h').elim
 ·exact(h.not_neg h').elim
 ·exact(h'.not_nul h).elim
 ·rfl
 ·exact(h'.not_nul h.neg).elim
 ·exact(h'.not_neg h).elim
 ·exact(h.not_nul h'.neg).elim
 ·rfl
theorem oM.neg{f:Nat→Rat}{s:Int}(h:oM f s):oM (fun k=> -f k) (-s):=by
 rcases h with⟨rfl,h⟩|⟨rfl,h⟩|⟨rfl,h⟩
 ·exact .inr (.inr ⟨rfl,h.congr (fun k=>by grind)⟩)
 ·exact .inr (.inl ⟨rfl,h.neg⟩)
 ·exact .inl ⟨rfl,h⟩
theorem oM.add_nul{f g:Nat→Rat}{s:Int}(h:oM f s)(h':wF g):oM (fun k=>f k+g k) s:=by
 rcases h with⟨rfl,h⟩|⟨rfl,h⟩|⟨rfl,h⟩
 ·exact .inl ⟨rfl,h.add_nul h'⟩
 ·exact .inr (.inl ⟨rfl,h.add h'⟩)
 ·exact .inr (.inr ⟨rfl,(h.add_nul h'.neg).congr (fun k=>by grind)⟩)
theorem oM.add{f g:Nat→Rat}{s t:Int}(h:oM f s)(h':oM g t)(hst:t=0∨s=t):oM (fun k=>f k+g k) s:=by
 rcases h' with⟨rfl,h'⟩|⟨rfl,h'⟩|⟨rfl,h'⟩
 ·rcases h with⟨rfl,h⟩|⟨rfl,h⟩|⟨rfl,h⟩
  ·exact .inl ⟨rfl,h.add h'⟩
  ·simp at hst
  ·simp at hst
 ·exact h.add_nul h'
 ·rcases h with⟨rfl,h⟩|⟨rfl,h⟩|⟨rfl,h⟩
  ·simp at hst
  ·simp at hst
  ·exact .inr (.inr ⟨rfl,(h.add h').congr (fun k=>by grind)⟩)
theorem oM.mul{f g:Nat→Rat}{s t:Int}(h:oM f s)(h':oM g t)(bf:vy f)(bg:vy g):oM (fun k=>f k*g k) (s*t):=by
 rcases h with⟨rfl,h⟩|⟨rfl,h⟩|⟨rfl,h⟩<;>rcases h' with⟨rfl,h'⟩|⟨rfl,h'⟩|⟨rfl,h'⟩
 ·exact .inl ⟨rfl,h.mul h'⟩
 ·exact .inr (.inl ⟨rfl,(h'.mul bf).congr (fun k=>by grind)⟩)
 ·exact .inr (.inr ⟨rfl,(h.mul h').congr (fun k=>by grind)⟩)
 ·exact .inr (.inl ⟨rfl,h.mul bg⟩)
 ·exact .inr (.inl ⟨rfl,h.mul bg⟩)
 ·exact .inr (.inl ⟨rfl,h.mul bg⟩)
 ·exact .inr (.inr ⟨rfl,(h.mul h').congr (fun k=>by grind)⟩)
 ·exact .inr (.inl ⟨rfl,(h'.mul bf).congr (fun k=>by grind)⟩)
 ·exact .inl ⟨rfl,(h.mul h').congr (fun k=>by grind)⟩
theorem oM.congr{f g:Nat→Rat}{s:Int}(h:oM f s)(hn:wF (fun k=>g k-f k)):oM g s:=(h.add_nul hn).eqf (fun k=>by grind)
theorem xX.div{f g:Nat→Rat}(hg:xX g)(bg:vy g)(h:xX (fun k=>f k*g k)):xX f:=by
 obtain⟨e,he,K,hK⟩:=hg;obtain⟨C,hC,hb⟩:=bg;obtain⟨d,hd,K',hK'⟩:=h;obtain⟨i,hi,hic⟩:=Ba hC;refine⟨d*i,fU hd hi,max K K',fun k hk=>?_⟩;have a:=hK k (by omega);have b:=hK' k (by omega);have c:=(hb k).2;have hg0:0<g k:=by grind
 have YC:0≤f k:=by
  by_cases h:0≤f k
  ·exact h
  ·have:0≤ -f k*g k:=bE (by grind) (by grind);grind
 have h1:0≤f k*(C-g k):=bE YC (by grind);have h2:0≤(f k*C-d)*i:=bE (by grind) (by grind);have h3:f k*C*i=f k:=by rw[Rat.mul_assoc,Rat.mul_comm C i,hic,sT]
 grind
theorem wF.div{f g:Nat→Rat}(hg:xX g)(h:wF (fun k=>f k*g k)):wF f:=by
 intro δ hδ;obtain⟨e,he,K,hK⟩:=hg;obtain⟨K',hK'⟩:=h (δ*e) (fU hδ he);refine⟨max K K',fun k hk=>?_⟩;have a:=hK k (by omega);obtain⟨b1,b2⟩:=hK' k (by omega);constructor
 ·by_cases hh: -δ≤f k
  ·exact hh
  ·have h1:0<(-δ-f k)*g k:=fU (by grind) (by grind);have h2:0≤δ*(g k-e):=bE (by grind) (by grind);grind
 ·by_cases hh:f k≤δ
  ·exact hh
  ·have h1:0<(f k-δ)*g k:=fU (by grind) (by grind);have h2:0≤δ*(g k-e):=bE (by grind) (by grind);grind
theorem oM.div{f g:Nat→Rat}{s c:Int}(hg:oM g s)(hs:s≠0)(bg:vy g)(h:oM (fun k=>f k*g k) c):oM f (s*c):=by
 have pos:∀{g:Nat→Rat} {c:Int},xX g→vy g→oM (fun k=>f k*g k) c→oM f c:=by
  intro g c hg bg h;rcases h with⟨rfl,h⟩|⟨rfl,h⟩|⟨rfl,h⟩
  ·exact .inl ⟨rfl,hg.div bg h⟩
  ·exact .inr (.inl ⟨rfl,wF.div hg h⟩)
  ·exact .inr (.inr ⟨rfl,hg.div bg (h.congr (fun k=>by grind))⟩)
 rcases hg with⟨rfl,hg⟩|⟨rfl,hg⟩|⟨rfl,hg⟩
 ·rw[Int.one_mul];exact pos hg bg h
 ·simp at hs
 ·rw[Int.neg_one_mul];exact pos hg bg.neg (h.neg.eqf (fun k=>by grind))
theorem oM.const(x:Rat):oM (fun _=>x) x.num.sign:=by
 rw[HU];unfold vY;by_cases h:x<0
 ·rw[if_pos h];exact .inr (.inr ⟨rfl,-x,by grind,0,fun _ _=>by grind⟩)
 ·rw[if_neg h];by_cases h0:x=0
  ·rw[if_pos h0];exact .inr (.inl ⟨rfl,fun e he=>⟨0,fun _ _=>by constructor<;>grind⟩⟩)
  ·rw[if_neg h0];exact .inl ⟨rfl,x,by grind,0,fun _ _=>by grind⟩
theorem wF.zero:wF (fun _=>0):=fun e he=>⟨0,fun _ _=>by constructor<;>grind⟩
theorem R0(x y:Rat):oM (fun _=>x-y) (vY x y):=by
 have e:vY x y=(x-y).num.sign:=by
  rw[HU];unfold vY;grind
 rw[e];exact oM.const _
def tk(k:Nat):Rat:=Rat.divInt 1 (2^k)
theorem Cf(k:Nat):tk k*((2^k:Int):Rat)=1:=by
 have hp:(2:Int)^k≠0:=by have:=Int.pow_pos (n:=(2:Int)) (m:=k) (by decide);omega
 unfold tk;rw[←oX,l7,show(1:Rat)=Rat.divInt 1 1 from rfl,Rat.divInt_eq_divInt_iff (by simpa using hp) (by decide)];grind
theorem Fb(k:Nat):(0:Rat)<((2^k:Int):Rat):=by
 have:=Int.pow_pos (n:=(2:Int)) (m:=k) (by decide);exact Rat.intCast_pos.2 this
theorem oD(k:Nat):0<tk k:=by
 have h:=Cf k;have h2:=Fb k;by_cases hh:0<tk k
 ·exact hh
 ·have:0≤ -tk k*((2^k:Int):Rat):=bE (by grind) (by grind);grind
theorem Cg:wF tk:=by
 intro e he;refine⟨e.den,fun k hk=>⟨by have:=oD k;grind,?_⟩⟩;by_cases hh:tk k≤e
 ·exact hh
 ·exfalso
  have h1:0<(tk k-e)*((2^k:Int):Rat):=fU (by grind) (Fb k);have h2:=Cf k;have hlt:(e.den:Int)≤2^k:=by
   have:e.den<2^e.den:=Nat.lt_two_pow_self;have h3:(2:Nat)^e.den≤2^k:=da (by decide) hk;have:e.den≤2^k:=by omega
   exact_mod_cast this
  have h3:((e.den:Int):Rat)≤((2^k:Int):Rat):=Rat.intCast_le_intCast.2 hlt;have h4:0≤e*(((2^k:Int):Rat)-((e.den:Int):Rat)):=bE (by grind) (by grind);have h5:e*((e.den:Int):Rat)=((e.num:Int):Rat):=by
   rw[←oX,←oX]
   conv=>lhs;rw[←lG e]
   rw[l7,Rat.divInt_eq_divInt_iff (by have:=e.den_pos;simp;omega) (by decide)];simp
  have h6:(1:Rat)≤((e.num:Int):Rat):=by
   have:0<e.num:=by rw[Rat.lt_iff]at he;simpa using he
   exact_mod_cast (show(1:Int)≤e.num by omega)
  grind
def lX(m:Int)(k:Nat):Rat:=((yl (m.natAbs*4^k):Int):Rat)*tk k
theorem Ny(k:Nat):lX 0 k=0:=by
 unfold lX;rw[show(0:Int).natAbs*4^k=0 by simp,show yl 0=0 by decide];exact Rat.zero_mul _
theorem nU{m:Int}(hm:0≤m)(k:Nat):0≤lX m k∧lX m k*lX m k≤m∧(m:Rat)<(lX m k+tk k)*(lX m k+tk k):=by
 obtain⟨h1,h2⟩:=xg (m.natAbs*4^k);unfold lX;generalize yl (m.natAbs*4^k)=R at*;have ht:=oD k;have hm2:=Cf k;have e4:(4:Nat)^k=2^k*2^k:=by rw[←Nat.mul_pow]
 have z1:(R:Int)*R≤m*(2^k*2^k):=by
  have:((R*R:Nat):Int)≤((m.natAbs*4^k:Nat):Int):=by exact_mod_cast h1
  rw[e4]at this
  push_cast at this
  rwa [show((m.natAbs:Int))=m by omega]at this
 have z2:m*(2^k*2^k)<((R:Int)+1)*(R+1):=by
  have:((m.natAbs*4^k:Nat):Int)<(((R+1)*(R+1):Nat):Int):=by exact_mod_cast h2
  rw[e4]at this
  push_cast at this
  rwa [show((m.natAbs:Int))=m by omega]at this
 have q1:((R:Int):Rat)*((R:Int):Rat)≤(m:Rat)*(((2^k:Int):Rat)*((2^k:Int):Rat)):=by
  rw[←dR,←dR,←dR];exact Rat.intCast_le_intCast.2 z1
 have q2:(m:Rat)*(((2^k:Int):Rat)*((2^k:Int):Rat))<(((R:Int):Rat)+1)*(((R:Int):Rat)+1):=by
  have:((R:Int):Rat)+1=(((R:Int)+1:Int):Rat):=by rw[jr];rfl
  rw[this,←dR,←dR,←dR];exact Rat.intCast_lt_intCast.2 z2
 have hR:(0:Rat)≤((R:Int):Rat):=by exact_mod_cast Int.natCast_nonneg R
 generalize((R:Int):Rat)=r at*;generalize((2^k:Int):Rat)=w at*;generalize tk k=t at*;have htt:0<t*t:=fU ht ht;have one:t*t*(w*w)=1:=by
  have:t*t*(w*w)=(t*w)*(t*w):=by grind
  rw[this,hm2];grind
 refine⟨bE hR (by grind),?_,?_⟩
 ·have h:=bE (show 0≤(m:Rat)*(w*w)-r*r by grind) (show 0≤t*t by grind);have e:((m:Rat)*(w*w)-r*r)*(t*t)=m*(t*t*(w*w))-r*t*(r*t):=by grind
  rw[e,one]at h;grind
 ·have h:=fU (show 0<(r+1)*(r+1)-(m:Rat)*(w*w)by grind) htt;have e:((r+1)*(r+1)-(m:Rat)*(w*w))*(t*t)=(r*t+t)*(r*t+t)-m*(t*t*(w*w)):=by grind
  rw[e,one]at h;grind
theorem uL{m:Int}(hm:0≤m):vy (lX m):=by
 refine⟨(m:Rat)+1,?_,fun k=>?_⟩
 ·have:(0:Rat)≤(m:Rat):=by exact_mod_cast hm
  grind
 ·obtain⟨h1,h2,_⟩:=nU hm k;have:(0:Rat)≤(m:Rat):=by exact_mod_cast hm
  refine⟨by grind,?_⟩;by_cases h:lX m k≤(m:Rat)+1
  ·exact h
  ·have h3:0≤(lX m k-1)*lX m k:=bE (by grind) h1;grind
theorem Ra(k:Nat):tk k≤1:=by
 by_cases h:tk k≤1
 ·exact h
 ·have h1:=Cf k;have h2:(1:Rat)≤((2^k:Int):Rat):=by
   have:=Int.pow_pos (n:=(2:Int)) (m:=k) (by decide)
   exact_mod_cast (show(1:Int)≤2^k by omega)
  have h3:0≤(tk k-1)*(((2^k:Int):Rat)-1):=bE (by grind) (by grind);grind
theorem D_{m:Int}(hm:0≤m):wF (fun k=>lX m k*lX m k-m):=by
 intro e he;have hm':(0:Rat)≤(m:Rat):=by exact_mod_cast hm
 obtain⟨d,hd,hdc⟩:=Ba (c:=2*((m:Rat)+1)+1) (by grind);obtain⟨K,hK⟩:=Cg (e*d) (fU he hd);refine⟨K,fun k hk=>?_⟩;obtain⟨h1,h2,h3⟩:=nU hm k;have ht:=oD k;have ht1:=Ra k;have hle:=(hK k hk).2;refine⟨?_,by grind⟩;have ha:lX m k≤(m:Rat)+1:=by
  by_cases h:lX m k≤(m:Rat)+1
  ·exact h
  ·have h3:0≤(lX m k-1)*lX m k:=bE (by grind) h1;grind
 show-e≤lX m k*lX m k-(m:Rat);generalize lX m k=a at*;generalize tk k=t at*;have g1:0≤(m+1-a)*t:=bE (by grind) (by grind);have g2:0≤t*(1-t):=bE (by grind) (by grind);have s1:(m:Rat)-a*a≤(2*((m:Rat)+1)+1)*t:=by grind
 have s2:(2*((m:Rat)+1)+1)*t≤e:=by
  have g3:0≤(e*d-t)*(2*((m:Rat)+1)+1):=bE (by grind) (by grind);have g4:e*d*(2*((m:Rat)+1)+1)=e:=by rw[Rat.mul_assoc,hdc,sT]
  generalize 2*((m:Rat)+1)+1=c at*;clear g1 g2 h3 h2 ha s1 hK;have g5:(e*d-t)*c=e*d*c-c*t:=by grind
  rw[g5,g4]at g3;grind
 clear g1 g2 h3 hdc;grind
theorem R_{m:Int}(hm:0<m):xX (lX m):=by
 refine⟨1,by decide+kernel,0,fun k _=>?_⟩;obtain⟨h1,h2⟩:=xg (m.natAbs*4^k);unfold lX;have e4:(4:Nat)^k=2^k*2^k:=by rw[←Nat.mul_pow]
 have hge:2^k≤yl (m.natAbs*4^k):=by
  by_cases h:2^k≤yl (m.natAbs*4^k)
  ·exact h
  ·have g1:(yl (m.natAbs*4^k)+1)*(yl (m.natAbs*4^k)+1)≤2^k*2^k:=aX (by omega) (by omega);have g2:1*4^k≤m.natAbs*4^k:=cj _ (by omega);omega
 have h3:((2^k:Int):Rat)≤((yl (m.natAbs*4^k):Int):Rat):=Rat.intCast_le_intCast.2 (by exact_mod_cast hge);have h4:0≤(((yl (m.natAbs*4^k):Int):Rat)-((2^k:Int):Rat))*tk k:=bE (by grind) (by have:=oD k;grind);have h5:=Cf k;grind
theorem DN{m:Int}(hm:0≤m){f:Nat→Rat}{t:Int}(h:oM f t)(bf:vy f):oM (fun k=>f k*lX m k) (if m.sign=0 then 0 else t):=by
 by_cases h0:m=0
 ·subst h0;rw[if_pos (by rfl)];exact .inr (.inl ⟨rfl,wF.zero.congr (fun k=>by rw[Ny,Rat.mul_zero])⟩)
 ·rw[if_neg (by rw[gf (by omega)];decide)];have:=h.mul (.inl ⟨rfl,R_ (m:=m) (by omega)⟩) bf (uL hm)
  rwa [Int.mul_one]at this
theorem oM.tri{f:Nat→Rat}{s:Int}(h:oM f s):s=1∨s=0∨s= -1:=by
 rcases h with⟨h,_⟩|⟨h,_⟩|⟨h,_⟩<;>omega
theorem Lh{f g:Nat→Rat}{s t c:Int}(hf:oM f s)(hg:oM g t)(bf:vy f)(bg:vy g)(hc:oM (fun k=>f k*f k-g k*g k) c):
  oM (fun k=>f k+g k) (if t=0∨s=t then s else if s=0 then t else s*c):=by
 by_cases h1:t=0∨s=t
 ·rw[if_pos h1];exact hf.add hg h1
 ·rw[if_neg h1];by_cases h2:s=0
  ·rw[if_pos h2];exact(hg.add hf (.inl h2)).eqf (fun k=>by grind)
  ·rw[if_neg h2];have h3: -t=s:=by
    have:=hf.tri;have:=hg.tri;omega
   have hd:oM (fun k=>f k+ -g k) s:=hf.add hg.neg (.inr h3.symm);exact hd.div h2 (bf.add bg.neg) (hc.eqf (fun k=>by grind))
def v1(x y:Rat)(m:Int)(k:Nat):Rat:=x+y*lX m k
theorem Ci{m:Int}(hm:0≤m)(x y:Rat):vy (v1 x y m):=(vy.const x).add ((vy.const y).mul (uL hm))
theorem X8{m:Int}(hm:0≤m)(x y:Rat):oM (v1 x y m) (Cb x y m):=by
 have hy:=DN hm (oM.const y) (vy.const y);refine(Lh (oM.const x) hy (vy.const x) ((vy.const y).mul (uL hm)) (c:=vY (x*x) (y*y*m)) ?_);refine(R0 (x*x) (y*y*m)).congr (((D_ hm).mul (vy.const (-(y*y)))).congr (fun k=>by grind))
def Sn.v(S:Sn)(k:Nat):Rat:=v1 S.p S.q S.m k+v1 S.r S.s S.m k*lX S.n k
theorem TL(S:Sn)(hm:0≤S.m)(hn:0≤S.n):oM S.v S.sg:=by
 have hg:=DN hn (X8 hm S.r S.s) (Ci hm _ _);refine(Lh (X8 hm S.p S.q) hg (Ci hm _ _) ((Ci hm _ _).mul (uL hn)) (c:=Cb (S.p*S.p+S.m*S.q*S.q-S.n*(S.r*S.r+S.m*S.s*S.s)) (2*(S.p*S.q-S.n*S.r*S.s)) S.m) ?_);refine(X8 hm _ _).congr ?_;have n1:=(D_ hm).mul (vy.const (S.q*S.q-S.n*S.s*S.s));have n2:=(D_ hn).mul (((Ci hm S.r S.s).mul (Ci hm S.r S.s)).neg);exact(n1.add n2).congr (fun k=>by unfold v1;grind)
theorem TB(e:Rat):e*((e.den:Int):Rat)=((e.num:Int):Rat):=by
 rw[←oX,←oX]
 conv=>lhs;rw[←lG e]
 rw[l7,Rat.divInt_eq_divInt_iff (by have:=e.den_pos;simp;omega) (by decide)];simp
theorem GG{a b:Rat}(hb:0≤b)(h:a*a≤b*b):a≤b:=by
 by_cases hh:a≤b
 ·exact hh
 ·have:0<(a-b)*(a+b):=fU (by grind) (by grind);grind
theorem vJ{a d:Rat}(hd:0<d)(h:0≤a*d):0≤a:=by
 by_cases hh:0≤a
 ·exact hh
 ·have:=fU (show 0< -a by grind) hd;grind
theorem Qx{y N D A T R g e:Rat}(hD:0<D)(hy:y*D=N)(hN:0≤N)(hA1:A*D≤T)(hA2:T+1≤(A+1)*D)(hT:0≤T)(t1:T*T≤N*N*R*65536)(t2:N*N*R*65536<(T+1)*(T+1))
  (hg:0≤g)(g1:g*g≤R)(g2:R<(g+e)*(g+e))(he:0≤e):A≤256*(y*g)+256*(y*e)∧256*(y*g)≤A+1:=by
 have hNN:0≤N*N:=bE hN hN;have a1:256*N*g≤T+1:=GG (by grind) (by
  have:=bE hNN (show 0≤R-g*g by grind);grind)
 have a2:T≤256*N*(g+e):=GG (bE (by grind) (by grind)) (by
  have:=bE hNN (show 0≤(g+e)*(g+e)-R by grind);grind)
 constructor
 ·have:=vJ hD (show 0≤(256*(y*g)+256*(y*e)-A)*D by
   rw[show(256*(y*g)+256*(y*e)-A)*D=256*(y*D)*(g+e)-A*D by grind,hy];grind)
  grind
 ·have:=vJ hD (show 0≤(A+1-256*(y*g))*D by
   rw[show(A+1-256*(y*g))*D=(A+1)*D-256*(y*D)*g by grind,hy];grind)
  grind
theorem xu(a b:Nat):(((a*b:Nat):Int):Rat)=((a:Int):Rat)*((b:Int):Rat):=by
 rw[dQ,dR]
theorem pF{a b:Nat}(h:a≤b):((a:Int):Rat)≤((b:Int):Rat):=Rat.intCast_le_intCast.2 (by exact_mod_cast h)
theorem Jn{a b:Nat}(h:a<b):((a:Int):Rat)<((b:Int):Rat):=Rat.intCast_lt_intCast.2 (by exact_mod_cast h)
theorem EE(a:Nat):(((a+1:Nat):Int):Rat)=((a:Int):Rat)+1:=by
 rw[Int.natCast_add,jr];rfl
theorem xL(x:Rat){R:Int}(hR:0≤R){g e:Nat→Rat}(hg:∀k,0≤g k∧g k*g k≤(R:Rat)∧(R:Rat)<(g k+e k)*(g k+e k))(I1:∀k,0≤e k)(he:wF e):
  ∃K,∀k,K≤k→ -1≤((k_ x R 8:Int):Rat)-256*(x*g k)∧((k_ x R 8:Int):Rat)-256*(x*g k)≤1:=by
 obtain⟨h1,h2⟩:=xg (x.num.natAbs*x.num.natAbs*R.natAbs*2^(2*8));unfold k_;generalize yl (x.num.natAbs*x.num.natAbs*R.natAbs*2^(2*8))=T at*;have acu:=x.den_pos;have hdiv:=fY T x.den;have afH:=fG T acu;have e1:((T:Nat):Int)/(x.den:Int)=((T/x.den:Nat):Int):=by omega
 simp only[e1];generalize T/x.den=A at*;have hA1:A*x.den≤T:=by rw[fp];omega
 have hA2:T+1≤(A+1)*x.den:=by rw[eD,fp A];omega
 have q1:=pF hA1;have q2:=pF hA2;have ep:(((2^(2*8):Nat):Int):Rat)=65536:=by decide+kernel
 generalize 2^(2*8)=P at*;have q3:=pF h1;have q4:=Jn h2;simp only[xu,EE]at q1 q2 q3 q4;have eR:((R.natAbs:Int):Rat)=(R:Rat):=by rw[show(R.natAbs:Int)=R by omega]
 rw[eR,ep]at q3 q4;have hD:(0:Rat)<((x.den:Int):Rat):=by exact_mod_cast (show(0:Int)<x.den by omega)
 have hN:(0:Rat)≤((x.num.natAbs:Int):Rat):=by exact_mod_cast (show(0:Int)≤x.num.natAbs by omega)
 have hT:(0:Rat)≤((T:Int):Rat):=by exact_mod_cast (show(0:Int)≤T by omega)
 have hrd:=TB x;have key:∀y:Rat,y*((x.den:Int):Rat)=((x.num.natAbs:Int):Rat)→∃K,∀k,K≤k→ -1≤((A:Int):Rat)-256*(y*g k)∧((A:Int):Rat)-256*(y*g k)≤1:=by
  intro y hy;obtain⟨K,hK⟩:=(he.mul (vy.const (256*y))) 1 (by decide+kernel);refine⟨K,fun k hk=>?_⟩;obtain⟨g1,g2,g3⟩:=hg k;have:=Qx hD hy hN q1 q2 hT q3 q4 g1 g2 g3 (I1 k);have h3:=hK k hk;constructor<;>grind
 by_cases hs:x.num.sign<0
 ·rw[if_pos hs];have hneg:x.num<0:=Int.sign_neg_iff.1 hs;obtain⟨K,hK⟩:=key (-x) (by
   rw[Rat.neg_mul,hrd,←s_];exact dM (fun z:Int=>(z:Rat)) (show-x.num=(x.num.natAbs:Int)by omega))
  refine⟨K,fun k hk=>?_⟩;have:=hK k hk;rw[s_];constructor<;>grind
 ·rw[if_neg hs];have hpos:¬x.num<0:=fun h=>hs (Int.sign_neg_iff.2 h);exact key x (by rw[hrd];exact dM (fun z:Int=>(z:Rat)) (show x.num=(x.num.natAbs:Int)by omega))
theorem Sa{m n:Int}(hm:0≤m)(hn:0≤n)(k:Nat):0≤lX m k*lX n k∧(lX m k*lX n k)*(lX m k*lX n k)≤((m*n:Int):Rat)∧((m*n:Int):Rat)<(lX m k*lX n k+tk k*(lX m k+lX n k+tk k))*(lX m k*lX n k+tk k*(lX m k+lX n k+tk k)):=by
 obtain⟨a1,a2,a3⟩:=nU hm k;obtain⟨b1,b2,b3⟩:=nU hn k;have ht:=oD k;have hm':(0:Rat)≤(m:Rat):=by exact_mod_cast hm
 have OH:(0:Rat)≤(n:Rat):=by exact_mod_cast hn
 rw[dR];generalize lX m k=u at*;generalize lX n k=v at*;generalize tk k=t at*;generalize(m:Rat)=m' at*;generalize(n:Rat)=n' at*;refine⟨bE a1 b1,?_,?_⟩
 ·have h1:=bE (show 0≤m'-u*u by grind) OH;have h2:=bE (bE a1 a1) (show 0≤n'-v*v by grind);grind
 ·have h1:=bE (show 0≤(u+t)*(u+t)-m' by grind) OH;have h2:0<(u+t)*(u+t)*((v+t)*(v+t)-n'):=fU (fU (by grind) (by grind)) (by grind);have e:u*v+t*(u+v+t)=(u+t)*(v+t):=by grind
  rw[e];grind
theorem Pv(k:Nat):(0:Rat)≤1∧(1:Rat)*1≤((1:Int):Rat)∧((1:Int):Rat)<(1+tk k)*(1+tk k):=by
 have ht:=oD k;have e:((1:Int):Rat)=1:=rfl;rw[e];have:=fU ht ht;refine⟨by decide+kernel,by grind,by grind⟩
theorem GP(S:Sn)(hm:0≤S.m)(hn:0≤S.n):∃K,∀k,K≤k→256*((S.low:Int):Rat)-4≤256*S.v k∧256*S.v k≤256*((S.low:Int):Rat)+259:=by
 have hmn:0≤S.m*S.n:=eZ hm hn;obtain⟨K1,h1⟩:=xL S.p (R:=1) (by decide) (g:=fun _=>1) (e:=tk) Pv (fun k=>Rat.le_of_lt (oD k)) Cg;obtain⟨K2,h2⟩:=xL S.q hm (g:=lX S.m) (e:=tk) (nU hm) (fun k=>Rat.le_of_lt (oD k)) Cg;obtain⟨K3,h3⟩:=xL S.r hn (g:=lX S.n) (e:=tk) (nU hn) (fun k=>Rat.le_of_lt (oD k)) Cg;obtain⟨K4,h4⟩:=xL S.s hmn (g:=fun k=>lX S.m k*lX S.n k) (e:=fun k=>tk k*(lX S.m k+lX S.n k+tk k)) (Sa hm hn)
  (fun k=>bE (Rat.le_of_lt (oD k)) (by
   have:=oD k;have:=(nU hm k).1;have:=(nU hn k).1;grind))
  (Cg.mul (((uL hm).add (uL hn)).add ⟨1,by decide+kernel,fun k=>by
   have:=oD k;have:=Ra k;constructor<;>grind⟩))
 refine⟨max (max K1 K2) (max K3 K4),fun k hk=>?_⟩;have g1:=h1 k (by omega);have g2:=h2 k (by omega);have g3:=h3 k (by omega);have g4:=h4 k (by omega);have hz:256*S.low≤0+k_ S.p 1 8+k_ S.q S.m 8+k_ S.r S.n 8+k_ S.s (S.m*S.n) 8∧0+k_ S.p 1 8+k_ S.q S.m 8+k_ S.r S.n 8+k_ S.s (S.m*S.n) 8≤256*S.low+255:=by
  unfold Sn.low;omega
 have z1:((256*S.low:Int):Rat)≤((0+k_ S.p 1 8+k_ S.q S.m 8+k_ S.r S.n 8+k_ S.s (S.m*S.n) 8:Int):Rat):=Rat.intCast_le_intCast.2 hz.1;have z2:((0+k_ S.p 1 8+k_ S.q S.m 8+k_ S.r S.n 8+k_ S.s (S.m*S.n) 8:Int):Rat)≤((256*S.low+255:Int):Rat):=Rat.intCast_le_intCast.2 hz.2;simp only[jr,dR]at z1 z2;have c0:((0:Int):Rat)=0:=rfl;have c1:((256:Int):Rat)=256:=rfl;have c2:((255:Int):Rat)=255:=rfl;rw[c0,c1]at z1;rw[c0,c1,c2]at z2;have ev:S.v k=S.p*1+S.q*lX S.m k+S.r*lX S.n k+S.s*(lX S.m k*lX S.n k):=by
  unfold Sn.v v1;grind
 rw[ev];generalize((k_ S.p 1 8:Int):Rat)=a at*;generalize((k_ S.q S.m 8:Int):Rat)=b at*;generalize((k_ S.r S.n 8:Int):Rat)=c at*;generalize((k_ S.s (S.m*S.n) 8:Int):Rat)=d at*;generalize((S.low:Int):Rat)=l at*;generalize S.p*1=x at*;generalize S.q*lX S.m k=y at*;generalize S.r*lX S.n k=z at*;generalize S.s*(lX S.m k*lX S.n k)=w at*;constructor<;>grind
theorem rH(S:Sn)(q:Int)(k:Nat):(S.lessq q).v k=S.v k-(q:Rat):=by
 unfold Sn.v v1 Sn.lessq;grind
theorem TI{S T:Sn}(hm:0≤S.m)(hn:0≤S.n)(em:T.m=S.m)(en:T.n=S.n)(h:∃K,∀k,K≤k→S.v k≤T.v k):S.sg≤T.sg:=by
 have s1:=TL S hm hn;have s2:=TL T (by omega) (by omega);obtain⟨K,hK⟩:=h;rcases s1 with⟨e1,e,he,K1,p1⟩|⟨e1,p1⟩|⟨e1,p1⟩
 ·have:oM T.v 1:=.inl ⟨rfl,e,he,max K K1,fun k hk=>by
   have:=hK k (by omega);have:=p1 k (by omega);grind⟩
  rw[e1,s2.unique this];omega
 ·rcases s2 with⟨e2,_⟩|⟨e2,_⟩|⟨e2,e,he,K2,p2⟩
  ·omega
  ·omega
  ·exfalso
   obtain⟨g1,g2⟩:=w8 he;obtain⟨K3,p3⟩:=p1 (e*Rat.divInt 1 2) g1;have a1:=p3 (max K (max K2 K3)) (by omega);have a2:=p2 (max K (max K2 K3)) (by omega);have a3:=hK (max K (max K2 K3)) (by omega);grind
 ·have:=s2.tri;omega
theorem Bk(S:Sn)(hm:0≤S.m)(hn:0≤S.n){a b:Int}(h:a≤b):(S.lessq b).sg≤(S.lessq a).sg:=
 TI hm hn rfl rfl ⟨0,fun k _=>by
  rw[rH,rH];have:(a:Rat)≤(b:Rat):=Rat.intCast_le_intCast.2 h;grind⟩
theorem UG(S:Sn)(hm:0≤S.m)(hn:0≤S.n):(S.lessq (S.low-1)).sg=1:=by
 obtain⟨K,hK⟩:=GP S hm hn;refine(TL (S.lessq (S.low-1)) hm hn).unique (.inl ⟨rfl,Rat.divInt 1 2,by decide+kernel,K,fun k hk=>?_⟩);have:=hK k hk;rw[rH,Rat.intCast_sub];have e:((1:Int):Rat)=1:=rfl;have h2:Rat.divInt 1 2+Rat.divInt 1 2=1:=by decide+kernel
 rw[e];grind
theorem UF(S:Sn)(hm:0≤S.m)(hn:0≤S.n):(S.lessq (S.low+2)).sg= -1:=by
 obtain⟨K,hK⟩:=GP S hm hn;refine(TL (S.lessq (S.low+2)) hm hn).unique (.inr (.inr ⟨rfl,Rat.divInt 1 2,by decide+kernel,K,fun k hk=>?_⟩));have:=hK k hk;simp only;rw[rH,jr];have e:((2:Int):Rat)=2:=rfl;have h2:Rat.divInt 1 2+Rat.divInt 1 2=1:=by decide+kernel
 rw[e];grind
def Sn.fl(S:Sn):Int:=if(S.lessq S.low).sg<0 then S.low-1 else if(S.lessq (S.low+1)).sg<0 then S.low else S.low+1
theorem Sn.fl_spec(S:Sn)(hm:0≤S.m)(hn:0≤S.n):0≤(S.lessq S.fl).sg∧(S.lessq (S.fl+1)).sg<0:=by
 have h1:=UG S hm hn;have h2:=UF S hm hn;unfold Sn.fl;split
 ·refine⟨by omega,?_⟩;rw[show S.low-1+1=S.low by omega];assumption
 ·split
  ·exact⟨by omega,by assumption⟩
  ·refine⟨by omega,?_⟩;rw[show S.low+1+1=S.low+2 by omega];omega
theorem wK(S:Sn)(hm:0≤S.m)(hn:0≤S.n){q:Int}(h1:0≤(S.lessq q).sg)(h2:(S.lessq (q+1)).sg<0):S.fl=q:=by
 obtain⟨g1,g2⟩:=S.fl_spec hm hn;rcases Int.lt_trichotomy S.fl q with h|h|h
 ·have:=Bk S hm hn (show S.fl+1≤q by omega);omega
 ·exact h
 ·have:=Bk S hm hn (show q+1≤S.fl by omega);omega
def Sn.nr(S:Sn):Int:=if(S.half.lessq S.half.fl).sg=0∧(S.half.fl % 2).sign≠0 then S.half.fl-1 else S.half.fl
section
variable{fin:VS→List aC→Prop}{Γ:List aC}{L M K:Nat}
theorem aaK(x:Sw){S:Sn} [aZ (SF x) (L,S) Γ](hm:0≤S.m)(hn:0≤S.n)(hL:L≤300:=by omega):
  aw tb Tryz.prog 254 [sv x] Γ (o9 (10*L+210) S.fl):=by
 refine aw.of_W au Tryz.func254 rfl ?_;have z1:=UG S hm hn;have z2:=UF S hm hn;have AZ:S.low=((((0+(k_ S.p 1 8))+(k_ S.q S.m 8))+(k_ S.r S.n 8))+(k_ S.s (S.m*S.n) 8))/256:=rfl;refine W.more rfl (zT (L':=0)) (td x rfl (bR [] (dW 1) (fun u1 d1=>bR [] (mz x.u x.d x.v x.e) (fun u2 d2=>j5 [] 6 (bR [30] (xE x.p.n x.p.a x.p.m x.p.b u1 d1 8 rfl) (fun u3 d3=>bR [] (mw ⟨none,0,0⟩ false u3 d3) (fun u4 d4=>bR [30] (xE x.q.n x.q.a x.q.m x.q.b x.u x.d 8 rfl) (fun u5 d5=>bR [] (mw u4 d4 u5 d5) (fun u6 d6=>bR [30] (xE x.r.n x.r.a x.r.m x.r.b x.v x.e 8 rfl) (fun u7 d7=>bR [] (mw u6 d6 u7 d7) (fun u8 d8=>?_)))))))))));refine bR [30] (xE x.s.n x.s.a x.s.m x.s.b u2 d2 8 rfl) (fun u9 d9=>bR [] (mw u8 d8 u9 d9) (fun u10 d10=>bR [30] (dW 256) (fun u11 d11=>bz [] (pM u10 d10 u11 d11 (by omega)) (fun u12 d12 v12 e12=>j5 [] 6 (W.c0 [] (vd x u12 d12) ?_)))));by_cases h1:(S.lessq S.low).sg<0
 ·refine bh [] 50 ((decide ((S.lessq (((((0+(k_ S.p 1 8))+(k_ S.q S.m 8))+(k_ S.r S.n 8))+(k_ S.s (S.m*S.n) 8))/256)).sg<0))) (by rw[fV,←AZ];exact h1) (bR [50] (Jz u12 d12 u1 d1) (fun u14 d14=>W.c0 [] (vd x u14 d14) (aO [] 50 ((decide ((S.lessq ((((((0+(k_ S.p 1 8))+(k_ S.q S.m 8))+(k_ S.r S.n 8))+(k_ S.s (S.m*S.n) 8))/256)-1)).sg<0))) (by rw[aW,←AZ];omega) (j5 [50] 6 (bR [] (mw u14 d14 u1 d1) (fun u16 d16=>W.c0 [] (vd x u16 d16) (aO [] 59 (!(decide ((S.lessq (((((((0+(k_ S.p 1 8))+(k_ S.q S.m 8))+(k_ S.r S.n 8))+(k_ S.s (S.m*S.n) 8))/256)-1)+1)).sg<0))) (by rw[gO,cY,←AZ,show S.low-1+1=S.low by omega];exact h1) (W.r [59] (zv u14 d14) ⟨_,_,rfl,rfl⟩ (lj (by unfold Sn.fl;rw[if_pos h1,AZ]))))))))))
 ·by_cases h2:(S.lessq (S.low+1)).sg<0
  ·refine aO [] 50 ((decide ((S.lessq (((((0+(k_ S.p 1 8))+(k_ S.q S.m 8))+(k_ S.r S.n 8))+(k_ S.s (S.m*S.n) 8))/256)).sg<0))) (by rw[aW,←AZ];exact h1) (j5 [50] 6 (bR [] (mw u12 d12 u1 d1) (fun u14 d14=>W.c0 [] (vd x u14 d14) (aO [] 59 (!(decide ((S.lessq ((((((0+(k_ S.p 1 8))+(k_ S.q S.m 8))+(k_ S.r S.n 8))+(k_ S.s (S.m*S.n) 8))/256)+1)).sg<0))) (by rw[gO,cY,←AZ];exact h2) (W.r [59] (zv u12 d12) ⟨_,_,rfl,rfl⟩ (lj (by unfold Sn.fl;rw[if_neg h1,if_pos h2,AZ])))))))
  ·refine aO [] 50 ((decide ((S.lessq (((((0+(k_ S.p 1 8))+(k_ S.q S.m 8))+(k_ S.r S.n 8))+(k_ S.s (S.m*S.n) 8))/256)).sg<0))) (by rw[aW,←AZ];exact h1) (j5 [50] 6 (bR [] (mw u12 d12 u1 d1) (fun u14 d14=>W.c0 [] (vd x u14 d14) (bh [] 59 (!(decide ((S.lessq ((((((0+(k_ S.p 1 8))+(k_ S.q S.m 8))+(k_ S.r S.n 8))+(k_ S.s (S.m*S.n) 8))/256)+1)).sg<0))) (by rw[cF,aW,←AZ];exact h2) (bR [59] (mw u12 d12 u1 d1) (fun u16 d16=>bR [] (mw u16 d16 u1 d1) (fun u17 d17=>W.c0 [] (vd x u17 d17) (aO [] 59 (!(decide ((S.lessq (((((((0+(k_ S.p 1 8))+(k_ S.q S.m 8))+(k_ S.r S.n 8))+(k_ S.s (S.m*S.n) 8))/256)+1)+1)).sg<0))) (by rw[gO,cY,←AZ,show S.low+1+1=S.low+2 by omega];omega) (W.r [59] (zv u16 d16) ⟨_,_,rfl,rfl⟩ (lj (by unfold Sn.fl;rw[if_neg h1,if_neg h2,AZ])))))))))))
theorem KX(x:Sw){S:Sn} [aZ (SF x) (L,S) Γ](hm:0≤S.m)(hn:0≤S.n)(hL:L≤280:=by omega):
  aw tb Tryz.prog 209 [sv x] Γ (o9 (10*L+520) S.nr):=by
 refine aw.of_W au Tryz.func209 rfl (td x rfl (bz [] (BH 1 2) (fun n1 a1 m1 b1=>bz [] (fz x.p.n x.p.a x.p.m x.p.b n1 a1 m1 b1) (fun n2 a2 m2 b2=>?_))));refine jT [] (LP (x:=⟨x.u,x.d,x.v,x.e,⟨n2,a2,m2,b2⟩,x.q,x.r,x.s⟩) (L':=L+10) (S:=S.half) rfl rfl rfl rfl rfl rfl) (aaK (S:=S.half) ⟨x.u,x.d,x.v,x.e,⟨n2,a2,m2,b2⟩,x.q,x.r,x.s⟩ hm hn) ?_;rintro _ _ ⟨u3,d3,rfl,rfl⟩;refine bz [] (cD u3 d3) (fun n4 a4 m4 b4=>bz [] (EO n2 a2 m2 b2 n4 a4 m4 b4) (fun n5 a5 m5 b5=>bR [] (dW 2) (fun u6 d6=>bz [] (pM u3 d3 u6 d6 (by omega)) (fun u7 d7 v7 e7=>?_))));refine jT [] (LP (x:=⟨x.u,x.d,x.v,x.e,⟨n5,a5,m5,b5⟩,x.q,x.r,x.s⟩) (L':=12*L+400) (S:=(S.half.lessq S.half.fl)) rfl rfl rfl rfl rfl rfl) (KY ⟨x.u,x.d,x.v,x.e,⟨n5,a5,m5,b5⟩,x.q,x.r,x.s⟩) ?_;rintro _ _ ⟨rfl,rfl⟩;refine W.d [] 42 ((S.half.lessq S.half.fl).sg==0) (fun hb=>?_) (fun hb=>?_)
 ·have hb':=hb;refine W.c0 [42] (nJ v7 e7) (W.d [42] 46 (((S.half.fl % 2)).sign != 0) (fun hb=>?_) (fun hb=>?_))
  ·skip
   refine bR [46] (dW 1) (fun u10 d10=>bR [] (Jz u3 d3 u10 d10) (fun u11 d11=>W.r [] (zv u11 d11) ⟨_,_,rfl,rfl⟩ (lj (by unfold Sn.nr;rw[if_pos ⟨eq_of_beq hb',fun h=>by rw[h]at hb;simp at hb⟩]))))
  ·skip
   exact W.r [46] (zv u3 d3) ⟨_,_,rfl,rfl⟩ (lj (by unfold Sn.nr;rw[if_neg (fun h=>h.2 (by simpa using hb))]))
 ·skip
  exact W.r [46,42] (zv u3 d3) ⟨_,_,rfl,rfl⟩ (lj (by unfold Sn.nr;rw[if_neg (fun h=>jv hb h.1)]))
end
section
variable{fin:VS→List aC→Prop}{Γ:List aC}{L M K:Nat}
theorem BL(u:Sl)(d:Bool)(v:Sl)(e:Bool)(B:Nat)(a:Qw){m n:Int}{x:Rat}{L1:Nat} [h1:aZ (ZF u d) (L,m) Γ] [h2:aZ (ZF v e) (M,n) Γ] [hr:aZ (eT B) ([(⟨a.n,a.a,a.m,a.b,x⟩:QE)].flatMap QR.cells) Γ] [ha:aZ (QG a) (L1,x) Γ](hm:0≤m)(hn:0≤n)
  (hL:L≤100000:=by omega)(hM:M≤100000:=by omega):
  aw tb Tryz.prog 148 [zv u d,zv v e,.slice (some ⟨B,0,none⟩) 1 1] Γ (Yw (max (max L M) L1) ⟨m,n,x,0,0,0⟩):=
 (Qh (Γ:=OL QR (some ⟨B,0,none⟩) (L1,[(⟨a.n,a.a,a.m,a.b,x⟩:QE)])::Γ) u d v e (some ⟨B,0,none⟩) 1 1 rfl hm hn).weak (fun I w hd hh=>aD.cons ⟨fun q hq=>by
  simp at hq;subst hq;exact ha.p hh,RA.of_row (hr.p hh) (fun _ _ h=>h)⟩ hh) (fun _ _ h=>h)
end
theorem Iz(S:Sn)(hm:0≤S.m)(hn:0≤S.n)(q:Int):(S.add ⟨S.m,S.n,((q+q:Int):Rat),0,0,0⟩).nr=S.nr+q+q:=by
 obtain⟨g1,g2⟩:=S.half.fl_spec hm hn;have e:∀f:Int,(S.add ⟨S.m,S.n,((q+q:Int):Rat),0,0,0⟩).half.lessq (f+(q+q))=S.half.lessq f:=fun f=>by
  refine Sn.ext' rfl rfl ?_ ?_ ?_ ?_ <;>simp only[Sn.add,Sn.lessq,Sn.half,Sn.up,jr]<;>grind
 have hf:(S.add ⟨S.m,S.n,((q+q:Int):Rat),0,0,0⟩).half.fl=S.half.fl+(q+q):=wK (S.add ⟨S.m,S.n,((q+q:Int):Rat),0,0,0⟩).half hm hn (by rw[e];exact g1) (by
  rw[show S.half.fl+(q+q)+1=(S.half.fl+1)+(q+q)by omega,e];exact g2)
 unfold Sn.nr;rw[hf,e,show(S.half.fl+(q+q)) % 2=S.half.fl % 2 by omega];split<;>omega
def bq(b:Nat)(q:Rat):Prop:=q.num.natAbs<2^b∧q.den<2^b
theorem fA{a b:Nat}(h:a≤b:=by omega):2^a≤2^b:=da (by decide) h
theorem bq.mono{a b:Nat}{q:Rat}(h:bq a q)(hab:a≤b):bq b q:=⟨cN h.1 (fA (h:=hab)),cN h.2 (fA (h:=hab))⟩
theorem bq.of{n d:Int}{q:Rat}{b:Nat}(hd:0<d)(h:q=Rat.divInt n d)(h1:n.natAbs<2^b)(h2:d.natAbs<2^b):bq b q:=by
 obtain⟨g,hg,e1,e2⟩:=xI hd h;have hn:n.natAbs=q.num.natAbs*g.natAbs:=by rw[e1,cL]
 have hdd:d.natAbs=q.den*g.natAbs:=by rw[e2,cL];rfl
 have hg1:1≤g.natAbs:=by omega
 constructor
 ·have:q.num.natAbs*1≤q.num.natAbs*g.natAbs:=cI _ hg1;omega
 ·have:q.den*1≤q.den*g.natAbs:=cI _ hg1;omega
theorem bq.mul{a b:Nat}{x y:Rat}(hx:bq a x)(hy:bq b y):bq (a+b) (x*y):=by
 refine bq.of (n:=x.num*y.num) (d:=x.den*y.den) (by have:=gI x;have:=gI y;exact Int.mul_pos (by assumption) (by assumption)) (Qv x y).symm ?_ ?_
 ·rw[cL,cR];exact rG hx.1 hy.1
 ·rw[cL,cR];exact rG hx.2 hy.2
theorem bq.add{a b:Nat}{x y:Rat}(hx:bq a x)(hy:bq b y):bq (a+b+1) (x+y):=by
 refine bq.of (n:=x.num*y.den+y.num*x.den) (d:=x.den*y.den) (by have:=gI x;have:=gI y;exact Int.mul_pos (by assumption) (by assumption)) (Qu x y).symm ?_ ?_
 ·have h1:(x.num*(y.den:Int)).natAbs<2^a*2^b:=by
   rw[cL];exact rG hx.1 hy.2
  have h2:(y.num*(x.den:Int)).natAbs<2^a*2^b:=by
   rw[cL,fp (2^a)];exact rG hy.1 hx.2
  rw[eF,cR];omega
 ·rw[cL,eF,cR];have:(x.den:Int).natAbs*(y.den:Int).natAbs<2^a*2^b:=rG hx.2 hy.2;omega
theorem bq.neg{a:Nat}{x:Rat}(hx:bq a x):bq a (-x):=by
 refine⟨?_,?_⟩
 ·rw[Rat.neg_num,Int.natAbs_neg];exact hx.1
 ·rw[Rat.neg_den];exact hx.2
theorem bq.int{b:Nat}{z:Int}(h:z.natAbs<2^b)(hb:1≤b):bq b (z:Rat):=⟨h,by
 show 1<2^b;exact Nat.one_lt_two_pow (by omega)⟩
theorem bq.zero(b:Nat)(hb:1≤b:=by omega):bq b 0:=bq.int (z:=0) (kn b) hb
theorem NF.tight{s:Sl}{L L' x:Nat}{I:gd}{w:World}(h:(NF s (L,x)).p I w)(hx:x<4294967296^L'):(NF s (L',x)).p I w:=by
 obtain⟨⟨l,hi,hd,hn,hv⟩,h2,h3⟩:=h;refine⟨⟨l,hi,hd,hn,hv⟩,h2,?_⟩;have:=hn.len_of_lt (B:=4294967296) (k:=L') (by decide) (by rw[hv];exact hx);have:=hi.1;omega
theorem II{x b:Nat}(h:x<2^b):x<4294967296^(b/32+1):=by
 have e:4294967296^(b/32+1)=2^(32*(b/32+1)):=by rw[show 4294967296=2^32 by decide,←Nat.pow_mul]
 rw[e];exact cN h (fA)
theorem ZF.tight{s:Sl}{d:Bool}{L b:Nat}{x:Int}{I:gd}{w:World}(h:(ZF s d (L,x)).p I w)(hx:x.natAbs<2^b):(ZF s d (b/32+1,x)).p I w:=⟨NF.tight h.1 (II hx),h.2⟩
theorem QF.tight{n m:Sl}{a b:Bool}{L k:Nat}{q:Rat}{I:gd}{w:World}(h:(QF n a m b (L,q)).p I w)(hq:bq k q):(QF n a m b (k/32+1,q)).p I w:=by
 obtain⟨y,h1,h2,hy⟩:=h;refine⟨y,ZF.tight h1 hq.1,ZF.tight h2 ?_,hy⟩;rcases hy with rfl|⟨rfl,_⟩
 ·exact hq.2
 ·exact kn k
def bS(b:Nat)(S:Sn):Prop:=S.m.natAbs<2^b∧S.n.natAbs<2^b∧bq b S.p∧bq b S.q∧bq b S.r∧bq b S.s
theorem bS.mono{a b:Nat}{S:Sn}(h:bS a S)(hab:a≤b):bS b S:=
 ⟨cN h.1 (fA (h:=hab)),cN h.2.1 (fA (h:=hab)),h.2.2.1.mono hab,h.2.2.2.1.mono hab,h.2.2.2.2.1.mono hab,h.2.2.2.2.2.mono hab⟩
theorem bS.add{b c:Nat}{S T:Sn}(h:bS b S)(g:bS c T):bS (b+c+1) (S.add T):=by
 obtain⟨h1,h2,h3,h4,h5,h6⟩:=h;obtain⟨g1,g2,g3,g4,g5,g6⟩:=g;exact⟨cN h1 (fA),cN h2 (fA),h3.add g3,h4.add g4,h5.add g5,h6.add g6⟩
theorem bS.neg{b:Nat}{S:Sn}(h:bS b S):bS b S.neg:=by
 obtain⟨h1,h2,h3,h4,h5,h6⟩:=h;exact⟨h1,h2,h3.neg,h4.neg,h5.neg,h6.neg⟩
theorem bS.pos{b:Nat}{S:Sn}(h:bS b S):1≤b:=by
 have h2:=h.2.2.1.2;have:=S.p.den_pos;cases b with
 |zero=>simp at h2;omega
 |succ b=>omega
theorem bS.mul{b c:Nat}{S T:Sn}(h:bS b S)(g:bS c T):bS (8*b+4*c+3) (S.mul T):=by
 have hb:=h.pos;obtain⟨h1,h2,h3,h4,h5,h6⟩:=h;obtain⟨g1,g2,g3,g4,g5,g6⟩:=g;have hm:bq b (S.m:Rat):=bq.int h1 hb;have hn:bq b (S.n:Rat):=bq.int h2 hb;refine⟨cN h1 (fA),cN h2 (fA),?_,?_,?_,?_⟩
 ·exact((((h3.mul g3).add (hm.mul (h4.mul g4))).add (hn.mul (h5.mul g5))).add ((hm.mul hn).mul (h6.mul g6))).mono (by omega)
 ·exact(((h3.mul g4).add (h4.mul g3)).add (hn.mul ((h5.mul g6).add (h6.mul g5)))).mono (by omega)
 ·exact(((h3.mul g5).add (h5.mul g3)).add (hm.mul ((h4.mul g6).add (h6.mul g4)))).mono (by omega)
 ·exact((((h3.mul g6).add (h6.mul g3)).add (h4.mul g5)).add (h5.mul g4)).mono (by omega)
theorem SF.tight{x:Sw}{L k:Nat}{S:Sn}{I:gd}{w:World}(h:(SF x (L,S)).p I w)(hq:bS k S):(SF x (k/32+1,S)).p I w:=by
 obtain⟨h1,h2,h3,h4,h5,h6⟩:=h;obtain⟨g1,g2,g3,g4,g5,g6⟩:=hq;exact⟨ZF.tight h1 g1,ZF.tight h2 g2,QF.tight h3 g3,QF.tight h4 g4,QF.tight h5 g5,QF.tight h6 g6⟩
section
variable{fin:VS→List aC→Prop}{Γ:List aC}{L M K:Nat}
end
def YL(n:Int):Rat:=((yl n.natAbs:Nat):Int)
def OY(n:Int):Bool:=n.natAbs-yl n.natAbs*yl n.natAbs==0
def Sn.f1(S:Sn):Sn:=if OY S.m=true then⟨S.m,S.n,0+S.p+YL S.m*S.q,0,0+S.r+YL S.m*S.s,0⟩else S
def Sn.f2(S:Sn):Sn:=if OY S.n=true then⟨S.m,S.n,0+S.p+YL S.n*S.r,0+S.q+YL S.n*S.s,0,0⟩else S
def Sn.f3(S:Sn):Sn:=if OY (S.m*S.n)=true∧OY S.m=false∧OY S.n=false then⟨S.m,S.n,0+S.p+YL (S.m*S.n)*S.s,0+S.q+YL (S.m*S.n)/(S.m:Rat)*S.r,0,0⟩else S
def Sn.fold(S:Sn):Sn:=S.f1.f2.f3
def Sn.w(S:Sn)(j:Nat):Rat:=S.p*lX 1 j+S.q*lX S.m j+S.r*lX S.n j+S.s*lX (S.m*S.n) j
def tw(a:Nat):Rat:=(((2^a:Nat):Int):Rat)
theorem aa0(a:Nat):tw a=((2^a:Int):Rat):=by unfold tw;push_cast;rfl
theorem Rd(a:Nat):0<tw a:=by rw[aa0];exact Fb a
theorem Rc(a b:Nat):tw (a+b)=tw a*tw b:=by unfold tw;rw[←xu,cR]
theorem Yc:tw 1=2:=rfl
theorem Fa{a b:Nat}(h:a≤b):tw a≤tw b:=pF (da (by decide) h)
def md(a d:Nat)(x:Rat):Prop:= -(tw a)≤x∧x≤tw a∧x.den≤2^d
theorem md.mono{a d a' d':Nat}{x:Rat}(h:md a d x)(ha:a≤a')(hd:d≤d'):md a' d' x:=by
 have:=Fa ha;exact⟨by have:=h.1;grind,by have:=h.2.1;grind,aP h.2.2 (da (by decide) hd)⟩
theorem NQ{n d:Int}{q:Rat}(hd:0<d)(h:q=Rat.divInt n d):q.den≤d.natAbs:=by
 obtain⟨g,hg,e1,e2⟩:=xI hd h;have hdd:d.natAbs=q.den*g.natAbs:=by rw[e2,cL];rfl
 have:q.den*1≤q.den*g.natAbs:=cI _ (by omega);omega
theorem md.mul{a d b e:Nat}{x y:Rat}(hx:md a d x)(hy:md b e y):md (a+b) (d+e) (x*y):=by
 have p1:=Rd a;have p2:=Rd b;obtain⟨x1,x2,x3⟩:=hx;obtain⟨y1,y2,y3⟩:=hy;rw[md,Rc];have q1:=bE (show 0≤tw a-x by grind) (show 0≤tw b+y by grind);have q2:=bE (show 0≤tw a+x by grind) (show 0≤tw b-y by grind);have q3:=bE (show 0≤tw a-x by grind) (show 0≤tw b-y by grind);have q4:=bE (show 0≤tw a+x by grind) (show 0≤tw b+y by grind);refine⟨by grind,by grind,?_⟩;have:=NQ (by have:=gI x;have:=gI y;exact Int.mul_pos (by assumption) (by assumption)) (Qv x y).symm;rw[cL]at this;rw[cR];exact aP this (aX x3 y3)
theorem md.add{a d b e:Nat}{x y:Rat}(hx:md a d x)(hy:md b e y):md (max a b+1) (d+e) (x+y):=by
 obtain⟨x1,x2,x3⟩:=hx;obtain⟨y1,y2,y3⟩:=hy;have m1:=Fa (Nat.le_max_left a b);have m2:=Fa (Nat.le_max_right a b);rw[md,Rc (max a b) 1,Yc];refine⟨by grind,by grind,?_⟩;have:=NQ (by have:=gI x;have:=gI y;exact Int.mul_pos (by assumption) (by assumption)) (Qu x y).symm;rw[cL]at this;rw[cR];exact aP this (aX x3 y3)
theorem md.neg{a d:Nat}{x:Rat}(hx:md a d x):md a d (-x):=by
 obtain⟨x1,x2,x3⟩:=hx;exact⟨by grind,by grind,by rw[Rat.neg_den];exact x3⟩
theorem md.int{a:Nat}{z:Int}(h:z.natAbs≤2^a):md a 0 (z:Rat):=by
 have h1:((z.natAbs:Int):Rat)≤tw a:=pF h;have h2:(z:Rat)≤((z.natAbs:Int):Rat):=Rat.intCast_le_intCast.2 (by omega);have h3: -((z.natAbs:Int):Rat)≤(z:Rat):=by rw[←s_];exact Rat.intCast_le_intCast.2 (by omega)
 exact⟨by grind,by grind,aj 1⟩
section
variable{A D c:Nat}
end
theorem md.z{a d:Nat}{x:Rat}(h:md a d x):md a d (0+x):=by
 rw[Rat.zero_add];exact h
theorem md.b{a d:Nat}{x:Rat}(h:md a d x): -(tw a)≤x∧x≤tw a:=⟨h.1,h.2.1⟩
def Sn.nil(F:Sn):Prop:=F.p=0∧F.q=0∧F.r=0∧F.s=0
structure R6 where
 A:Tw
 B:Tw
 C:Tw
 D:Tw
 E:Tw
 F:Tw
section
variable{fin:VS→List aC→Prop}{Γ:List aC}{L M K:Nat}
end
section
variable{fin:VS→List aC→Prop}{Γ:List aC}{L M K:Nat}
end
structure P4 where
 x:Rat
 y:Rat
 z:Rat
 w:Rat
theorem Ga(d:Int):Rat.divInt d 2=(d:Rat)*Rat.divInt 1 2:=by
 rw[←oX,l7];simp
theorem P4.ext'{p q:P4}(h1:p.x=q.x)(h2:p.y=q.y)(h3:p.z=q.z)(h4:p.w=q.w):p=q:=by
 cases p;cases q;simp_all
def bO(b:Nat)(V:On):Prop:=bq b V.g∧bq b V.a∧bq b V.b∧bq b V.c∧bq b V.d
def bP(b:Nat)(p:P4):Prop:=bq b p.x∧bq b p.y∧bq b p.z∧bq b p.w
theorem bq.pos{b:Nat}{q:Rat}(h:bq b q):1≤b:=by
 have h2:=h.2;have:=q.den_pos;cases b with
 |zero=>simp at h2;omega
 |succ b=>omega
theorem bS.r2{b:Nat}{x y:Rat}(hx:bq b x)(hy:bq b y)(hb:2≤b:=by omega):bS b (r2 x y):=
 ⟨cN (by decide:2<2^2) (fA (h:=hb)),kn b,hx,hy,bq.zero b,bq.zero b⟩
theorem OF.tight{x:Q5}{L k:Nat}{V:On}{I:gd}{w:World}(h:(OF x (L,V)).p I w)(hq:bO k V):(OF x (k/32+1,V)).p I w:=by
 obtain⟨h1,h2,h3,h4,h5⟩:=h;obtain⟨g1,g2,g3,g4,g5⟩:=hq;exact⟨QF.tight h1 g1,QF.tight h2 g2,QF.tight h3 g3,QF.tight h4 g4,QF.tight h5 g5⟩
def On.X(V:On)(x y:Rat):Sn:=r2 (V.u0 x 0 y 0) (V.u1 x 0 y 0)
def On.Y(V:On)(x y:Rat):Sn:=r2 (V.v0 x 0 y 0) (V.v1 x 0 y 0)
section
variable{fin:VS→List aC→Prop}{Γ:List aC}{L M K:Nat}
theorem aw.plT{f:FuncId}{args:List Value}{X Y:Sn}{k:Nat}(h:aw tb Tryz.prog f args Γ (vU L X Y))(h1:bS k X)(h2:bS k Y):aw tb Tryz.prog f args Γ (vU (k/32+1) X Y):=
 h.entH (fun v Δ ⟨x,y,e1,e2⟩=>⟨_,⟨x,y,e1,rfl⟩,fun I w hh=>by
  subst e2;exact aD.cons (SF.tight (hh (SF x (L,X)) (List.Mem.head _)) h1) (aT (SF.tight (hh (SF y (L,Y)) (List.Mem.tail _ (List.Mem.head _))) h2))⟩)
theorem PZ(V U:On)(x y:Q5){k:Nat} [aZ (OF x) (L,V) Γ] [aZ (OF y) (M,U) Γ](hk:bO k (V.then U))(ho:0≤V.o∧V.o≤7)(hu:0≤U.o∧U.o≤7)(hL:L≤10000∧M≤10000:=by omega):
  aw tb Tryz.prog 159 [Io V x,Io U y] Γ (fun v Δ=>∃q:Q5,v=Io (V.then U) q∧Δ=[OF q (k/32+1,V.then U)]):=
 (To V U x y ho hu hL).entH (fun v Δ ⟨q,e1,e2⟩=>⟨_,⟨q,e1,rfl⟩,fun I w hh=>by
  subst e2;exact aT (OF.tight hh.h0' hk)⟩)
end
def Fo(n:Int):Rat:=if n=2 then 0 else(n:Rat)
def Fp(n:Int):Rat:=if n=2 then 1 else 0
def RN(a b c d:Rat):Rat:=a*c+(2:Int)*b*d
def RO(a b c d:Rat):Rat:=a*d+b*c
def Sn.n0(S:Sn):Rat:=0+RN S.p 0 (1:Int) 0+RN S.q 0 (Fo S.m) (Fp S.m)+RN S.r 0 (Fo S.n) (Fp S.n)+RN S.s 0 (RN (Fo S.m) (Fp S.m) (Fo S.n) (Fp S.n)) (RO (Fo S.m) (Fp S.m) (Fo S.n) (Fp S.n))
def Sn.n1(S:Sn):Rat:=0+RO S.p 0 (1:Int) 0+RO S.q 0 (Fo S.m) (Fp S.m)+RO S.r 0 (Fo S.n) (Fp S.n)+RO S.s 0 (RN (Fo S.m) (Fp S.m) (Fo S.n) (Fp S.n)) (RO (Fo S.m) (Fp S.m) (Fo S.n) (Fp S.n))
section
variable{fin:VS→List aC→Prop}{Γ:List aC}{L M K:Nat}
theorem EN(x y:Sw){X Y:Sn} [aZ (SF x) (L,X) Γ] [aZ (SF y) (M,Y) Γ](em:X.m=Y.m)(en:X.n=Y.n)(hL:L≤100000:=by omega)(hM:M≤100000:=by omega):
  aw tb Tryz.prog 145 [BS x y] Γ (jy (.bool true)):=by
 refine aw.of_W au Tryz.func145 rfl (W.c1 [] (XI x y em en) (fun X1=>W.r [] (.bool (0==0)) ⟨rfl,rfl⟩ bX))
theorem zZ(u:Sl)(d:Bool){n:Int} [aZ (ZF u d) (L,n) Γ](hn:0≤n∧n≤2)(hL:L≤1000000:=by omega):
  aw tb Tryz.prog 211 [zv u d] Γ (fun v Δ=>∃a b:Qw,v=.tuple #[vK a b,.bool true]∧Δ=[QG a (2,Fo n),QG b (2,Fp n)]):=by
 have hs:jP n=true:=by unfold jP;simp only[aK,cY];omega
 refine aw.of_W au Tryz.func211 rfl (W.more rfl (mK (L':=0)) (W.c0 [] (ve u d hs) (aO [] 14 (!true) rfl (aO [14] 11 (decide (n>2)) (by rw[aW];omega) ?_))));by_cases h2:n=2
 ·refine bh [11] 19 (n==2) (by rw[h2];rfl) (bz [19] (ln 1) (fun n2 a2 m2 b2=>W.r [] (.tuple #[vK cf ⟨n2,a2,m2,b2⟩,.bool true]) ⟨_,_,rfl,rfl⟩ (AO (by unfold Fo;rw[if_pos h2]) (by unfold Fp;rw[if_pos h2];rfl))))
 ·refine aO [11] 19 (n==2) (by rw[cP];exact h2) (bz [19] (ln n) (fun n3 a3 m3 b3=>W.r [] (.tuple #[vK ⟨n3,a3,m3,b3⟩ cf,.bool true]) ⟨_,_,rfl,rfl⟩ (AO (by unfold Fo;rw[if_neg h2]) (by unfold Fp;rw[if_neg h2]))))
theorem BG(u:Sl)(d:Bool){n:Int} [aZ (ZF u d) (L,n) Γ](hn:2<n)(hL:L≤1000000:=by omega):
  aw tb Tryz.prog 211 [zv u d] Γ (jy (.tuple #[vK cf cf,.bool false])):=by
 refine aw.of_W au Tryz.func211 rfl (W.c0 [] (xG u d) ?_);by_cases hs:jP n=true
 ·refine aO [] 14 (!(jP n)) (by rw[hs];rfl) (bh [14] 11 (decide ((if jP n=true then n else 0)>2)) (by rw[if_pos hs,fV];omega) (W.r [11] (.tuple #[vK cf cf,.bool false]) ⟨rfl,rfl⟩ bX))
 ·refine bh [] 14 (!(jP n)) (by rw[Bool.eq_false_iff.2 hs];rfl) (W.r [11,14] (.tuple #[vK cf cf,.bool false]) ⟨rfl,rfl⟩ bX)
theorem xB(a b c d:Qw){x y z w:Rat}{L1 L2 L3 L4:Nat} [aZ (QG a) (L1,x) Γ] [aZ (QG b) (L2,y) Γ] [aZ (QG c) (L3,z) Γ] [aZ (QG d) (L4,w) Γ](hL:L1≤100000∧L2≤100000∧L3≤100000∧L4≤100000:=by omega):
  aw tb Tryz.prog 212 [vK a b,vK c d] Γ (D5 (L1+L2+L3+L4+25) (RN x y z w) (RO x y z w)):=by
 refine aw.of_W au Tryz.func212 rfl (bz [] (bY a.n a.a a.m a.b c.n c.a c.m c.b) (fun n1 a1 m1 b1=>bz [] (ln 2) (fun n2 a2 m2 b2=>bz [] (bY n2 a2 m2 b2 b.n b.a b.m b.b) (fun n3 a3 m3 b3=>bz [] (bY n3 a3 m3 b3 d.n d.a d.m d.b) (fun n4 a4 m4 b4=>bz [] (fz n1 a1 m1 b1 n4 a4 m4 b4) (fun n5 a5 m5 b5=>bz [] (bY a.n a.a a.m a.b d.n d.a d.m d.b) (fun n6 a6 m6 b6=>bz [] (bY b.n b.a b.m b.b c.n c.a c.m c.b) (fun n7 a7 m7 b7=>bz [] (fz n6 a6 m6 b6 n7 a7 m7 b7) (fun n8 a8 m8 b8=>W.r [] (vK ⟨n5,a5,m5,b5⟩ ⟨n8,a8,m8,b8⟩) ⟨_,_,rfl,rfl⟩ (AO rfl rfl))))))))))
theorem Dw(x:Sw){S:Sn} [aZ (SF x) (L,S) Γ](hm:0≤S.m∧S.m≤2)(hn:0≤S.n∧S.n≤2)(hL:L≤20000:=by omega):
  aw tb Tryz.prog 146 [sv x] Γ (fun v Δ=>∃a b:Qw,v=.tuple #[vK a b,.bool true]∧Δ=[QG a (4*L+200,S.n0),QG b (4*L+200,S.n1)]):=by
 refine aw.of_W au Tryz.func146 rfl (W.more rfl (mK (L':=0)) (td x rfl (W.c0 [] (BK x) (bR [] (zZ x.u x.d hm) (fun a2 b2=>bR [] (zZ x.v x.e hn) (fun a3 b3=>aO [] 31 (!true) rfl (aO [31] 34 (!true) rfl (bz [34] (ln 1) (fun n4 a4 m4 b4=>bR [] (xB a2 b2 a3 b3) (fun a5 b5=>j5 [] 6 ?_))))))))));refine W.c0 [46] (xF x) (bR [] (xB x.p cf ⟨n4,a4,m4,b4⟩ cf) (fun a7 b7=>bR [] (oC cf cf a7 b7) (fun a8 b8=>W.c0 [46] (xF x) (bR [] (xB x.q cf a2 b2) (fun a10 b10=>bR [] (oC a8 b8 a10 b10) (fun a11 b11=>W.c0 [46] (xF x) (bR [] (xB x.r cf a3 b3) (fun a13 b13=>bR [] (oC a11 b11 a13 b13) (fun a14 b14=>W.c0 [46] (xF x) (bR [] (xB x.s cf a5 b5) (fun a16 b16=>?_)))))))))));refine bR [] (oC a14 b14 a16 b16) (fun a17 b17=>W.r [46] (.tuple #[vK a17 b17,.bool true]) ⟨_,_,rfl,rfl⟩ (AO rfl rfl))
theorem BE(x:Sw){S:Sn} [aZ (SF x) (L,S) Γ](h0:0≤S.m∧0≤S.n)(hmn:2<S.m∨2<S.n)(hL:L≤20000:=by omega):
  aw tb Tryz.prog 146 [sv x] Γ (jy (.tuple #[vK cf cf,.bool false])):=by
 refine aw.of_W au Tryz.func146 rfl (td x rfl (W.c0 [] (BK x) ?_));by_cases hm:2<S.m
 ·refine W.c0 [] (BG x.u x.d hm) ?_;by_cases hn:2<S.n
  ·refine W.c0 [] (BG x.v x.e hn) (bh [] 31 (!false) rfl (W.r [34,31] (.tuple #[vK cf cf,.bool false]) ⟨rfl,rfl⟩ bX))
  ·refine bR [] (zZ x.v x.e ⟨h0.2,by omega⟩) (fun a3 b3=>bh [] 31 (!false) rfl (W.r [34,31] (.tuple #[vK cf cf,.bool false]) ⟨rfl,rfl⟩ bX))
 ·have hn:2<S.n:=by omega
  refine bR [] (zZ x.u x.d ⟨h0.1,by omega⟩) (fun a2 b2=>W.c0 [] (BG x.v x.e hn) (aO [] 31 (!true) rfl (bh [31] 34 (!false) rfl (W.r [34] (.tuple #[vK cf cf,.bool false]) ⟨rfl,rfl⟩ bX))))
def wH(L:Nat)(X Y:Sn)(v:Value)(Δ:List aC):Prop:=∃x y:Sw,v=.tuple #[BS x y,.int .i64 0]∧Δ=[SF x (L,X),SF y (L,Y)]
theorem Tk(V:On)(t:Q5)(x y:Sw){X Y:Sn}{L1:Nat} [aZ (OF t) (L1,V) Γ] [aZ (SF x) (L,X) Γ] [aZ (SF y) (M,Y) Γ](ho:0≤V.o∧V.o≤7)(em:X.m=Y.m)(en:X.n=Y.n)(hm:0≤X.m∧X.m≤2)(hn:0≤X.n∧X.n≤2)(hL:L≤2000∧M≤2000∧L1≤10000:=by omega):
  aw tb Tryz.prog 88 [Io V t,BS x y] Γ (wH (5*L1+16*max L M+1100) (r2 (V.u0 X.n0 X.n1 Y.n0 Y.n1) (V.u1 X.n0 X.n1 Y.n0 Y.n1)) (r2 (V.v0 X.n0 X.n1 Y.n0 Y.n1) (V.v1 X.n0 X.n1 Y.n0 Y.n1))):=by
 refine aw.of_W au Tryz.func88 rfl (W.c0 [] (EN x y em en) (aO [] 24 (!true) rfl (bR [24] (Dw x hm hn) (fun a2 b2=>bh [] 32 (true) rfl (bR [32] (Dw y (em▸hm) (en▸hn)) (fun a3 b3=>bz [] (EM V t a2 b2 a3 b3 ho) (fun a4 b4 c4 d4=>bR [] (P5) (fun u5 d5=>W.c1 [] (lP u5 d5 ⟨none,0,0⟩ false a4 b4 (by omega) (by omega)) (fun X6=>W.c1 [] (lP u5 d5 ⟨none,0,0⟩ false c4 d4 (by omega) (by omega)) (fun X7=>W.r [] (.tuple #[BS X6 X7,.int .i64 0]) ⟨_,_,rfl,rfl⟩ (Ki rfl rfl)))))))))))
end
section
variable{fin:VS→List aC→Prop}{Γ:List aC}{L M K:Nat}
end
def Fm:On:=⟨false,0,0,0,0,0,0⟩
def cq(N K:Nat)(q:Rat):Prop:=∃z:Int,q*(N:Rat)=(z:Rat)∧z.natAbs≤K
section
variable{N M K J:Nat}{p q:Rat}
theorem cq.mono(h:cq N K q)(hk:K≤J):cq N J q:=by
 obtain⟨z,h1,h2⟩:=h;exact⟨z,h1,aP h2 hk⟩
theorem cq.add(h:cq N K p)(g:cq N J q):cq N (K+J) (p+q):=by
 obtain⟨z,h1,h2⟩:=h;obtain⟨y,g1,g2⟩:=g;exact⟨z+y,by rw[jr];grind,aP (Int.natAbs_add_le z y) (by omega)⟩
theorem cq.neg(h:cq N K p):cq N K (-p):=by
 obtain⟨z,h1,h2⟩:=h;exact⟨-z,by rw[s_];grind,by rw[Int.natAbs_neg];exact h2⟩
theorem cq.mul(h:cq N K p)(g:cq M J q):cq (N*M) (K*J) (p*q):=by
 obtain⟨z,h1,h2⟩:=h;obtain⟨y,g1,g2⟩:=g;exact⟨z*y,by rw[dR,Rat.natCast_mul];grind,by rw[cL];exact aX h2 g2⟩
theorem cq.scale(h:cq N K p)(M:Nat):cq (M*N) (M*K) p:=by
 obtain⟨z,h1,h2⟩:=h;refine⟨M*z,by rw[dR,Rat.natCast_mul,←h1];have:((M:Int):Rat)=(M:Rat):=rfl;grind,?_⟩;rw[cL];exact aX (aj _) h2
theorem cq.unit(h:cq N K p){c:Int}(hc: -1≤c∧c≤1):cq N K (p*(c:Rat)):=by
 obtain⟨z,h1,h2⟩:=h;refine⟨z*c,by rw[dR,←h1];grind,?_⟩;rw[cL];have:c.natAbs≤1:=by omega
 exact aP (aX h2 this) (by omega)
theorem cq.half(h:cq N K p){c:Int}(hc: -1≤c∧c≤1):cq (2*N) K (p*Rat.divInt c 2):=by
 obtain⟨z,h1,h2⟩:=(cq.unit h hc);refine⟨z,?_,h2⟩;have hh:Rat.divInt 1 2+Rat.divInt 1 2=1:=by decide+kernel
 have e2:((2:Nat):Rat)=2:=rfl;rw[Ga,Rat.natCast_mul,e2,←h1];generalize Rat.divInt 1 2=H at*;grind
theorem tx(hp:cq N K p)(hq:cq N K q){c d:Int}(hc: -1≤c∧c≤1)(hd: -1≤d∧d≤1):cq (2*N) (4*K) (tm1 p q c d):=
 (((hp.unit hc).add (hq.unit hd)).scale 2).mono (by omega)
theorem tz(hp:cq N K p)(hq:cq N K q){c d:Int}(hc: -1≤c∧c≤1)(hd: -1≤d∧d≤1):cq (2*N) (4*K) (tm2 p q c d):=
 (((hq.unit hc).scale 2).add (hp.half hd)).mono (by omega)
theorem cq.bq{e:Nat}(h:cq N K q)(hN:0<N)(h1:N≤2^e)(h2:K≤2^e):bq (e+1) q:=by
 obtain⟨z,g1,g2⟩:=h;have hp:0<2^e:=kn e;have hs:2^(e+1)=2^e*2:=eF 2 e;refine bq.of (n:=z) (d:=(N:Int)) (by omega) ?_ (by omega) (by omega);have hne:(N:Rat)≠0:=fun e0=>by
  have:N=0:=Rat.natCast_inj.1 e0;omega
 rw[jn,←g1,show(((N:Nat):Int):Rat)=(N:Rat)from rfl,lz,Rat.mul_assoc,Rat.mul_inv_cancel _ hne,sT]
end
def cO(N K:Nat)(V:On):Prop:=cq N K V.g∧cq N K V.a∧cq N K V.b∧cq N K V.c∧cq N K V.d
theorem cO.mag{N K:Nat}{V:On}(h:cO N K V)(hK:N≤K):cq N K V.mag:=by
 unfold On.mag;split
 ·exact⟨N,by have:((N:Int):Rat)=(N:Rat):=rfl;grind,by omega⟩
 ·exact h.1
theorem cq.sg{N K:Nat}{V:On}{z:Rat}(h:cq N K z):cq N K (V.sg z):=by
 unfold On.sg;split
 ·exact h.neg
 ·exact h
theorem cO.then{N K M J:Nat}{V U:On}(h:cO N K V)(g:cO M J U)(hK:N≤K)(hJ:M≤J):cO (2*(N*M)) (10*(K*J)) (V.then U):=by
 have hm:=g.mag hJ;have hn:=h.mag hK;obtain⟨_,h2,h3,h4,h5⟩:=h;obtain⟨_,g2,g3,g4,g5⟩:=g;have c1:=XK U.o;have c2:=XL U.o;have c3:=Ql U.o;have c4:=Qp U.o;have x:=h2.mul hm;have y:=h3.mul hm;have z:=(h4.sg (V:=U)).mul hm;have w:=(h5.sg (V:=U)).mul hm;have lift:∀{q:Rat},cq M J q→cq (2*(N*M)) (2*(K*J)) q:=fun hq=>by
  have e:=(hq.scale N).scale 2;exact e.mono (aX (aj _) (aX hK (aj _)))
 have l2:=lift g2;have l3:=lift g3;have l4:=lift g4;have l5:=lift g5;generalize hP:K*J=P at*;refine⟨?_,?_,?_,?_,?_⟩
 ·have e:=(hn.mul hm).scale 2;rw[hP]at e;exact e.mono (by omega)
 ·exact(((tx x y c1 c3).add (tx z w c2 c4).neg).add l2).mono (by omega)
 ·exact(((tz x y c1 c3).add (tz z w c2 c4).neg).add l3).mono (by omega)
 ·exact(((tx x y c2 c4).add (tx z w c1 c3)).add l4).mono (by omega)
 ·exact(((tz x y c2 c4).add (tz z w c1 c3)).add l5).mono (by omega)
def sH(e:Nat)(V:On):Prop:=∃N K:Nat,0<N∧N≤K∧K≤2^e∧cO N K V
theorem sH.bO{e:Nat}{V:On}(h:sH e V):bO (e+1) V:=by
 obtain⟨N,K,h0,h1,h2,g1,g2,g3,g4,g5⟩:=h;have hN:=aP h1 h2;exact⟨g1.bq h0 hN h2,g2.bq h0 hN h2,g3.bq h0 hN h2,g4.bq h0 hN h2,g5.bq h0 hN h2⟩
theorem sH.then{e k:Nat}{V U:On}(h:sH e V)(g:sH k U):sH (e+k+4) (V.then U):=by
 obtain⟨N,K,h0,h1,h2,h3⟩:=h;obtain⟨M,J,g0,g1,g2,g3⟩:=g;have a:=aX h1 g1;have b:=aX h2 g2;rw[←cR]at b;have c:2^(e+k+4)=2^(e+k)*16:=cR 2 (e+k) 4;exact⟨2*(N*M),10*(K*J),iw (by decide) (iw h0 g0),by omega,by omega,h3.then g3 h1 g1⟩
theorem aa5:sH 0 Fm:=by
 have z:cq 1 1 0:=⟨0,by decide+kernel,by decide⟩;exact⟨1,1,by decide,by decide,by decide,z,z,z,z,z⟩
def Af:Nat→Sn→Sn→Sn×Sn
 |0,X,Y=>(X,Y)
 |k+1,X,Y=>Af k Y.neg X
def On.farP(V:On)(X Y:Sn):Sn×Sn:=Af (V.o/2).toNat (X.mul ⟨X.m,X.n,V.mag,0,0,0⟩) (if V.f then(Y.mul ⟨X.m,X.n,V.mag,0,0,0⟩).neg else Y.mul ⟨X.m,X.n,V.mag,0,0,0⟩)
def On.farX(V:On)(X Y:Sn):Sn:=(V.farP X Y).1.add ⟨X.m,X.n,V.a,V.b,0,0⟩
def On.farY(V:On)(X Y:Sn):Sn:=(V.farP X Y).2.add ⟨X.m,X.n,V.c,V.d,0,0⟩
structure Dp where
 x:Int
 y:Int
theorem Dp.eq_iff{a b:Dp}:a=b↔a.x=b.x∧a.y=b.y:=by
 constructor
 ·rintro rfl;exact⟨rfl,rfl⟩
 ·obtain⟨a1,a2⟩:=a;obtain⟨b1,b2⟩:=b;rintro⟨h1,h2⟩;simp only at h1 h2;rw[h1,h2]
instance:DecidableEq Dp:=fun a b=>if h:a.x=b.x∧a.y=b.y then isTrue (Dp.eq_iff.2 h)else isFalse (fun e=>h (Dp.eq_iff.1 e))
def mi(v:Dp):Int:=((Nat.gcd v.x.natAbs v.y.natAbs:Nat):Int)
def p6(v:Dp):Dp:=⟨v.x/mi v,v.y/mi v⟩
def gA(p q:Dp):Dp:=p6 ⟨q.x-p.x,q.y-p.y⟩
theorem AU(v:Dp):mi v∣v.x∧mi v∣v.y:=by
 unfold mi;exact⟨Int.ofNat_dvd_left.2 (Nat.gcd_dvd_left _ _),Int.ofNat_dvd_left.2 (Nat.gcd_dvd_right _ _)⟩
theorem tJ{v:Dp}(h:v.x≠0∨v.y≠0):0<mi v:=by
 unfold mi;have:0<Nat.gcd v.x.natAbs v.y.natAbs:=by
  rcases h with h|h
  ·exact Nat.gcd_pos_of_pos_left _ (by omega)
  ·exact Nat.gcd_pos_of_pos_right _ (by omega)
 omega
theorem rQ(v:Dp):v.x=mi v*(p6 v).x∧v.y=mi v*(p6 v).y:=
 ⟨(Int.mul_ediv_cancel' (AU v).1).symm,(Int.mul_ediv_cancel' (AU v).2).symm⟩
theorem CZ(k:Int)(hk:0<k)(v:Dp):p6 ⟨k*v.x,k*v.y⟩=p6 v:=by
 have hg:mi ⟨k*v.x,k*v.y⟩=k*mi v:=by
  unfold mi;simp only[cL,Nat.gcd_mul_left,dQ];rw[show((k.natAbs:Nat):Int)=k by omega]
 unfold p6;simp only[hg,Int.mul_ediv_mul_of_pos _ _ hk]
theorem NV{v:Dp}(h:v.x≠0∨v.y≠0):(p6 v).x≠0∨(p6 v).y≠0:=by
 obtain⟨h1,h2⟩:=rQ v;rcases h with h|h
 ·exact .inl fun e=>h (by rw[h1,e,Int.mul_zero])
 ·exact .inr fun e=>h (by rw[h2,e,Int.mul_zero])
theorem Kg(v:Dp)(h:v.x≠0∨v.y≠0):p6 (p6 v)=p6 v:=by
 have h1:=rQ v;have h2:=CZ (mi v) (tJ h) (p6 v);rw[←h1.1,←h1.2]at h2;exact h2.symm
theorem Bv{p q:Dp}(h:p≠q):(⟨q.x-p.x,q.y-p.y⟩:Dp).x≠0∨(⟨q.x-p.x,q.y-p.y⟩:Dp).y≠0:=by
 simp only;by_cases hx:q.x-p.x=0
 ·by_cases hy:q.y-p.y=0
  ·exact absurd (Dp.eq_iff.2 ⟨by omega,by omega⟩) h
  ·exact .inr hy
 ·exact .inl hx
theorem Ic{p q r:Dp}(h1:p≠q)(h2:q≠r)(h:gA p q=gA q r):p≠r∧gA p r=gA p q:=by
 unfold gA at h⊢;have n1:=Bv h1;have n2:=Bv h2;obtain⟨a1,a2⟩:=rQ ⟨q.x-p.x,q.y-p.y⟩;obtain⟨b1,b2⟩:=rQ ⟨r.x-q.x,r.y-q.y⟩;have ga:=tJ n1;have gb:=tJ n2;have hd:=NV n1;have hdd:=Kg _ n1;rw[←h]at b1 b2;generalize p6 ⟨q.x-p.x,q.y-p.y⟩=d at*;generalize mi ⟨q.x-p.x,q.y-p.y⟩=a at*;generalize mi ⟨r.x-q.x,r.y-q.y⟩=b at*;simp only at a1 a2 b1 b2;have e1:r.x-p.x=(a+b)*d.x:=by rw[Int.add_mul,←a1,←b1];omega
 have e2:r.y-p.y=(a+b)*d.y:=by rw[Int.add_mul,←a2,←b2];omega
 constructor
 ·rintro rfl;rw[Int.sub_self]at e1 e2;have hab:a+b≠0:=by omega
  rcases hd with hd|hd
  ·exact(kj hab hd) e1.symm
  ·exact(kj hab hd) e2.symm
 ·rw[e1,e2,CZ _ (by omega),hdd]
def push(s:List Dp×List Dp)(p:Dp):List Dp×List Dp:=
 match s with
 |([],_)=>([p],[])
 |(l::r,w)=>if l=p then(l::r,w)else if w.head?=some (gA l p)then(p::r,w)else(p::l::r,gA l p::w)
def iO(gj:List Dp):List Dp×List Dp:=gj.foldl push ([],[])
def j_:List Dp→List Dp→Prop
 | [],w=>w=[]
 | [_],w=>w=[]
 |b::a::r,w=>∃d v,w=d::v∧a≠b∧d=gA a b∧v.head?≠some d∧j_ (a::r) v
theorem j_.push{s:List Dp×List Dp}(h:j_ s.1 s.2)(p:Dp):j_ (push s p).1 (push s p).2:=by
 obtain⟨R,w⟩:=s
 match R,h with
 | [],h=>exact rfl
 | [l],h=>
  simp only[j_]at h;subst h;simp only[YtgaaopjagcaojaaGreat.push];split
  ·exact rfl
  ·rename_i hl;simp only[List.head?_nil,reduceCtorEq,dZ];exact⟨gA l p,[],rfl,hl,rfl,by simp,rfl⟩
 |l::a::r,⟨d,v,hw,Cv,hd,hv,hok⟩=>
  simp only at hw;subst hw;simp only[YtgaaopjagcaojaaGreat.push];split
  ·exact⟨d,v,rfl,Cv,hd,hv,hok⟩
  ·rename_i hl;simp only[oV,aq];split
   ·rename_i he;have hj:=Ic Cv hl (by rw[←hd,he]);exact⟨d,v,rfl,hj.1,by rw[hj.2,hd],hv,hok⟩
   ·rename_i he;exact⟨gA l p,d::v,rfl,hl,rfl,by simpa using he,d,v,rfl,Cv,hd,hv,hok⟩
theorem zL:∀(gj:List Dp) (s:List Dp×List Dp),j_ s.1 s.2→j_ (gj.foldl push s).1 (gj.foldl push s).2
 | [],_,h=>h
 |p::r,s,h=>zL r (push s p) (h.push p)
theorem j_.len:∀{R w:List Dp},j_ R w→R.length=if R=[]then 0 else w.length+1
 | [],w,h=>by simp
 | [a],w,h=>by simp only[j_]at h;subst h;simp
 |b::a::r,w,⟨d,v,hw,_,_,_,h⟩=>by
  subst hw;have:=h.len;simp at this⊢;omega
theorem j_.back{l a:Dp}{r w:List Dp}{p:Dp}(h:j_ (l::a::r) w)(hl:l≠p)(hw:w.head?=some (gA l p)):a≠p∧gA a p=gA l p∧∃v,w=gA l p::v∧v.head?≠some (gA l p):=by
 obtain⟨d,v,rfl,Cv,hd,hv,_⟩:=h;simp only[oV,aq]at hw;subst hw;have hj:=Ic Cv hl (by rw[←hd]);exact⟨hj.1,by rw[hj.2,hd],v,rfl,hv⟩
def aa7(D w:List Dp):Prop:=match D with
 |c::b::_=>w.head?=some (gA b c)
 |_=>w=[]
def tq:List Dp→Bool
 |e::d::r=>decide (e=⟨-d.x,-d.y⟩)||tq (d::r)
 |_=>false
def Hh(n:Int):Bool:=decide (n< -2147483648)||decide (2147483647<n)
def tW(p:Dp):Bool:=Hh p.x||Hh p.y
def rK(width kind bg en:Int):Bool:= !(decide (kind=0)||decide (kind=1)||decide (kind=2)||decide (kind=4))||decide (width<1)||decide (2147483647<width)||decide (bg< -2147483647)||decide (2147483647<bg)||decide (en< -2147483647)||decide (2147483647<en)
def rh(gj:List Dp)(width kind bg en:Int):Int:=
 if 8191<gj.length then 2 else if rK width kind bg en=true then 1 else if gj.any tW=true then 26 else if(iO gj).1.length<2 then 7 else if tq (iO gj).2=true then 25 else 0
structure Pa where
 d:Dp
 a:Rat
 b:Rat
 c:Rat
 e:Rat
def kA(d:Dp):Int:=d.x*d.x+d.y*d.y
def qF(d e:Dp):Int:=d.x*e.x+d.y*e.y
def eY(d:Dp):Dp:=⟨-d.y,d.x⟩
def jw(d:Dp):Dp:=⟨-d.x,-d.y⟩
def iS(d:Dp):Dp:=⟨d.y,-d.x⟩
def jQ(d:Dp)(q:Rat):Pa:=⟨d,0,q*Rat.divInt 1 (kA d),0,0⟩
def lK(d:Dp)(q:Rat):Pa:=⟨d,0,0,0,q*Rat.divInt 1 (kA d*2)⟩
def Pa.sx(q:Pa)(m n:Int):Sn:=⟨m,n,q.a*(q.d.x:Rat),q.b*(q.d.x:Rat),q.c*(q.d.x:Rat),q.e*(q.d.x:Rat)⟩
def Pa.sy(q:Pa)(m n:Int):Sn:=⟨m,n,q.a*(q.d.y:Rat),q.b*(q.d.y:Rat),q.c*(q.d.y:Rat),q.e*(q.d.y:Rat)⟩
def alX(m n p:Int)(l:List Pa):Sn:=l.foldl (fun S q=>S.add (q.sx m n)) ⟨m,n,(p:Rat),0,0,0⟩
def alY(m n p:Int)(l:List Pa):Sn:=l.foldl (fun S q=>S.add (q.sy m n)) ⟨m,n,(p:Rat),0,0,0⟩
def al(m n:Int)(p:Dp)(l:List Pa):Sn×Sn:=(alX m n p.x l,alY m n p.y l)
def gn(p d e:Dp)(h:Rat):Sn×Sn:=
 let m:=kA d;let n:=kA e;let t:=qF d e;let k:=h/((qF (eY d) e*qF (eY d) e:Int):Rat)
 al m n p [⟨eY d,0,k*(n:Rat),k*((-t:Int):Rat),0⟩,⟨eY e,0,k*((-t:Int):Rat),k*(m:Rat),0⟩]
def mD(p d:Dp)(h beyond:Rat)(round:Bool):List (Sn×Sn):=
 let m:=kA d
 al m 2 p [jQ d beyond,jQ (eY d) h]::((if round then [al m 2 p [lK d h,lK (eY d) h],al m 2 p [jQ d h],al m 2 p [lK d h,lK (iS d) h]]else [])++[al m 2 p [jQ d beyond,jQ (iS d) h]])
def gE(h:Rat):List Dp→List Dp→List (Sn×Sn)
 |p::c,d::e::w=>gn p d e h::gE h c (e::w)
 |_,_=>[]
def pj(kind bg en:Int)(h:Rat):Rat×Rat:=if kind=2 then(h,h)else if kind=4 then((bg:Rat),(en:Rat))else(0,0)
def sk(c w:List Dp)(width kind bg en:Int):List (Sn×Sn):=
 let h:=Rat.divInt width 2
 let back:=mD (c.getD 0 ⟨0,0⟩) (jw (w.getD 0 ⟨0,0⟩)) h (pj kind bg en h).1 (kind==1)
 back.drop (back.length-1)++gE h c.tail w++mD (c.getD (c.length-1) ⟨0,0⟩) (w.getD (w.length-1) ⟨0,0⟩) h (pj kind bg en h).2 (kind==1)++(gE (-h) c.tail w).reverse++back.take (back.length-1)
open Go.RowKit
def EY(e:Ev):Option (Bool×Value×Value):=
 match e with
 | .read o c=>match o.op with
  | .call cl=>match cl.callee,cl.args.toList with
   | .builtin .max,[x,y]=>match c.s.ev x,c.s.ev y with
    | .val a,.val b=>some (true,a,b)
    |_,_=>none
   | .builtin .min,[x,y]=>match c.s.ev x,c.s.ev y with
    | .val a,.val b=>some (false,a,b)
    |_,_=>none
   |_,_=>none
  |_=>none
 |_=>none
def K9(T:Tb)(e:Ev):Option (List (Nat×List Value)×Nat×Nat×List Value×Value×Value):=
 match e with
 | .own o c=>match o.op with
  | .makeSlice ty l cp=>match T.get ty,c.s.ev l,c.s.ev cp with
   |some t,.val a,.val b=>bif (Nat.beq t.kind 3&&(!Nat.beq t.esize 0&&(Nat.beq t.ezero.length t.esize&& !T.dat t.elem)))then some (c.s.own,t.esize,t.ebytes,t.ezero,a,b)else none
   |_,_,_=>none
  |_=>none
 |_=>none
def EZ(T:Tb)(e:Ev):Option (List (Nat×List Value)×Nat×Value×Value):=
 match e with
 | .own o c=>match o.op with
  | .store ty x v=>match T.get ty,c.s.ev x,c.s.ev v with
   |some t,.val a,.val u=>some (c.s.own,t.size,a,u)
   |_,_,_=>none
  |_=>none
 |_=>none
def QA(T:Tb)(e:Ev):Option (Option IntKind×Value):=
 match e with
 | .read o c=>match o.op with
  | .convert src dst x=>match T.get src,T.get dst,c.s.ev x with
   |some y,some z,.val a=>match T.get y.elem with
    |some q=>bif (Nat.beq y.kind 3&&(Nat.beq z.kind 2&&(!Nat.beq y.esize 0&&Nat.beq y.ezero.length y.esize)))then some (q.ikind,a)else none
    |none=>none
   |_,_,_=>none
  |_=>none
 |_=>none
def QI(T:Tb)(e:Ev):Option (Nat×Value):=
 match e with
 | .read o c=>match o.op with
  | .sliceToArrayPointer ty x=>match T.get ty,c.s.ev x with
   |some t,.val a=>bif Nat.beq t.kind 4 then some (t.alen,a)else none
   |_,_=>none
  |_=>none
 |_=>none
def Ac(T:Tb)(e:Ev):Option (Nat×Value×Option Value×Option Value):=
 match e with
 | .read o c=>match o.op with
  | .slice ty x lo hi none=>match T.get ty,c.s.ev x,Ry c.s lo,Ry c.s hi with
   |some t,.val a,some l,some h=>bif (Nat.beq t.kind 3&&(!Nat.beq t.esize 0&&Nat.beq t.ezero.length t.esize))then some (t.esize,a,l,h)else none
   |_,_,_,_=>none
  |_=>none
 |_=>none
def K7(T:Tb)(e:Ev):Bool:=
 match e with
 | .ask o c=>match o.op with
  | .buildSlice ty n ps=>match T.get ty,ps.toList with
   |some t,[]=>Nat.beq t.kind 3&&(!Nat.beq t.esize 0&&(Nat.beq n 0&&Nat.beq t.ezero.length t.esize))
   |_,_=>false
  |_=>false
 |_=>false
section
variable{T:Tb}{P:Program}{fin:VS→List aC→Prop}{c:fF}{Γ:List aC}
theorem W.shl(D:List Nat)(k yk:IntKind)(a b r:Int)(hr:k.wrap (a*2^(min b.toNat k.bits))=r)
  (hk:W T P fin (fH (aE T (aV T D 999 c)) (.int k r)) Γ)(h:nL (aE T (aV T D 999 c))=some (.shl,.int k a,.int yk b):=by kernel_rfl)(hb:0≤b:=by decide):W T P fin c Γ:=by
 subst hr;refine ez D 999 ?_;generalize aV T D 999 c=c1 at*;unfold nL at h;split at h
 ·rename_i o c' he;rw[he]at hk;split at h
  ·rename_i op ty u v yt hop;split at h
   ·rename_i x y hx hy;simp only[aq,aG]at h;obtain⟨rfl,rfl,rfl⟩:=h;refine W.read _ he (.any ?_) hk;intro w;have hb':¬b<0:=by omega
    simp[execOp,hop,cE hx,cE hy,eqGuard,binOp,Op.shift,hb']
   ·simp at h
  ·simp at h
 ·simp at h
theorem W.shr(D:List Nat)(k yk:IntKind)(a b r:Int)(hr:a.fdiv (2^(min b.toNat k.bits))=r)
  (hk:W T P fin (fH (aE T (aV T D 999 c)) (.int k r)) Γ)(h:nL (aE T (aV T D 999 c))=some (.shr,.int k a,.int yk b):=by kernel_rfl)(hb:0≤b:=by decide):W T P fin c Γ:=by
 subst hr;refine ez D 999 ?_;generalize aV T D 999 c=c1 at*;unfold nL at h;split at h
 ·rename_i o c' he;rw[he]at hk;split at h
  ·rename_i op ty u v yt hop;split at h
   ·rename_i x y hx hy;simp only[aq,aG]at h;obtain⟨rfl,rfl,rfl⟩:=h;refine W.read _ he (.any ?_) hk;intro w;have hb':¬b<0:=by omega
    simp[execOp,hop,cE hx,cE hy,eqGuard,binOp,Op.shift,hb']
   ·simp at h
  ·simp at h
 ·simp at h
theorem oA(D:List Nat)(k:IntKind)(a b r:Int)(hr:a.tmod b=r)
  (hk:W T P fin (fH (aE T (aV T D 999 c)) (.int k r)) Γ)(h:nL (aE T (aV T D 999 c))=some (.rem,.int k a,.int k b):=by kernel_rfl)(hb:b≠0:=by decide):W T P fin c Γ:=by
 subst hr;refine ez D 999 ?_;generalize aV T D 999 c=c1 at*;unfold nL at h;split at h
 ·rename_i o c' he;rw[he]at hk;split at h
  ·rename_i op ty u v yt hop;split at h
   ·rename_i x y hx hy;simp only[aq,aG]at h;obtain⟨rfl,rfl,rfl⟩:=h;refine W.read _ he (.any ?_) hk;intro w;simp[execOp,hop,cE hx,cE hy,eqGuard,binOp,Op.intDiv,hb]
   ·simp at h
  ·simp at h
 ·simp at h
theorem W.quo(D:List Nat)(a b r:Int)(hb:b≠0)(hr:IntKind.i64.wrap (a.tdiv b)=r)
  (hk:W T P fin (fH (aE T (aV T D 999 c)) (.int .i64 r)) Γ)(h:nL (aE T (aV T D 999 c))=some (.quo,.int .i64 a,.int .i64 b):=by kernel_rfl):W T P fin c Γ:=by
 subst hr;refine ez D 999 ?_;generalize aV T D 999 c=c1 at*;unfold nL at h;split at h
 ·rename_i o c' he;rw[he]at hk;split at h
  ·rename_i op ty u v yt hop;split at h
   ·rename_i x y hx hy;simp only[aq,aG]at h;obtain⟨rfl,rfl,rfl⟩:=h;refine W.read _ he (.any ?_) hk;intro w;simp[execOp,hop,cE hx,cE hy,eqGuard,binOp,Op.intDiv,hb]
   ·simp at h
  ·simp at h
 ·simp at h
theorem SH(a b:Int):(if b>a then b else a)=max a b:=by
 rw[Int.max_def];by_cases h:b>a
 ·rw[if_pos h,if_pos (by omega)]
 ·rw[if_neg h];by_cases h2:a≤b
  ·rw[if_pos h2];omega
  ·rw[if_neg h2]
theorem SI(a b:Int):(if b<a then b else a)=min a b:=by
 rw[Int.min_def];by_cases h:b<a
 ·rw[if_pos h,if_neg (by omega)]
 ·rw[if_neg h,if_pos (by omega)]
theorem Np(D:List Nat)(k:IntKind)(a b r:Int)(hr:max a b=r)
  (hk:W T P fin (fH (aE T (aV T D 999 c)) (.int k r)) Γ)(h:EY (aE T (aV T D 999 c))=some (true,.int k a,.int k b):=by kernel_rfl):W T P fin c Γ:=by
 subst hr;refine ez D 999 ?_;generalize aV T D 999 c=c1 at*;unfold EY at h;split at h
 ·rename_i o c' he;rw[he]at hk;split at h
  ·rename_i cl hop;split at h
   ·rename_i sx xx hcal hargs;split at h
    ·rename_i u v hu hv;simp only[aq,aG,true_and]at h;obtain⟨rfl,rfl⟩:=h;have hcargs:cl.args= #[sx,xx]:=by rw[←fB];exact hargs
     refine W.read _ he (.any fun w=>?_) hk;simp[execOp,hop,resolve,invoke,builtin,hcal,hcargs,cE hu,cE hv,Builtin.max_,Builtin.max2,SH]
    ·simp at h
   ·split at h<;>simp at h
   ·simp at h
  ·simp at h
 ·simp at h
theorem pV(D:List Nat)(k:IntKind)(a b r:Int)(hr:min a b=r)
  (hk:W T P fin (fH (aE T (aV T D 999 c)) (.int k r)) Γ)(h:EY (aE T (aV T D 999 c))=some (false,.int k a,.int k b):=by kernel_rfl):W T P fin c Γ:=by
 subst hr;refine ez D 999 ?_;generalize aV T D 999 c=c1 at*;unfold EY at h;split at h
 ·rename_i o c' he;rw[he]at hk;split at h
  ·rename_i cl hop;split at h
   ·split at h<;>simp at h
   ·rename_i sx xx hcal hargs;split at h
    ·rename_i u v hu hv;simp only[aq,aG,true_and]at h;obtain⟨rfl,rfl⟩:=h;have hcargs:cl.args= #[sx,xx]:=by rw[←fB];exact hargs
     refine W.read _ he (.any fun w=>?_) hk;simp[execOp,hop,resolve,invoke,builtin,hcal,hcargs,cE hu,cE hv,Builtin.min_,Builtin.min2,SI]
    ·simp at h
   ·simp at h
  ·simp at h
 ·simp at h
theorem Zf(D:List Nat)(n:Nat)(ao:Option Addr)(len cap:Nat)(hT:T.Ok P)(hl:n≤len)
  (hk:W T P fin (fH (aE T (aV T D 999 c)) (.pointer ao)) Γ)(h:QI T (aE T (aV T D 999 c))=some (n,.slice ao len cap):=by kernel_rfl):W T P fin c Γ:=by
 refine ez D 999 ?_;generalize aV T D 999 c=c1 at*;unfold QI at h;split at h
 ·rename_i o c' he;rw[he]at hk;split at h
  ·rename_i ty x hop;split at h
   ·rename_i t a ht ha;cases hkd:Nat.beq t.kind 4 with
    |false=>simp[hkd]at h
    |true=>
     simp only[hkd,bZ,aq,aG]at h;obtain⟨rfl,rfl⟩:=h;refine W.read _ he (.any fun w=>?_) hk;obtain⟨hd,_⟩:=pC hT ht (aI hkd);have:¬len<t.alen:=by omega
     simp[execOp,hop,cE ha,Instr.arrayAt,cM hd,this]
   ·simp at h
  ·simp at h
 ·simp at h
theorem CM(D:List Nat)(ao:Option Addr)(n cp:Nat)(zs:List Int)(hT:T.Ok P) [hrp:aZ (RA ao) (zs.map (Value.int .u8)) Γ](hn:n=zs.length)
  (hk:W T P fin (fH (aE T (aV T D 999 c)) (.string (strOfNums zs))) Γ)(h:QA T (aE T (aV T D 999 c))=some (some .u8,.slice ao n cp):=by kernel_rfl):W T P fin c Γ:=by
 refine ez D 999 ?_;generalize aV T D 999 c=c1 at*;unfold QA at h;split at h
 ·rename_i o c' he;rw[he]at hk;split at h
  ·rename_i src dst x hop;split at h
   ·rename_i y z a hy hz ha;split at h
    ·rename_i q hq;cases hc:(Nat.beq y.kind 3&&(Nat.beq z.kind 2&&(!Nat.beq y.esize 0&&Nat.beq y.ezero.length y.esize)))with
     |false=>simp[hc]at h
     |true=>
      simp only[hc,bZ,aq,aG]at h;obtain⟨hik,rfl⟩:=h;simp only[aK,cF]at hc;obtain⟨c2,c3,c4,c5⟩:=hc;have hne:y.esize≠0:=by
       intro e0;rw[e0]at c4;simp at c4
      obtain⟨ie,zz,hd,hie,Fl,hsz,Gl,RG,hze⟩:=nf hT hy (aI c2) hne (aI c5);have ZW:=zg hT hz (aI c3);have hel:=zd hT hq hik;refine W.read _ he (.look (by simp[ji,hop,hy,aI c2]) ?_) hk;intro I w hdo hh _;have hrow:=hrp.p hh;have hrun:(convert src dst (.slice ao n cp)).run P w=.ok (.string (strOfNums zs)) w:=by
       by_cases hz0:zs=[]
       ·subst hz0;simp only[a_]at hn;subst hn;cases ao with
        |none=>exact run_convert_bytes_nil w src y.elem hd hel 0 cp dst ZW
        |some ad=>
         rw[run_convert_bytes_string w src dst y.elem _ 0 cp hd hel ZW,run_bytesToString w ad 0 cp [] (by simp[loadCells,loadCellsFrom])];rfl
       ·obtain⟨b0,CA,rfl,_,h3⟩:=hrow (by simpa using hz0);refine run_convert_bytes_arg w src y.elem hd hel b0 CA n cp zs hn.symm (fun i hi=>?_) dst ZW;refine h3 i _ ?_;have hi':i<zs.length:=by omega
        simp[List.getD,ah hi']
      simp[execOp,hop,cE ha,hrun]
    ·simp at h
   ·simp at h
  ·simp at h
 ·simp at h
theorem CL(D:List Nat)(z b off len cap:Nat)(lo hi:Option Value)(l r:Nat)(hT:T.Ok P)
  (hl:lo=some (.int .i64 (l:Int))∨(lo=none∧l=0))(hr:hi=some (.int .i64 (r:Int))∨(hi=none∧r=len))(hlr:l≤r)
  (hk:W T P fin (fH (aE T (aV T D 999 c)) (.slice (some ⟨b,off+l*z,none⟩) (r-l) (cap-l))) Γ)(h:Ac T (aE T (aV T D 999 c))=some (z,.slice (some ⟨b,off,none⟩) len cap,lo,hi):=by kernel_rfl)(hrs:r≤cap:=by omega)(hla:l<cap:=by omega):W T P fin c Γ:=by
 refine ez D 999 ?_;generalize aV T D 999 c=c1 at*;unfold Ac at h;split at h
 ·rename_i o c' he;rw[he]at hk;split at h
  ·rename_i ty x lo' hi' hop;split at h
   ·rename_i t a l' h' ht ha hlo hhi;cases hkd:(Nat.beq t.kind 3&&(!Nat.beq t.esize 0&&Nat.beq t.ezero.length t.esize))with
    |false=>simp[hkd]at h
    |true=>
     simp only[hkd,bZ,aq,aG]at h;obtain⟨rfl,rfl,rfl,rfl⟩:=h;simp only[aK,cF]at hkd;obtain⟨c2,c3,c4⟩:=hkd;have acS:t.esize≠0:=by
      intro e0;rw[e0]at c3;simp at c3
     obtain⟨ie,zz,hd,hie,Fl,hin,Gl,RG,hze⟩:=nf hT ht (aI c2) acS (aI c4);refine W.read _ he (.any ?_) hk;intro w;have hrho:∀(q:Option Operand) (z:Option Value),Ry c'.s q=some z→q.map c'.s.rho=z:=by
      intro q z hq;cases q with
      |none=>simp[Ry]at hq;exact hq
      |some x=>
       simp only[Ry]at hq;split at hq
       ·rename_i v hv;injection hq with hq;subst hq;simp[cE hv]
       ·simp at hq
     have hm1:=hrho _ _ hlo;have hm2:=hrho _ _ hhi;have hne:¬cap=l:=by omega
     have hla':l≤cap:=by omega
     simp only[execOp,hop,Instr.sliceAt,cB,cM hd,bu,cE ha,hm1,hm2];rcases hl with rfl|⟨rfl,rfl⟩<;>rcases hr with rfl|⟨rfl,rfl⟩<;>simp[Instr.slice,Instr.sliceBounds,Instr.sliceBound,asIntOf,cM hd,hlr,hrs,hla',hne,iT hie,hin,gZ]
   ·simp at h
  ·simp at h
 ·simp at h
theorem Nn(D:List Nat)(hT:T.Ok P)
  (hk:∀b,W T P fin (fH (aE T (aV T D 999 c)) (.slice (some ⟨b,0,none⟩) 0 0)) Γ)(h:K7 T (aE T (aV T D 999 c))=true:=by kernel_rfl):W T P fin c Γ:=by
 refine ez D 999 ?_;generalize aV T D 999 c=c1 at*;unfold K7 at h;split at h
 ·rename_i o c' he;rw[he]at hk;split at h
  ·rename_i ty m ps hop;split at h
   ·rename_i t ht hps;simp only[aK,cF]at h;obtain⟨c2,c3,c4,c5⟩:=h;have hm:=aI c4;subst hm;have hne:t.esize≠0:=by
     intro e0;rw[e0]at c3;simp at c3
    obtain⟨ie,zz,hd,hie,Fl,hsz,Gl,RG,hze⟩:=nf hT ht (aI c2) hne (aI c5);refine W.ask (fun v Δ=>∃b,v=.slice (some ⟨b,0,none⟩) 0 0∧Δ=[]) he (fun I w hdo hh=>?_) ?_
    ·have hps':ps= #[]:=by rw[←fB];simpa using hps
     refine⟨_,_,_,?_,⟨w.heap.size,rfl,rfl⟩,(bD _ _).alloc (aj _) (.cells #[] t.elem),aD.nil _ _⟩;simp[execOp,hop,hps',Instr.buildSlice,cM hd,iT hie,Instr.fill,newRow,show Array.range 0= #[]from by decide]
    ·rintro v Δ ⟨b,rfl,rfl⟩;exact hk b
   ·simp at h
  ·simp at h
 ·simp at h
theorem dS(D:List Nat)(own:List (Nat×List Value))(b off n:Nat)(row:List Value)(v:Value)(hT:T.Ok P)
  (hm:(b,row)∈own)(hv:row[off]? =some v)
  (hk:W T P fin (fH (aE T (aV T D 999 c)) v) Γ)(h:vh T (aE T (aV T D 999 c))=some (false,n,.pointer (some ⟨b,off,none⟩),own):=by kernel_rfl):W T P fin c Γ:=by
 refine ez D 999 ?_;generalize aV T D 999 c=c1 at*;unfold vh at h;split at h
 ·rename_i o c' he;rw[he]at hk;split at h
  ·rename_i ty u hop;split at h
   ·rename_i t a ht ha;simp only[aq,aG]at h;obtain⟨hag,hsz,rfl,rfl⟩:=h;refine W.read _ he (.look (by simp[ji,hop]) ?_) hk;intro I w hd hh ho;obtain⟨e',_,hblk⟩:=ho b row hm;obtain⟨i,d,hi,hdd,hz,hsz',hag',_⟩:=fk (hT.ty _ _ ht);have hc:w.cell? ⟨b,off,none⟩=some v:=by rw[nV hblk];exact hv
    simp[execOp,hop,Instr.loadAt,Instr.sureAddr,cE ha,loadVar,kR hdd,hag',hag,hc]
   ·simp at h
  ·simp at h
 ·simp at h
theorem Uf(D:List Nat)(own:List (Nat×List Value))(z bytes n:Nat)(zs:List Value)(row:List Value)(kl kc:IntKind)(hT:T.Ok P)
   (hrow:(madeCells zs.toArray (n*z)).toList=row)
  (hn:n≤1000000)
  (hk:∀g,W T P fin (mA (aE T (aV T D 999 c)) ((g,row)::own) (.slice (some ⟨g,0,none⟩) n n)) Γ)(h:K9 T (aE T (aV T D 999 c))=some (own,z,bytes,zs,.int kl (n:Int),.int kc (n:Int)):=by kernel_rfl)(hb:bytes≤100000000:=by decide):W T P fin c Γ:=by
 refine ez D 999 ?_;generalize aV T D 999 c=c1 at*;unfold K9 at h;split at h
 ·rename_i o c' he;rw[he]at hk;split at h
  ·rename_i ty l cp hop;split at h
   ·rename_i t a b ht ha hbv;cases hc:(Nat.beq t.kind 3&&(!Nat.beq t.esize 0&&(Nat.beq t.ezero.length t.esize&& !T.dat t.elem)))with
    |false=>simp[hc]at h
    |true=>
     simp only[hc,bZ,aq,aG]at h;obtain⟨hown,rfl,rfl,rfl,rfl,rfl⟩:=h;simp only[aK,cF]at hc;obtain⟨c2,c3,c4,c5⟩:=hc;have hne:t.esize≠0:=by
      intro e0;rw[e0]at c3;simp at c3
     obtain⟨ie,zz,hd,hie,Fl,hsz,Gl,RG,hze⟩:=nf hT ht (aI c2) hne (aI c4);have hnb:n*t.ebytes≤100000000000000:=by
      have:=aX hn hb;omega
     have acR:(ie.bytes:Int)*(n:Int)≤281474976710656:=by
      rw[Gl,lE];have:((n*t.ebytes:Nat):Int)≤((100000000000000:Nat):Int):=Int.ofNat_le.2 hnb;rw[dQ]at this;omega
     refine W.own (fun v' iX Δ=>∃g,v'=.slice (some ⟨g,0,none⟩) n n∧iX=(g,row)::own∧Δ=[]) he (fun I w hdo hh hoa hnod _=>?_) ?_
     ·have hrun:=run_make (P:=P) w ty t.elem ie zz hd hie Fl kl kc (n:Int) (n:Int) (by omega) (by omega) acR (by omega);simp only[jm]at hrun;rw[hown]at hoa hnod;have Gt:∀b cs,(b,cs)∈own→b<w.heap.size:=fun b cs hb=>by
       obtain⟨_,_,hc⟩:=hoa b cs hb;exact cw hc
      have hold:∀k,k<w.heap.size→(w.alloc (.cells (madeCells zz.cells (n*ie.size)) t.elem)).heap[k]? =w.heap[k]? :=fun k hk=>((bD w.heap.size w).alloc (aj _) _).block k hk;refine⟨_,(w.heap.size,row)::own,[],_,_,?_,.inl rfl,⟨w.heap.size,rfl,rfl,rfl⟩,fun q _ Ku=>((bD q w).alloc Ku _),?_,fun k hk _=>hold k hk,fun b cs hb=>?_,fun b cs hb=>?_,?_,aD.nil _ _⟩
      ·simp only[execOp,hop,cE ha,cE hbv,cB];rw[hrun];rfl
      ·exact((bD w.heap.size w).alloc (aj _) (.cells (madeCells zz.cells (n*ie.size)) t.elem)).size
      ·rcases List.mem_cons.1 hb with hb|hb
       ·injection hb with h1' h2';subst h1' h2';refine⟨t.elem,c5,?_⟩;have YG:cs.toArray=madeCells zz.cells (n*ie.size):=by
         rw[←hrow,hze,hsz]
        rw[YG];show(w.heap.push _)[w.heap.size]? =_;simp
       ·obtain⟨e',he',hc⟩:=hoa b cs hb;exact⟨e',he',by rw[hold b (Gt b cs hb)];exact hc⟩
      ·rcases List.mem_cons.1 hb with hb|hb
       ·injection hb with h1' h2';subst h1';exact .inr (aj _)
       ·exact .inl ⟨cs,by rw[hown];exact hb⟩
      ·rw[bQ,km];refine⟨fun lV=>?_,hnod⟩;obtain⟨⟨b,cs⟩,h1,h2⟩:=List.mem_map.1 lV;have:=Gt b cs h1;simp only at h2;omega
     ·rintro v' iX Δ ⟨g,rfl,rfl,rfl⟩;exact hk g
   ·simp at h
  ·simp at h
 ·simp at h
theorem Zg(D:List Nat)(own O1 O2:List (Nat×List Value))(z g off:Nat)(row:List Value)(u:Value)(hT:T.Ok P)
  (h:EZ T (aE T (aV T D 999 c))=some (own,z,.pointer (some ⟨g,off,none⟩),u))(ho:own=O1++(g,row)::O2)(hz:u.cells.size=z)(h1:∀v∈u.cells.toList,v.oneCell'=true)(hfit:off+z≤row.length)
  (hk:W T P fin (mA (aE T (aV T D 999 c)) (O1++(g,row.take off++u.cells.toList++row.drop (off+z))::O2) undef) Γ):W T P fin c Γ:=by
 refine ez D 999 ?_;generalize aV T D 999 c=c1 at*;unfold EZ at h;split at h
 ·rename_i o c' he;rw[he]at hk;split at h
  ·rename_i ty x v hop;split at h
   ·rename_i t a u' ht ha hu;simp only[aq,aG]at h;obtain⟨hown,rfl,rfl,rfl⟩:=h;refine W.own (fun v' iX Δ=>v'=undef∧iX=O1++(g,row.take off++u'.cells.toList++row.drop (off+t.size))::O2∧Δ=[]) he (fun I w hdo hh hoa hnod _=>?_) ?_
    ·rw[hown]at hoa hnod;obtain⟨e',he',hblk⟩:=hoa g row (by rw[ho];simp);obtain⟨i,d,hi,qe,Fl,hsz,_⟩:=fk (hT.ty _ _ ht);have hlen:u'.cells.toList.length=t.size:=by simpa using hz
     have hst:=run_storeCells_at P g off e' u'.cells.toList 0 row.toArray w hblk (by simp only[qB];omega) h1;rw[hlen]at hst;have hne:¬u'.cells.size≠i.size:=by simp[hz,hsz]
     have hexec:(execOp c'.s.rho o).run P w=.ok .skip (w.setRow g (row.take off++u'.cells.toList++row.drop (off+t.size)).toArray):=by
      simp only[execOp,hop,Instr.storeAt,Instr.sureAddr,cE ha,cE hu,storeVar,cB,dT,bu,iT hi,if_neg hne,hst,fK]
     refine⟨_,_,[],_,_,hexec,.inr ⟨rfl,rfl⟩,⟨rfl,rfl,rfl⟩,fun q hq _=>⟨rfl,rfl,rfl,by simp,fun k hk=>oK w g k _ (by have:=hq g row (by rw[hown,ho];simp);omega)⟩,by simp,fun k hk hk'=>oK w g k _ (by rintro rfl;exact hk' row (by rw[hown,ho];simp)),fun b cs hb=>?_,fun b cs hb=>?_,?_,aD.nil _ _⟩
     ·have hother:((b,cs)∈O1∨(b,cs)∈O2)→∃e,T.dat e=false∧(w.setRow g (row.take off++u'.cells.toList++row.drop (off+t.size)).toArray).heap[b]? =some (Obj.cells cs.toArray e (0,0)):=by
       intro hb;have hbg:=Dt (by rw[←ho];exact hnod) b cs hb;obtain⟨e,he2,hc⟩:=hoa b cs (by rw[ho];rcases hb with h|h<;>simp[h]);exact⟨e,he2,by rw[oK w g b _ hbg];exact hc⟩
      rcases List.mem_append.1 hb with hb|hb
      ·exact hother (.inl hb)
      ·rcases List.mem_cons.1 hb with hb|hb
       ·injection hb with h1' h2';subst h1' h2';exact⟨e',he',by simpa using setRow_heap w b _ _ e' _ hblk⟩
       ·exact hother (.inr hb)
     ·rcases List.mem_append.1 hb with hb|hb
      ·exact .inl ⟨cs,by rw[hown,ho];simp[hb]⟩
      ·rcases List.mem_cons.1 hb with hb|hb
       ·injection hb with h1' h2';subst h1' h2';exact .inl ⟨row,by rw[hown,ho];simp⟩
       ·exact .inl ⟨cs,by rw[hown,ho];simp[hb]⟩
     ·rw[ho]at hnod;simpa using hnod
    ·rintro v' iX Δ ⟨rfl,rfl,rfl⟩;exact hk
   ·simp at h
  ·simp at h
 ·simp at h
theorem oF(D:List Nat)(own O1 O2:List (Nat×List Value))(z g off:Nat)(row:List Value)(u:Value)(aaU:List Value)(hT:T.Ok P)
   (ho:own=O1++(g,row)::O2)(hz:u.cells.size=z)(h1:∀v∈u.cells.toList,v.oneCell'=true)(hfit:off+z≤row.length)
  (hrow:row.take off++u.cells.toList++row.drop (off+z)=aaU)
  (hk:W T P fin (mA (aE T (aV T D 999 c)) (O1++(g,aaU)::O2) undef) Γ)(h:EZ T (aE T (aV T D 999 c))=some (own,z,.pointer (some ⟨g,off,none⟩),u):=by kernel_rfl):W T P fin c Γ:=by
 subst hrow;exact Zg D own O1 O2 z g off row u hT h ho hz h1 hfit hk
theorem KH(k:IntKind)(z:Int):∀v∈(Value.int k z).cells.toList,v.oneCell'=true:=by
 intro v hv;simp[Value.cells]at hv;subst hv;rfl
theorem D7(O1 O2:List (Nat×List Value))(b:Nat)(cs:List Value)
  (hk:W T P fin ⟨(dN T 999 c).s.setOwn (O1++O2),(dN T 999 c).k⟩ (eT b cs::Γ))(ho:(dN T 999 c).s.own=O1++(b,cs)::O2:=by kernel_rfl)(hm:dF (dN T 999 c).k=false:=by kernel_rfl):W T P fin c Γ:=
 W.code 999 (W.pub (s:=(dN T 999 c).s) (k:=(dN T 999 c).k) hm ho hk)
theorem UE{b:Nat}{cs xs:List Value} [h:aZ (eT b) cs Γ](hx:∀(i:Nat) (v:Value),xs[i]? =some v→cs[i]? =some v):∀I w,bj T I w→aD Γ I w→aD [RA (some ⟨b,0,none⟩) xs] I w:=fun I w _ hh=>
 aD.cons (RA.of_row (h.p hh) hx) (aD.nil _ _)
theorem Nl(D:List Nat)(own:List (Nat×List Value))(z bytes m b0 CA:Nat)(x:Value)(news:List Value)(hT:T.Ok P)
  (h:oR T (aE T (aV T D 999 c))=some (own,z,bytes,.slice (some ⟨b0,CA,none⟩) 0 0,x))(hx:pY T Γ own x m z news)
   (hb:bytes≤100000000)
  (hk0:m=0→W T P fin (mA (aE T (aV T D 999 c)) own (.slice (some ⟨b0,CA,none⟩) 0 0)) Γ)
  (hk:∀g cap cur,0<m→m≤cap→cap≤maxLen→cur.length=cap*z→cur.take (m*z)=news→W T P fin (mA (aE T (aV T D 999 c)) ((g,cur)::own) (.slice (some ⟨g,0,none⟩) m cap)) Γ)(hn:m≤1000000:=by omega):W T P fin c Γ:=by
 refine ez D 999 ?_;generalize aV T D 999 c=c1 at*;unfold oR at h;split at h
 ·rename_i o c' he;rw[he]at hk hk0;split at h
  ·rename_i cl hop;split at h
   ·rename_i sx xx t1 t2 hcal hargs htys;split at h
    ·rename_i a b y1 ha hbv hy;cases hc:(Nat.beq t1 t2&&(Nat.beq y1.kind 3&&(!Nat.beq y1.esize 0&&(Nat.beq y1.ezero.length y1.esize&& !T.dat y1.elem))))with
     |false=>simp[hc]at h
     |true=>
      simp only[hc,bZ,aq,aG]at h;obtain⟨hown,rfl,rfl,rfl,rfl⟩:=h;simp only[aK,cF]at hc;obtain⟨c1',c2,c3,c4,c5⟩:=hc;have OP:=aI c1';subst OP;have hne:y1.esize≠0:=by
       intro e0;rw[e0]at c3;simp at c3
      obtain⟨ie,zz,hd,hie,Fl,hsz,Gl,RG,hze⟩:=nf hT hy (aI c2) hne (aI c4);have hcargs:cl.args= #[sx,xx]:=by rw[←fB];exact hargs
      have hctys:cl.argTypes= #[t1,t1]:=by rw[←fB];exact htys
      obtain⟨ax,cc,rfl,hnl,hrd⟩:=hx;have hnb:(0+m)*y1.ebytes≤140737488355328:=by
       rw[bU];have:=aX hn hb;omega
      refine W.own (fun v' iX Δ=>(m=0∧v'=.slice (some ⟨b0,CA,none⟩) 0 0∧iX=own∧Δ=[])∨(∃g cap cur,0<m∧m≤cap∧cap≤maxLen∧cur.length=cap*y1.esize∧cur.take (m*y1.esize)=news∧v'=.slice (some ⟨g,0,none⟩) m cap∧iX=(g,cur)::own∧Δ=[])) he (fun I w hdo hh hoa hnod hno=>?_) ?_
      ·rw[hown]at hoa hnod;have hexec:∀v' w',(Builtin.append_ #[t1,t1] o.type #[.slice (some ⟨b0,CA,none⟩) 0 0,.slice ax m cc]).run P w=.ok v' w'→(execOp c'.s.rho o).run P w=.ok (.value v') w':=by
        intro v' w' hr;simp[execOp,hop,resolve,invoke,builtin,hcal,hcargs,hctys,cE ha,cE hbv,hr]
       by_cases hm:m=0
       ·subst hm;have hr:=tp (P:=P) w t1 o.type y1.elem ie hd hie (some ⟨b0,CA,none⟩) ax 0 0 cc (aj _);exact⟨_,own,[],w,_,hexec _ _ hr,.inl rfl,.inl ⟨rfl,rfl,rfl,rfl⟩,fun q _ _=>bD _ _,aj _,fun _ _ _=>rfl,hoa,fun b cs hb=>.inl ⟨cs,by rw[hown];exact hb⟩,hnod,aD.nil _ _⟩
       ·obtain⟨ad,rfl,hrd2⟩:=hrd (by omega);have xa:=hrd2 I w hdo hh hoa;obtain⟨v',w',hrun,hw,w_⟩:=run_append_arg_grows (P:=P) w t1 o.type y1.elem ie zz y1.esize y1.ebytes hd hie Fl hsz Gl RG (by omega) ⟨b0,CA,none⟩ 0 0 [] (by simp) (fun j u hj=>by simp at hj) ad m cc news hnl xa (by omega) (by unfold maxLen;omega) hnb;obtain⟨_,hw⟩:=hw;rcases hw with⟨_,h0⟩|⟨g,cap,cur,rfl,hge,ZZ,hnc,hcm,hcs,htk⟩
        ·omega
        ·have Gt:∀b cs,(b,cs)∈own→b<w.heap.size:=fun b cs hb=>by
          obtain⟨_,_,hc⟩:=hoa b cs hb;exact cw hc
         rw[bU]at hrun hnc htk;refine⟨_,(g,cur.toList)::own,[],w',_,hexec _ _ hrun,.inl rfl,.inr ⟨g,cap,cur.toList,by omega,hnc,hcm,by simpa using hcs,by simpa using htk,rfl,rfl,rfl⟩,fun q _ Ku=>⟨w_.os,w_.tape,w_.output,w_.size,fun k hk=>w_.block k (by omega) (by simp)⟩,w_.size,fun k hk _=>w_.block k hk (by simp),fun b cs hb=>?_,fun b cs hb=>?_,?_,aD.nil _ _⟩
         ·rcases List.mem_cons.1 hb with hb|hb
          ·injection hb with h1' h2';subst h1' h2';exact⟨y1.elem,by simpa using c5,by simpa using ZZ⟩
          ·obtain⟨e,he',hc⟩:=hoa b cs hb;exact⟨e,he',by rw[w_.block b (Gt b cs hb) (by simp)];exact hc⟩
         ·rcases List.mem_cons.1 hb with hb|hb
          ·injection hb with h1' h2';subst h1';exact .inr hge
          ·exact .inl ⟨cs,by rw[hown];exact hb⟩
         ·rw[bQ,km];refine⟨fun lV=>?_,hnod⟩;obtain⟨⟨b,cs⟩,h1,h2⟩:=List.mem_map.1 lV;have:=Gt b cs h1;simp only at h2;omega
      ·rintro v' iX Δ (⟨hm,rfl,rfl,rfl⟩|⟨g,cap,cur,h0,h1,h2,h3,h4,rfl,rfl,rfl⟩)
       ·exact hk0 hm
       ·exact hk g cap cur h0 h1 h2 h3 h4
    ·simp at h
   ·simp at h
  ·simp at h
 ·simp at h
end
def rC(W:World)(b1 b2:Nat)(w:World):Prop:=(∀(k:Nat) (o:Obj),k≠b1→k≠b2→W.heap[k]? =some o→w.heap[k]? =some o)∧
 (∃v,w.heap[b1]? =some (.cells #[v] 84 (0,0)))∧(∃v,w.heap[b2]? =some (.cells #[v] 84 (0,0)))∧Below b1 W w
theorem rC.call{W w w':World}{b1 b2:Nat}(h:rC W b1 b2 w)(hb:Below w.heap.size w w'):rC W b1 b2 w':=by
 obtain⟨h1,⟨v1,h2⟩,⟨v2,h3⟩,h4⟩:=h;exact⟨fun k o a b c=>bG hb (h1 k o a b c),⟨v1,bG hb h2⟩,⟨v2,bG hb h3⟩,h4.trans (hb.mono (gg (rR h2)))⟩
theorem rC.kp{W w:World}{b1 b2:Nat}(h:rC W b1 b2 w){v1 v2:Value}(h1:W.heap[b1]? =some (.cells #[v1] 84 (0,0)))(h2:W.heap[b2]? =some (.cells #[v2] 84 (0,0))):Kp W w:=fun b c T f hT hb=>by
 refine h.1 b _ ?_ ?_ hb
 ·rintro rfl;rw[h1]at hb;simp at hb;rcases hT with h|h|h<;>rw[←hb.2.1]at h<;>exact absurd h (by decide)
 ·rintro rfl;rw[h2]at hb;simp at hb;rcases hT with h|h|h<;>rw[←hb.2.1]at h<;>exact absurd h (by decide)
theorem rC.refl{W:World}{b1 b2:Nat}{v1 v2:Value}(h1:W.heap[b1]? =some (.cells #[v1] 84 (0,0)))(h2:W.heap[b2]? =some (.cells #[v2] 84 (0,0))):rC W b1 b2 W:=⟨fun _ _ _ _ h=>h,⟨v1,h1⟩,⟨v2,h2⟩,bD _ _⟩
def D6(w:World)(s:Sl)(g n:Nat)(p:List Nat)(wr:World):Prop:=
 wr.heap[w.heap.size]? =some (.cells #[.slice s.ao s.n s.c] 84 (0,0))∧wr.heap[w.heap.size+1]? =some (.cells #[.slice none 0 0] 84 (0,0))∧
 wr.heap[w.heap.size+1+1]? =some (.cells #[.slice none 0 0] 84 (0,0))∧iX wr (w.heap.size+3) 3 .i64 (.slice (some ⟨g,0,none⟩) n n) p∧Below w.heap.size w wr
theorem D6.up{w:World}{s:Sl}{g n:Nat}{p:List Nat}{wr w':World}(h:D6 w s g n p wr)(hb:Below wr.heap.size wr w'):D6 w s g n p w':=
 ⟨bG hb h.1,bG hb h.2.1,bG hb h.2.2.1,h.2.2.2.1.below hb (aj _),h.2.2.2.2.trans (hb.mono h.2.2.2.2.size)⟩
section
variable{Γ:List aC}{L M x y:Nat}
end
section
variable{fin:VS→List aC→Prop}{Γ:List aC}{L M K:Nat}
end
section
variable{fin:VS→List aC→Prop}{Γ:List aC}{L M K:Nat}
end
section
variable{fin:VS→List aC→Prop}{Γ:List aC}{L M K:Nat}
end
section
variable{fin:VS→List aC→Prop}{Γ:List aC}{L M K:Nat}
end
def tN(z:Int):Prop:= -2147483648≤z∧z≤2147483647
instance(z:Int):Decidable (tN z):=inferInstanceAs (Decidable (_∧_))
theorem Dd{z:Int}(h:tN z):jP z=true:=by
 unfold jP;unfold tN at h;simp only[aK,cY];omega
section
variable{fin:VS→List aC→Prop}{Γ:List aC}{L M K:Nat}
theorem Xv(x y:Sw){X Y:Sn} [aZ (SF x) (L,X) Γ] [aZ (SF y) (M,Y) Γ](hm:0≤X.m)(hn:0≤X.n)(hm':0≤Y.m)(OH:0≤Y.n)(ha:tN X.nr)(hb:tN Y.nr)(hL:L≤280:=by omega)(hM:M≤280:=by omega):
  aw tb Tryz.prog 144 [BS x y] Γ (jy (.tuple #[.agg #[.int .i64 X.nr,.int .i64 Y.nr],.int .i64 0])):=by
 refine aw.of_W au Tryz.func144 rfl (bR [] (KX x hm hn) (fun u1 d1=>W.c0 [] (ve u1 d1 (Dd ha)) (bR [] (KX y hm' OH) (fun u3 d3=>W.c0 [] (ve u3 d3 (Dd hb)) ?_))));unfold tN at ha hb;refine aO [] 24 (!true) rfl (aO [24] 28 (!true) rfl (aO [28] 32 (decide (X.nr< -2147483648)) (by rw[aW];omega) (aO [32] 36 (decide (X.nr>2147483647)) (by rw[aW];omega) (aO [36] 40 (decide (Y.nr< -2147483648)) (by rw[aW];omega) (aO [40] 43 (decide (Y.nr>2147483647)) (by rw[aW];omega) (W.r [43] (.tuple #[.agg #[.int .i64 X.nr,.int .i64 Y.nr],.int .i64 0]) ⟨rfl,rfl⟩ bX))))))
theorem Xu(x y:Sw){X Y:Sn} [aZ (SF x) (L,X) Γ] [aZ (SF y) (M,Y) Γ](hm:0≤X.m)(hn:0≤X.n)(hm':0≤Y.m)(OH:0≤Y.n)(h:¬(tN X.nr∧tN Y.nr))(hL:L≤280:=by omega)(hM:M≤280:=by omega):
  aw tb Tryz.prog 144 [BS x y] Γ (jy (.tuple #[.agg #[.int .i64 0,.int .i64 0],.int .i64 26])):=by
 refine aw.of_W au Tryz.func144 rfl (bR [] (KX x hm hn) (fun u1 d1=>W.c0 [] (xG u1 d1) (bR [] (KX y hm' OH) (fun u3 d3=>W.c0 [] (xG u3 d3) ?_))));generalize X.nr=a at*;generalize Y.nr=b at*;cases sa:jP a with
 |false=>
  refine bh [] 24 (!false) rfl (W.r [43,40,36,32,28,24] (.tuple #[.agg #[.int .i64 0,.int .i64 0],.int .i64 26]) ⟨rfl,rfl⟩ bX)
 |true=>
 refine aO [] 24 (!true) rfl ?_;cases sb:jP b with
 |false=>
  refine bh [24] 28 (!false) rfl (W.r [43,40,36,32,28] (.tuple #[.agg #[.int .i64 0,.int .i64 0],.int .i64 26]) ⟨rfl,rfl⟩ bX)
 |true=>
 refine aO [24] 28 (!true) rfl ?_;by_cases h1:a< -2147483648
 ·refine bh [28] 32 (decide (a< -2147483648)) (by rw[fV];exact h1) (W.r [43,40,36,32] (.tuple #[.agg #[.int .i64 0,.int .i64 0],.int .i64 26]) ⟨rfl,rfl⟩ bX)
 refine aO [28] 32 (decide (a< -2147483648)) (by rw[aW];exact h1) ?_;by_cases h2:a>2147483647
 ·refine bh [32] 36 (decide (a>2147483647)) (by rw[fV];exact h2) (W.r [43,40,36] (.tuple #[.agg #[.int .i64 0,.int .i64 0],.int .i64 26]) ⟨rfl,rfl⟩ bX)
 refine aO [32] 36 (decide (a>2147483647)) (by rw[aW];exact h2) ?_;by_cases h3:b< -2147483648
 ·refine bh [36] 40 (decide (b< -2147483648)) (by rw[fV];exact h3) (W.r [43,40] (.tuple #[.agg #[.int .i64 0,.int .i64 0],.int .i64 26]) ⟨rfl,rfl⟩ bX)
 refine aO [36] 40 (decide (b< -2147483648)) (by rw[aW];exact h3) (bh [40] 43 (decide (b>2147483647)) (by rw[fV];unfold tN at h;omega) (W.r [43] (.tuple #[.agg #[.int .i64 0,.int .i64 0],.int .i64 26]) ⟨rfl,rfl⟩ bX))
end
abbrev dv(d:Dp):Value:=.agg #[.int .i64 d.x,.int .i64 d.y]
def iL(B:Int)(d:Dp):Prop:= -B≤d.x∧d.x≤B∧ -B≤d.y∧d.y≤B
abbrev yH(d:Dp)(a b c f:Qw):List Value:=[.int .i64 d.x,.int .i64 d.y,.slice a.n.ao a.n.n a.n.c,.bool a.a,.slice a.m.ao a.m.n a.m.c,.bool a.b,.slice b.n.ao b.n.n b.n.c,.bool b.a,.slice b.m.ao b.m.n b.m.c,.bool b.b,
 .slice c.n.ao c.n.n c.n.c,.bool c.a,.slice c.m.ao c.m.n c.m.c,.bool c.b,.slice f.n.ao f.n.n f.n.c,.bool f.a,.slice f.m.ao f.m.n f.m.c,.bool f.b]
section
variable{Γ:List aC}{L M:Nat}
theorem Jw(d e:Dp)(hd:iL 4294967296 d)(he:iL 4294967296 e):aw tb Tryz.prog 241 [dv d,dv e] Γ (o9 9 (qF d e)):=by
 unfold iL at*;refine aw.of_W au Tryz.func241 rfl (bR [] (dW d.x) (fun u1 d1=>bR [] (dW e.x) (fun u2 d2=>bR [] (mz u1 d1 u2 d2) (fun u3 d3=>bR [] (dW d.y) (fun u4 d4=>bR [] (dW e.y) (fun u5 d5=>bR [] (mz u4 d4 u5 d5) (fun u6 d6=>bR [] (mw u3 d3 u6 d6) (fun u7 d7=>W.r [] (zv u7 d7) ⟨u7,d7,rfl,rfl⟩ (lj rfl)))))))))
theorem Dy(d:Dp)(hd:iL 4294967296 d):aw tb Tryz.prog 236 [dv d] Γ (o9 9 (kA d)):=by
 refine aw.of_W au Tryz.func236 rfl (bR [] (Jw d d hd hd) (fun u1 d1=>W.r [] (zv u1 d1) ⟨u1,d1,rfl,rfl⟩ (lj rfl)))
theorem xD(d:Dp)(hd:iL 4294967296 d):aw tb Tryz.prog 237 [dv d] Γ (jy (dv (eY d))):=by
 unfold iL at*;refine aw.of_W au Tryz.func237 rfl (W.r [] (.agg #[.int .i64 (IntKind.i64.wrap (0-d.y)),.int .i64 d.x]) ⟨?_,rfl⟩ bX);rw[show IntKind.i64.wrap (0-d.y)= -d.y by rw[af];omega];rfl
theorem P6(u:Sl)(d:Bool)(v:Sl)(e:Bool){x y:Int} [aZ (ZF u d) (L,x) Γ] [aZ (ZF v e) (M,y) Γ](hy:y≠0)(hL:L≤1000000000:=by omega)(hM:M≤1000000000:=by omega):
  aw tb Tryz.prog 265 [zv u d,zv v e] Γ (s9 (max L M) (Rat.divInt x y)):=by
 refine aw.of_W au Tryz.func265 rfl (bz [] (z9 u d v e hy) (fun n1 a1 m1 b1=>W.r [] (qv n1 a1 m1 b1) ⟨n1,a1,m1,b1,rfl,rfl⟩ (pq rfl)))
theorem tZ(d:Dp)(n:Sl)(a:Bool)(m:Sl)(b:Bool){q:Rat} [aZ (QF n a m b) (L,q) Γ](hd:iL 4294967296 d)(h0:kA d≠0)(hL:L≤1000:=by omega):
  aw tb Tryz.prog 239 [dv d,qv n a m b] Γ (fun v Δ=>∃Q:Qw,v=.agg (yH d cf Q cf cf).toArray∧Δ=[QG Q (L+14,(jQ d q).b)]):=by
 refine aw.of_W au Tryz.func239 rfl (bR [] (dW 1) (fun u1 d1=>bR [] (Dy d hd) (fun u2 d2=>bz [] (P6 u1 d1 u2 d2 h0) (fun n3 a3 m3 b3=>bz [] (bY n a m b n3 a3 m3 b3) (fun n4 a4 m4 b4=>W.r [] (.agg (yH d cf ⟨n4,a4,m4,b4⟩ cf cf).toArray) ⟨⟨n4,a4,m4,b4⟩,rfl,rfl⟩ (pq rfl))))))
theorem z_(d:Dp)(n:Sl)(a:Bool)(m:Sl)(b:Bool){q:Rat} [aZ (QF n a m b) (L,q) Γ](hd:iL 4294967296 d)(h0:kA d≠0)(hL:L≤1000:=by omega):
  aw tb Tryz.prog 240 [dv d,qv n a m b] Γ (fun v Δ=>∃Q:Qw,v=.agg (yH d cf cf cf Q).toArray∧Δ=[QG Q (L+16,(lK d q).e)]):=by
 refine aw.of_W au Tryz.func240 rfl (bR [] (dW 1) (fun u1 d1=>bR [] (Dy d hd) (fun u2 d2=>bR [] (dW 2) (fun u3 d3=>bR [] (mz u2 d2 u3 d3) (fun u4 d4=>bz [] (P6 u1 d1 u4 d4 (by omega)) (fun n5 a5 m5 b5=>bz [] (bY n a m b n5 a5 m5 b5) (fun n6 a6 m6 b6=>W.r [] (.agg (yH d cf cf cf ⟨n6,a6,m6,b6⟩).toArray) ⟨⟨n6,a6,m6,b6⟩,rfl,rfl⟩ (pq rfl))))))))
theorem Dx(n:Int):aw tb Tryz.prog 187 [.int .i64 n] Γ (jy (.bool (Hh n))):=by
 refine aw.of_W au Tryz.func187 rfl (W.d [] 5 (decide (n< -2147483648)) (fun hb=>?_) (fun hb=>?_))
 ·exact W.r [5] (.bool true) ⟨by unfold Hh;rw[hb];rfl,rfl⟩ bX
 ·refine W.r [5] (.bool (decide (n>2147483647))) ⟨?_,rfl⟩ bX;unfold Hh;rw[hb];simp
theorem Xw(p:Dp):aw tb Tryz.prog 186 [dv p] Γ (jy (.bool (tW p))):=by
 refine aw.of_W au Tryz.func186 rfl (W.c0 [] (Dx p.x) (W.d [] 6 (Hh p.x) (fun hb=>?_) (fun hb=>?_)))
 ·exact W.r [6] (.bool true) ⟨by unfold tW;rw[hb];rfl,rfl⟩ bX
 ·refine W.c0 [6] (Dx p.y) (W.r [6] (.bool (Hh p.y)) ⟨by unfold tW;rw[hb];rfl,rfl⟩ bX)
theorem uM{g a b:Int}(hg:0<g)(h:a=g*b)(h1: -4294967296≤a:=by omega)(h2:a≤4294967296:=by omega): -4294967296≤b∧b≤4294967296:=by
 have k1:b.natAbs≤a.natAbs:=by
  rw[h,cL];exact Nat.le_mul_of_pos_left _ (by omega)
 omega
theorem Ky(x:Int)(h: -9223372036854775807≤x:=by omega)(h2:x≤9223372036854775807:=by omega):max x (IntKind.i64.wrap (0-x))=(x.natAbs:Int):=by
 rw[af];omega
theorem Du(p q:Dp)(hp:iL 2147483648 p)(hq:iL 2147483648 q)(hne:p≠q):aw tb Tryz.prog 235 [dv p,dv q] Γ (jy (dv (gA p q))):=by
 have hv:=Bv hne;have hg:=tJ hv;have hdv:=AU ⟨q.x-p.x,q.y-p.y⟩;have hgd:mi ⟨q.x-p.x,q.y-p.y⟩=((Nat.gcd (q.x-p.x).natAbs (q.y-p.y).natAbs:Nat):Int):=rfl;simp only at hv hdv;unfold iL at*;have e1:IntKind.i64.wrap (q.x-p.x)=q.x-p.x:=by rw[af];omega
 have e2:IntKind.i64.wrap (q.y-p.y)=q.y-p.y:=by rw[af];omega
 refine aw.of_W au Tryz.func235 rfl (Np [] .i64 (IntKind.i64.wrap (q.x-p.x)) (IntKind.i64.wrap (0-IntKind.i64.wrap (q.x-p.x))) ((q.x-p.x).natAbs:Int) (by rw[e1];exact Ky _) (Np [] .i64 (IntKind.i64.wrap (q.y-p.y)) (IntKind.i64.wrap (0-IntKind.i64.wrap (q.y-p.y))) ((q.y-p.y).natAbs:Int) (by rw[e2];exact Ky _) (x7 [] [7,8] (fun a:Nat×Nat=>[(7,.int .i64 (a.1:Int)),(8,.int .i64 (a.2:Int))]) (fun _=>[]) (fun _=>[]) (fun a=>Nat.gcd a.1 a.2=Nat.gcd (q.x-p.x).natAbs (q.y-p.y).natAbs) (fun a=>a.2) ((q.x-p.x).natAbs,(q.y-p.y).natAbs) rfl bX ?_)));rintro⟨a,b⟩ R hab close;simp only at hab;refine W.d [] 28 (decide ((b:Int)>0)) (fun hb=>?_) (fun hb=>?_)
 ·have hk:=jo hb;refine W.rem [28] (a:Int) (b:Int) ((a % b:Nat):Int) (by omega) (by rw[fT (by omega),rB]) (close [] _ _ (b,a % b) (by kernel_rfl) (by kernel_rfl) (by rw[←hab,Nat.gcd_comm a b,Nat.gcd_rec b a,Nat.gcd_comm]) (fG _ (by omega)) bX)
 ·have hk:=eO hb;have hb0:b=0:=by omega
  subst hb0;rw[Nat.gcd_zero_right]at hab;subst hab;rw[←hgd]at*;have hgx:(q.x-p.x).tdiv (mi ⟨q.x-p.x,q.y-p.y⟩)=(gA p q).x:=Int.tdiv_eq_ediv_of_dvd hdv.1;have hgy:(q.y-p.y).tdiv (mi ⟨q.x-p.x,q.y-p.y⟩)=(gA p q).y:=Int.tdiv_eq_ediv_of_dvd hdv.2;have hm:=rQ ⟨q.x-p.x,q.y-p.y⟩;simp only at hm;have bx: -4294967296≤(gA p q).x∧(gA p q).x≤4294967296:=uM hg hm.1;have byy: -4294967296≤(gA p q).y∧(gA p q).y≤4294967296:=uM hg hm.2;refine W.quo [28] (IntKind.i64.wrap (q.x-p.x)) (mi ⟨q.x-p.x,q.y-p.y⟩) (gA p q).x (by omega) (by rw[e1,hgx,af];omega) (W.quo [] (IntKind.i64.wrap (q.y-p.y)) (mi ⟨q.x-p.x,q.y-p.y⟩) (gA p q).y (by omega) (by rw[e2,hgy,af];omega) (W.r [] (dv (gA p q)) ⟨rfl,rfl⟩ bX))
theorem yG(u:Sl)(d:Bool)(v:Sl)(e:Bool)(B:Nat)(a b c f:Qw){m n:Int}{x y z w:Rat}{K L1 L2 L3 L4:Nat} [h1:aZ (ZF u d) (L,m) Γ] [h2:aZ (ZF v e) (M,n) Γ]
  [hr:aZ (eT B) ([(⟨a.n,a.a,a.m,a.b,x⟩:QE),(⟨b.n,b.a,b.m,b.b,y⟩:QE),(⟨c.n,c.a,c.m,c.b,z⟩:QE),(⟨f.n,f.a,f.m,f.b,w⟩:QE)].flatMap QR.cells) Γ]
  [ha:aZ (QG a) (L1,x) Γ] [hb:aZ (QG b) (L2,y) Γ] [hc:aZ (QG c) (L3,z) Γ] [hf:aZ (QG f) (L4,w) Γ](hm:0≤m)(hn:0≤n)
  (hL:L≤100000:=by omega)(hM:M≤100000:=by omega)(hK:L1≤K∧L2≤K∧L3≤K∧L4≤K:=by omega):
  aw tb Tryz.prog 148 [zv u d,zv v e,.slice (some ⟨B,0,none⟩) 4 4] Γ (Yw (max (max L M) K) ⟨m,n,x,y,z,w⟩):=
 (Qh (Γ:=OL QR (some ⟨B,0,none⟩) (K,[(⟨a.n,a.a,a.m,a.b,x⟩:QE),(⟨b.n,b.a,b.m,b.b,y⟩:QE),(⟨c.n,c.a,c.m,c.b,z⟩:QE),(⟨f.n,f.a,f.m,f.b,w⟩:QE)])::Γ) u d v e (some ⟨B,0,none⟩) 4 4 rfl hm hn).weak (fun I w hd hh=>aD.cons ⟨fun q hq=>by
  simp at hq;rcases hq with rfl|rfl|rfl|rfl
  ·exact QF.up2 (ha.p hh) hK.1
  ·exact QF.up2 (hb.p hh) hK.2.1
  ·exact QF.up2 (hc.p hh) hK.2.2.1
  ·exact QF.up2 (hf.p hh) hK.2.2.2,RA.of_row (hr.p hh) (fun _ _ h=>h)⟩ hh) (fun _ _ h=>h)
theorem PJ(p:Dp)(u:Sl)(d:Bool)(v:Sl)(e:Bool)(B:Nat)(g:Dp)(A1 A2 A3 A4:Qw){m n:Int}{x1 x2 x3 x4:Rat}{K1 K2 K3 K4:Nat} [aZ (ZF u d) (L,m) Γ] [aZ (ZF v e) (M,n) Γ] [aZ (eT B) (yH g A1 A2 A3 A4) Γ]
  [aZ (QG A1) (K1,x1) Γ] [aZ (QG A2) (K2,x2) Γ] [aZ (QG A3) (K3,x3) Γ] [aZ (QG A4) (K4,x4) Γ](hp:iL 2147483648 p)(hg:iL 4294967296 g)(h0:0≤m∧0≤n)(hL:L≤10∧M≤10:=by omega)(hK:K1≤45∧K2≤45∧K3≤45∧K4≤45:=by omega):
  aw tb Tryz.prog 238 [dv p,zv u d,zv v e,.slice (some ⟨B,0,none⟩) 1 1] Γ (vU 130 (alX m n p.x [⟨g,x1,x2,x3,x4⟩]) (alY m n p.y [⟨g,x1,x2,x3,x4⟩])):=by
 unfold iL at*;refine aw.of_W au Tryz.func238 rfl (bR [] (dW p.x) (fun ux dx=>bz [] (cD ux dx) (fun nx ax mx Zk=>cW [] 1 ([(⟨nx,ax,mx,Zk,((p.x:Int):Rat)⟩:QE)].flatMap QR.cells) au (fun Bx=>W.c1 [] (BL u d v e Bx ⟨nx,ax,mx,Zk⟩ h0.1 h0.2) (fun X=>bR [] (dW p.y) (fun uy dy=>bz [] (cD uy dy) (fun ny ay my Zl=>cW [] 1 ([(⟨ny,ay,my,Zl,((p.y:Int):Rat)⟩:QE)].flatMap QR.cells) au (fun By=>W.c1 [] (BL u d v e By ⟨ny,ay,my,Zl⟩ h0.1 h0.2) (fun Y=>j5 [] 5 (bI [47] 18 B 0 1 1 .i64 0 0 rfl au (by decide) ?_))))))))));refine jE [] B (0+0*18) (yH g A1 A2 A3 A4) au rfl (j5 [] 5 (bR [55] (dW g.x) (fun Yd Wf=>bz [] (cD Yd Wf) (fun W4 VM WR V4=>bz [] (bY A1.n A1.a A1.m A1.b W4 VM WR V4) (fun G6 FH GR FR=>bR [] (dW g.y) (fun Yh Wj=>bz [] (cD Yh Wj) (fun W8 VQ WV V8=>bz [] (bY A1.n A1.a A1.m A1.b W8 VQ WV V8) (fun G_ FL GW FW=>bR [55] (dW g.x) (fun Ye Wg=>bz [] (cD Ye Wg) (fun W5 VN WS V5=>bz [] (bY A2.n A2.a A2.m A2.b W5 VN WS V5) (fun G7 FI GS FT=>?_)))))))))));refine bR [] (dW g.y) (fun Yi Wk=>bz [] (cD Yi Wk) (fun W_ VT WW V9=>?_))
 refine bz [] (bY A2.n A2.a A2.m A2.b W_ VT WW V9) (fun Ha FM GX FX=>bR [55] (dW g.x) (fun Yf Wh=>bz [] (cD Yf Wh) (fun W6 VO WT V6=>bz [] (bY A3.n A3.a A3.m A3.b W6 VO WT V6) (fun G8 FJ GU FU=>bR [] (dW g.y) (fun Yj Wl=>bz [] (cD Yj Wl) (fun Xa VU WX V_=>bz [] (bY A3.n A3.a A3.m A3.b Xa VU WX V_) (fun Hb FN GY FY=>bR [55] (dW g.x) (fun Yg Wi=>bz [] (cD Yg Wi) (fun W7 VP WU V7=>bz [] (bY A4.n A4.a A4.m A4.b W7 VP WU V7) (fun G9 FK GV FV=>bR [] (dW g.y) (fun Yk Wm=>?_)))))))))));refine bz [] (cD Yk Wm) (fun Xb VV WY Wa=>bz [] (bY A4.n A4.a A4.m A4.b Xb VV WY Wa) (fun Hc FP GZ FZ=>W.revp 15 ([(⟨G6,FH,GR,FR,x1*((g.x:Int):Rat)⟩:QE),(⟨G7,FI,GS,FT,x2*((g.x:Int):Rat)⟩:QE),(⟨G8,FJ,GU,FU,x3*((g.x:Int):Rat)⟩:QE),(⟨G9,FK,GV,FV,x4*((g.x:Int):Rat)⟩:QE)].flatMap QR.cells) (fun Zp=>W.revp 16 ([(⟨G_,FL,GW,FW,x1*((g.y:Int):Rat)⟩:QE),(⟨Ha,FM,GX,FX,x2*((g.y:Int):Rat)⟩:QE),(⟨Hb,FN,GY,FY,x3*((g.y:Int):Rat)⟩:QE),(⟨Hc,FP,GZ,FZ,x4*((g.y:Int):Rat)⟩:QE)].flatMap QR.cells) (fun Zq=>wN [55] 4 4 Zp 0 none none 0 4 au (.inr ⟨rfl,rfl⟩) (.inr ⟨rfl,rfl⟩) ?_))))
 refine W.c1 [] (yG u d v e Zp ⟨G6,FH,GR,FR⟩ ⟨G7,FI,GS,FT⟩ ⟨G8,FJ,GU,FU⟩ ⟨G9,FK,GV,FV⟩ (K:=52) h0.1 h0.2) (fun S0=>wN [] 4 4 Zq 0 none none 0 4 au (.inr ⟨rfl,rfl⟩) (.inr ⟨rfl,rfl⟩) (W.c1 [] (yG u d v e Zq ⟨G_,FL,GW,FW⟩ ⟨Ha,FM,GX,FX⟩ ⟨Hb,FN,GY,FY⟩ ⟨Hc,FP,GZ,FZ⟩ (K:=52) h0.1 h0.2) (fun T0=>?_)));refine W.c1 [] (pL X (S:=(⟨m,n,((p.x:Int):Rat),0,0,0⟩:Sn)) S0 (T:=⟨m,n,x1*((g.x:Int):Rat),x2*((g.x:Int):Rat),x3*((g.x:Int):Rat),x4*((g.x:Int):Rat)⟩) rfl rfl) (fun X0=>?_);refine W.c1 [] (pL Y (S:=(⟨m,n,((p.y:Int):Rat),0,0,0⟩:Sn)) T0 (T:=⟨m,n,x1*((g.y:Int):Rat),x2*((g.y:Int):Rat),x3*((g.y:Int):Rat),x4*((g.y:Int):Rat)⟩) rfl rfl) (fun Y0=>?_);exact W.r [47] (BS X0 Y0) ⟨X0,Y0,rfl,rfl⟩ (mh (Δ:=[_]) (Δ':=[_]) (p8 (by omega) rfl) (p8 (by omega) rfl))
theorem pI(p:Dp)(u:Sl)(d:Bool)(v:Sl)(e:Bool)(B:Nat)(g:Dp)(k:Dp)(A1 A2 A3 A4 B1 B2 B3 B4:Qw){m n:Int}{x1 x2 x3 x4 y1 y2 y3 y4:Rat}{K1 K2 K3 K4 J1 J2 J3 J4:Nat} [aZ (ZF u d) (L,m) Γ] [aZ (ZF v e) (M,n) Γ] [aZ (eT B) (yH g A1 A2 A3 A4++yH k B1 B2 B3 B4) Γ]
  [aZ (QG A1) (K1,x1) Γ] [aZ (QG A2) (K2,x2) Γ] [aZ (QG A3) (K3,x3) Γ] [aZ (QG A4) (K4,x4) Γ] [aZ (QG B1) (J1,y1) Γ] [aZ (QG B2) (J2,y2) Γ] [aZ (QG B3) (J3,y3) Γ] [aZ (QG B4) (J4,y4) Γ](hp:iL 2147483648 p)(hg:iL 4294967296 g)(hk:iL 4294967296 k)(h0:0≤m∧0≤n)(hL:L≤10∧M≤10:=by omega)(hK:K1≤45∧K2≤45∧K3≤45∧K4≤45∧J1≤45∧J2≤45∧J3≤45∧J4≤45:=by omega):
  aw tb Tryz.prog 238 [dv p,zv u d,zv v e,.slice (some ⟨B,0,none⟩) 2 2] Γ (vU 130 (alX m n p.x [⟨g,x1,x2,x3,x4⟩,⟨k,y1,y2,y3,y4⟩]) (alY m n p.y [⟨g,x1,x2,x3,x4⟩,⟨k,y1,y2,y3,y4⟩])):=by
 unfold iL at*;refine aw.of_W au Tryz.func238 rfl (bR [] (dW p.x) (fun ux dx=>bz [] (cD ux dx) (fun nx ax mx Zk=>cW [] 1 ([(⟨nx,ax,mx,Zk,((p.x:Int):Rat)⟩:QE)].flatMap QR.cells) au (fun Bx=>W.c1 [] (BL u d v e Bx ⟨nx,ax,mx,Zk⟩ h0.1 h0.2) (fun X=>bR [] (dW p.y) (fun uy dy=>bz [] (cD uy dy) (fun ny ay my Zl=>cW [] 1 ([(⟨ny,ay,my,Zl,((p.y:Int):Rat)⟩:QE)].flatMap QR.cells) au (fun By=>W.c1 [] (BL u d v e By ⟨ny,ay,my,Zl⟩ h0.1 h0.2) (fun Y=>j5 [] 5 (bI [47] 18 B 0 2 2 .i64 0 0 rfl au (by decide) ?_))))))))));refine jE [] B (0+0*18) (yH g A1 A2 A3 A4) au rfl (j5 [] 5 (bR [55] (dW g.x) (fun Yd Wf=>bz [] (cD Yd Wf) (fun W4 VM WR V4=>bz [] (bY A1.n A1.a A1.m A1.b W4 VM WR V4) (fun G6 FH GR FR=>bR [] (dW g.y) (fun Yh Wj=>bz [] (cD Yh Wj) (fun W8 VQ WV V8=>bz [] (bY A1.n A1.a A1.m A1.b W8 VQ WV V8) (fun G_ FL GW FW=>bR [55] (dW g.x) (fun Ye Wg=>bz [] (cD Ye Wg) (fun W5 VN WS V5=>bz [] (bY A2.n A2.a A2.m A2.b W5 VN WS V5) (fun G7 FI GS FT=>?_)))))))))));refine bR [] (dW g.y) (fun Yi Wk=>bz [] (cD Yi Wk) (fun W_ VT WW V9=>?_))
 refine bz [] (bY A2.n A2.a A2.m A2.b W_ VT WW V9) (fun Ha FM GX FX=>bR [55] (dW g.x) (fun Yf Wh=>bz [] (cD Yf Wh) (fun W6 VO WT V6=>bz [] (bY A3.n A3.a A3.m A3.b W6 VO WT V6) (fun G8 FJ GU FU=>bR [] (dW g.y) (fun Yj Wl=>bz [] (cD Yj Wl) (fun Xa VU WX V_=>bz [] (bY A3.n A3.a A3.m A3.b Xa VU WX V_) (fun Hb FN GY FY=>bR [55] (dW g.x) (fun Yg Wi=>bz [] (cD Yg Wi) (fun W7 VP WU V7=>bz [] (bY A4.n A4.a A4.m A4.b W7 VP WU V7) (fun G9 FK GV FV=>bR [] (dW g.y) (fun Yk Wm=>?_)))))))))));refine bz [] (cD Yk Wm) (fun Xb VV WY Wa=>bz [] (bY A4.n A4.a A4.m A4.b Xb VV WY Wa) (fun Hc FP GZ FZ=>W.revp 15 ([(⟨G6,FH,GR,FR,x1*((g.x:Int):Rat)⟩:QE),(⟨G7,FI,GS,FT,x2*((g.x:Int):Rat)⟩:QE),(⟨G8,FJ,GU,FU,x3*((g.x:Int):Rat)⟩:QE),(⟨G9,FK,GV,FV,x4*((g.x:Int):Rat)⟩:QE)].flatMap QR.cells) (fun Zp=>W.revp 16 ([(⟨G_,FL,GW,FW,x1*((g.y:Int):Rat)⟩:QE),(⟨Ha,FM,GX,FX,x2*((g.y:Int):Rat)⟩:QE),(⟨Hb,FN,GY,FY,x3*((g.y:Int):Rat)⟩:QE),(⟨Hc,FP,GZ,FZ,x4*((g.y:Int):Rat)⟩:QE)].flatMap QR.cells) (fun Zq=>wN [55] 4 4 Zp 0 none none 0 4 au (.inr ⟨rfl,rfl⟩) (.inr ⟨rfl,rfl⟩) ?_))))
 refine W.c1 [] (yG u d v e Zp ⟨G6,FH,GR,FR⟩ ⟨G7,FI,GS,FT⟩ ⟨G8,FJ,GU,FU⟩ ⟨G9,FK,GV,FV⟩ (K:=52) h0.1 h0.2) (fun S0=>wN [] 4 4 Zq 0 none none 0 4 au (.inr ⟨rfl,rfl⟩) (.inr ⟨rfl,rfl⟩) (W.c1 [] (yG u d v e Zq ⟨G_,FL,GW,FW⟩ ⟨Ha,FM,GX,FX⟩ ⟨Hb,FN,GY,FY⟩ ⟨Hc,FP,GZ,FZ⟩ (K:=52) h0.1 h0.2) (fun T0=>?_)));refine W.c1 [] (pL X (S:=(⟨m,n,((p.x:Int):Rat),0,0,0⟩:Sn)) S0 (T:=⟨m,n,x1*((g.x:Int):Rat),x2*((g.x:Int):Rat),x3*((g.x:Int):Rat),x4*((g.x:Int):Rat)⟩) rfl rfl) (fun X0=>?_);refine W.c1 [] (pL Y (S:=(⟨m,n,((p.y:Int):Rat),0,0,0⟩:Sn)) T0 (T:=⟨m,n,x1*((g.y:Int):Rat),x2*((g.y:Int):Rat),x3*((g.y:Int):Rat),x4*((g.y:Int):Rat)⟩) rfl rfl) (fun Y0=>bI [47] 18 B 0 2 2 .i64 1 1 rfl au (by decide) (jE [] B (0+1*18) (yH k B1 B2 B3 B4) au rfl (j5 [] 5 (bR [55] (dW k.x) (fun adD ab6=>bz [] (cD adD ab6) (fun adn abO adf abW=>bz [] (bY B1.n B1.a B1.m B1.b adn abO adf abW) (fun U3 Ui UU Ur=>bR [] (dW k.y) (fun adH ab_=>bz [] (cD adH ab_) (fun adr abS adj ab0=>bz [] (bY B1.n B1.a B1.m B1.b adr abS adj ab0) (fun U7 Um UZ Uv=>bR [55] (dW k.x) (fun adE ab7=>?_)))))))))));refine bz [] (cD adE ab7) (fun ado abP adg abX=>?_)
 refine bz [] (bY B2.n B2.a B2.m B2.b ado abP adg abX) (fun U4 Uj UW Us=>bR [] (dW k.y) (fun adI aca=>bz [] (cD adI aca) (fun ads abT adk ab1=>bz [] (bY B2.n B2.a B2.m B2.b ads abT adk ab1) (fun U8 Un U0 Uw=>bR [55] (dW k.x) (fun adF ab8=>bz [] (cD adF ab8) (fun adp abQ adh abY=>bz [] (bY B3.n B3.a B3.m B3.b adp abQ adh abY) (fun U5 Uk UX Ut=>bR [] (dW k.y) (fun adJ acb=>bz [] (cD adJ acb) (fun adt abU adl ab2=>bz [] (bY B3.n B3.a B3.m B3.b adt abU adl ab2) (fun U9 Uo U1 Ux=>bR [55] (dW k.x) (fun adG ab9=>?_)))))))))));refine bz [] (cD adG ab9) (fun adq abR adi abZ=>bz [] (bY B4.n B4.a B4.m B4.b adq abR adi abZ) (fun U6 Ul UY Uu=>bR [] (dW k.y) (fun adK acd=>bz [] (cD adK acd) (fun adu abV adm ab3=>bz [] (bY B4.n B4.a B4.m B4.b adu abV adm ab3) (fun U_ Up U2 Uy=>W.revp 15 ([(⟨U3,Ui,UU,Ur,y1*((k.x:Int):Rat)⟩:QE),(⟨U4,Uj,UW,Us,y2*((k.x:Int):Rat)⟩:QE),(⟨U5,Uk,UX,Ut,y3*((k.x:Int):Rat)⟩:QE),(⟨U6,Ul,UY,Uu,y4*((k.x:Int):Rat)⟩:QE)].flatMap QR.cells) (fun bu1=>W.revp 16 ([(⟨U7,Um,UZ,Uv,y1*((k.y:Int):Rat)⟩:QE),(⟨U8,Un,U0,Uw,y2*((k.y:Int):Rat)⟩:QE),(⟨U9,Uo,U1,Ux,y3*((k.y:Int):Rat)⟩:QE),(⟨U_,Up,U2,Uy,y4*((k.y:Int):Rat)⟩:QE)].flatMap QR.cells) (fun bv1=>?_)))))))
 refine wN [55] 4 4 bu1 0 none none 0 4 au (.inr ⟨rfl,rfl⟩) (.inr ⟨rfl,rfl⟩) (W.c1 [] (yG u d v e bu1 ⟨U3,Ui,UU,Ur⟩ ⟨U4,Uj,UW,Us⟩ ⟨U5,Uk,UX,Ut⟩ ⟨U6,Ul,UY,Uu⟩ (K:=52) h0.1 h0.2) (fun S1=>wN [] 4 4 bv1 0 none none 0 4 au (.inr ⟨rfl,rfl⟩) (.inr ⟨rfl,rfl⟩) (W.c1 [] (yG u d v e bv1 ⟨U7,Um,UZ,Uv⟩ ⟨U8,Un,U0,Uw⟩ ⟨U9,Uo,U1,Ux⟩ ⟨U_,Up,U2,Uy⟩ (K:=52) h0.1 h0.2) (fun T1=>?_))));refine W.c1 [] (pL X0 (S:=(Sn.add (⟨m,n,((p.x:Int):Rat),0,0,0⟩:Sn) ⟨m,n,x1*((g.x:Int):Rat),x2*((g.x:Int):Rat),x3*((g.x:Int):Rat),x4*((g.x:Int):Rat)⟩)) S1 (T:=⟨m,n,y1*((k.x:Int):Rat),y2*((k.x:Int):Rat),y3*((k.x:Int):Rat),y4*((k.x:Int):Rat)⟩) rfl rfl) (fun X1=>?_);refine W.c1 [] (pL Y0 (S:=(Sn.add (⟨m,n,((p.y:Int):Rat),0,0,0⟩:Sn) ⟨m,n,x1*((g.y:Int):Rat),x2*((g.y:Int):Rat),x3*((g.y:Int):Rat),x4*((g.y:Int):Rat)⟩)) T1 (T:=⟨m,n,y1*((k.y:Int):Rat),y2*((k.y:Int):Rat),y3*((k.y:Int):Rat),y4*((k.y:Int):Rat)⟩) rfl rfl) (fun Y1=>?_);exact W.r [47] (BS X1 Y1) ⟨X1,Y1,rfl,rfl⟩ (mh (Δ:=[_]) (Δ':=[_]) (p8 (by omega) rfl) (p8 (by omega) rfl))
end
end Go.Proofs.YtgaaopjagcaojaaGreat
