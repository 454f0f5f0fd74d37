import Derived.Test.YtgaaopjagcaojaaGreatRc
set_option linter.unusedSimpArgs false
set_option linter.unusedVariables false
set_option maxHeartbeats 8000000
namespace Go.Proofs.YtgaaopjagcaojaaGreat
open Go.RowKit Go.IntWalk
def xM(f:Nat→Rat):Prop:=∃e:Rat,0<e∧∃K,∀k,K≤k→e≤f k
def v_(f:Nat→Rat):Prop:=∀e:Rat,0<e→∃K,∀k,K≤k→ -e≤f k∧f k≤e
def vc(f:Nat→Rat):Prop:=∃C:Rat,0<C∧∀k,-C≤f k∧f k≤C
def ou(f:Nat→Rat)(s:Int):Prop:=(s=1∧xM f)∨(s=0∧v_ f)∨(s= -1∧xM (fun k=> -f k))
theorem wN{e:Rat}(h:0<e):0<e*Rat.divInt 1 2∧e*Rat.divInt 1 2+e*Rat.divInt 1 2=e:=by
 have h2:Rat.divInt 1 2+Rat.divInt 1 2=1:=by decide+kernel
 have h3:(0:Rat)<Rat.divInt 1 2:=by decide+kernel
 exact⟨fP h h3,by rw[←Rat.mul_add,h2,sK]⟩
theorem xM.congr{f g:Nat→Rat}(h:xM f)(e:∀k,f k=g k):xM g:=by rwa [funext e]at h
theorem v_.congr{f g:Nat→Rat}(h:v_ f)(e:∀k,f k=g k):v_ g:=by rwa [funext e]at h
theorem ou.eqf{f g:Nat→Rat}{s:Int}(h:ou f s)(e:∀k,f k=g k):ou g s:=by rwa [funext e]at h
theorem xM.add_nul{f g:Nat→Rat}(h:xM f)(h':v_ g):xM (fun k=>f k+g k):=by
 obtain⟨e,he,K,hK⟩:=h;obtain⟨h1,h2⟩:=wN he;obtain⟨K',hK'⟩:=h' _ h1;refine⟨_,h1,max K K',fun k hk=>?_⟩;have a:=hK k (by omega);have b:=(hK' k (by omega)).1;grind
theorem xM.add{f g:Nat→Rat}(h:xM f)(h':xM g):xM (fun k=>f k+g k):=by
 obtain⟨e,he,K,hK⟩:=h;obtain⟨e',he',K',hK'⟩:=h';refine⟨e,he,max K K',fun k hk=>?_⟩;have a:=hK k (by omega);have b:=hK' k (by omega);grind
theorem xM.mul{f g:Nat→Rat}(h:xM f)(h':xM g):xM (fun k=>f k*g k):=by
 obtain⟨e,he,K,hK⟩:=h;obtain⟨e',he',K',hK'⟩:=h';refine⟨e*e',fP he he',max K K',fun k hk=>?_⟩;have a:=hK k (by omega);have b:=hK' k (by omega);have h1:0≤(f k-e)*g k:=bH (by grind) (by grind);have h2:0≤e*(g k-e'):=bH (by grind) (by grind);grind
theorem v_.neg{f:Nat→Rat}(h:v_ f):v_ (fun k=> -f k):=by
 intro e he;obtain⟨K,hK⟩:=h e he;exact⟨K,fun k hk=>by have:=hK k hk;grind⟩
theorem v_.add{f g:Nat→Rat}(h:v_ f)(h':v_ g):v_ (fun k=>f k+g k):=by
 intro e he;obtain⟨h1,h2⟩:=wN he;obtain⟨K,hK⟩:=h _ h1;obtain⟨K',hK'⟩:=h' _ h1;refine⟨max K K',fun k hk=>?_⟩;have a:=hK k (by omega);have b:=hK' k (by omega);grind
theorem AU{c:Rat}(h:0<c):∃d:Rat,0<d∧d*c=1:=by
 refine⟨c⁻¹,Rat.inv_pos.2 h,Rat.inv_mul_cancel _ (by grind)⟩
theorem v_.mul{f g:Nat→Rat}(h:v_ f)(h':vc g):v_ (fun k=>f k*g k):=by
 intro e he;obtain⟨C,hC,hg⟩:=h';obtain⟨d,hd,hdc⟩:=AU hC;obtain⟨K,hK⟩:=h (e*d) (fP he hd);refine⟨K,fun k hk=>?_⟩;obtain⟨a1,a2⟩:=hK k hk;obtain⟨b1,b2⟩:=hg k;have hb:e*d*C=e:=by rw[Rat.mul_assoc,hdc,sK]
 have h1:0≤(e*d-f k)*(C-g k):=bH (by grind) (by grind);have h2:0≤(e*d-f k)*(C+g k):=bH (by grind) (by grind);have h3:0≤(e*d+f k)*(C-g k):=bH (by grind) (by grind);have h4:0≤(e*d+f k)*(C+g k):=bH (by grind) (by grind);constructor<;>grind
theorem vc.const(x:Rat):vc (fun _=>x):=by
 by_cases h:0≤x
 ·exact⟨x+1,by grind,fun k=>by constructor<;>grind⟩
 ·exact⟨1-x,by grind,fun k=>by constructor<;>grind⟩
theorem vc.add{f g:Nat→Rat}(h:vc f)(h':vc g):vc (fun k=>f k+g k):=by
 obtain⟨C,hC,hf⟩:=h;obtain⟨D,hD,hg⟩:=h';exact⟨C+D,by grind,fun k=>by have:=hf k;have:=hg k;constructor<;>grind⟩
theorem vc.neg{f:Nat→Rat}(h:vc f):vc (fun k=> -f k):=by
 obtain⟨C,hC,hf⟩:=h;exact⟨C,hC,fun k=>by have:=hf k;constructor<;>grind⟩
theorem vc.mul{f g:Nat→Rat}(h:vc f)(h':vc g):vc (fun k=>f k*g k):=by
 obtain⟨C,hC,hf⟩:=h;obtain⟨D,hD,hg⟩:=h';refine⟨C*D,fP hC hD,fun k=>?_⟩;obtain⟨a1,a2⟩:=hf k;obtain⟨b1,b2⟩:=hg k;have h1:0≤(C-f k)*(D-g k):=bH (by grind) (by grind);have h2:0≤(C-f k)*(D+g k):=bH (by grind) (by grind);have h3:0≤(C+f k)*(D-g k):=bH (by grind) (by grind);have h4:0≤(C+f k)*(D+g k):=bH (by grind) (by grind);constructor<;>grind
theorem xM.not_nul{f:Nat→Rat}(h:xM f)(h':v_ f):False:=by
 obtain⟨e,he,K,hK⟩:=h;obtain⟨h1,h2⟩:=wN he;obtain⟨K',hK'⟩:=h' _ h1;have a:=hK (max K K') (by omega);have b:=(hK' (max K K') (by omega)).2;grind
theorem xM.not_neg{f:Nat→Rat}(h:xM f)(h':xM (fun k=> -f k)):False:=by
 obtain⟨e,he,K,hK⟩:=h;obtain⟨e',he',K',hK'⟩:=h';have a:=hK (max K K') (by omega);have b:=hK' (max K K') (by omega);grind
theorem ou.unique{f:Nat→Rat}{s t:Int}(h:ou f s)(h':ou f t):s=t:=by
 have nn:∀{g:Nat→Rat},v_ (fun k=> -g k)→v_ g:=fun{g} h=>h.neg.congr (fun k=>by grind);rcases h with⟨rfl,h⟩|⟨rfl,h⟩|⟨rfl,h⟩<;>rcases h' with⟨rfl,h'⟩|⟨rfl,h'⟩|⟨rfl,h'⟩
 ·rfl
 ·exact(h.not_nul h').elim
 ·exact(h.not_neg h').elim
 ·exact(h'.not_nul h).elim
 ·rfl
 ·exact(h'.not_nul h.neg).elim
 ·exact(h'.not_neg h).elim
 ·exact(h.not_nul h'.neg).elim
 ·rfl
theorem ou.neg{f:Nat→Rat}{s:Int}(h:ou f s):ou (fun k=> -f k) (-s):=by
 rcases h with⟨rfl,h⟩|⟨rfl,h⟩|⟨rfl,h⟩
 ·exact .inr (.inr ⟨rfl,h.congr (fun k=>by grind)⟩)
 ·exact .inr (.inl ⟨rfl,h.neg⟩)
 ·exact .inl ⟨rfl,h⟩
theorem ou.add_nul{f g:Nat→Rat}{s:Int}(h:ou f s)(h':v_ g):ou (fun k=>f k+g k) s:=by
 rcases h with⟨rfl,h⟩|⟨rfl,h⟩|⟨rfl,h⟩
 ·exact .inl ⟨rfl,h.add_nul h'⟩
 ·exact .inr (.inl ⟨rfl,h.add h'⟩)
 ·exact .inr (.inr ⟨rfl,(h.add_nul h'.neg).congr (fun k=>by grind)⟩)
theorem ou.add{f g:Nat→Rat}{s t:Int}(h:ou f s)(h':ou g t)(hst:t=0∨s=t):ou (fun k=>f k+g k) s:=by
 rcases h' with⟨rfl,h'⟩|⟨rfl,h'⟩|⟨rfl,h'⟩
 ·rcases h with⟨rfl,h⟩|⟨rfl,h⟩|⟨rfl,h⟩
  ·exact .inl ⟨rfl,h.add h'⟩
  ·simp at hst
  ·simp at hst
 ·exact h.add_nul h'
 ·rcases h with⟨rfl,h⟩|⟨rfl,h⟩|⟨rfl,h⟩
  ·simp at hst
  ·simp at hst
  ·exact .inr (.inr ⟨rfl,(h.add h').congr (fun k=>by grind)⟩)
theorem ou.mul{f g:Nat→Rat}{s t:Int}(h:ou f s)(h':ou g t)(bf:vc f)(bg:vc g):ou (fun k=>f k*g k) (s*t):=by
 rcases h with⟨rfl,h⟩|⟨rfl,h⟩|⟨rfl,h⟩<;>rcases h' with⟨rfl,h'⟩|⟨rfl,h'⟩|⟨rfl,h'⟩
 ·exact .inl ⟨rfl,h.mul h'⟩
 ·exact .inr (.inl ⟨rfl,(h'.mul bf).congr (fun k=>by grind)⟩)
 ·exact .inr (.inr ⟨rfl,(h.mul h').congr (fun k=>by grind)⟩)
 ·exact .inr (.inl ⟨rfl,h.mul bg⟩)
 ·exact .inr (.inl ⟨rfl,h.mul bg⟩)
 ·exact .inr (.inl ⟨rfl,h.mul bg⟩)
 ·exact .inr (.inr ⟨rfl,(h.mul h').congr (fun k=>by grind)⟩)
 ·exact .inr (.inl ⟨rfl,(h'.mul bf).congr (fun k=>by grind)⟩)
 ·exact .inl ⟨rfl,(h.mul h').congr (fun k=>by grind)⟩
theorem ou.congr{f g:Nat→Rat}{s:Int}(h:ou f s)(hn:v_ (fun k=>g k-f k)):ou g s:=(h.add_nul hn).eqf (fun k=>by grind)
theorem xM.div{f g:Nat→Rat}(hg:xM g)(bg:vc g)(h:xM (fun k=>f k*g k)):xM f:=by
 obtain⟨e,he,K,hK⟩:=hg;obtain⟨C,hC,hb⟩:=bg;obtain⟨d,hd,K',hK'⟩:=h;obtain⟨i,hi,hic⟩:=AU hC;refine⟨d*i,fP hd hi,max K K',fun k hk=>?_⟩;have a:=hK k (by omega);have b:=hK' k (by omega);have c:=(hb k).2;have hg0:0<g k:=by grind
 have hf0:0≤f k:=by
  by_cases h:0≤f k
  ·exact h
  ·have:0≤ -f k*g k:=bH (by grind) (by grind);grind
 have h1:0≤f k*(C-g k):=bH hf0 (by grind);have h2:0≤(f k*C-d)*i:=bH (by grind) (by grind);have h3:f k*C*i=f k:=by rw[Rat.mul_assoc,Rat.mul_comm C i,hic,sK]
 grind
theorem v_.div{f g:Nat→Rat}(hg:xM g)(h:v_ (fun k=>f k*g k)):v_ f:=by
 intro δ hδ;obtain⟨e,he,K,hK⟩:=hg;obtain⟨K',hK'⟩:=h (δ*e) (fP hδ he);refine⟨max K K',fun k hk=>?_⟩;have a:=hK k (by omega);obtain⟨b1,b2⟩:=hK' k (by omega);constructor
 ·by_cases hh: -δ≤f k
  ·exact hh
  ·have h1:0<(-δ-f k)*g k:=fP (by grind) (by grind);have h2:0≤δ*(g k-e):=bH (by grind) (by grind);grind
 ·by_cases hh:f k≤δ
  ·exact hh
  ·have h1:0<(f k-δ)*g k:=fP (by grind) (by grind);have h2:0≤δ*(g k-e):=bH (by grind) (by grind);grind
theorem ou.div{f g:Nat→Rat}{s c:Int}(hg:ou g s)(hs:s≠0)(bg:vc g)(h:ou (fun k=>f k*g k) c):ou f (s*c):=by
 have pos:∀{g:Nat→Rat} {c:Int},xM g→vc g→ou (fun k=>f k*g k) c→ou f c:=by
  intro g c hg bg h;rcases h with⟨rfl,h⟩|⟨rfl,h⟩|⟨rfl,h⟩
  ·exact .inl ⟨rfl,hg.div bg h⟩
  ·exact .inr (.inl ⟨rfl,v_.div hg h⟩)
  ·exact .inr (.inr ⟨rfl,hg.div bg (h.congr (fun k=>by grind))⟩)
 rcases hg with⟨rfl,hg⟩|⟨rfl,hg⟩|⟨rfl,hg⟩
 ·rw[Int.one_mul];exact pos hg bg h
 ·simp at hs
 ·rw[Int.neg_one_mul];exact pos hg bg.neg (h.neg.eqf (fun k=>by grind))
theorem ou.const(x:Rat):ou (fun _=>x) x.num.sign:=by
 rw[Hi];unfold vI;by_cases h:x<0
 ·rw[if_pos h];exact .inr (.inr ⟨rfl,-x,by grind,0,fun _ _=>by grind⟩)
 ·rw[if_neg h];by_cases h0:x=0
  ·rw[if_pos h0];exact .inr (.inl ⟨rfl,fun e he=>⟨0,fun _ _=>by constructor<;>grind⟩⟩)
  ·rw[if_neg h0];exact .inl ⟨rfl,x,by grind,0,fun _ _=>by grind⟩
theorem v_.zero:v_ (fun _=>0):=fun e he=>⟨0,fun _ _=>by constructor<;>grind⟩
theorem QL(x y:Rat):ou (fun _=>x-y) (vI x y):=by
 have e:vI x y=(x-y).num.sign:=by
  rw[Hi];unfold vI;grind
 rw[e];exact ou.const _
def tk(k:Nat):Rat:=Rat.divInt 1 (2^k)
theorem BU(k:Nat):tk k*((2^k:Int):Rat)=1:=by
 have hp:(2:Int)^k≠0:=by have:=Int.pow_pos (n:=(2:Int)) (m:=k) (by decide);omega
 unfold tk;rw[←oK,lP,show(1:Rat)=Rat.divInt 1 1 from rfl,Rat.divInt_eq_divInt_iff (by simpa using hp) (by decide)];grind
theorem EP(k:Nat):(0:Rat)<((2^k:Int):Rat):=by
 have:=Int.pow_pos (n:=(2:Int)) (m:=k) (by decide);exact Rat.intCast_pos.2 this
theorem nW(k:Nat):0<tk k:=by
 have h:=BU k;have h2:=EP k;by_cases hh:0<tk k
 ·exact hh
 ·have:0≤ -tk k*((2^k:Int):Rat):=bH (by grind) (by grind);grind
theorem BV:v_ tk:=by
 intro e he;refine⟨e.den,fun k hk=>⟨by have:=nW k;grind,?_⟩⟩;by_cases hh:tk k≤e
 ·exact hh
 ·exfalso
  have h1:0<(tk k-e)*((2^k:Int):Rat):=fP (by grind) (EP k);have h2:=BU k;have hlt:(e.den:Int)≤2^k:=by
   have:e.den<2^e.den:=Nat.lt_two_pow_self;have h3:(2:Nat)^e.den≤2^k:=cY (by decide) hk;have:e.den≤2^k:=by omega
   exact_mod_cast this
  have h3:((e.den:Int):Rat)≤((2^k:Int):Rat):=Rat.intCast_le_intCast.2 hlt;have h4:0≤e*(((2^k:Int):Rat)-((e.den:Int):Rat)):=bH (by grind) (by grind);have h5:e*((e.den:Int):Rat)=((e.num:Int):Rat):=by
   rw[←oK,←oK]
   conv=>lhs;rw[←lr e]
   rw[lP,Rat.divInt_eq_divInt_iff (by have:=e.den_pos;simp;omega) (by decide)];simp
  have h6:(1:Rat)≤((e.num:Int):Rat):=by
   have:0<e.num:=by rw[Rat.lt_iff]at he;simpa using he
   exact_mod_cast (show(1:Int)≤e.num by omega)
  grind
def lN(m:Int)(k:Nat):Rat:=((vQ (m.natAbs*4^k):Int):Rat)*tk k
theorem ME(k:Nat):lN 0 k=0:=by
 unfold lN;rw[show(0:Int).natAbs*4^k=0 by simp,show vQ 0=0 by decide];exact Rat.zero_mul _
theorem np{m:Int}(hm:0≤m)(k:Nat):0≤lN m k∧lN m k*lN m k≤m∧(m:Rat)<(lN m k+tk k)*(lN m k+tk k):=by
 obtain⟨h1,h2⟩:=wV (m.natAbs*4^k);unfold lN;generalize vQ (m.natAbs*4^k)=R at*;have ht:=nW k;have hm2:=BU k;have e4:(4:Nat)^k=2^k*2^k:=by rw[←Nat.mul_pow]
 have z1:(R:Int)*R≤m*(2^k*2^k):=by
  have:((R*R:Nat):Int)≤((m.natAbs*4^k:Nat):Int):=by exact_mod_cast h1
  rw[e4]at this
  push_cast at this
  rwa [show((m.natAbs:Int))=m by omega]at this
 have z2:m*(2^k*2^k)<((R:Int)+1)*(R+1):=by
  have:((m.natAbs*4^k:Nat):Int)<(((R+1)*(R+1):Nat):Int):=by exact_mod_cast h2
  rw[e4]at this
  push_cast at this
  rwa [show((m.natAbs:Int))=m by omega]at this
 have q1:((R:Int):Rat)*((R:Int):Rat)≤(m:Rat)*(((2^k:Int):Rat)*((2^k:Int):Rat)):=by
  rw[←dH,←dH,←dH];exact Rat.intCast_le_intCast.2 z1
 have q2:(m:Rat)*(((2^k:Int):Rat)*((2^k:Int):Rat))<(((R:Int):Rat)+1)*(((R:Int):Rat)+1):=by
  have:((R:Int):Rat)+1=(((R:Int)+1:Int):Rat):=by rw[fV];rfl
  rw[this,←dH,←dH,←dH];exact Rat.intCast_lt_intCast.2 z2
 have hR:(0:Rat)≤((R:Int):Rat):=by exact_mod_cast Int.natCast_nonneg R
 generalize((R:Int):Rat)=r at*;generalize((2^k:Int):Rat)=w at*;generalize tk k=t at*;have htt:0<t*t:=fP ht ht;have one:t*t*(w*w)=1:=by
  have:t*t*(w*w)=(t*w)*(t*w):=by grind
  rw[this,hm2];grind
 refine⟨bH hR (by grind),?_,?_⟩
 ·have h:=bH (show 0≤(m:Rat)*(w*w)-r*r by grind) (show 0≤t*t by grind);have e:((m:Rat)*(w*w)-r*r)*(t*t)=m*(t*t*(w*w))-r*t*(r*t):=by grind
  rw[e,one]at h;grind
 ·have h:=fP (show 0<(r+1)*(r+1)-(m:Rat)*(w*w)by grind) htt;have e:((r+1)*(r+1)-(m:Rat)*(w*w))*(t*t)=(r*t+t)*(r*t+t)-m*(t*t*(w*w)):=by grind
  rw[e,one]at h;grind
theorem uw{m:Int}(hm:0≤m):vc (lN m):=by
 refine⟨(m:Rat)+1,?_,fun k=>?_⟩
 ·have:(0:Rat)≤(m:Rat):=by exact_mod_cast hm
  grind
 ·obtain⟨h1,h2,_⟩:=np hm k;have:(0:Rat)≤(m:Rat):=by exact_mod_cast hm
  refine⟨by grind,?_⟩;by_cases h:lN m k≤(m:Rat)+1
  ·exact h
  ·have h3:0≤(lN m k-1)*lN m k:=bH (by grind) h1;grind
theorem PZ(k:Nat):tk k≤1:=by
 by_cases h:tk k≤1
 ·exact h
 ·have h1:=BU k;have h2:(1:Rat)≤((2^k:Int):Rat):=by
   have:=Int.pow_pos (n:=(2:Int)) (m:=k) (by decide)
   exact_mod_cast (show(1:Int)≤2^k by omega)
  have h3:0≤(tk k-1)*(((2^k:Int):Rat)-1):=bH (by grind) (by grind);grind
theorem DO{m:Int}(hm:0≤m):v_ (fun k=>lN m k*lN m k-m):=by
 intro e he;have hm':(0:Rat)≤(m:Rat):=by exact_mod_cast hm
 obtain⟨d,hd,hdc⟩:=AU (c:=2*((m:Rat)+1)+1) (by grind);obtain⟨K,hK⟩:=BV (e*d) (fP he hd);refine⟨K,fun k hk=>?_⟩;obtain⟨h1,h2,h3⟩:=np hm k;have ht:=nW k;have ht1:=PZ k;have hle:=(hK k hk).2;refine⟨?_,by grind⟩;have ha:lN m k≤(m:Rat)+1:=by
  by_cases h:lN m k≤(m:Rat)+1
  ·exact h
  ·have h3:0≤(lN m k-1)*lN m k:=bH (by grind) h1;grind
 show-e≤lN m k*lN m k-(m:Rat);generalize lN m k=a at*;generalize tk k=t at*;have g1:0≤(m+1-a)*t:=bH (by grind) (by grind);have g2:0≤t*(1-t):=bH (by grind) (by grind);have s1:(m:Rat)-a*a≤(2*((m:Rat)+1)+1)*t:=by grind
 have s2:(2*((m:Rat)+1)+1)*t≤e:=by
  have g3:0≤(e*d-t)*(2*((m:Rat)+1)+1):=bH (by grind) (by grind);have g4:e*d*(2*((m:Rat)+1)+1)=e:=by rw[Rat.mul_assoc,hdc,sK]
  generalize 2*((m:Rat)+1)+1=c at*;clear g1 g2 h3 h2 ha s1 hK;have g5:(e*d-t)*c=e*d*c-c*t:=by grind
  rw[g5,g4]at g3;grind
 clear g1 g2 h3 hdc;grind
theorem QU{m:Int}(hm:0<m):xM (lN m):=by
 refine⟨1,by decide+kernel,0,fun k _=>?_⟩;obtain⟨h1,h2⟩:=wV (m.natAbs*4^k);unfold lN;have e4:(4:Nat)^k=2^k*2^k:=by rw[←Nat.mul_pow]
 have hge:2^k≤vQ (m.natAbs*4^k):=by
  by_cases h:2^k≤vQ (m.natAbs*4^k)
  ·exact h
  ·have g1:(vQ (m.natAbs*4^k)+1)*(vQ (m.natAbs*4^k)+1)≤2^k*2^k:=aR (by omega) (by omega);have g2:1*4^k≤m.natAbs*4^k:=bZ _ (by omega);omega
 have h3:((2^k:Int):Rat)≤((vQ (m.natAbs*4^k):Int):Rat):=Rat.intCast_le_intCast.2 (by exact_mod_cast hge);have h4:0≤(((vQ (m.natAbs*4^k):Int):Rat)-((2^k:Int):Rat))*tk k:=bH (by grind) (by have:=nW k;grind);have h5:=BU k;grind
theorem Ds{m:Int}(hm:0≤m){f:Nat→Rat}{t:Int}(h:ou f t)(bf:vc f):ou (fun k=>f k*lN m k) (if m.sign=0 then 0 else t):=by
 by_cases h0:m=0
 ·subst h0;rw[if_pos (by rfl)];exact .inr (.inl ⟨rfl,v_.zero.congr (fun k=>by rw[ME,Rat.mul_zero])⟩)
 ·rw[if_neg (by rw[gd (by omega)];decide)];have:=h.mul (.inl ⟨rfl,QU (m:=m) (by omega)⟩) bf (uw hm)
  rwa [Int.mul_one]at this
theorem ou.tri{f:Nat→Rat}{s:Int}(h:ou f s):s=1∨s=0∨s= -1:=by
 rcases h with⟨h,_⟩|⟨h,_⟩|⟨h,_⟩<;>omega
theorem Kq{f g:Nat→Rat}{s t c:Int}(hf:ou f s)(hg:ou g t)(bf:vc f)(bg:vc g)(hc:ou (fun k=>f k*f k-g k*g k) c):
  ou (fun k=>f k+g k) (if t=0∨s=t then s else if s=0 then t else s*c):=by
 by_cases h1:t=0∨s=t
 ·rw[if_pos h1];exact hf.add hg h1
 ·rw[if_neg h1];by_cases h2:s=0
  ·rw[if_pos h2];exact(hg.add hf (.inl h2)).eqf (fun k=>by grind)
  ·rw[if_neg h2];have h3: -t=s:=by
    have:=hf.tri;have:=hg.tri;omega
   have hd:ou (fun k=>f k+ -g k) s:=hf.add hg.neg (.inr h3.symm);exact hd.div h2 (bf.add bg.neg) (hc.eqf (fun k=>by grind))
def v1(x y:Rat)(m:Int)(k:Nat):Rat:=x+y*lN m k
theorem BX{m:Int}(hm:0≤m)(x y:Rat):vc (v1 x y m):=(vc.const x).add ((vc.const y).mul (uw hm))
theorem W4{m:Int}(hm:0≤m)(x y:Rat):ou (v1 x y m) (BQ x y m):=by
 have hy:=Ds hm (ou.const y) (vc.const y);refine(Kq (ou.const x) hy (vc.const x) ((vc.const y).mul (uw hm)) (c:=vI (x*x) (y*y*m)) ?_);refine(QL (x*x) (y*y*m)).congr ?_;exact((DO hm).mul (vc.const (-(y*y)))).congr (fun k=>by grind)
def Sn.v(S:Sn)(k:Nat):Rat:=v1 S.p S.q S.m k+v1 S.r S.s S.m k*lN S.n k
theorem Sp(S:Sn)(hm:0≤S.m)(hn:0≤S.n):ou S.v S.sg:=by
 have hg:=Ds hn (W4 hm S.r S.s) (BX hm _ _);refine(Kq (W4 hm S.p S.q) hg (BX hm _ _) ((BX hm _ _).mul (uw hn)) (c:=BQ (S.p*S.p+S.m*S.q*S.q-S.n*(S.r*S.r+S.m*S.s*S.s)) (2*(S.p*S.q-S.n*S.r*S.s)) S.m) ?_);refine(W4 hm _ _).congr ?_;have n1:=(DO hm).mul (vc.const (S.q*S.q-S.n*S.s*S.s));have n2:=(DO hn).mul (((BX hm S.r S.s).mul (BX hm S.r S.s)).neg);exact(n1.add n2).congr (fun k=>by unfold v1;grind)
theorem Sc(e:Rat):e*((e.den:Int):Rat)=((e.num:Int):Rat):=by
 rw[←oK,←oK]
 conv=>lhs;rw[←lr e]
 rw[lP,Rat.divInt_eq_divInt_iff (by have:=e.den_pos;simp;omega) (by decide)];simp
theorem Gc{a b:Rat}(hb:0≤b)(h:a*a≤b*b):a≤b:=by
 by_cases hh:a≤b
 ·exact hh
 ·have:0<(a-b)*(a+b):=fP (by grind) (by grind);grind
theorem vn{a d:Rat}(hd:0<d)(h:0≤a*d):0≤a:=by
 by_cases hh:0≤a
 ·exact hh
 ·have:=fP (show 0< -a by grind) hd;grind
theorem Pr{y N D A T R g e:Rat}(hD:0<D)(hy:y*D=N)(hN:0≤N)(hA1:A*D≤T)(hA2:T+1≤(A+1)*D)(hT:0≤T)(t1:T*T≤N*N*R*65536)(t2:N*N*R*65536<(T+1)*(T+1))
  (hg:0≤g)(g1:g*g≤R)(g2:R<(g+e)*(g+e))(he:0≤e):A≤256*(y*g)+256*(y*e)∧256*(y*g)≤A+1:=by
 have hNN:0≤N*N:=bH hN hN;have a1:256*N*g≤T+1:=Gc (by grind) (by
  have:=bH hNN (show 0≤R-g*g by grind);grind)
 have a2:T≤256*N*(g+e):=Gc (bH (by grind) (by grind)) (by
  have:=bH hNN (show 0≤(g+e)*(g+e)-R by grind);grind)
 constructor
 ·have:=vn hD (show 0≤(256*(y*g)+256*(y*e)-A)*D by
   rw[show(256*(y*g)+256*(y*e)-A)*D=256*(y*D)*(g+e)-A*D by grind,hy];grind)
  grind
 ·have:=vn hD (show 0≤(A+1-256*(y*g))*D by
   rw[show(A+1-256*(y*g))*D=(A+1)*D-256*(y*D)*g by grind,hy];grind)
  grind
theorem xa(a b:Nat):(((a*b:Nat):Int):Rat)=((a:Int):Rat)*((b:Int):Rat):=by
 rw[dp,dH]
theorem o9{a b:Nat}(h:a≤b):((a:Int):Rat)≤((b:Int):Rat):=Rat.intCast_le_intCast.2 (by exact_mod_cast h)
theorem IA{a b:Nat}(h:a<b):((a:Int):Rat)<((b:Int):Rat):=Rat.intCast_lt_intCast.2 (by exact_mod_cast h)
theorem Eh(a:Nat):(((a+1:Nat):Int):Rat)=((a:Int):Rat)+1:=by
 rw[Int.natCast_add,fV];rfl
theorem xz(x:Rat){R:Int}(hR:0≤R){g e:Nat→Rat}(hg:∀k,0≤g k∧g k*g k≤(R:Rat)∧(R:Rat)<(g k+e k)*(g k+e k))(Vy:∀k,0≤e k)(he:v_ e):
  ∃K,∀k,K≤k→ -1≤((kS x R 8:Int):Rat)-256*(x*g k)∧((kS x R 8:Int):Rat)-256*(x*g k)≤1:=by
 obtain⟨h1,h2⟩:=wV (x.num.natAbs*x.num.natAbs*R.natAbs*2^(2*8));unfold kS;generalize vQ (x.num.natAbs*x.num.natAbs*R.natAbs*2^(2*8))=T at*;have abP:=x.den_pos;have hdiv:=fU T x.den;have afD:=fF T abP;have e1:((T:Nat):Int)/(x.den:Int)=((T/x.den:Nat):Int):=by omega
 simp only[e1];generalize T/x.den=A at*;have hA1:A*x.den≤T:=by rw[eA];omega
 have hA2:T+1≤(A+1)*x.den:=by rw[ed,eA A];omega
 have q1:=o9 hA1;have q2:=o9 hA2;have ep:(((2^(2*8):Nat):Int):Rat)=65536:=by decide+kernel
 generalize 2^(2*8)=P at*;have q3:=o9 h1;have q4:=IA h2;simp only[xa,Eh]at q1 q2 q3 q4;have eR:((R.natAbs:Int):Rat)=(R:Rat):=by rw[show(R.natAbs:Int)=R by omega]
 rw[eR,ep]at q3 q4;have hD:(0:Rat)<((x.den:Int):Rat):=by exact_mod_cast (show(0:Int)<x.den by omega)
 have hN:(0:Rat)≤((x.num.natAbs:Int):Rat):=by exact_mod_cast (show(0:Int)≤x.num.natAbs by omega)
 have hT:(0:Rat)≤((T:Int):Rat):=by exact_mod_cast (show(0:Int)≤T by omega)
 have hrd:=Sc x;have key:∀y:Rat,y*((x.den:Int):Rat)=((x.num.natAbs:Int):Rat)→∃K,∀k,K≤k→ -1≤((A:Int):Rat)-256*(y*g k)∧((A:Int):Rat)-256*(y*g k)≤1:=by
  intro y hy;obtain⟨K,hK⟩:=(he.mul (vc.const (256*y))) 1 (by decide+kernel);refine⟨K,fun k hk=>?_⟩;obtain⟨g1,g2,g3⟩:=hg k;have:=Pr hD hy hN q1 q2 hT q3 q4 g1 g2 g3 (Vy k);have h3:=hK k hk;constructor<;>grind
 by_cases hs:x.num.sign<0
 ·rw[if_pos hs];have hneg:x.num<0:=Int.sign_neg_iff.1 hs;obtain⟨K,hK⟩:=key (-x) (by
   rw[Rat.neg_mul,hrd,←sZ];exact dz (fun z:Int=>(z:Rat)) (show-x.num=(x.num.natAbs:Int)by omega))
  refine⟨K,fun k hk=>?_⟩;have:=hK k hk;rw[sZ];constructor<;>grind
 ·rw[if_neg hs];have hpos:¬x.num<0:=fun h=>hs (Int.sign_neg_iff.2 h);exact key x (by rw[hrd];exact dz (fun z:Int=>(z:Rat)) (show x.num=(x.num.natAbs:Int)by omega))
theorem QV{m n:Int}(hm:0≤m)(hn:0≤n)(k:Nat):0≤lN m k*lN n k∧(lN m k*lN n k)*(lN m k*lN n k)≤((m*n:Int):Rat)∧((m*n:Int):Rat)<(lN m k*lN n k+tk k*(lN m k+lN n k+tk k))*(lN m k*lN n k+tk k*(lN m k+lN n k+tk k)):=by
 obtain⟨a1,a2,a3⟩:=np hm k;obtain⟨b1,b2,b3⟩:=np hn k;have ht:=nW k;have hm':(0:Rat)≤(m:Rat):=by exact_mod_cast hm
 have NN:(0:Rat)≤(n:Rat):=by exact_mod_cast hn
 rw[dH];generalize lN m k=u at*;generalize lN n k=v at*;generalize tk k=t at*;generalize(m:Rat)=m' at*;generalize(n:Rat)=n' at*;refine⟨bH a1 b1,?_,?_⟩
 ·have h1:=bH (show 0≤m'-u*u by grind) NN;have h2:=bH (bH a1 a1) (show 0≤n'-v*v by grind);grind
 ·have h1:=bH (show 0≤(u+t)*(u+t)-m' by grind) NN;have h2:0<(u+t)*(u+t)*((v+t)*(v+t)-n'):=fP (fP (by grind) (by grind)) (by grind);have e:u*v+t*(u+v+t)=(u+t)*(v+t):=by grind
  rw[e];grind
theorem Ov(k:Nat):(0:Rat)≤1∧(1:Rat)*1≤((1:Int):Rat)∧((1:Int):Rat)<(1+tk k)*(1+tk k):=by
 have ht:=nW k;have e:((1:Int):Rat)=1:=rfl;rw[e];have:=fP ht ht;refine⟨by decide+kernel,by grind,by grind⟩
theorem Gk(S:Sn)(hm:0≤S.m)(hn:0≤S.n):∃K,∀k,K≤k→256*((S.low:Int):Rat)-4≤256*S.v k∧256*S.v k≤256*((S.low:Int):Rat)+259:=by
 have hmn:0≤S.m*S.n:=eZ hm hn;obtain⟨K1,h1⟩:=xz S.p (R:=1) (by decide) (g:=fun _=>1) (e:=tk) Ov (fun k=>Rat.le_of_lt (nW k)) BV;obtain⟨K2,h2⟩:=xz S.q hm (g:=lN S.m) (e:=tk) (np hm) (fun k=>Rat.le_of_lt (nW k)) BV;obtain⟨K3,h3⟩:=xz S.r hn (g:=lN S.n) (e:=tk) (np hn) (fun k=>Rat.le_of_lt (nW k)) BV;obtain⟨K4,h4⟩:=xz S.s hmn (g:=fun k=>lN S.m k*lN S.n k) (e:=fun k=>tk k*(lN S.m k+lN S.n k+tk k)) (QV hm hn)
  (fun k=>bH (Rat.le_of_lt (nW k)) (by
   have:=nW k;have:=(np hm k).1;have:=(np hn k).1;grind))
  (BV.mul (((uw hm).add (uw hn)).add ⟨1,by decide+kernel,fun k=>by
   have:=nW k;have:=PZ k;constructor<;>grind⟩))
 refine⟨max (max K1 K2) (max K3 K4),fun k hk=>?_⟩;have g1:=h1 k (by omega);have g2:=h2 k (by omega);have g3:=h3 k (by omega);have g4:=h4 k (by omega);have hz:256*S.low≤0+kS S.p 1 8+kS S.q S.m 8+kS S.r S.n 8+kS S.s (S.m*S.n) 8∧0+kS S.p 1 8+kS S.q S.m 8+kS S.r S.n 8+kS S.s (S.m*S.n) 8≤256*S.low+255:=by
  unfold Sn.low;omega
 have z1:((256*S.low:Int):Rat)≤((0+kS S.p 1 8+kS S.q S.m 8+kS S.r S.n 8+kS S.s (S.m*S.n) 8:Int):Rat):=Rat.intCast_le_intCast.2 hz.1;have z2:((0+kS S.p 1 8+kS S.q S.m 8+kS S.r S.n 8+kS S.s (S.m*S.n) 8:Int):Rat)≤((256*S.low+255:Int):Rat):=Rat.intCast_le_intCast.2 hz.2;simp only[fV,dH]at z1 z2;have c0:((0:Int):Rat)=0:=rfl;have c1:((256:Int):Rat)=256:=rfl;have c2:((255:Int):Rat)=255:=rfl;rw[c0,c1]at z1;rw[c0,c1,c2]at z2;have ev:S.v k=S.p*1+S.q*lN S.m k+S.r*lN S.n k+S.s*(lN S.m k*lN S.n k):=by
  unfold Sn.v v1;grind
 rw[ev];generalize((kS S.p 1 8:Int):Rat)=a at*;generalize((kS S.q S.m 8:Int):Rat)=b at*;generalize((kS S.r S.n 8:Int):Rat)=c at*;generalize((kS S.s (S.m*S.n) 8:Int):Rat)=d at*;generalize((S.low:Int):Rat)=l at*;generalize S.p*1=x at*;generalize S.q*lN S.m k=y at*;generalize S.r*lN S.n k=z at*;generalize S.s*(lN S.m k*lN S.n k)=w at*;constructor<;>grind
theorem rE(S:Sn)(q:Int)(k:Nat):(S.lessq q).v k=S.v k-(q:Rat):=by
 unfold Sn.v v1 Sn.lessq;grind
theorem Sm{S T:Sn}(hm:0≤S.m)(hn:0≤S.n)(em:T.m=S.m)(en:T.n=S.n)(h:∃K,∀k,K≤k→S.v k≤T.v k):S.sg≤T.sg:=by
 have s1:=Sp S hm hn;have s2:=Sp T (by omega) (by omega);obtain⟨K,hK⟩:=h;rcases s1 with⟨e1,e,he,K1,p1⟩|⟨e1,p1⟩|⟨e1,p1⟩
 ·have:ou T.v 1:=.inl ⟨rfl,e,he,max K K1,fun k hk=>by
   have:=hK k (by omega);have:=p1 k (by omega);grind⟩
  rw[e1,s2.unique this];omega
 ·rcases s2 with⟨e2,_⟩|⟨e2,_⟩|⟨e2,e,he,K2,p2⟩
  ·omega
  ·omega
  ·exfalso
   obtain⟨g1,g2⟩:=wN he;obtain⟨K3,p3⟩:=p1 (e*Rat.divInt 1 2) g1;have a1:=p3 (max K (max K2 K3)) (by omega);have a2:=p2 (max K (max K2 K3)) (by omega);have a3:=hK (max K (max K2 K3)) (by omega);grind
 ·have:=s2.tri;omega
theorem A6(S:Sn)(hm:0≤S.m)(hn:0≤S.n){a b:Int}(h:a≤b):(S.lessq b).sg≤(S.lessq a).sg:=
 Sm hm hn rfl rfl ⟨0,fun k _=>by
  rw[rE,rE];have:(a:Rat)≤(b:Rat):=Rat.intCast_le_intCast.2 h;grind⟩
theorem Tx(S:Sn)(hm:0≤S.m)(hn:0≤S.n):(S.lessq (S.low-1)).sg=1:=by
 obtain⟨K,hK⟩:=Gk S hm hn;refine(Sp (S.lessq (S.low-1)) hm hn).unique (.inl ⟨rfl,Rat.divInt 1 2,by decide+kernel,K,fun k hk=>?_⟩);have:=hK k hk;rw[rE,Rat.intCast_sub];have e:((1:Int):Rat)=1:=rfl;have h2:Rat.divInt 1 2+Rat.divInt 1 2=1:=by decide+kernel
 rw[e];grind
theorem Tv(S:Sn)(hm:0≤S.m)(hn:0≤S.n):(S.lessq (S.low+2)).sg= -1:=by
 obtain⟨K,hK⟩:=Gk S hm hn;refine(Sp (S.lessq (S.low+2)) hm hn).unique (.inr (.inr ⟨rfl,Rat.divInt 1 2,by decide+kernel,K,fun k hk=>?_⟩));have:=hK k hk;simp only;rw[rE,fV];have e:((2:Int):Rat)=2:=rfl;have h2:Rat.divInt 1 2+Rat.divInt 1 2=1:=by decide+kernel
 rw[e];grind
def Sn.fl(S:Sn):Int:=if(S.lessq S.low).sg<0 then S.low-1 else if(S.lessq (S.low+1)).sg<0 then S.low else S.low+1
theorem Sn.fl_spec(S:Sn)(hm:0≤S.m)(hn:0≤S.n):0≤(S.lessq S.fl).sg∧(S.lessq (S.fl+1)).sg<0:=by
 have h1:=Tx S hm hn;have h2:=Tv S hm hn;unfold Sn.fl;split
 ·refine⟨by omega,?_⟩;rw[show S.low-1+1=S.low by omega];assumption
 ·split
  ·exact⟨by omega,by assumption⟩
  ·refine⟨by omega,?_⟩;rw[show S.low+1+1=S.low+2 by omega];omega
theorem DK(S:Sn)(hm:0≤S.m)(hn:0≤S.n){q:Int}(h1:0≤(S.lessq q).sg)(h2:(S.lessq (q+1)).sg<0):S.fl=q:=by
 obtain⟨g1,g2⟩:=S.fl_spec hm hn;rcases Int.lt_trichotomy S.fl q with h|h|h
 ·have:=A6 S hm hn (show S.fl+1≤q by omega);omega
 ·exact h
 ·have:=A6 S hm hn (show q+1≤S.fl by omega);omega
def Sn.nr(S:Sn):Int:=if(S.half.lessq S.half.fl).sg=0∧(S.half.fl % 2).sign≠0 then S.half.fl-1 else S.half.fl
section
variable{fin:VS→List aE→Prop}{Γ:List aE}{L M K:Nat}
theorem Z4(x:Sw){S:Sn} [aZ (SF x) (L,S) Γ](hm:0≤S.m)(hn:0≤S.n)(hL:L≤300:=by omega):
  au tb Tryz.prog 254 [sv x] Γ (oS (10*L+210) S.fl):=by
 refine au.of_W aB Tryz.func254 rfl ?_;have z1:=Tx S hm hn;have z2:=Tv S hm hn;have AO:S.low=((((0+(kS S.p 1 8))+(kS S.q S.m 8))+(kS S.r S.n 8))+(kS S.s (S.m*S.n) 8))/256:=rfl;refine W.more rfl (zJ (L':=0)) ?_;refine s6 x rfl ?_;refine aj [] (cV 1 (by omega) (by omega)) ?_;rintro _ _ ⟨u1,d1,rfl,rfl⟩;refine aj [] (l_ x.u x.d x.v x.e) ?_;rintro _ _ ⟨u2,d2,rfl,rfl⟩;refine j2 [] 6 ?_;refine aj [30] (xo x.p.n x.p.a x.p.m x.p.b u1 d1 8 rfl) ?_;rintro _ _ ⟨u3,d3,rfl,rfl⟩;refine aj [] (l9 ⟨none,0,0⟩ false u3 d3) ?_;rintro _ _ ⟨u4,d4,rfl,rfl⟩;refine aj [30] (xo x.q.n x.q.a x.q.m x.q.b x.u x.d 8 rfl) ?_;rintro _ _ ⟨u5,d5,rfl,rfl⟩;refine aj [] (l9 u4 d4 u5 d5) ?_;rintro _ _ ⟨u6,d6,rfl,rfl⟩;refine aj [30] (xo x.r.n x.r.a x.r.m x.r.b x.v x.e 8 rfl) ?_;rintro _ _ ⟨u7,d7,rfl,rfl⟩;refine aj [] (l9 u6 d6 u7 d7) ?_;rintro _ _ ⟨u8,d8,rfl,rfl⟩;refine aj [30] (xo x.s.n x.s.a x.s.m x.s.b u2 d2 8 rfl) ?_;rintro _ _ ⟨u9,d9,rfl,rfl⟩;refine aj [] (l9 u8 d8 u9 d9) ?_;rintro _ _ ⟨BW,d10,rfl,rfl⟩;refine aj [30] (cV 256 (by omega) (by omega)) ?_;rintro _ _ ⟨u11,d11,rfl,rfl⟩;refine aj [] (jh BW d10 u11 d11 (by omega)) ?_;rintro _ _ ⟨u12,d12,v12,e12,rfl,rfl⟩;refine j2 [] 6 ?_;refine aj [] (uK x u12 d12) ?_;rintro _ _ ⟨rfl,rfl⟩;by_cases h1:(S.lessq S.low).sg<0
 ·refine bD [] 50 ((decide ((S.lessq (((((0+(kS S.p 1 8))+(kS S.q S.m 8))+(kS S.r S.n 8))+(kS S.s (S.m*S.n) 8))/256)).sg<0))) (by rw[fQ,←AO];exact h1) ?_;refine aj [50] (IJ u12 d12 u1 d1) ?_;rintro _ _ ⟨u14,d14,rfl,rfl⟩;refine aj [] (uK x u14 d14) ?_;rintro _ _ ⟨rfl,rfl⟩;refine aS [] 50 ((decide ((S.lessq ((((((0+(kS S.p 1 8))+(kS S.q S.m 8))+(kS S.r S.n 8))+(kS S.s (S.m*S.n) 8))/256)-1)).sg<0))) (by rw[aY,←AO];omega) ?_;refine j2 [50] 6 ?_;refine aj [] (l9 u14 d14 u1 d1) ?_;rintro _ _ ⟨u16,d16,rfl,rfl⟩;refine aj [] (uK x u16 d16) ?_;rintro _ _ ⟨rfl,rfl⟩;refine aS [] 59 (!(decide ((S.lessq (((((((0+(kS S.p 1 8))+(kS S.q S.m 8))+(kS S.r S.n 8))+(kS S.s (S.m*S.n) 8))/256)-1)+1)).sg<0))) (by rw[vv,dj,←AO,show S.low-1+1=S.low by omega];exact h1) ?_;exact W.r [59] (zv u14 d14) ⟨_,_,rfl,rfl⟩ (kX (by omega) (by unfold Sn.fl;rw[if_pos h1,AO]))
 ·by_cases h2:(S.lessq (S.low+1)).sg<0
  ·refine aS [] 50 ((decide ((S.lessq (((((0+(kS S.p 1 8))+(kS S.q S.m 8))+(kS S.r S.n 8))+(kS S.s (S.m*S.n) 8))/256)).sg<0))) (by rw[aY,←AO];exact h1) ?_;refine j2 [50] 6 ?_;refine aj [] (l9 u12 d12 u1 d1) ?_;rintro _ _ ⟨u14,d14,rfl,rfl⟩;refine aj [] (uK x u14 d14) ?_;rintro _ _ ⟨rfl,rfl⟩;refine aS [] 59 (!(decide ((S.lessq ((((((0+(kS S.p 1 8))+(kS S.q S.m 8))+(kS S.r S.n 8))+(kS S.s (S.m*S.n) 8))/256)+1)).sg<0))) (by rw[vv,dj,←AO];exact h2) ?_;exact W.r [59] (zv u12 d12) ⟨_,_,rfl,rfl⟩ (kX (by omega) (by unfold Sn.fl;rw[if_neg h1,if_pos h2,AO]))
  ·refine aS [] 50 ((decide ((S.lessq (((((0+(kS S.p 1 8))+(kS S.q S.m 8))+(kS S.r S.n 8))+(kS S.s (S.m*S.n) 8))/256)).sg<0))) (by rw[aY,←AO];exact h1) ?_;refine j2 [50] 6 ?_;refine aj [] (l9 u12 d12 u1 d1) ?_;rintro _ _ ⟨u14,d14,rfl,rfl⟩;refine aj [] (uK x u14 d14) ?_;rintro _ _ ⟨rfl,rfl⟩;refine bD [] 59 (!(decide ((S.lessq ((((((0+(kS S.p 1 8))+(kS S.q S.m 8))+(kS S.r S.n 8))+(kS S.s (S.m*S.n) 8))/256)+1)).sg<0))) (by rw[cF,aY,←AO];exact h2) ?_;refine aj [59] (l9 u12 d12 u1 d1) ?_;rintro _ _ ⟨u16,d16,rfl,rfl⟩;refine aj [] (l9 u16 d16 u1 d1) ?_;rintro _ _ ⟨u17,d17,rfl,rfl⟩;refine aj [] (uK x u17 d17) ?_;rintro _ _ ⟨rfl,rfl⟩;refine aS [] 59 (!(decide ((S.lessq (((((((0+(kS S.p 1 8))+(kS S.q S.m 8))+(kS S.r S.n 8))+(kS S.s (S.m*S.n) 8))/256)+1)+1)).sg<0))) (by rw[vv,dj,←AO,show S.low+1+1=S.low+2 by omega];omega) ?_;exact W.r [59] (zv u16 d16) ⟨_,_,rfl,rfl⟩ (kX (by omega) (by unfold Sn.fl;rw[if_neg h1,if_neg h2,AO]))
theorem Ka(x:Sw){S:Sn} [aZ (SF x) (L,S) Γ](hm:0≤S.m)(hn:0≤S.n)(hL:L≤280:=by omega):
  au tb Tryz.prog 209 [sv x] Γ (oS (10*L+520) S.nr):=by
 refine au.of_W aB Tryz.func209 rfl ?_;refine s6 x rfl ?_;refine aj [] (Bm 1 2 (by omega) (by omega) (by omega) (by omega) (by omega)) ?_;rintro _ _ ⟨n1,a1,m1,b1,rfl,rfl⟩;refine aj [] (fw x.p.n x.p.a x.p.m x.p.b n1 a1 m1 b1) ?_;rintro _ _ ⟨n2,a2,m2,b2,rfl,rfl⟩;refine gI [] (KZ (x:=⟨x.u,x.d,x.v,x.e,⟨n2,a2,m2,b2⟩,x.q,x.r,x.s⟩) (L':=L+10) (S:=S.half) rfl rfl rfl rfl rfl rfl (by omega)) (Z4 (S:=S.half) ⟨x.u,x.d,x.v,x.e,⟨n2,a2,m2,b2⟩,x.q,x.r,x.s⟩ hm hn) ?_;rintro _ _ ⟨u3,d3,rfl,rfl⟩;refine aj [] (cj u3 d3) ?_;rintro _ _ ⟨n4,a4,m4,b4,rfl,rfl⟩;refine aj [] (Eu n2 a2 m2 b2 n4 a4 m4 b4) ?_;rintro _ _ ⟨n5,a5,m5,b5,rfl,rfl⟩;refine aj [] (cV 2 (by omega) (by omega)) ?_;rintro _ _ ⟨u6,d6,rfl,rfl⟩;refine aj [] (jh u3 d3 u6 d6 (by omega)) ?_;rintro _ _ ⟨u7,d7,v7,e7,rfl,rfl⟩;refine gI [] (KZ (x:=⟨x.u,x.d,x.v,x.e,⟨n5,a5,m5,b5⟩,x.q,x.r,x.s⟩) (L':=12*L+400) (S:=(S.half.lessq S.half.fl)) rfl rfl rfl rfl rfl rfl (by omega)) (Kb ⟨x.u,x.d,x.v,x.e,⟨n5,a5,m5,b5⟩,x.q,x.r,x.s⟩) ?_;rintro _ _ ⟨rfl,rfl⟩;refine W.d [] 42 ((S.half.lessq S.half.fl).sg==0) (fun hb=>?_) (fun hb=>?_)
 ·have hb':=hb;refine aj [42] (nf v7 e7) ?_;rintro _ _ ⟨rfl,rfl⟩;refine W.d [42] 46 (((S.half.fl % 2)).sign != 0) (fun hb=>?_) (fun hb=>?_)
  ·skip
   refine aj [46] (cV 1 (by omega) (by omega)) ?_;rintro _ _ ⟨BW,d10,rfl,rfl⟩;refine aj [] (IJ u3 d3 BW d10) ?_;rintro _ _ ⟨u11,d11,rfl,rfl⟩;exact W.r [] (zv u11 d11) ⟨_,_,rfl,rfl⟩ (kX (by omega) (by unfold Sn.nr;rw[if_pos ⟨eq_of_beq hb',fun h=>by rw[h]at hb;simp at hb⟩]))
  ·skip
   exact W.r [46] (zv u3 d3) ⟨_,_,rfl,rfl⟩ (kX (by omega) (by unfold Sn.nr;rw[if_neg (fun h=>h.2 (by simpa using hb))]))
 ·skip
  exact W.r [46,42] (zv u3 d3) ⟨_,_,rfl,rfl⟩ (kX (by omega) (by unfold Sn.nr;rw[if_neg (fun h=>kn hb h.1)]))
end
section
variable{fin:VS→List aE→Prop}{Γ:List aE}{L M K:Nat}
theorem Bq(u:Sl)(d:Bool)(v:Sl)(e:Bool)(B:Nat)(a:Qw){m n:Int}{x:Rat}{L1:Nat} [h1:aZ (ZF u d) (L,m) Γ] [h2:aZ (ZF v e) (M,n) Γ] [hr:aZ (dY B) ([(⟨a.n,a.a,a.m,a.b,x⟩:QE)].flatMap QR.cells) Γ] [ha:aZ (QG a) (L1,x) Γ](hm:0≤m)(hn:0≤n)
  (hL:L≤100000:=by omega)(hM:M≤100000:=by omega):
  au tb Tryz.prog 148 [zv u d,zv v e,.slice (some ⟨B,0,none⟩) 1 1] Γ (Xt (max (max L M) L1) ⟨m,n,x,0,0,0⟩):=
 (Pe (Γ:=OL QR (some ⟨B,0,none⟩) (L1,[(⟨a.n,a.a,a.m,a.b,x⟩:QE)])::Γ) u d v e (some ⟨B,0,none⟩) 1 1 rfl (by omega) hm hn).weak (fun I w hd hh=>aG.cons ⟨fun q hq=>by
  simp at hq;subst hq;exact ha.p hh,RA.of_row (hr.p hh) (fun _ _ h=>h)⟩ hh) (fun _ _ h=>h)
end
theorem HJ(S:Sn)(hm:0≤S.m)(hn:0≤S.n)(q:Int):(S.add ⟨S.m,S.n,((q+q:Int):Rat),0,0,0⟩).nr=S.nr+q+q:=by
 obtain⟨g1,g2⟩:=S.half.fl_spec hm hn;have e:∀f:Int,(S.add ⟨S.m,S.n,((q+q:Int):Rat),0,0,0⟩).half.lessq (f+(q+q))=S.half.lessq f:=fun f=>by
  refine Sn.ext' rfl rfl ?_ ?_ ?_ ?_ <;>simp only[Sn.add,Sn.lessq,Sn.half,Sn.up,fV]<;>grind
 have hf:(S.add ⟨S.m,S.n,((q+q:Int):Rat),0,0,0⟩).half.fl=S.half.fl+(q+q):=DK (S.add ⟨S.m,S.n,((q+q:Int):Rat),0,0,0⟩).half hm hn (by rw[e];exact g1) (by
  rw[show S.half.fl+(q+q)+1=(S.half.fl+1)+(q+q)by omega,e];exact g2)
 unfold Sn.nr;rw[hf,e,show(S.half.fl+(q+q)) % 2=S.half.fl % 2 by omega];split<;>omega
end Go.Proofs.YtgaaopjagcaojaaGreat
