import Derived.Test.YtgaaopjagcaojaaGreatProg
import Derived.Test.YtgaaopjagcaojaaGreatNatU
import Derived.Test.YtgaaopjagcaojaaGreatMaths
import Derived.Deep.RegionHeld3
import Derived.BigRegion
set_option linter.unusedSimpArgs false
set_option linter.unusedVariables false
set_option maxHeartbeats 2000000
namespace Go.Proofs.YtgaaopjagcaojaaGreat
open Go.RowKit
theorem El(x:Nat)(w:World)(hx:x<18446744073709551616):
  Calls Tryz.prog 193 #[.int .u64 (x:Int)] w fun e w'=>
   ∃u:Sl,e=.returned (.agg #[.slice u.ao u.n u.c])∧dU w' u x∧u.n≤2∧Below w.heap.size w w':=by
 have hE:=AH w (.cells #[.slice none 0 0] 110) (.cells #[.int .u32 ((x:Int) % 4294967296),.int .u32 ((x:Int)/4294967296)] 273);have hi:dd _ 273 .u32 ⟨some ⟨w.heap.size+1,0,none⟩,2,2⟩ [x % 4294967296,x/4294967296]:=dd.of_row [x % 4294967296,x/4294967296] hE.2.1 (by simp) (by simp);have hv:val 4294967296 [x % 4294967296,x/4294967296]=x:=by rw[SE];omega
 have hbx:Below w.heap.size w _:=((Below.refl w.heap.size w).alloc (ai _) (.cells #[.slice none 0 0] 110)).alloc (by simp) (.cells #[.int .u32 ((x:Int) % 4294967296),.int .u32 ((x:Int)/4294967296)] 273)
 go_enter Tryz.func193,Tryz.ntmps193
 have HE:=bk hE;have HV:=bk hv;clear hE hv
 go_wp2_with (go_at_call 245;refine(kV hi (by intro d hd;simp at hd;omega)).mono ?_;rintro e w2 ⟨t,rfl,ht,htn,hb2⟩;have hE':=bJ hb2 HE.out.1;have hR:=bQ hE' 0;have hRf:=dV hE' 0)
 rw[HV.out]at ht;refine fg (v:=.agg #[.slice t.ao t.n t.c]) (by simp[results,Tryz.results193,go_sem,hR]) rfl ⟨t,rfl,ht.kp ((Kp.refl _).setCell hE' (by decide) _),htn,?_⟩;exact(hbx.trans (hb2.mono (by have:=hbx.size;exact this))).setCell (ai _) _
theorem MR{l:List Nat}{j:Nat}(hl:∀d∈l,d<4294967296)(h:l.length=j+1)(hn:dg l j≠0):bl (val 4294967296 l)=32*j+bl (dg l j):=by
 have h1:=uU (B:=4294967296) h;have h2:val 4294967296 (l.take j)<4294967296^j:=by
  have:=mj 4294967296 (l.take j) (fun d hd=>hl d (dI hd));simpa [h]using this
 generalize val 4294967296 (l.take j)=v at*;generalize dg l j=t at*;have hp:4294967296^j=2^(32*j):=by rw[Nat.pow_mul]
 rw[hp]at h1 h2;rw[h1];have ht:=(qS t (bl t)).1 (ai _);have hlo:2^(bl t-1)≤t:=by
  apply gY;intro hh;have:=(qS t (bl t-1)).2 hh;have:bl t≠0:=by unfold bl;rw[if_neg hn];omega
  omega
 have hb0:bl t≠0:=by unfold bl;rw[if_neg hn];omega
 apply Nat.le_antisymm
 ·rw[qS,cR];have h3:2^(32*j)*(t+1)≤2^(32*j)*2^bl t:=cJ _ ht;rw[fD]at h3;omega
 ·apply gY;intro hh;have h4:bl (v+2^(32*j)*t)≤32*j+(bl t-1):=by omega
  rw[qS,cR]at h4;have h5:2^(32*j)*2^(bl t-1)≤2^(32*j)*t:=cJ _ hlo;omega
theorem CE{w:World}{s:Sl}{x:Nat}(h:dU w s x)(hn:s.n≤1000000000000):
  Calls Tryz.prog 244 #[.agg #[.slice s.ao s.n s.c]] w fun e w'=>e=.returned (.int .i64 (bl x:Int))∧Below w.heap.size w w':=by
 obtain⟨l,h1,h2,h3,h4⟩:=h;obtain⟨ao,n,c⟩:=s;have hop:=h1.open;have hlen:=bk h1.1;clear h1;simp only at hop hlen hn⊢;by_cases h0:n=0
 ·subst h0;have hx:Hid (x=0):=by
   unfold Hid;rw[←h4,aL hlen.out.symm];rfl
  go_enter Tryz.func244,Tryz.ntmps244
  go_wp2
  go_ret
  exact⟨by rw[hx.out];rfl,(Below.refl _ _).alloc (ai _) _⟩
 ·obtain⟨j,rfl⟩:∃j,n=j+1:=⟨n-1,by omega⟩;obtain⟨b,off,rfl,hb,hcell⟩:=hop (by omega);have hc:=hcell j (by omega);have hl1:l.length=j+1:=hlen.out.symm;have hd:dg l j<4294967296:=je h2 (by omega) j;have hd0:dg l j≠0:=by
   intro hh;apply h3;rw[gj,hl1];simp only[eI];rw[tx (by omega)]at hh;simp[hl1,hh]
  have hbl:=bk (MR h2 hl1 hd0);have hx:=bk h4;have hb32:bl (dg l j)≤32:=(qS _ 32).2 (by omega);clear h2 h3 h4 hl1 hcell hop hd0 h0;generalize dg l j=d at*
  go_enter Tryz.func244,Tryz.ntmps244
  go_wp2_with (go_at_call 266;refine(AZ d _ hd).mono ?_;rintro e w' ⟨rfl,rfl⟩)
  go_ret
  exact⟨by rw[←hx.out,hbl.out];simp,(Below.refl _ _).alloc (ai _) _⟩
theorem Qi{w:World}{s:Sl}{x:Nat}(h:dU w s x)(hn:s.n≤1000000000000)(hx:18446744073709551616≤x):
  Calls Tryz.prog 202 #[.agg #[.slice s.ao s.n s.c]] w fun e w'=>e=.returned (.tuple #[.int .u64 0,.bool false])∧Below w.heap.size w w':=by
 have h3:2<s.n:=by
  obtain⟨l,h1,h2,h3,h4⟩:=h;apply Nat.lt_of_not_le;intro hh;have:=mj 4294967296 l h2;have h5:4294967296^l.length≤4294967296^2:=cY (by omega) (by rw[←h1.1];exact hh);omega
 obtain⟨ao,n,c⟩:=s;simp only at h3 hn⊢;clear h hx
 go_enter Tryz.func202,Tryz.ntmps202
 go_wp2
 go_ret2
 exact⟨rfl,(Below.refl _ _).alloc (ai _) _⟩
theorem I7{w:World}{s:Sl}{x:Nat}(h:dU w s x)(hx:x<18446744073709551616):
  Calls Tryz.prog 202 #[.agg #[.slice s.ao s.n s.c]] w fun e w'=>e=.returned (.tuple #[.int .u64 (x:Int),.bool true])∧Below w.heap.size w w':=by
 obtain⟨l,h1,h2,h3,h4⟩:=h;have hn2:s.n≤2:=by
  rw[h1.1];exact h3.len_of_lt (B:=4294967296) (by omega) (by rw[h4];omega)
 obtain⟨ao,n,c⟩:=s;have hop:=bk h1.open;have hlen:=bk h1.1;have hv:=bk h4;have hll:=bk h2;clear h1 h3 h4 h2;simp only at hop hlen hn2⊢;have hbx:Below w.heap.size w (w.alloc (.cells #[.slice ao n c] 110)):=(Below.refl _ _).alloc (ai _) _
 go_enter Tryz.func202,Tryz.ntmps202
 go_wp2
 go_loop [4,14] (fun v i=>∃k:Nat,k≤n∧i=.int .i64 k∧v=.int .u64 ((val 4294967296 (l.take k):Nat):Int)) (fun _ i=>n-(intOf i).toNat)
 case atStart=>exact⟨0,aM _,rfl,by simp[val]⟩
 case round=>
  obtain⟨k,hk,rfl,rfl⟩:=hrel;by_cases hlt:k<n
  ·obtain⟨b,off,rfl,hbw,hcell⟩:=hop.out (by omega);have hck:=hcell k hlt;clear hcell;have hd:dg l k<4294967296:=je hll.out (by omega) k;have hstep:=da 4294967296 l k;by_cases h0:k=0
   ·subst h0;simp only[qt,KA,cz,Nat.pow_zero,la]at hstep⊢;rw[fm]at hck;have hs:=bk hstep;clear hstep;have hor:=Lw (dg l 0) (by omega);generalize dg l 0=d at*
    go_wp2
    go_round
    case rel=>exact⟨1,by omega,by go_num,by rw[hs.out]⟩
    case measure=>simp[intOf];omega
   ·obtain rfl:k=1:=by omega
    have hq:val 4294967296 (l.take 1)<4294967296:=by
     have h5:=mj 4294967296 (l.take 1) (fun d hd=>hll.out d (dI hd));have:(l.take 1).length=1:=by have:=hlen.out;simp;omega
     rw[this]at h5;simpa using h5
    have hs:=bk hstep;clear hstep;generalize val 4294967296 (l.take 1)=q at*;have hor:=GI q (dg l 1) hq hd;generalize dg l 1=d at*
    go_wp2
    go_round
    case rel=>exact⟨2,by omega,by go_num,by rw[hs.out,Nat.pow_one,eA];simp⟩
    case measure=>simp[intOf];omega
  ·have hkn:Hid (val 4294967296 (l.take k)=x):=by
    unfold Hid;rw[eN _ _ _ (by have:=hlen.out;omega)];exact hv.out
   go_wp2
   go_ret2
   exact⟨by rw[hkn.out];rfl,hbx⟩
theorem W5{w:World}{s t:Sl}{x y:Nat}(h:dU w s x)(h':dU w t y)(hn:s.n≤1000000000000)(hm:t.n≤1000000000000)(hxy:y≤x):
  Calls Tryz.prog 253 #[.agg #[.slice s.ao s.n s.c],.agg #[.slice t.ao t.n t.c]] w fun e w'=>
   ∃u:Sl,e=.returned (.tuple #[.agg #[.slice u.ao u.n u.c],.int .i64 0])∧dU w' u (x-y)∧u.n≤s.n∧Below w.heap.size w w':=by
 have hE:=lD w (.cells #[.slice s.ao s.n s.c] 110) (.cells #[.slice t.ao t.n t.c] 110) (.cells #[.slice none 0 0] 110);have hbx:Below w.heap.size w _:=(((Below.refl w.heap.size w).alloc (ai _) (.cells #[.slice s.ao s.n s.c] 110)).alloc (by simp) (.cells #[.slice t.ao t.n t.c] 110)).alloc (by simp;omega) (.cells #[.slice none 0 0] 110);have hc:mK x y=0∨mK x y=1:=by
  rcases iV y x with h|h
  ·exact .inr (uD h)
  ·obtain rfl:x=y:=by omega
   exact .inl (wE x)
 have hge:¬mK x y<0:=by omega
 clear hc;have HE:=bk hE;clear hE
 go_enter Tryz.func253,Tryz.ntmps253
 go_wp2_with (first|(go_at_call 204;refine(nv (h.up hbx) (h'.up hbx) hn hm).mono ?_;rintro e w1 ⟨rfl,hb1⟩;have hA:=bQ (bJ hb1 HE.out.1) 0;have hB:=bQ (bJ hb1 HE.out.2.1) 0)|(go_at_call 267;refine(CY ((h.up hbx).up hb1) ((h'.up hbx).up hb1) hn hxy).mono ?_;rintro e w2 ⟨u,rfl,hu,hun,hb2⟩;have hE':=bJ hb2 (bJ hb1 HE.out.2.2.1);have hR:=bQ hE' 0;have hRf:=dV hE' 0))
 refine fg (v:=.tuple #[.agg #[.slice u.ao u.n u.c],.int .i64 0]) (by simp[results,Tryz.results253,go_sem,hR]) rfl ⟨u,rfl,hu.kp ((Kp.refl _).setCell hE' (by decide) _),hun,?_⟩;exact((hbx.trans (hb1.mono (by have:=hbx.size;exact this))).trans (hb2.mono (by have:=hbx.size;have:=hb1.size;omega))).setCell (by simp;omega) _
theorem W6{w:World}{s t:Sl}{x y:Nat}(h:dU w s x)(h':dU w t y)(hn:s.n≤1000000000000)(hm:t.n≤1000000000000)(hxy:x<y):
  Calls Tryz.prog 253 #[.agg #[.slice s.ao s.n s.c],.agg #[.slice t.ao t.n t.c]] w fun e w'=>
   e=.returned (.tuple #[.agg #[.slice none 0 0],.int .i64 4])∧Below w.heap.size w w':=by
 have hE:=lD w (.cells #[.slice s.ao s.n s.c] 110) (.cells #[.slice t.ao t.n t.c] 110) (.cells #[.slice none 0 0] 110);have hbx:Below w.heap.size w _:=(((Below.refl w.heap.size w).alloc (ai _) (.cells #[.slice s.ao s.n s.c] 110)).alloc (by simp) (.cells #[.slice t.ao t.n t.c] 110)).alloc (by simp;omega) (.cells #[.slice none 0 0] 110);have hlt:mK x y<0:=by rw[wF hxy];omega
 have HE:=bk hE;clear hE
 go_enter Tryz.func253,Tryz.ntmps253
 go_wp2_with (go_at_call 204;refine(nv (h.up hbx) (h'.up hbx) hn hm).mono ?_;rintro e w1 ⟨rfl,hb1⟩;have hE':=bJ hb1 HE.out.2.2.1;have hR:=bQ hE' 0;have hRf:=dV hE' 0)
 refine fg (v:=.tuple #[.agg #[.slice none 0 0],.int .i64 4]) (by simp[results,Tryz.results253,go_sem,hR]) rfl ⟨rfl,?_⟩;exact(hbx.trans (hb1.mono (by have:=hbx.size;exact this))).setCell (by simp;omega) _
theorem Oh(ao bo:Option Addr)(n m c d:Nat)(l r:List Nat)(w:World)(h:dd w 273 .u32 ⟨ao,n,c⟩ l)(h':dd w 273 .u32 ⟨bo,m,d⟩ r)(hl:∀d∈l,d<4294967296)(hr:∀d∈r,d<4294967296)(hn:n≤1000000000000)(hm:m≤1000000000000):
  Calls Tryz.prog 247 #[.agg #[.slice ao n c],.agg #[.slice bo m d]] w fun e w'=>
   ∃(s:Sl),e=.returned (.agg #[.slice s.ao s.n s.c])∧dU w' s (val 4294967296 l*val 4294967296 r)∧s.n≤n+m∧Below w.heap.size w w':=by
 have hop:Hid (0<n→∃b off,ao=some ⟨b,off,none⟩∧b<w.heap.size∧∀i,i<n→w.cell? ⟨b,off+i,none⟩=some (.int .u32 ((dg l i:Nat):Int))):=h.open;have hop':Hid (0<m→∃b off,bo=some ⟨b,off,none⟩∧b<w.heap.size∧∀i,i<m→w.cell? ⟨b,off+i,none⟩=some (.int .u32 ((dg r i:Nat):Int))):=h'.open;have hlen:Hid (n=l.length):=h.1;have hlen':Hid (m=r.length):=h'.1;clear h h';have hll:Hid (∀d∈l,d<4294967296):=hl;have hrr:Hid (∀d∈r,d<4294967296):=hr;clear hl hr
 go_enter Tryz.func247,Tryz.ntmps247
 go_wp2_with (at_make;refine vu iC _ rfl _ _ rfl (w.heap.size+3) _ _ _ _ (n+m) rfl rfl (by omega) (by omega) (by omega) (by unfold maxLen;omega) (by simp) ?_;intro w1 ho hb hsz;have hA1:=bQ (cT hb (by omega) (lD w _ _ _).1) 0)
 have hbw:Below w.heap.size w w1:=((((Below.refl _ _).alloc (ai _) _).alloc (by simp) _).alloc (by simp;omega) _).trans (hb.mono (by omega));have hE1:=cT hb (by omega) (lD w _ _ _).1;have hE2:=cT hb (by omega) (lD w _ _ _).2.1;have hE3:=cT hb (by omega) (lD w _ _ _).2.2.1;have hw1:w.heap.size+3≤w1.heap.size:=by have:=hb.size;simp at this;omega
 clear hb;replace ho:iX w1 (w.heap.size+3) 273 .u32 (.slice (some ⟨w.heap.size+1+1+1,0,none⟩) (n+m) (n+m)) (List.replicate (n+m) 0):=by simpa using ho
 go_loopw [22] (fun i wr=>∃(k:Nat) (o:List Nat),k≤n∧i=.int .i64 k∧iX wr (w.heap.size+3) 273 .u32 (.slice (some ⟨w.heap.size+1+1+1,0,none⟩) (n+m) (n+m)) o∧Hid (o.length=n+m)∧Hid (∀d∈o,d<4294967296)∧Hid (∀j,k+m≤j→dg o j=0)∧Hid (val 4294967296 o=val 4294967296 (l.take k)*val 4294967296 r)∧Below (w.heap.size+3) w1 wr) (fun i _=>n-(intOf i).toNat)
 case atStart=>exact⟨0,_,aM _,rfl,ho,by unfold Hid;simp,by unfold Hid;simp,by unfold Hid;intro j _;simp[dg,cW];split<;>rfl,by unfold Hid;simp[val,vr],Below.refl _ _⟩
 case round=>
  obtain⟨i,o,hi,rfl,hown,hol,hod,hoz,hval,hbl⟩:=hrel;have hA:=bQ (cT hbl (by omega) hE1) 0;have hB:=bQ (cT hbl (by omega) hE2) 0;by_cases hlt:i<n
  ·obtain⟨b,off,rfl,hbw0,hcell⟩:=hop.out (by omega);have hck:wr.cell? ⟨b,off+i,none⟩=some (.int .u32 ((dg l i:Nat):Int)):=((hbl.cell (p:=⟨b,off+i,none⟩) (by simp;omega)).trans (hbw.cell (p:=⟨b,off+i,none⟩) hbw0)).trans (hcell i hlt);clear hcell;have hx:dg l i<4294967296:=je hll.out (by omega) i;generalize hxe:dg l i=x at*;have HX:=bk hxe;clear hxe;obtain⟨wo,hwo⟩:∃wo:World,wo=wr:=⟨_,rfl⟩;subst hwo
   go_wp2
   go_loopw [8,30] (fun cy u wr=>∃(k:Nat) (p:List Nat) (q:Nat),k≤m∧u=.int .i64 k∧cy=.int .u64 q∧q<4294967296∧iX wr (w.heap.size+3) 273 .u32 (.slice (some ⟨w.heap.size+1+1+1,0,none⟩) (n+m) (n+m)) p∧Hid (p.length=n+m)∧Hid (∀d∈p,d<4294967296)∧Hid (∀j,i+m≤j→dg p j=0)∧Hid (val 4294967296 p+4294967296^(i+k)*q=val 4294967296 (l.take i)*val 4294967296 r+4294967296^i*x*val 4294967296 (r.take k))∧Below (w.heap.size+3) w1 wr) (fun _ u _=>m-(intOf u).toNat)
   case atStart=>exact⟨0,o,0,aM _,rfl,rfl,by omega,hown,hol,hod,hoz,by unfold Hid;simp[val];exact hval.out,hbl⟩
   case round=>
    clear hown hol hod hoz hval hbl hA hB hck;obtain⟨k,p,q,hk,rfl,rfl,hq,hown,hol,hod,hoz,hval,hbl⟩:=hrel;have hB:=bQ (cT hbl (by omega) hE2) 0;by_cases hlt2:k<m
    ·obtain⟨b',off',rfl,hbw0',hcell'⟩:=hop'.out (by omega);have hck':wr.cell? ⟨b',off'+k,none⟩=some (.int .u32 ((dg r k:Nat):Int)):=((hbl.cell (p:=⟨b',off'+k,none⟩) (by simp;omega)).trans (hbw.cell (p:=⟨b',off'+k,none⟩) hbw0')).trans (hcell' k hlt2);clear hcell';have hy:dg r k<4294967296:=je hrr.out (by omega) k;have hz:dg p (i+k)<4294967296:=je hod.out (by omega) (i+k);obtain⟨hoc,hof,_,_⟩:=hown.slot (i+k) (by have:=hol.out;omega);have hstep:=bk (Og (B:=4294967296) (by have:=hol.out;omega) rfl rfl hval.out);generalize dg r k=y at*;generalize dg p (i+k)=z at*;obtain⟨hx0,hxm⟩:=zO x y hx hy;obtain⟨hu1,hu2⟩:=Ls q x y z hq hx hy hz;have hst:=hown.store (i+k) ((q+(x*y+z)) % 4294967296);simp only[ry,Int.natCast_add,dp,Int.cast_ofNat_Int]at hst;have hoz':Hid (∀j,i+m≤j→dg (p.set (i+k) ((q+(x*y+z)) % 4294967296)) j=0):=fun j hj=>by rw[oH (by omega)];exact hoz.out j hj
     clear hx0 hxm;obtain⟨hx0,hxm⟩:=zO x y hx hy
     go_wp2
     go_roundw
     case rel=>exact⟨k+1,_,(q+(x*y+z))/4294967296,by omega,by go_num,rfl,hu1,hst.1,by unfold Hid;rw[ft];exact hol.out,pC hod.out (fF _ (by omega)),hoz',hstep.out,hbl.trans hst.2⟩
     case measure=>simp[intOf];omega
    ·have hkm:Hid (k=m):=by unfold Hid;omega
     have hv2:=hval.out;rw[hkm.out]at hv2;have hrow:=bk (RJ (by have:=hol.out;omega) hlen'.out.symm HX.out (hoz.out (i+m) (ai _)) hv2);clear hv2;obtain⟨hoc,hof,_,_⟩:=hown.slot (i+m) (by have:=hol.out;omega);have hoz':Hid (∀j,i+1+m≤j→dg (p.set (i+m) q) j=0):=fun j hj=>by rw[oH (by omega)];exact hoz.out j (by omega)
     have hst:=hown.store (i+m) q;have hA:=bQ (cT hbl (by omega) hE1) 0
     go_wp2
     go_roundw
     case rel=>exact⟨i+1,_,by omega,by go_num,hst.1,by unfold Hid;rw[ft];exact hol.out,pC hod.out hq,hoz',hrow.out,hbl.trans hst.2⟩
     case measure=>simp[intOf];omega
  ·have hkn:Hid (val 4294967296 o=val 4294967296 l*val 4294967296 r):=by
    unfold Hid;rw[hval.out,eN _ _ _ (by have:=hlen.out;omega)]
   have hsi:dd wr 273 .u32 ⟨some ⟨w.heap.size+1+1+1,0,none⟩,n+m,n+m⟩ o:=by
    obtain⟨s,hs,hi⟩:=hown.ints;obtain⟨a,b,c⟩:=s;simp only[Value.slice.injEq]at hs;obtain⟨rfl,rfl,rfl⟩:=hs;exact hi
   go_wp2_with (go_at_call 245;refine(kV hsi hod.out).mono ?_;rintro e w2 ⟨t,rfl,ht,htn,hb2⟩;have hE3':=bJ hb2 (cT hbl (by omega) hE3);have hR:=bQ hE3' 0;have hRf:=dV hE3' 0)
   rw[hkn.out]at ht;refine fg (v:=.agg #[.slice t.ao t.n t.c]) (by simp[results,Tryz.results247,go_sem,hR]) rfl ⟨t,rfl,ht.kp ((Kp.refl _).setCell hE3' (by decide) _),htn,?_⟩;exact((hbw.trans (hbl.mono (by omega))).trans (hb2.mono (by have:=hbl.size;omega))).setCell (by simp;omega) _
theorem Gu{w:World}{s t:Sl}{x y:Nat}(h:dU w s x)(h':dU w t y)(hn:s.n≤1000000000000)(hm:t.n≤1000000000000):
  Calls Tryz.prog 247 #[.agg #[.slice s.ao s.n s.c],.agg #[.slice t.ao t.n t.c]] w fun e w'=>
   ∃u:Sl,e=.returned (.agg #[.slice u.ao u.n u.c])∧dU w' u (x*y)∧u.n≤s.n+t.n∧Below w.heap.size w w':=by
 obtain⟨l,h1,h2,h3,h4⟩:=h;obtain⟨r,g1,g2,g3,g4⟩:=h';subst h4;subst g4;exact Oh s.ao t.ao s.n t.n s.c t.c l r w h1 g1 h2 g2 hn hm
theorem SD(ao:Option Addr)(n c:Nat)(l:List Nat)(w:World)(K sh:Nat)(h:dd w 273 .u32 ⟨ao,n,c⟩ l)(hl:∀d∈l,d<4294967296)(hn:n≤1000000000000)(hsh:sh<32)(hk:32*K+sh≤65536):
  Calls Tryz.prog 246 #[.agg #[.slice ao n c],.int .i64 ((32*K+sh:Nat):Int)] w fun e w'=>
   ∃(s:Sl),e=.returned (.tuple #[.agg #[.slice s.ao s.n s.c],.int .i64 0])∧dU w' s (val 4294967296 l*2^(32*K+sh))∧s.n≤n+K+1∧Below w.heap.size w w':=by
 have hop:Hid (0<n→∃b off,ao=some ⟨b,off,none⟩∧b<w.heap.size∧∀i,i<n→w.cell? ⟨b,off+i,none⟩=some (.int .u32 ((dg l i:Nat):Int))):=h.open;have hlen:Hid (n=l.length):=h.1;clear h;have hll:Hid (∀d∈l,d<4294967296):=hl;clear hl;have hE:=AH w (.cells #[.slice ao n c] 110) (.cells #[.slice none 0 0] 110);have hbx:Below w.heap.size w _:=((Below.refl w.heap.size w).alloc (ai _) (.cells #[.slice ao n c] 110)).alloc (by simp) (.cells #[.slice none 0 0] 110);have HE:=bk hE;clear hE
 go_enter Tryz.func246,Tryz.ntmps246
 go_wp2_with (at_make;refine EV iC _ rfl _ _ rfl (w.heap.size+2) _ _ _ _ K (K+n+1) rfl rfl (by omega) (by omega) (by omega) (by omega) (by unfold maxLen;omega) (by simp) ?_;intro v1 w1 ho hb hsz;have hA1:=bQ (cT hb (by omega) HE.out.1) 0)
 have hbw:Below w.heap.size w w1:=hbx.trans (hb.mono (by omega));have hE2:=cT hb (by omega) HE.out.2.1;have hw1:w.heap.size+2≤w1.heap.size:=by have:=hb.size;simp at this;omega
 clear hb hA1
 go_loopw [6,7,30] (fun v cy i wr=>∃(k:Nat) (o:List Nat) (q:Nat),k≤n∧i=.int .i64 k∧cy=.int .u64 q∧Hid (q<2^sh)∧iX wr (w.heap.size+2) 273 .u32 v o∧Hid (o.length=K+k)∧Hid (∀d∈o,d<4294967296)∧Hid (val 4294967296 o+4294967296^(K+k)*q=4294967296^K*(val 4294967296 (l.take k)*2^sh))∧Below (w.heap.size+2) w1 wr) (fun _ _ i _=>n-(intOf i).toNat)
 case atStart=>exact⟨0,_,0,aM _,rfl,rfl,gZ (by omega),ho,by unfold Hid;simp,by unfold Hid;simp,by unfold Hid;simp[val,vr],Below.refl _ _⟩
 case round=>
  obtain⟨k,o,q,hk,rfl,rfl,hq,hown,hol,hod,hval,hbl⟩:=hrel;have hws:w.heap.size+2≤wr.heap.size:=by have:=hbl.size;omega
  have h32:(32*(K:Int)+sh) % 32=sh:=by omega
  by_cases hlt:k<n
  ·obtain⟨b,off,rfl,hbw0,hcell⟩:=hop.out (by omega);have hck:wr.cell? ⟨b,off+k,none⟩=some (.int .u32 ((dg l k:Nat):Int)):=((hbl.cell (p:=⟨b,off+k,none⟩) (by simp;omega)).trans (hbw.cell (p:=⟨b,off+k,none⟩) hbw0)).trans (hcell k hlt);clear hcell;have hx:dg l k<4294967296:=je hll.out (by omega) k;have hxe:=rfl (a:=dg l k);generalize hxx:dg l k=x at hck hx hxe⊢;have HX:=bk hxx;clear hxx hxe;have hor:=OA q x sh hq.out hx hsh;obtain⟨hN1,hN2,_⟩:=PM hq.out hx hsh;generalize hNe:q+x*2^sh=N at*;have hstep:=bk (SC hol.out HX.out hNe hval.out);have HN2:=bk hN2;clear hN2 hNe
   go_wp2_with (at_builtin;refine fo iC _ rfl _ _ rfl (w.heap.size+2) u6 o _ (N % 4294967296) rfl rfl hown ?hz ?hl ?hm ?hb ?_)
   case hz=>rfl
   case hl=>have:=hol.out;omega
   case hm=>have:=hol.out;unfold maxLen;omega
   case hb=>exact hws
   intro v' w' hown' hb';clear hck
   go_wp2
   go_roundw
   case rel=>exact⟨k+1,_,N/4294967296,by omega,by go_num,rfl,HN2,hown',by unfold Hid;have:=hol.out;simp;omega,jT hod.out (fF _ (by omega)),hstep.out,hbl.trans hb'⟩
   case measure=>simp[intOf];omega
  ·have hkn:Hid (k=n):=by unfold Hid;omega
   have hq32:q<4294967296:=by
    have:2^sh≤2^31:=cY (by omega) (by omega);have:=hq.out;omega
   go_wp2_with (at_builtin;refine fo iC _ rfl _ _ rfl (w.heap.size+2) u6 o _ q rfl rfl hown ?hz2 ?hl2 ?hm2 ?hb2 ?_)
   case hz2=>rfl
   case hl2=>have:=hol.out;omega
   case hm2=>have:=hol.out;unfold maxLen;omega
   case hb2=>exact hws
   intro v' w' hown' hb';obtain⟨s,rfl,hs⟩:=hown'.ints;have hsd:=bk (jT hod.out hq32)
   go_wp2_with (go_at_call 245;refine(kV hs hsd.out).mono ?_;rintro e w2 ⟨t,rfl,ht,htn,hb2⟩;have hE2':=bJ hb2 (cT hb' (by omega) (cT hbl (by omega) hE2));have hR:=bQ hE2' 0;have hRf:=dV hE2' 0)
   refine fg (v:=.tuple #[.agg #[.slice t.ao t.n t.c],.int .i64 0]) (by simp[results,Tryz.results246,go_sem,hR]) rfl ⟨t,rfl,?_,?_,?_⟩
   ·have e:val 4294967296 (o++[q])=val 4294967296 l*2^(32*K+sh):=by
     have h1:=hval.out;rw[eN _ l _ (by have:=hlen.out;have:=hkn.out;omega)]at h1;rw[kH,hol.out,h1,cR,Nat.pow_mul,show(2:Nat)^32=4294967296 from rfl];grind
    rw[←e];exact ht.kp ((Kp.refl _).setCell hE2' (by decide) _)
   ·have:=hs.1;have:=hol.out;have:=hkn.out;simp at*;omega
   ·exact(((hbw.trans (hbl.mono (by omega))).trans (hb'.mono (by omega))).trans (hb2.mono (by have:=hb'.size;omega))).setCell (by simp) _
theorem z9{w:World}{s:Sl}{x:Nat}(k:Nat)(h:dU w s x)(hn:s.n≤1000000000000)(hk:k≤65536):
  Calls Tryz.prog 246 #[.agg #[.slice s.ao s.n s.c],.int .i64 (k:Int)] w fun e w'=>
   ∃u:Sl,e=.returned (.tuple #[.agg #[.slice u.ao u.n u.c],.int .i64 0])∧dU w' u (x*2^k)∧u.n≤s.n+k/32+1∧Below w.heap.size w w':=by
 obtain⟨K,sh,hsh,rfl⟩:∃K sh,sh<32∧k=32*K+sh:=⟨k/32,k % 32,fF _ (by omega),by omega⟩;obtain⟨l,h1,h2,h3,h4⟩:=h;subst h4;refine(SD s.ao s.n s.c l w K sh h1 h2 hn hsh hk).mono ?_;rintro e w' ⟨u,rfl,hu,hun,hb⟩;exact⟨u,rfl,hu,by omega,hb⟩
theorem KX(ao:Option Addr)(n c:Nat)(l:List Nat)(w:World)(K sh:Nat)(h:dd w 273 .u32 ⟨ao,n,c⟩ l)(hl:∀d∈l,d<4294967296)(hn:n≤1000000000000)(hsh:sh<32)(hk:32*K+sh≤65536)(hKn:K<n):
  Calls Tryz.prog 251 #[.agg #[.slice ao n c],.int .i64 ((32*K+sh:Nat):Int)] w fun e w'=>
   ∃(s:Sl),e=.returned (.tuple #[.agg #[.slice s.ao s.n s.c],.int .i64 0])∧dU w' s (val 4294967296 (l.drop K)/2^sh)∧s.n≤n∧Below w.heap.size w w':=by
 obtain⟨b,off,rfl,hbw0,hcell⟩:=h.open (by exact iN (aM _) hKn);have hnc:n≤c:=h.2.1;have hcm:c≤9223372036854775807:=h.2.2.1;have hcell:=bk hcell;simp only at hcell;have hlen:Hid (n=l.length):=h.1;clear h;have hll:Hid (∀d∈l,d<4294967296):=hl;clear hl;have hE:=AH w (.cells #[.slice (some ⟨b,off,none⟩) n c] 110) (.cells #[.slice none 0 0] 110);have hbx:Below w.heap.size w _:=((Below.refl w.heap.size w).alloc (ai _) (.cells #[.slice (some ⟨b,off,none⟩) n c] 110)).alloc (by simp) (.cells #[.slice none 0 0] 110);have HE:=bk hE;clear hE;have h32:(32*(K:Int)+sh) % 32=sh:=by omega
 have h32':(32*(K:Int)+sh)/32=K:=by omega
 go_enter Tryz.func251,Tryz.ntmps251
 go_wp2_with (at_make;refine uV iC _ rfl _ _ rfl (w.heap.size+2) _ _ _ (n-K) rfl rfl (by omega) (by omega) (by unfold maxLen;omega) (by simp) ?_;intro v1 w1 ho hb)
 have hbw:Below w.heap.size w w1:=hbx.trans (hb.mono (by omega));have hE2:=cT hb (by omega) HE.out.2.1;have hw1:w.heap.size+2≤w1.heap.size:=by have:=hb.size;simp at this;omega
 have hNl:Hid (n-K=(l.drop K).length):=by unfold Hid;have:=hlen.out;simp;omega
 have hNn:n-K≤n:=by omega
 have hNp:Hid (∀i,i<n-K→w.cell? ⟨b,off+K+i,none⟩=some (.int .u32 ((dg (l.drop K) i:Nat):Int))):=fun i hi=>by
  rw[wH,ij];exact hcell.out (K+i) (by omega)
 have hdl:Hid (∀d∈l.drop K,d<4294967296):=fun d hd=>hll.out d (mE hd);clear hb hcell hll hlen;generalize n-K=N at*;generalize hM:l.drop K=M at*;have HM:=bk hM;clear hM;have hP:Hid (0<2^sh):=gZ (by omega);have hBB:=bk (LH (gf hsh))
 go_loopw [7,35] (fun v i wr=>∃(k:Nat) (o:List Nat),k≤N∧i=.int .i64 k∧iX wr (w.heap.size+2) 273 .u32 v o∧Hid (o.length=k)∧Hid (∀d∈o,d<4294967296)∧Hid (val 4294967296 o+4294967296^k*(val 4294967296 (M.drop k)/2^sh)=val 4294967296 M/2^sh)∧Below (w.heap.size+2) w1 wr) (fun _ i _=>N-(intOf i).toNat)
 case atStart=>exact⟨0,_,aM _,rfl,ho,by unfold Hid;simp,by unfold Hid;simp,by unfold Hid;simp[val],Below.refl _ _⟩
 case round=>
  obtain⟨k,o,hk,rfl,hown,hol,hod,hval,hbl⟩:=hrel;have hws:w.heap.size+2≤wr.heap.size:=by have:=hbl.size;omega
  by_cases hlt:k<N
  ·have hck:wr.cell? ⟨b,off+K+k,none⟩=some (.int .u32 ((dg M k:Nat):Int)):=((hbl.cell (p:=⟨b,off+K+k,none⟩) (by simp;omega)).trans (hbw.cell (p:=⟨b,off+K+k,none⟩) hbw0)).trans (hNp.out k hlt);have hx:dg M k<4294967296:=je hdl.out (by omega) k;by_cases hlt2:k+1<N
   ·have hck2:wr.cell? ⟨b,off+K+(k+1),none⟩=some (.int .u32 ((dg M (k+1):Nat):Int)):=((hbl.cell (p:=⟨b,off+K+(k+1),none⟩) (by simp;omega)).trans (hbw.cell (p:=⟨b,off+K+(k+1),none⟩) hbw0)).trans (hNp.out (k+1) hlt2);have hy:dg M (k+1)<4294967296:=je hdl.out (by omega) (k+1);have hstep:=bk (CN hBB.out hP.out (by omega) hol.out (by have:=hNl.out;omega) rfl rfl hdl.out hval.out);generalize dg M k=x at*;generalize dg M (k+1)=y at*;have hor:=GI x y hx hy;have hX:x+y*4294967296<18446744073709551616:=by omega
    generalize x+y*4294967296=X at*
    go_wp2_with (at_builtin;refine fo iC _ rfl _ _ rfl (w.heap.size+2) u7 o _ (X/2^sh % 4294967296) rfl rfl hown ?hz ?hl ?hm ?hb ?_)
    case hz=>simp
    case hl=>have:=hol.out;omega
    case hm=>have:=hol.out;unfold maxLen;omega
    case hb=>exact hws
    intro v' w' hown' hb';clear hck hck2
    go_wp2
    go_roundw
    case rel=>exact⟨k+1,_,by omega,by go_num,hown',by unfold Hid;have:=hol.out;simp;omega,jT hod.out (fF _ (by omega)),hstep.out,hbl.trans hb'⟩
    case measure=>simp[intOf];omega
   ·have hstep:=bk (CN (y:=0) hBB.out hP.out (by omega) hol.out (by have:=hNl.out;omega) rfl (tu (by have:=hNl.out;omega)) hdl.out hval.out);rw[ln,fm]at hstep;generalize dg M k=x at*
    go_wp2_with (at_builtin;refine fo iC _ rfl _ _ rfl (w.heap.size+2) u7 o _ (x/2^sh % 4294967296) rfl rfl hown ?hz3 ?hl3 ?hm3 ?hb3 ?_)
    case hz3=>simp
    case hl3=>have:=hol.out;omega
    case hm3=>have:=hol.out;unfold maxLen;omega
    case hb3=>exact hws
    intro v' w' hown' hb';clear hck
    go_wp2
    go_roundw
    case rel=>exact⟨k+1,_,by omega,by go_num,hown',by unfold Hid;have:=hol.out;simp;omega,jT hod.out (fF _ (by omega)),hstep.out,hbl.trans hb'⟩
    case measure=>simp[intOf];omega
  ·have hkn:Hid (k=N):=by unfold Hid;omega
   obtain⟨s,rfl,hs⟩:=hown.ints
   go_wp2_with (go_at_call 245;refine(kV hs hod.out).mono ?_;rintro e w2 ⟨t,rfl,ht,htn,hb2⟩;have hE2':=bJ hb2 (cT hbl (by omega) hE2);have hR:=bQ hE2' 0;have hRf:=dV hE2' 0)
   refine fg (v:=.tuple #[.agg #[.slice t.ao t.n t.c],.int .i64 0]) (by simp[results,Tryz.results251,go_sem,hR]) rfl ⟨t,rfl,?_,?_,?_⟩
   ·have e:val 4294967296 o=val 4294967296 M/2^sh:=by
     have h1:=hval.out;rw[bu (by have:=hNl.out;have:=hkn.out;omega)]at h1;simpa [val]using h1
    rw[HM.out,←e];exact ht.kp ((Kp.refl _).setCell hE2' (by decide) _)
   ·have:=hs.1;have:=hol.out;have:=hkn.out;simp at*;omega
   ·exact((hbw.trans (hbl.mono (by omega))).trans (hb2.mono (by omega))).setCell (by simp) _
theorem KY(ao:Option Addr)(n c:Nat)(w:World)(K sh:Nat)(_hn:n≤1000000000000)(hsh:sh<32)(hk:32*K+sh≤65536)(hKn:n≤K):
  Calls Tryz.prog 251 #[.agg #[.slice ao n c],.int .i64 ((32*K+sh:Nat):Int)] w fun e w'=>
   e=.returned (.tuple #[.agg #[.slice none 0 0],.int .i64 0])∧Below w.heap.size w w':=by
 have h32':(32*(K:Int)+sh)/32=K:=by omega
 go_enter Tryz.func251,Tryz.ntmps251
 go_wp2
 refine fg (v:=.tuple #[.agg #[.slice none 0 0],.int .i64 0]) (by simp[results,Tryz.results251,go_sem]) rfl ⟨rfl,?_⟩;exact((Below.refl _ _).alloc (ai _) _).alloc (by simp) _
theorem CM{w:World}{s:Sl}{x:Nat}(k:Nat)(h:dU w s x)(hn:s.n≤1000000000000)(hk:k≤65536):
  Calls Tryz.prog 251 #[.agg #[.slice s.ao s.n s.c],.int .i64 (k:Int)] w fun e w'=>
   ∃u:Sl,e=.returned (.tuple #[.agg #[.slice u.ao u.n u.c],.int .i64 0])∧dU w' u (x/2^k)∧u.n≤s.n∧Below w.heap.size w w':=by
 obtain⟨K,sh,hsh,rfl⟩:∃K sh,sh<32∧k=32*K+sh:=⟨k/32,k % 32,fF _ (by omega),by omega⟩;obtain⟨l,h1,h2,h3,h4⟩:=h;have e:x/2^(32*K+sh)=val 4294967296 (l.drop K)/2^sh:=by
  rw[Hm _ (by omega) l K h2,h4,cR,Nat.pow_mul,show(2:Nat)^32=4294967296 from rfl,Nat.div_div_eq_div_mul]
 rw[e];rcases iV K s.n with hc|hc
 ·exact KX s.ao s.n s.c l w K sh h1 h2 hn hsh hk hc
 ·refine(KY s.ao s.n s.c w K sh hn hsh hk hc).mono ?_;rintro e w' ⟨rfl,hb⟩;refine⟨⟨none,0,0⟩,rfl,?_,aM _,hb⟩;rw[bu (by rw[←h1.1];exact hc)];simp only[val,Nat.zero_div];exact dU.nil _ _ _ (by omega)
theorem H7{w:World}{s:Sl}{l:List Nat}(h:dd w 273 .u32 s l)(hp:0<s.n)(hn:s.n≤1000000000000):
  Calls Tryz.prog 250 #[.slice s.ao s.n s.c] w fun e w'=>∃v,e=.returned v∧iX w' w.heap.size 273 .u32 v l∧Below w.heap.size w w':=by
 obtain⟨b,off,ha,hb,hc⟩:=h.open hp;obtain⟨ao,n,c⟩:=s;simp only at ha hp hn hc;subst ha;have hlen:=bk h.1;have hmade:iX (w.alloc (.cells #[] 273)) w.heap.size 273 .u32 (.slice (some ⟨w.heap.size,0,none⟩) 0 0) []:=World.ownsRow_made w #[] 0 (ai _) (by unfold maxLen;omega) (by simp);have hi:dd (w.alloc (.cells #[] 273)) 273 .u32 ⟨some ⟨b,off,none⟩,n,c⟩ l:=h.up ((Below.refl _ _).alloc (ai _) _);have hbx:Below w.heap.size w (w.alloc (.cells #[] 273)):=(Below.refl _ _).alloc (ai _) _;clear hc;have hnil:=fun w=>Lib.run_eql_slice_nil (P:=Tryz.prog) w 108 273 (some ⟨b,off,none⟩) n c 0 0 Tryz.underlying108
 go_enter Tryz.func250,Tryz.ntmps250
 go_wp2_with (at_builtin;refine B9 iC _ rfl _ _ rfl w.heap.size (.slice (some ⟨w.heap.size,0,none⟩) 0 0) [] l ⟨some ⟨b,off,none⟩,n,c⟩ rfl rfl hmade hi hp ?hl ?hm (by simp) ?_)
 case hl=>have:=hlen.out;simp at*;omega
 case hm=>have:=hlen.out;unfold maxLen;simp at*;omega
 intro v' w' hown hb'
 go_wp2
 go_ret
 exact⟨_,rfl,by simpa using hown,hbx.trans hb'⟩
set_option maxRecDepth 100000 in
theorem Nf{w:World}{s t:Sl}{x y:Nat}(h:dU w s x)(h':dU w t y)(hn:s.n≤1000000000000)(hm:t.n≤1000000000000)(hxy:x<y):
  Calls Tryz.prog 199 #[.agg #[.slice s.ao s.n s.c],.agg #[.slice t.ao t.n t.c]] w fun e w'=>
   e=.returned (.tuple #[.agg #[.slice none 0 0],.agg #[.slice s.ao s.n s.c],.int .i64 0])∧Below w.heap.size w w':=by
 have hE:=Np w (.cells #[.slice s.ao s.n s.c] 110) (.cells #[.slice t.ao t.n t.c] 110) (.cells #[.slice none 0 0] 110) (.cells #[.slice none 0 0] 110);have hbx:Below w.heap.size w _:=((((Below.refl w.heap.size w).alloc (ai _) (.cells #[.slice s.ao s.n s.c] 110)).alloc (by simp) (.cells #[.slice t.ao t.n t.c] 110)).alloc (by simp;omega) (.cells #[.slice none 0 0] 110)).alloc (by simp;omega) (.cells #[.slice none 0 0] 110);have hlt:mK x y<0:=by rw[wF hxy];omega
 have ht0:((t.n:Int)==0)=false:=by
  have:=h'.zero_iff;simp;omega
 have HE:=bk hE;clear hE
 go_enter Tryz.func199,Tryz.ntmps199
 go_wp2_with (go_at_call 204;refine(nv (h.up hbx) (h'.up hbx) hn hm).mono ?_;rintro e w1 ⟨rfl,hb1⟩;have hE1:=bJ hb1 HE.out.1;have hA:=bQ hE1 0;have hE3:=bJ hb1 HE.out.2.2.1;have hR:=bQ hE3 0;have hRf:=dV hE3 0;have hE4:=bJ hb1 HE.out.2.2.2.1;have hR2:=bQ hE4 0;have hRf2:=dV hE4 0)
 go_region
 go_wp2
 refine fg (v:=.tuple #[.agg #[.slice none 0 0],.agg #[.slice s.ao s.n s.c],.int .i64 0]) (by simp[results,Tryz.results199,go_sem,hR,hR2]) rfl ⟨rfl,?_⟩;have hbb:=hbx.trans (hb1.mono (by have:=hbx.size;exact this));exact(hbb.drew.setCell (by simp;omega) _).setCell (by simp;omega) _
set_option maxRecDepth 100000 in
theorem div_one{w:World}{s t:Sl}{x y:Nat}(h:dU w s x)(h':dU w t y)(hn:s.n≤1000000000000)(hm:t.n=1)(hxy:y≤x):
  Calls Tryz.prog 199 #[.agg #[.slice s.ao s.n s.c],.agg #[.slice t.ao t.n t.c]] w fun e w'=>
   ∃u v:Sl,e=.returned (.tuple #[.agg #[.slice u.ao u.n u.c],.agg #[.slice v.ao v.n v.c],.int .i64 0])∧dU w' u (x/y)∧dU w' v (x % y)∧u.n≤s.n∧v.n≤2∧Below w.heap.size w w':=by
 obtain⟨l,h1,h2,h3,h4⟩:=id h;obtain⟨r,g1,g2,g3,g4⟩:=id h';obtain⟨b,off,hao,hbw,hcell⟩:=g1.open (by omega);obtain⟨to,tn,tc⟩:=t;simp only at hm hao;subst hm;subst hao;have hcd:=hcell 0 (by simp);have hrl:r.length=1:=g1.1.symm;have hy:y=dg r 0:=by
  rw[←g4,uU (B:=4294967296) (j:=0) hrl];simp[val]
 have hd32:dg r 0<4294967296:=je g2 (by omega) 0;have hd0:0<dg r 0:=by
  have:=h'.zero_iff;simp at this;omega
 have hsn:((s.n:Int)==0)=false:=by
  have:=h.zero_iff;simp;omega
 rw[←hy]at hcd hd32 hd0;have hE:=Np w (.cells #[.slice s.ao s.n s.c] 110) (.cells #[.slice (some ⟨b,off,none⟩) 1 tc] 110) (.cells #[.slice none 0 0] 110) (.cells #[.slice none 0 0] 110);have hbx:Below w.heap.size w _:=((((Below.refl w.heap.size w).alloc (ai _) (.cells #[.slice s.ao s.n s.c] 110)).alloc (by simp) (.cells #[.slice (some ⟨b,off,none⟩) 1 tc] 110)).alloc (by simp;omega) (.cells #[.slice none 0 0] 110)).alloc (by simp;omega) (.cells #[.slice none 0 0] 110);have hlt:¬mK x y<0:=by
  rcases iV y x with hh|hh
  ·rw[uD hh];omega
  ·obtain rfl:x=y:=by omega
   rw[wE];omega
 have HE:=bk hE;have HX:=bk h4;have HY:=bk hy;simp only[fm]at hcd hcell;clear hE h4 hy hcell hrl g4 g3 h3;have hxy':=bk hxy;clear hxy
 go_enter Tryz.func199,Tryz.ntmps199
 go_wp2_with (go_at_call 204;refine(nv (h.up hbx) (h'.up hbx) hn (by simp)).mono ?_;rintro e w1 ⟨rfl,hb1⟩;have hE1:=bJ hb1 HE.out.1;have hA:=bQ hE1 0;have hE2:=bJ hb1 HE.out.2.1;have hB:=bQ hE2 0;have hD:=((hb1.cell (p:=⟨b,off,none⟩) (by simp;omega)).trans (hbx.cell (p:=⟨b,off,none⟩) hbw)).trans hcd)
 have hbw1:b<w1.heap.size:=by have:=hb1.size;simp at this;omega
 have hl1:dd w1 273 .u32 s l:=(h1.up hbx).up hb1;clear hcd
 go_region_held3 (fun w'=>w'.cell? ⟨w.heap.size,0,none⟩=some (.slice s.ao s.n s.c)∧w'.cell? ⟨w.heap.size+1,0,none⟩=some (.slice (some ⟨b,off,none⟩) 1 tc)∧w'.cell? ⟨b,off,none⟩=some (.int .u32 (y:Int)))
  (first|exact⟨hA,hB,hD⟩|exact⟨(hb2.cell (p:=⟨w.heap.size,0,none⟩) (rK hE1)).trans hA,(hb2.cell (p:=⟨w.heap.size+1,0,none⟩) (rK hE2)).trans hB,(hb2.cell (p:=⟨b,off,none⟩) hbw1).trans hD⟩)
  (first|(go_at_call 248;refine(Rd s.ao s.n s.c l w1.drew y hl1 h2 hd32 hd0 hn).mono ?_;rintro e w2 ⟨q,ql,rr,rfl,hq,hqd,hql,hqv,hrr,hb2⟩))
 replace hb2:Below w1.heap.size w1 w2:=lT hb2;have hE3:=bJ hb2 (bJ hb1 HE.out.2.2.1);have hE4:=bJ hb2 (bJ hb1 HE.out.2.2.2.1);have hbb:=(hbx.trans (hb1.mono (by have:=hbx.size;exact this))).trans (hb2.mono (by have:=hbx.size;have:=hb1.size;simp at*;omega));have hr64:rr<18446744073709551616:=by omega
 clear hA hB hD
 go_wp2_with (first|(go_at_call 245;refine(kV hq hqd).mono ?_;rintro e w3 ⟨u,rfl,hu,hun,hb3⟩)|(go_at_call 193;refine(El rr _ hr64).mono ?_;rintro e w4 ⟨v,rfl,hv,hvn,hb4⟩;have hF3:=bJ hb4 (bJ hb3 hE3);have hR:=bQ hF3 0;have hRf:=dV hF3 0;have hF4:=bJ hb4 (bJ hb3 hE4);have hR2:=bQ hF4 0;have hRf2:=dV hF4 0))
 have hqr:x=y*val 4294967296 ql+rr:=by rw[←HX.out];exact hqv
 have e1:val 4294967296 ql=x/y:=by
  rw[hqr,Nat.mul_add_div hd0,jH hrr,fm]
 have e2:rr=x % y:=by
  rw[hqr,Nat.mul_add_mod,Nat.mod_eq_of_lt hrr]
 rw[e1]at hu;rw[e2]at hv;refine fg (v:=.tuple #[.agg #[.slice u.ao u.n u.c],.agg #[.slice v.ao v.n v.c],.int .i64 0]) (by simp[results,Tryz.results199,go_sem,hR,hR2]) rfl ⟨u,v,rfl,?_,?_,?_,hvn,?_⟩
 ·exact((hu.up hb4).kp ((Kp.refl _).setCell hF3 (by decide) _)).kp ((Kp.refl _).setCell (cH hF4 (by simp) _) (by decide) _)
 ·exact(hv.kp ((Kp.refl _).setCell hF3 (by decide) _)).kp ((Kp.refl _).setCell (cH hF4 (by simp) _) (by decide) _)
 ·have:=hq.1;have:=h1.1;omega
 ·exact(((hbb.trans (hb3.mono hbb.size)).trans (hb4.mono (by have:=hbb.size;have:=hb3.size;omega))).setCell (by simp;omega) _).setCell (by simp;omega) _
end Go.Proofs.YtgaaopjagcaojaaGreat
