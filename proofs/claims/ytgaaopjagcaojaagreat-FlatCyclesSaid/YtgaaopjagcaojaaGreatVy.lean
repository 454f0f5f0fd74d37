import Derived.Test.YtgaaopjagcaojaaGreatProg
import Derived.Test.YtgaaopjagcaojaaGreatNatU
import Derived.Deep.RegionHeld3
import Derived.BigRegion
import Derived.Deep.QuietTactic
import Derived.BigQuiet
import Derived.Deep.DeepCutAuto
import Derived.Deep.CutBlock
import Derived.Deep.LoopGhost
import Derived.Lib.Strings
import Derived.Deep.RegionWith
import Derived.Lib.Hide
import Derived.Laws.IdiomStrings
import Derived.IntWalk
import Derived.Deep.RegionLaw
import Derived.Test.YtgaaopjagcaojaaGreatVm
import Derived.Below
import Derived.ChangeSame
import Derived.ProofKit
import Derived.OpenShut
import Derived.SliceStrings
import Derived.WideKeyArgs
set_option linter.unusedSimpArgs false
set_option linter.unusedVariables false
set_option maxHeartbeats 4000000
namespace Go.Proofs.YtgaaopjagcaojaaGreat
open Go.RowKit
abbrev gS:=@Go.IntKind.wrap_u32
theorem Ef(x:Nat)(w:World)(hx:x<18446744073709551616):
  Calls Tryz.prog 193 #[.int .u64 (x:Int)] w fun e w'=>
   ∃u:Sl,e=.returned (.agg #[.slice u.ao u.n u.c])∧dV w' u x∧u.n≤2∧Below w.heap.size w w':=by
 have hE:=As w (.cells #[.slice none 0 0] 110) (.cells #[.int .u32 ((x:Int) % 4294967296),.int .u32 ((x:Int)/4294967296)] 273);have hi:de _ 273 .u32 ⟨some ⟨w.heap.size+1,0,none⟩,2,2⟩ [x % 4294967296,x/4294967296]:=de.of_row [x % 4294967296,x/4294967296] hE.2.1 (by simp) (by simp);have hv:val 4294967296 [x % 4294967296,x/4294967296]=x:=by rw[SW];omega
 have hbx:Below w.heap.size w _:=((bD w.heap.size w).alloc (ak _) (.cells #[.slice none 0 0] 110)).alloc (by simp) (.cells #[.int .u32 ((x:Int) % 4294967296),.int .u32 ((x:Int)/4294967296)] 273)
 go_enter Tryz.func193,Tryz.ntmps193
 have HE:=bk hE;have HV:=bk hv;clear hE hv
 go_wp2_with (go_at_call 245;refine(ll hi (by intro d hd;simp at hd;omega)).mono ?_;rintro e w2 ⟨t,rfl,ht,htn,hb2⟩;have hE':=bG hb2 HE.out.1;have hR:=bR hE' 0;have hRf:=dX hE' 0)
 rw[HV.out]at ht;refine eY (v:=.agg #[.slice t.ao t.n t.c]) (by simp[results,Tryz.results193,go_sem,hR]) rfl ⟨t,rfl,ht.kp ((Kp.refl _).setCell hE' (by decide) _),htn,?_⟩;exact(hbx.trans (hb2.mono (by have:=hbx.size;exact this))).setCell (ak _) _
theorem Nc{l:List Nat}{j:Nat}(hl:∀d∈l,d<4294967296)(h:l.length=j+1)(hn:dg l j≠0):bl (val 4294967296 l)=32*j+bl (dg l j):=by
 have h1:=uZ (B:=4294967296) h;have h2:val 4294967296 (l.take j)<4294967296^j:=by
  have:=mE 4294967296 (l.take j) (fun d hd=>hl d (fe hd));simpa [h]using this
 generalize val 4294967296 (l.take j)=v at*;generalize dg l j=t at*;have hp:4294967296^j=2^(32*j):=by rw[Nat.pow_mul]
 rw[hp]at h1 h2;rw[h1];have ht:=(qV t (bl t)).1 (ak _);have hlo:2^(bl t-1)≤t:=by
  apply gL;intro hh;have:=(qV t (bl t-1)).2 hh;have:bl t≠0:=by unfold bl;rw[if_neg hn];omega
  omega
 have hb0:bl t≠0:=by unfold bl;rw[if_neg hn];omega
 apply Nat.le_antisymm
 ·rw[qV,cP];have h3:2^(32*j)*(t+1)≤2^(32*j)*2^bl t:=cG _ ht;rw[fA]at h3;omega
 ·apply gL;intro hh;have h4:bl (v+2^(32*j)*t)≤32*j+(bl t-1):=by omega
  rw[qV,cP]at h4;have h5:2^(32*j)*2^(bl t-1)≤2^(32*j)*t:=cG _ hlo;omega
theorem Cn{w:World}{s:Sl}{x:Nat}(h:dV w s x)(hn:s.n≤1000000000000):
  Calls Tryz.prog 244 #[.agg #[.slice s.ao s.n s.c]] w fun e w'=>e=.returned (.int .i64 (bl x:Int))∧Below w.heap.size w w':=by
 obtain⟨l,h1,h2,h3,h4⟩:=h;obtain⟨ao,n,c⟩:=s;have hop:=h1.open;have hlen:=bk h1.1;clear h1;simp only at hop hlen hn⊢;by_cases h0:n=0
 ·subst h0;have hx:Hid (x=0):=by
   unfold Hid;rw[←h4,aN hlen.out.symm];rfl
  go_enter Tryz.func244,Tryz.ntmps244
  go_wp2
  go_ret
  exact⟨by rw[hx.out];rfl,(bD _ _).alloc (ak _) _⟩
 ·obtain⟨j,rfl⟩:∃j,n=j+1:=⟨n-1,by omega⟩;obtain⟨b,off,rfl,hb,hcell⟩:=hop (by omega);have hc:=hcell j (by omega);have hl1:l.length=j+1:=hlen.out.symm;have hd:dg l j<4294967296:=iX h2 (by omega) j;have hd0:dg l j≠0:=by
   intro hh;apply h3;rw[fZ,hl1];simp only[eF];rw[tC (by omega)]at hh;simp[hl1,hh]
  have hbl:=bk (Nc h2 hl1 hd0);have hx:=bk h4;have hb32:bl (dg l j)≤32:=(qV _ 32).2 (by omega);clear h2 h3 h4 hl1 hcell hop hd0 h0;generalize dg l j=d at*
  go_enter Tryz.func244,Tryz.ntmps244
  go_wp2_with (go_at_call 266;refine(AO d _ hd).mono ?_;rintro e w' ⟨rfl,rfl⟩)
  go_ret
  exact⟨by rw[←hx.out,hbl.out];simp,(bD _ _).alloc (ak _) _⟩
theorem QL{w:World}{s:Sl}{x:Nat}(h:dV w s x)(hn:s.n≤1000000000000)(hx:18446744073709551616≤x):
  Calls Tryz.prog 202 #[.agg #[.slice s.ao s.n s.c]] w fun e w'=>e=.returned (.tuple #[.int .u64 0,.bool false])∧Below w.heap.size w w':=by
 have h3:2<s.n:=by
  obtain⟨l,h1,h2,h3,h4⟩:=h;apply Nat.lt_of_not_le;intro hh;have:=mE 4294967296 l h2;have h5:4294967296^l.length≤4294967296^2:=cY (by omega) (by rw[←h1.1];exact hh);omega
 obtain⟨ao,n,c⟩:=s;simp only at h3 hn⊢;clear h hx
 go_enter Tryz.func202,Tryz.ntmps202
 go_wp2
 go_ret2
 exact⟨rfl,(bD _ _).alloc (ak _) _⟩
theorem Jb{w:World}{s:Sl}{x:Nat}(h:dV w s x)(hx:x<18446744073709551616):
  Calls Tryz.prog 202 #[.agg #[.slice s.ao s.n s.c]] w fun e w'=>e=.returned (.tuple #[.int .u64 (x:Int),.bool true])∧Below w.heap.size w w':=by
 obtain⟨l,h1,h2,h3,h4⟩:=h;have hn2:s.n≤2:=by
  rw[h1.1];exact h3.len_of_lt (B:=4294967296) (by omega) (by rw[h4];omega)
 obtain⟨ao,n,c⟩:=s;have hop:=bk h1.open;have hlen:=bk h1.1;have hv:=bk h4;have hll:=bk h2;clear h1 h3 h4 h2;simp only at hop hlen hn2⊢;have hbx:Below w.heap.size w (w.alloc (.cells #[.slice ao n c] 110)):=(bD _ _).alloc (ak _) _
 go_enter Tryz.func202,Tryz.ntmps202
 go_wp2
 go_loop [4,14] (fun v i=>∃k:Nat,k≤n∧i=.int .i64 k∧v=.int .u64 ((val 4294967296 (l.take k):Nat):Int)) (fun _ i=>n-(intOf i).toNat)
 case atStart=>exact⟨0,aJ _,rfl,by simp[val]⟩
 case round=>
  obtain⟨k,hk,rfl,rfl⟩:=hrel;by_cases hlt:k<n
  ·obtain⟨b,off,rfl,hbw,hcell⟩:=hop.out (by omega);have hck:=hcell k hlt;clear hcell;have hd:dg l k<4294967296:=iX hll.out (by omega) k;have hstep:=da 4294967296 l k;by_cases h0:k=0
   ·subst h0;simp only[mQ,KK,bQ,Nat.pow_zero,iQ]at hstep⊢;rw[ff]at hck;have hs:=bk hstep;clear hstep;have hor:=LN (dg l 0) (by omega);generalize dg l 0=d at*
    go_wp2
    go_round
    case rel=>exact⟨1,by omega,by go_num,by rw[hs.out]⟩
    case measure=>simp[intOf];omega
   ·obtain rfl:k=1:=by omega
    have hq:val 4294967296 (l.take 1)<4294967296:=by
     have h5:=mE 4294967296 (l.take 1) (fun d hd=>hll.out d (fe hd));have:(l.take 1).length=1:=by have:=hlen.out;simp;omega
     rw[this]at h5;simpa using h5
    have hs:=bk hstep;clear hstep;generalize val 4294967296 (l.take 1)=q at*;have hor:=GJ q (dg l 1) hq hd;generalize dg l 1=d at*
    go_wp2
    go_round
    case rel=>exact⟨2,by omega,by go_num,by rw[hs.out,Nat.pow_one,fg];simp⟩
    case measure=>simp[intOf];omega
  ·have hkn:Hid (val 4294967296 (l.take k)=x):=by
    unfold Hid;rw[eL _ _ _ (by have:=hlen.out;omega)];exact hv.out
   go_wp2
   go_ret2
   exact⟨by rw[hkn.out];rfl,hbx⟩
theorem W_{w:World}{s t:Sl}{x y:Nat}(h:dV w s x)(h':dV w t y)(hn:s.n≤1000000000000)(hm:t.n≤1000000000000)(hxy:y≤x):
  Calls Tryz.prog 253 #[.agg #[.slice s.ao s.n s.c],.agg #[.slice t.ao t.n t.c]] w fun e w'=>
   ∃u:Sl,e=.returned (.tuple #[.agg #[.slice u.ao u.n u.c],.int .i64 0])∧dV w' u (x-y)∧u.n≤s.n∧Below w.heap.size w w':=by
 have hE:=lO w (.cells #[.slice s.ao s.n s.c] 110) (.cells #[.slice t.ao t.n t.c] 110) (.cells #[.slice none 0 0] 110);have hbx:Below w.heap.size w _:=(((bD w.heap.size w).alloc (ak _) (.cells #[.slice s.ao s.n s.c] 110)).alloc (by simp) (.cells #[.slice t.ao t.n t.c] 110)).alloc (by simp;omega) (.cells #[.slice none 0 0] 110);have hc:mV x y=0∨mV x y=1:=by
  rcases iM y x with h|h
  ·exact .inr (uE h)
  ·obtain rfl:x=y:=by omega
   exact .inl (wG x)
 have hge:¬mV x y<0:=by omega
 clear hc;have HE:=bk hE;clear hE
 go_enter Tryz.func253,Tryz.ntmps253
 go_wp2_with (first|(go_at_call 204;refine(nJ (h.up hbx) (h'.up hbx) hn hm).mono ?_;rintro e w1 ⟨rfl,hb1⟩;have hA:=bR (bG hb1 HE.out.1) 0;have hB:=bR (bG hb1 HE.out.2.1) 0)|(go_at_call 267;refine(CO ((h.up hbx).up hb1) ((h'.up hbx).up hb1) hn hxy).mono ?_;rintro e w2 ⟨u,rfl,hu,hun,hb2⟩;have hE':=bG hb2 (bG hb1 HE.out.2.2.1);have hR:=bR hE' 0;have hRf:=dX hE' 0))
 refine eY (v:=.tuple #[.agg #[.slice u.ao u.n u.c],.int .i64 0]) (by simp[results,Tryz.results253,go_sem,hR]) rfl ⟨u,rfl,hu.kp ((Kp.refl _).setCell hE' (by decide) _),hun,?_⟩;exact((hbx.trans (hb1.mono (by have:=hbx.size;exact this))).trans (hb2.mono (by have:=hbx.size;have:=hb1.size;omega))).setCell (by simp;omega) _
theorem Xa{w:World}{s t:Sl}{x y:Nat}(h:dV w s x)(h':dV w t y)(hn:s.n≤1000000000000)(hm:t.n≤1000000000000)(hxy:x<y):
  Calls Tryz.prog 253 #[.agg #[.slice s.ao s.n s.c],.agg #[.slice t.ao t.n t.c]] w fun e w'=>
   e=.returned (.tuple #[.agg #[.slice none 0 0],.int .i64 4])∧Below w.heap.size w w':=by
 have hE:=lO w (.cells #[.slice s.ao s.n s.c] 110) (.cells #[.slice t.ao t.n t.c] 110) (.cells #[.slice none 0 0] 110);have hbx:Below w.heap.size w _:=(((bD w.heap.size w).alloc (ak _) (.cells #[.slice s.ao s.n s.c] 110)).alloc (by simp) (.cells #[.slice t.ao t.n t.c] 110)).alloc (by simp;omega) (.cells #[.slice none 0 0] 110);have hlt:mV x y<0:=by rw[wH hxy];omega
 have HE:=bk hE;clear hE
 go_enter Tryz.func253,Tryz.ntmps253
 go_wp2_with (go_at_call 204;refine(nJ (h.up hbx) (h'.up hbx) hn hm).mono ?_;rintro e w1 ⟨rfl,hb1⟩;have hE':=bG hb1 HE.out.2.2.1;have hR:=bR hE' 0;have hRf:=dX hE' 0)
 refine eY (v:=.tuple #[.agg #[.slice none 0 0],.int .i64 4]) (by simp[results,Tryz.results253,go_sem,hR]) rfl ⟨rfl,?_⟩;exact(hbx.trans (hb1.mono (by have:=hbx.size;exact this))).setCell (by simp;omega) _
theorem OR(ao bo:Option Addr)(n m c d:Nat)(l r:List Nat)(w:World)(h:de w 273 .u32 ⟨ao,n,c⟩ l)(h':de w 273 .u32 ⟨bo,m,d⟩ r)(hl:∀d∈l,d<4294967296)(hr:∀d∈r,d<4294967296)(hn:n≤1000000000000)(hm:m≤1000000000000):
  Calls Tryz.prog 247 #[.agg #[.slice ao n c],.agg #[.slice bo m d]] w fun e w'=>
   ∃(s:Sl),e=.returned (.agg #[.slice s.ao s.n s.c])∧dV w' s (val 4294967296 l*val 4294967296 r)∧s.n≤n+m∧Below w.heap.size w w':=by
 have hop:Hid (0<n→∃b off,ao=some ⟨b,off,none⟩∧b<w.heap.size∧∀i,i<n→w.cell? ⟨b,off+i,none⟩=some (.int .u32 ((dg l i:Nat):Int))):=h.open;have hop':Hid (0<m→∃b off,bo=some ⟨b,off,none⟩∧b<w.heap.size∧∀i,i<m→w.cell? ⟨b,off+i,none⟩=some (.int .u32 ((dg r i:Nat):Int))):=h'.open;have hlen:Hid (n=l.length):=h.1;have hlen':Hid (m=r.length):=h'.1;clear h h';have hll:Hid (∀d∈l,d<4294967296):=hl;have hrr:Hid (∀d∈r,d<4294967296):=hr;clear hl hr
 go_enter Tryz.func247,Tryz.ntmps247
 go_wp2_with (at_make;refine vD ib _ rfl _ _ rfl (w.heap.size+3) _ _ _ _ (n+m) rfl rfl (by omega) (by omega) (by omega) (by unfold maxLen;omega) (by simp) ?_;intro w1 ho hb hsz;have hA1:=bR (cQ hb (by omega) (lO w _ _ _).1) 0)
 have hbw:Below w.heap.size w w1:=((((bD _ _).alloc (ak _) _).alloc (by simp) _).alloc (by simp;omega) _).trans (hb.mono (by omega));have hE1:=cQ hb (by omega) (lO w _ _ _).1;have hE2:=cQ hb (by omega) (lO w _ _ _).2.1;have hE3:=cQ hb (by omega) (lO w _ _ _).2.2.1;have hw1:w.heap.size+3≤w1.heap.size:=by have:=hb.size;simp at this;omega
 clear hb;replace ho:iN w1 (w.heap.size+3) 273 .u32 (.slice (some ⟨w.heap.size+1+1+1,0,none⟩) (n+m) (n+m)) (List.replicate (n+m) 0):=by simpa using ho
 go_loopw [22] (fun i wr=>∃(k:Nat) (o:List Nat),k≤n∧i=.int .i64 k∧iN wr (w.heap.size+3) 273 .u32 (.slice (some ⟨w.heap.size+1+1+1,0,none⟩) (n+m) (n+m)) o∧Hid (o.length=n+m)∧Hid (∀d∈o,d<4294967296)∧Hid (∀j,k+m≤j→dg o j=0)∧Hid (val 4294967296 o=val 4294967296 (l.take k)*val 4294967296 r)∧Below (w.heap.size+3) w1 wr) (fun i _=>n-(intOf i).toNat)
 case atStart=>exact⟨0,_,aJ _,rfl,ho,by unfold Hid;simp,by unfold Hid;simp,by unfold Hid;intro j _;simp[dg,cX];split<;>rfl,by unfold Hid;simp[val,vB],bD _ _⟩
 case round=>
  obtain⟨i,o,hi,rfl,hown,hol,hod,hoz,hval,hbl⟩:=hrel;have hA:=bR (cQ hbl (by omega) hE1) 0;have hB:=bR (cQ hbl (by omega) hE2) 0;by_cases hlt:i<n
  ·obtain⟨b,off,rfl,hbw0,hcell⟩:=hop.out (by omega);have hck:wr.cell? ⟨b,off+i,none⟩=some (.int .u32 ((dg l i:Nat):Int)):=((hbl.cell (p:=⟨b,off+i,none⟩) (by simp;omega)).trans (hbw.cell (p:=⟨b,off+i,none⟩) hbw0)).trans (hcell i hlt);clear hcell;have hx:dg l i<4294967296:=iX hll.out (by omega) i;generalize hxe:dg l i=x at*;have HX:=bk hxe;clear hxe;obtain⟨wo,hwo⟩:∃wo:World,wo=wr:=⟨_,rfl⟩;subst hwo
   go_wp2
   go_loopw [8,30] (fun cy u wr=>∃(k:Nat) (p:List Nat) (q:Nat),k≤m∧u=.int .i64 k∧cy=.int .u64 q∧q<4294967296∧iN wr (w.heap.size+3) 273 .u32 (.slice (some ⟨w.heap.size+1+1+1,0,none⟩) (n+m) (n+m)) p∧Hid (p.length=n+m)∧Hid (∀d∈p,d<4294967296)∧Hid (∀j,i+m≤j→dg p j=0)∧Hid (val 4294967296 p+4294967296^(i+k)*q=val 4294967296 (l.take i)*val 4294967296 r+4294967296^i*x*val 4294967296 (r.take k))∧Below (w.heap.size+3) w1 wr) (fun _ u _=>m-(intOf u).toNat)
   case atStart=>exact⟨0,o,0,aJ _,rfl,rfl,by omega,hown,hol,hod,hoz,by unfold Hid;simp[val];exact hval.out,hbl⟩
   case round=>
    clear hown hol hod hoz hval hbl hA hB hck;obtain⟨k,p,q,hk,rfl,rfl,hq,hown,hol,hod,hoz,hval,hbl⟩:=hrel;have hB:=bR (cQ hbl (by omega) hE2) 0;by_cases hlt2:k<m
    ·obtain⟨b',off',rfl,hbw0',hcell'⟩:=hop'.out (by omega);have hck':wr.cell? ⟨b',off'+k,none⟩=some (.int .u32 ((dg r k:Nat):Int)):=((hbl.cell (p:=⟨b',off'+k,none⟩) (by simp;omega)).trans (hbw.cell (p:=⟨b',off'+k,none⟩) hbw0')).trans (hcell' k hlt2);clear hcell';have hy:dg r k<4294967296:=iX hrr.out (by omega) k;have hz:dg p (i+k)<4294967296:=iX hod.out (by omega) (i+k);obtain⟨hoc,hof,_,_⟩:=hown.slot (i+k) (by have:=hol.out;omega);have hstep:=bk (OQ (B:=4294967296) (by have:=hol.out;omega) rfl rfl hval.out);generalize dg r k=y at*;generalize dg p (i+k)=z at*;obtain⟨hx0,hxm⟩:=zA x y hx hy;obtain⟨hu1,hu2⟩:=LJ q x y z hq hx hy hz;have hst:=hown.store (i+k) ((q+(x*y+z)) % 4294967296);simp only[ru,Int.natCast_add,dP,Int.cast_ofNat_Int]at hst;have hoz':Hid (∀j,i+m≤j→dg (p.set (i+k) ((q+(x*y+z)) % 4294967296)) j=0):=fun j hj=>by rw[oP (by omega)];exact hoz.out j hj
     clear hx0 hxm;obtain⟨hx0,hxm⟩:=zA x y hx hy
     go_wp2
     go_roundw
     case rel=>exact⟨k+1,_,(q+(x*y+z))/4294967296,by omega,by go_num,rfl,hu1,hst.1,by unfold Hid;rw[dq];exact hol.out,pP hod.out (fB _ (by omega)),hoz',hstep.out,hbl.trans hst.2⟩
     case measure=>simp[intOf];omega
    ·have hkm:Hid (k=m):=by unfold Hid;omega
     have hv2:=hval.out;rw[hkm.out]at hv2;have hrow:=bk (Sb (by have:=hol.out;omega) hlen'.out.symm HX.out (hoz.out (i+m) (ak _)) hv2);clear hv2;obtain⟨hoc,hof,_,_⟩:=hown.slot (i+m) (by have:=hol.out;omega);have hoz':Hid (∀j,i+1+m≤j→dg (p.set (i+m) q) j=0):=fun j hj=>by rw[oP (by omega)];exact hoz.out j (by omega)
     have hst:=hown.store (i+m) q;have hA:=bR (cQ hbl (by omega) hE1) 0
     go_wp2
     go_roundw
     case rel=>exact⟨i+1,_,by omega,by go_num,hst.1,by unfold Hid;rw[dq];exact hol.out,pP hod.out hq,hoz',hrow.out,hbl.trans hst.2⟩
     case measure=>simp[intOf];omega
  ·have hkn:Hid (val 4294967296 o=val 4294967296 l*val 4294967296 r):=by
    unfold Hid;rw[hval.out,eL _ _ _ (by have:=hlen.out;omega)]
   have hsi:de wr 273 .u32 ⟨some ⟨w.heap.size+1+1+1,0,none⟩,n+m,n+m⟩ o:=by
    obtain⟨s,hs,hi⟩:=hown.ints;obtain⟨a,b,c⟩:=s;simp only[kQ]at hs;obtain⟨rfl,rfl,rfl⟩:=hs;exact hi
   go_wp2_with (go_at_call 245;refine(ll hsi hod.out).mono ?_;rintro e w2 ⟨t,rfl,ht,htn,hb2⟩;have hE3':=bG hb2 (cQ hbl (by omega) hE3);have hR:=bR hE3' 0;have hRf:=dX hE3' 0)
   rw[hkn.out]at ht;refine eY (v:=.agg #[.slice t.ao t.n t.c]) (by simp[results,Tryz.results247,go_sem,hR]) rfl ⟨t,rfl,ht.kp ((Kp.refl _).setCell hE3' (by decide) _),htn,?_⟩;exact((hbw.trans (hbl.mono (by omega))).trans (hb2.mono (by have:=hbl.size;omega))).setCell (by simp;omega) _
theorem Gu{w:World}{s t:Sl}{x y:Nat}(h:dV w s x)(h':dV w t y)(hn:s.n≤1000000000000)(hm:t.n≤1000000000000):
  Calls Tryz.prog 247 #[.agg #[.slice s.ao s.n s.c],.agg #[.slice t.ao t.n t.c]] w fun e w'=>
   ∃u:Sl,e=.returned (.agg #[.slice u.ao u.n u.c])∧dV w' u (x*y)∧u.n≤s.n+t.n∧Below w.heap.size w w':=by
 obtain⟨l,h1,h2,h3,h4⟩:=h;obtain⟨r,g1,g2,g3,g4⟩:=h';subst h4;subst g4;exact OR s.ao t.ao s.n t.n s.c t.c l r w h1 g1 h2 g2 hn hm
theorem SU(ao:Option Addr)(n c:Nat)(l:List Nat)(w:World)(K sh:Nat)(h:de w 273 .u32 ⟨ao,n,c⟩ l)(hl:∀d∈l,d<4294967296)(hn:n≤1000000000000)(hsh:sh<32)(hk:32*K+sh≤65536):
  Calls Tryz.prog 246 #[.agg #[.slice ao n c],.int .i64 ((32*K+sh:Nat):Int)] w fun e w'=>
   ∃(s:Sl),e=.returned (.tuple #[.agg #[.slice s.ao s.n s.c],.int .i64 0])∧dV w' s (val 4294967296 l*2^(32*K+sh))∧s.n≤n+K+1∧Below w.heap.size w w':=by
 have hop:Hid (0<n→∃b off,ao=some ⟨b,off,none⟩∧b<w.heap.size∧∀i,i<n→w.cell? ⟨b,off+i,none⟩=some (.int .u32 ((dg l i:Nat):Int))):=h.open;have hlen:Hid (n=l.length):=h.1;clear h;have hll:Hid (∀d∈l,d<4294967296):=hl;clear hl;have hE:=As w (.cells #[.slice ao n c] 110) (.cells #[.slice none 0 0] 110);have hbx:Below w.heap.size w _:=((bD w.heap.size w).alloc (ak _) (.cells #[.slice ao n c] 110)).alloc (by simp) (.cells #[.slice none 0 0] 110);have HE:=bk hE;clear hE
 go_enter Tryz.func246,Tryz.ntmps246
 go_wp2_with (at_make;refine EO ib _ rfl _ _ rfl (w.heap.size+2) _ _ _ _ K (K+n+1) rfl rfl (by omega) (by omega) (by omega) (by omega) (by unfold maxLen;omega) (by simp) ?_;intro v1 w1 ho hb hsz;have hA1:=bR (cQ hb (by omega) HE.out.1) 0)
 have hbw:Below w.heap.size w w1:=hbx.trans (hb.mono (by omega));have hE2:=cQ hb (by omega) HE.out.2.1;have hw1:w.heap.size+2≤w1.heap.size:=by have:=hb.size;simp at this;omega
 clear hb hA1
 go_loopw [6,7,30] (fun v cy i wr=>∃(k:Nat) (o:List Nat) (q:Nat),k≤n∧i=.int .i64 k∧cy=.int .u64 q∧Hid (q<2^sh)∧iN wr (w.heap.size+2) 273 .u32 v o∧Hid (o.length=K+k)∧Hid (∀d∈o,d<4294967296)∧Hid (val 4294967296 o+4294967296^(K+k)*q=4294967296^K*(val 4294967296 (l.take k)*2^sh))∧Below (w.heap.size+2) w1 wr) (fun _ _ i _=>n-(intOf i).toNat)
 case atStart=>exact⟨0,_,0,aJ _,rfl,rfl,gN (by omega),ho,by unfold Hid;simp,by unfold Hid;simp,by unfold Hid;simp[val,vB],bD _ _⟩
 case round=>
  obtain⟨k,o,q,hk,rfl,rfl,hq,hown,hol,hod,hval,hbl⟩:=hrel;have hws:w.heap.size+2≤wr.heap.size:=by have:=hbl.size;omega
  have h32:(32*(K:Int)+sh) % 32=sh:=by omega
  by_cases hlt:k<n
  ·obtain⟨b,off,rfl,hbw0,hcell⟩:=hop.out (by omega);have hck:wr.cell? ⟨b,off+k,none⟩=some (.int .u32 ((dg l k:Nat):Int)):=((hbl.cell (p:=⟨b,off+k,none⟩) (by simp;omega)).trans (hbw.cell (p:=⟨b,off+k,none⟩) hbw0)).trans (hcell k hlt);clear hcell;have hx:dg l k<4294967296:=iX hll.out (by omega) k;have hxe:=rfl (a:=dg l k);generalize hxx:dg l k=x at hck hx hxe⊢;have HX:=bk hxx;clear hxx hxe;have hor:=O8 q x sh hq.out hx hsh;obtain⟨hN1,hN2,_⟩:=Qi hq.out hx hsh;generalize hNe:q+x*2^sh=N at*;have hstep:=bk (SS hol.out HX.out hNe hval.out);have HN2:=bk hN2;clear hN2 hNe
   go_wp2_with (at_builtin;refine fm ib _ rfl _ _ rfl (w.heap.size+2) u6 o _ (N % 4294967296) rfl rfl hown ?hz ?hl ?hm ?hb ?_)
   case hz=>rfl
   case hl=>have:=hol.out;omega
   case hm=>have:=hol.out;unfold maxLen;omega
   case hb=>exact hws
   intro v' w' hown' hb';clear hck
   go_wp2
   go_roundw
   case rel=>exact⟨k+1,_,N/4294967296,by omega,by go_num,rfl,HN2,hown',by unfold Hid;have:=hol.out;simp;omega,jT hod.out (fB _ (by omega)),hstep.out,hbl.trans hb'⟩
   case measure=>simp[intOf];omega
  ·have hkn:Hid (k=n):=by unfold Hid;omega
   have hq32:q<4294967296:=by
    have:2^sh≤2^31:=cY (by omega) (by omega);have:=hq.out;omega
   go_wp2_with (at_builtin;refine fm ib _ rfl _ _ rfl (w.heap.size+2) u6 o _ q rfl rfl hown ?hz2 ?hl2 ?hm2 ?hb2 ?_)
   case hz2=>rfl
   case hl2=>have:=hol.out;omega
   case hm2=>have:=hol.out;unfold maxLen;omega
   case hb2=>exact hws
   intro v' w' hown' hb';obtain⟨s,rfl,hs⟩:=hown'.ints;have hsd:=bk (jT hod.out hq32)
   go_wp2_with (go_at_call 245;refine(ll hs hsd.out).mono ?_;rintro e w2 ⟨t,rfl,ht,htn,hb2⟩;have hE2':=bG hb2 (cQ hb' (by omega) (cQ hbl (by omega) hE2));have hR:=bR hE2' 0;have hRf:=dX hE2' 0)
   refine eY (v:=.tuple #[.agg #[.slice t.ao t.n t.c],.int .i64 0]) (by simp[results,Tryz.results246,go_sem,hR]) rfl ⟨t,rfl,?_,?_,?_⟩
   ·have e:val 4294967296 (o++[q])=val 4294967296 l*2^(32*K+sh):=by
     have h1:=hval.out;rw[eL _ l _ (by have:=hlen.out;have:=hkn.out;omega)]at h1;rw[kP,hol.out,h1,cP,Nat.pow_mul,show(2:Nat)^32=4294967296 from rfl];grind
    rw[←e];exact ht.kp ((Kp.refl _).setCell hE2' (by decide) _)
   ·have:=hs.1;have:=hol.out;have:=hkn.out;simp at*;omega
   ·exact(((hbw.trans (hbl.mono (by omega))).trans (hb'.mono (by omega))).trans (hb2.mono (by have:=hb'.size;omega))).setCell (by simp) _
theorem zO{w:World}{s:Sl}{x:Nat}(k:Nat)(h:dV w s x)(hn:s.n≤1000000000000)(hk:k≤65536):
  Calls Tryz.prog 246 #[.agg #[.slice s.ao s.n s.c],.int .i64 (k:Int)] w fun e w'=>
   ∃u:Sl,e=.returned (.tuple #[.agg #[.slice u.ao u.n u.c],.int .i64 0])∧dV w' u (x*2^k)∧u.n≤s.n+k/32+1∧Below w.heap.size w w':=by
 obtain⟨K,sh,hsh,rfl⟩:∃K sh,sh<32∧k=32*K+sh:=⟨k/32,k % 32,fB _ (by omega),by omega⟩;obtain⟨l,h1,h2,h3,h4⟩:=h;subst h4;refine(SU s.ao s.n s.c l w K sh h1 h2 hn hsh hk).mono ?_;rintro e w' ⟨u,rfl,hu,hun,hb⟩;exact⟨u,rfl,hu,by omega,hb⟩
theorem Ld(ao:Option Addr)(n c:Nat)(l:List Nat)(w:World)(K sh:Nat)(h:de w 273 .u32 ⟨ao,n,c⟩ l)(hl:∀d∈l,d<4294967296)(hn:n≤1000000000000)(hsh:sh<32)(hk:32*K+sh≤65536)(hKn:K<n):
  Calls Tryz.prog 251 #[.agg #[.slice ao n c],.int .i64 ((32*K+sh:Nat):Int)] w fun e w'=>
   ∃(s:Sl),e=.returned (.tuple #[.agg #[.slice s.ao s.n s.c],.int .i64 0])∧dV w' s (val 4294967296 (l.drop K)/2^sh)∧s.n≤n∧Below w.heap.size w w':=by
 obtain⟨b,off,rfl,hbw0,hcell⟩:=h.open (by exact iz (aJ _) hKn);have hnc:n≤c:=h.2.1;have hcm:c≤9223372036854775807:=h.2.2.1;have hcell:=bk hcell;simp only at hcell;have hlen:Hid (n=l.length):=h.1;clear h;have hll:Hid (∀d∈l,d<4294967296):=hl;clear hl;have hE:=As w (.cells #[.slice (some ⟨b,off,none⟩) n c] 110) (.cells #[.slice none 0 0] 110);have hbx:Below w.heap.size w _:=((bD w.heap.size w).alloc (ak _) (.cells #[.slice (some ⟨b,off,none⟩) n c] 110)).alloc (by simp) (.cells #[.slice none 0 0] 110);have HE:=bk hE;clear hE;have h32:(32*(K:Int)+sh) % 32=sh:=by omega
 have h32':(32*(K:Int)+sh)/32=K:=by omega
 go_enter Tryz.func251,Tryz.ntmps251
 go_wp2_with (at_make;refine u_ ib _ rfl _ _ rfl (w.heap.size+2) _ _ _ (n-K) rfl rfl (by omega) (by omega) (by unfold maxLen;omega) (by simp) ?_;intro v1 w1 ho hb)
 have hbw:Below w.heap.size w w1:=hbx.trans (hb.mono (by omega));have hE2:=cQ hb (by omega) HE.out.2.1;have hw1:w.heap.size+2≤w1.heap.size:=by have:=hb.size;simp at this;omega
 have hNl:Hid (n-K=(l.drop K).length):=by unfold Hid;have:=hlen.out;simp;omega
 have hNn:n-K≤n:=by omega
 have hNp:Hid (∀i,i<n-K→w.cell? ⟨b,off+K+i,none⟩=some (.int .u32 ((dg (l.drop K) i:Nat):Int))):=fun i hi=>by
  rw[wJ,gU];exact hcell.out (K+i) (by omega)
 have hdl:Hid (∀d∈l.drop K,d<4294967296):=fun d hd=>hll.out d (sR hd);clear hb hcell hll hlen;generalize n-K=N at*;generalize hM:l.drop K=M at*;have HM:=bk hM;clear hM;have hP:Hid (0<2^sh):=gN (by omega);have hBB:=bk (LY (fW hsh))
 go_loopw [7,35] (fun v i wr=>∃(k:Nat) (o:List Nat),k≤N∧i=.int .i64 k∧iN wr (w.heap.size+2) 273 .u32 v o∧Hid (o.length=k)∧Hid (∀d∈o,d<4294967296)∧Hid (val 4294967296 o+4294967296^k*(val 4294967296 (M.drop k)/2^sh)=val 4294967296 M/2^sh)∧Below (w.heap.size+2) w1 wr) (fun _ i _=>N-(intOf i).toNat)
 case atStart=>exact⟨0,_,aJ _,rfl,ho,by unfold Hid;simp,by unfold Hid;simp,by unfold Hid;simp[val],bD _ _⟩
 case round=>
  obtain⟨k,o,hk,rfl,hown,hol,hod,hval,hbl⟩:=hrel;have hws:w.heap.size+2≤wr.heap.size:=by have:=hbl.size;omega
  by_cases hlt:k<N
  ·have hck:wr.cell? ⟨b,off+K+k,none⟩=some (.int .u32 ((dg M k:Nat):Int)):=((hbl.cell (p:=⟨b,off+K+k,none⟩) (by simp;omega)).trans (hbw.cell (p:=⟨b,off+K+k,none⟩) hbw0)).trans (hNp.out k hlt);have hx:dg M k<4294967296:=iX hdl.out (by omega) k;by_cases hlt2:k+1<N
   ·have hck2:wr.cell? ⟨b,off+K+(k+1),none⟩=some (.int .u32 ((dg M (k+1):Nat):Int)):=((hbl.cell (p:=⟨b,off+K+(k+1),none⟩) (by simp;omega)).trans (hbw.cell (p:=⟨b,off+K+(k+1),none⟩) hbw0)).trans (hNp.out (k+1) hlt2);have hy:dg M (k+1)<4294967296:=iX hdl.out (by omega) (k+1);have hstep:=bk (Cx hBB.out hP.out (by omega) hol.out (by have:=hNl.out;omega) rfl rfl hdl.out hval.out);generalize dg M k=x at*;generalize dg M (k+1)=y at*;have hor:=GJ x y hx hy;have hX:x+y*4294967296<18446744073709551616:=by omega
    generalize x+y*4294967296=X at*
    go_wp2_with (at_builtin;refine fm ib _ rfl _ _ rfl (w.heap.size+2) u7 o _ (X/2^sh % 4294967296) rfl rfl hown ?hz ?hl ?hm ?hb ?_)
    case hz=>simp
    case hl=>have:=hol.out;omega
    case hm=>have:=hol.out;unfold maxLen;omega
    case hb=>exact hws
    intro v' w' hown' hb';clear hck hck2
    go_wp2
    go_roundw
    case rel=>exact⟨k+1,_,by omega,by go_num,hown',by unfold Hid;have:=hol.out;simp;omega,jT hod.out (fB _ (by omega)),hstep.out,hbl.trans hb'⟩
    case measure=>simp[intOf];omega
   ·have hstep:=bk (Cx (y:=0) hBB.out hP.out (by omega) hol.out (by have:=hNl.out;omega) rfl (tB (by have:=hNl.out;omega)) hdl.out hval.out);rw[nC,ff]at hstep;generalize dg M k=x at*
    go_wp2_with (at_builtin;refine fm ib _ rfl _ _ rfl (w.heap.size+2) u7 o _ (x/2^sh % 4294967296) rfl rfl hown ?hz3 ?hl3 ?hm3 ?hb3 ?_)
    case hz3=>simp
    case hl3=>have:=hol.out;omega
    case hm3=>have:=hol.out;unfold maxLen;omega
    case hb3=>exact hws
    intro v' w' hown' hb';clear hck
    go_wp2
    go_roundw
    case rel=>exact⟨k+1,_,by omega,by go_num,hown',by unfold Hid;have:=hol.out;simp;omega,jT hod.out (fB _ (by omega)),hstep.out,hbl.trans hb'⟩
    case measure=>simp[intOf];omega
  ·have hkn:Hid (k=N):=by unfold Hid;omega
   obtain⟨s,rfl,hs⟩:=hown.ints
   go_wp2_with (go_at_call 245;refine(ll hs hod.out).mono ?_;rintro e w2 ⟨t,rfl,ht,htn,hb2⟩;have hE2':=bG hb2 (cQ hbl (by omega) hE2);have hR:=bR hE2' 0;have hRf:=dX hE2' 0)
   refine eY (v:=.tuple #[.agg #[.slice t.ao t.n t.c],.int .i64 0]) (by simp[results,Tryz.results251,go_sem,hR]) rfl ⟨t,rfl,?_,?_,?_⟩
   ·have e:val 4294967296 o=val 4294967296 M/2^sh:=by
     have h1:=hval.out;rw[bu (by have:=hNl.out;have:=hkn.out;omega)]at h1;simpa [val]using h1
    rw[HM.out,←e];exact ht.kp ((Kp.refl _).setCell hE2' (by decide) _)
   ·have:=hs.1;have:=hol.out;have:=hkn.out;simp at*;omega
   ·exact((hbw.trans (hbl.mono (by omega))).trans (hb2.mono (by omega))).setCell (by simp) _
theorem Le(ao:Option Addr)(n c:Nat)(w:World)(K sh:Nat)(_hn:n≤1000000000000)(hsh:sh<32)(hk:32*K+sh≤65536)(hKn:n≤K):
  Calls Tryz.prog 251 #[.agg #[.slice ao n c],.int .i64 ((32*K+sh:Nat):Int)] w fun e w'=>
   e=.returned (.tuple #[.agg #[.slice none 0 0],.int .i64 0])∧Below w.heap.size w w':=by
 have h32':(32*(K:Int)+sh)/32=K:=by omega
 go_enter Tryz.func251,Tryz.ntmps251
 go_wp2
 refine eY (v:=.tuple #[.agg #[.slice none 0 0],.int .i64 0]) (by simp[results,Tryz.results251,go_sem]) rfl ⟨rfl,?_⟩;exact((bD _ _).alloc (ak _) _).alloc (by simp) _
theorem Cw{w:World}{s:Sl}{x:Nat}(k:Nat)(h:dV w s x)(hn:s.n≤1000000000000)(hk:k≤65536):
  Calls Tryz.prog 251 #[.agg #[.slice s.ao s.n s.c],.int .i64 (k:Int)] w fun e w'=>
   ∃u:Sl,e=.returned (.tuple #[.agg #[.slice u.ao u.n u.c],.int .i64 0])∧dV w' u (x/2^k)∧u.n≤s.n∧Below w.heap.size w w':=by
 obtain⟨K,sh,hsh,rfl⟩:∃K sh,sh<32∧k=32*K+sh:=⟨k/32,k % 32,fB _ (by omega),by omega⟩;obtain⟨l,h1,h2,h3,h4⟩:=h;have e:x/2^(32*K+sh)=val 4294967296 (l.drop K)/2^sh:=by
  rw[Hg _ (by omega) l K h2,h4,cP,Nat.pow_mul,show(2:Nat)^32=4294967296 from rfl,Nat.div_div_eq_div_mul]
 rw[e];rcases iM K s.n with hc|hc
 ·exact Ld s.ao s.n s.c l w K sh h1 h2 hn hsh hk hc
 ·refine(Le s.ao s.n s.c w K sh hn hsh hk hc).mono ?_;rintro e w' ⟨rfl,hb⟩;refine⟨⟨none,0,0⟩,rfl,?_,aJ _,hb⟩;rw[bu (by rw[←h1.1];exact hc)];simp only[val,Nat.zero_div];exact dV.nil _ _ _ (by omega)
theorem H2{w:World}{s:Sl}{l:List Nat}(h:de w 273 .u32 s l)(hp:0<s.n)(hn:s.n≤1000000000000):
  Calls Tryz.prog 250 #[.slice s.ao s.n s.c] w fun e w'=>∃v,e=.returned v∧iN w' w.heap.size 273 .u32 v l∧Below w.heap.size w w':=by
 obtain⟨b,off,ha,hb,hc⟩:=h.open hp;obtain⟨ao,n,c⟩:=s;simp only at ha hp hn hc;subst ha;have hlen:=bk h.1;have hmade:iN (w.alloc (.cells #[] 273)) w.heap.size 273 .u32 (.slice (some ⟨w.heap.size,0,none⟩) 0 0) []:=World.ownsRow_made w #[] 0 (ak _) (by unfold maxLen;omega) (by simp);have hi:de (w.alloc (.cells #[] 273)) 273 .u32 ⟨some ⟨b,off,none⟩,n,c⟩ l:=h.up ((bD _ _).alloc (ak _) _);have hbx:Below w.heap.size w (w.alloc (.cells #[] 273)):=(bD _ _).alloc (ak _) _;clear hc;have hnil:=fun w=>Lib.run_eql_slice_nil (P:=Tryz.prog) w 108 273 (some ⟨b,off,none⟩) n c 0 0 Tryz.underlying108
 go_enter Tryz.func250,Tryz.ntmps250
 go_wp2_with (at_builtin;refine BN ib _ rfl _ _ rfl w.heap.size (.slice (some ⟨w.heap.size,0,none⟩) 0 0) [] l ⟨some ⟨b,off,none⟩,n,c⟩ rfl rfl hmade hi hp ?hl ?hm (by simp) ?_)
 case hl=>have:=hlen.out;simp at*;omega
 case hm=>have:=hlen.out;unfold maxLen;simp at*;omega
 intro v' w' hown hb'
 go_wp2
 go_ret
 exact⟨_,rfl,by simpa using hown,hbx.trans hb'⟩
set_option maxRecDepth 100000 in
theorem Nu{w:World}{s t:Sl}{x y:Nat}(h:dV w s x)(h':dV w t y)(hn:s.n≤1000000000000)(hm:t.n≤1000000000000)(hxy:x<y):
  Calls Tryz.prog 199 #[.agg #[.slice s.ao s.n s.c],.agg #[.slice t.ao t.n t.c]] w fun e w'=>
   e=.returned (.tuple #[.agg #[.slice none 0 0],.agg #[.slice s.ao s.n s.c],.int .i64 0])∧Below w.heap.size w w':=by
 have hE:=NG w (.cells #[.slice s.ao s.n s.c] 110) (.cells #[.slice t.ao t.n t.c] 110) (.cells #[.slice none 0 0] 110) (.cells #[.slice none 0 0] 110);have hbx:Below w.heap.size w _:=((((bD w.heap.size w).alloc (ak _) (.cells #[.slice s.ao s.n s.c] 110)).alloc (by simp) (.cells #[.slice t.ao t.n t.c] 110)).alloc (by simp;omega) (.cells #[.slice none 0 0] 110)).alloc (by simp;omega) (.cells #[.slice none 0 0] 110);have hlt:mV x y<0:=by rw[wH hxy];omega
 have ht0:((t.n:Int)==0)=false:=by
  have:=h'.zero_iff;simp;omega
 have HE:=bk hE;clear hE
 go_enter Tryz.func199,Tryz.ntmps199
 go_wp2_with (go_at_call 204;refine(nJ (h.up hbx) (h'.up hbx) hn hm).mono ?_;rintro e w1 ⟨rfl,hb1⟩;have hE1:=bG hb1 HE.out.1;have hA:=bR hE1 0;have hE3:=bG hb1 HE.out.2.2.1;have hR:=bR hE3 0;have hRf:=dX hE3 0;have hE4:=bG hb1 HE.out.2.2.2.1;have hR2:=bR hE4 0;have hRf2:=dX hE4 0)
 go_region
 go_wp2
 refine eY (v:=.tuple #[.agg #[.slice none 0 0],.agg #[.slice s.ao s.n s.c],.int .i64 0]) (by simp[results,Tryz.results199,go_sem,hR,hR2]) rfl ⟨rfl,?_⟩;have hbb:=hbx.trans (hb1.mono (by have:=hbx.size;exact this));exact(hbb.drew.setCell (by simp;omega) _).setCell (by simp;omega) _
set_option maxRecDepth 100000 in
theorem div_one{w:World}{s t:Sl}{x y:Nat}(h:dV w s x)(h':dV w t y)(hn:s.n≤1000000000000)(hm:t.n=1)(hxy:y≤x):
  Calls Tryz.prog 199 #[.agg #[.slice s.ao s.n s.c],.agg #[.slice t.ao t.n t.c]] w fun e w'=>
   ∃u v:Sl,e=.returned (.tuple #[.agg #[.slice u.ao u.n u.c],.agg #[.slice v.ao v.n v.c],.int .i64 0])∧dV w' u (x/y)∧dV w' v (x % y)∧u.n≤s.n∧v.n≤2∧Below w.heap.size w w':=by
 obtain⟨l,h1,h2,h3,h4⟩:=id h;obtain⟨r,g1,g2,g3,g4⟩:=id h';obtain⟨b,off,hao,hbw,hcell⟩:=g1.open (by omega);obtain⟨ta,tn,tc⟩:=t;simp only at hm hao;subst hm;subst hao;have hcd:=hcell 0 (by simp);have hrl:r.length=1:=g1.1.symm;have hy:y=dg r 0:=by
  rw[←g4,uZ (B:=4294967296) (j:=0) hrl];simp[val]
 have hd32:dg r 0<4294967296:=iX g2 (by omega) 0;have hd0:0<dg r 0:=by
  have:=h'.zero_iff;simp at this;omega
 have hsn:((s.n:Int)==0)=false:=by
  have:=h.zero_iff;simp;omega
 rw[←hy]at hcd hd32 hd0;have hE:=NG w (.cells #[.slice s.ao s.n s.c] 110) (.cells #[.slice (some ⟨b,off,none⟩) 1 tc] 110) (.cells #[.slice none 0 0] 110) (.cells #[.slice none 0 0] 110);have hbx:Below w.heap.size w _:=((((bD w.heap.size w).alloc (ak _) (.cells #[.slice s.ao s.n s.c] 110)).alloc (by simp) (.cells #[.slice (some ⟨b,off,none⟩) 1 tc] 110)).alloc (by simp;omega) (.cells #[.slice none 0 0] 110)).alloc (by simp;omega) (.cells #[.slice none 0 0] 110);have hlt:¬mV x y<0:=by
  rcases iM y x with hh|hh
  ·rw[uE hh];omega
  ·obtain rfl:x=y:=by omega
   rw[wG];omega
 have HE:=bk hE;have HX:=bk h4;have HY:=bk hy;simp only[ff]at hcd hcell;clear hE h4 hy hcell hrl g4 g3 h3;have hxy':=bk hxy;clear hxy
 go_enter Tryz.func199,Tryz.ntmps199
 go_wp2_with (go_at_call 204;refine(nJ (h.up hbx) (h'.up hbx) hn (by simp)).mono ?_;rintro e w1 ⟨rfl,hb1⟩;have hE1:=bG hb1 HE.out.1;have hA:=bR hE1 0;have hE2:=bG hb1 HE.out.2.1;have hB:=bR hE2 0;have hD:=((hb1.cell (p:=⟨b,off,none⟩) (by simp;omega)).trans (hbx.cell (p:=⟨b,off,none⟩) hbw)).trans hcd)
 have hbw1:b<w1.heap.size:=by have:=hb1.size;simp at this;omega
 have hl1:de w1 273 .u32 s l:=(h1.up hbx).up hb1;clear hcd
 go_region_held3 (fun w'=>w'.cell? ⟨w.heap.size,0,none⟩=some (.slice s.ao s.n s.c)∧w'.cell? ⟨w.heap.size+1,0,none⟩=some (.slice (some ⟨b,off,none⟩) 1 tc)∧w'.cell? ⟨b,off,none⟩=some (.int .u32 (y:Int)))
  (first|exact⟨hA,hB,hD⟩|exact⟨(hb2.cell (p:=⟨w.heap.size,0,none⟩) (rL hE1)).trans hA,(hb2.cell (p:=⟨w.heap.size+1,0,none⟩) (rL hE2)).trans hB,(hb2.cell (p:=⟨b,off,none⟩) hbw1).trans hD⟩)
  (first|(go_at_call 248;refine(Rx s.ao s.n s.c l w1.drew y hl1 h2 hd32 hd0 hn).mono ?_;rintro e w2 ⟨q,ql,rr,rfl,hq,hqd,hql,hqv,hrr,hb2⟩))
 replace hb2:Below w1.heap.size w1 w2:=mc hb2;have hE3:=bG hb2 (bG hb1 HE.out.2.2.1);have hE4:=bG hb2 (bG hb1 HE.out.2.2.2.1);have hbb:=(hbx.trans (hb1.mono (by have:=hbx.size;exact this))).trans (hb2.mono (by have:=hbx.size;have:=hb1.size;simp at*;omega));have hr64:rr<18446744073709551616:=by omega
 clear hA hB hD
 go_wp2_with (first|(go_at_call 245;refine(ll hq hqd).mono ?_;rintro e w3 ⟨u,rfl,hu,hun,hb3⟩)|(go_at_call 193;refine(Ef rr _ hr64).mono ?_;rintro e w4 ⟨v,rfl,hv,hvn,hb4⟩;have hF3:=bG hb4 (bG hb3 hE3);have hR:=bR hF3 0;have hRf:=dX hF3 0;have hF4:=bG hb4 (bG hb3 hE4);have hR2:=bR hF4 0;have hRf2:=dX hF4 0))
 have hqr:x=y*val 4294967296 ql+rr:=by rw[←HX.out];exact hqv
 have e1:val 4294967296 ql=x/y:=by
  rw[hqr,Nat.mul_add_div hd0,jC hrr,ff]
 have e2:rr=x % y:=by
  rw[hqr,Nat.mul_add_mod,Nat.mod_eq_of_lt hrr]
 rw[e1]at hu;rw[e2]at hv;refine eY (v:=.tuple #[.agg #[.slice u.ao u.n u.c],.agg #[.slice v.ao v.n v.c],.int .i64 0]) (by simp[results,Tryz.results199,go_sem,hR,hR2]) rfl ⟨u,v,rfl,?_,?_,?_,hvn,?_⟩
 ·exact((hu.up hb4).kp ((Kp.refl _).setCell hF3 (by decide) _)).kp ((Kp.refl _).setCell (cE hF4 (by simp) _) (by decide) _)
 ·exact(hv.kp ((Kp.refl _).setCell hF3 (by decide) _)).kp ((Kp.refl _).setCell (cE hF4 (by simp) _) (by decide) _)
 ·have:=hq.1;have:=h1.1;omega
 ·exact(((hbb.trans (hb3.mono hbb.size)).trans (hb4.mono (by have:=hbb.size;have:=hb3.size;omega))).setCell (by simp;omega) _).setCell (by simp;omega) _
theorem Kl(n:Nat):4294967296^n=2^(32*n):=by rw[Nat.pow_mul]
theorem Yk{x:Nat}(h:x≠0):2^(bl x-1)≤x:=by
 apply gL;intro hh;have:=(qV x (bl x-1)).2 hh;have:bl x≠0:=by unfold bl;rw[if_neg h];omega
 omega
theorem SR{w:World}{t:Sl}{m sh:Nat}{r:List Nat}(h:de w 273 .u32 t r)(hd:∀d∈r,d<4294967296)(hr:r.length=m+2)(ht:dg r (m+1)≠0)(hsh:sh=32-bl (dg r (m+1)))(hm:m≤100000000000):
  Calls Tryz.prog 246 #[.agg #[.slice t.ao t.n t.c],.int .i64 (sh:Int)] w fun e w'=>
   ∃(b off c:Nat) (ld:List Nat),e=.returned (.tuple #[.agg #[.slice (some ⟨b,off,none⟩) (m+2) c],.int .i64 0])∧de w' 273 .u32 ⟨some ⟨b,off,none⟩,m+2,c⟩ ld∧(∀d∈ld,d<4294967296)∧val 4294967296 ld=val 4294967296 r*2^sh∧2147483648≤dg ld (m+1)∧Below w.heap.size w w':=by
 have hbl:=Nc (j:=m+1) hd hr ht;have hb0:bl (dg r (m+1))≠0:=by unfold bl;rw[if_neg ht];omega
 have hb1:bl (dg r (m+1))≤32:=(qV _ 32).2 (iX hd (by omega) (m+1));have hx0:val 4294967296 r≠0:=by
  intro h0;have:=uZ (B:=4294967296) (j:=m+1) hr;have h2:0<4294967296^(m+1)*dg r (m+1):=hY (gN (by omega)) (by omega);omega
 have hlo:=Yk hx0;have hhi:=(qV (val 4294967296 r) (bl (val 4294967296 r))).1 (ak _);have hNorm:qR r:=by
  intro hh;rw[fZ,hr]at hh;simp only[show m+2-1=m+1 from rfl]at hh;rw[tC (by omega)]at ht;simp[hr]at hh;exact ht hh
 refine(zO sh ⟨r,h,hd,hNorm,rfl⟩ (by rw[h.1];omega) (by omega)).mono ?_;rintro e w' ⟨u,rfl,⟨ld,hu1,hu2,hu3,hu4⟩,hun,hb⟩;have e1:32*(m+2)-1=(bl (val 4294967296 r)-1)+sh:=by omega
 have e2:32*(m+2)=bl (val 4294967296 r)+sh:=by omega
 have hP:0<2^sh:=gN (by omega);have h1:2^(32*(m+2)-1)≤val 4294967296 ld:=by
  rw[hu4,e1,cP];exact cf _ hlo
 have h2:val 4294967296 ld<2^(32*(m+2)):=by
  rw[hu4,e2,cP];exact(Nat.mul_lt_mul_right hP).2 hhi
 have hlen:ld.length=m+2:=by
  apply Nat.le_antisymm
  ·exact hu3.len_of_lt (B:=4294967296) (by omega) (by rw[Kl];exact h2)
  ·apply gL;intro hh;have h3:=mE 4294967296 ld hu2;have h4:4294967296^ld.length≤4294967296^(m+1):=cY (by omega) (by omega);rw[Kl (m+1)]at h4;have h5:2^(32*(m+1))≤2^(32*(m+2)-1):=cY (by omega) (by omega);omega
 have htop:2147483648≤dg ld (m+1):=by
  apply gL;intro hh;have h3:=uZ (B:=4294967296) (j:=m+1) hlen;have h4:=xy (B:=4294967296) (by omega) hu2 (m+1);have h5:4294967296^(m+1)*(dg ld (m+1)+1)≤4294967296^(m+1)*2147483648:=cG _ hh;rw[fA]at h5;have h6:2^(32*(m+2)-1)=4294967296^(m+1)*2147483648:=by
   rw[Kl,show 32*(m+2)-1=32*(m+1)+31 from by omega,cP]
  omega
 have hun':u.n=m+2:=by rw[hu1.1,hlen]
 obtain⟨b,off,hao,_,_⟩:=hu1.open (by omega);obtain⟨uao,un,uc⟩:=u;simp only at hao hun';subst hao;subst hun';exact⟨b,off,uc,ld,rfl,hu1,hu2,hu4,htop,hb⟩
def vF(wA:World)(g cap L gq N D U:Nat)(k:Nat)(wr:World):Prop:=∃p qs:List Nat,
 iN wr wA.heap.size 273 .u32 (.slice (some ⟨g,0,none⟩) (L+1) cap) p∧iN wr wA.heap.size 273 .u32 (.slice (some ⟨gq,0,none⟩) (N+1) (N+1)) qs∧
 p.length=L+1∧qs.length=N+1∧(∀d∈p,d<4294967296)∧(∀d∈qs,d<4294967296)∧
 val 4294967296 p+D*(4294967296^k*val 4294967296 (qs.drop k))=U∧val 4294967296 p<D*4294967296^k∧Below wA.heap.size wA wr
def My(D W T two:Nat)(gv lv:Value):Prop:=∃gu lf:Nat,gv=.int .u64 gu∧lv=.int .u64 lf∧Hid (W/D≤gu)∧gu≤4294967297∧Hid (gu*T+lf=two)∧lf<4294967296
def Rh(wA:World)(g cap L gq N:Nat)(qs d p0:List Nat)(i gu R nn:Nat)(bv cv kv:Value)(wr:World):Prop:=∃(k:Nat) (p:List Nat) (bo c:Nat),
 bv=.int .i64 bo∧cv=.int .u64 c∧kv=.int .i64 k∧k≤nn∧bo≤1∧c<4294967296∧
 iN wr wA.heap.size 273 .u32 (.slice (some ⟨g,0,none⟩) (L+1) cap) p∧iN wr wA.heap.size 273 .u32 (.slice (some ⟨gq,0,none⟩) (N+1) (N+1)) qs∧
 Hid (p.length=L+1)∧Hid (∀d∈p,d<4294967296)∧Hid (∀j',i+k≤j'→dg p j'=dg p0 j')∧
 Hid (val 4294967296 p+4294967296^i*(gu*val 4294967296 (d.take k))=R+4294967296^(i+k)*(c+bo))∧Below wA.heap.size wA wr
def Rd(wA:World)(g cap L gq N:Nat)(qs d p0:List Nat)(i R nn:Nat)(sv kv:Value)(wr:World):Prop:=∃(k:Nat) (p:List Nat) (c:Nat),
 sv=.int .u64 c∧kv=.int .i64 k∧k≤nn∧c≤1∧
 iN wr wA.heap.size 273 .u32 (.slice (some ⟨g,0,none⟩) (L+1) cap) p∧iN wr wA.heap.size 273 .u32 (.slice (some ⟨gq,0,none⟩) (N+1) (N+1)) qs∧
 Hid (p.length=L+1)∧Hid (∀d∈p,d<4294967296)∧Hid (∀j',i+k≤j'→dg p j'=dg p0 j')∧
 Hid (val 4294967296 p+4294967296^(i+k)*c=R+4294967296^i*val 4294967296 (d.take k))∧Below wA.heap.size wA wr
theorem vF.drewN{wA:World}{g cap L gq N D U k:Nat}{wr:World}(h:vF wA g cap L gq N D U k wr)(n:Nat):vF wA g cap L gq N D U k (wr.drewN n):=by
 obtain⟨p,qs,h1,h2,h3,h4,h5,h6,h7,h8,h9⟩:=h;exact⟨p,qs,h1,h2,h3,h4,h5,h6,h7,h8,jL h9 n⟩
theorem Nt{wA w6:World}{g cap gq N m:Nat}{lu ld:List Nat}(hr6:iN w6 wA.heap.size 273 .u32 (.slice (some ⟨g,0,none⟩) (lu.length+1) cap) (lu++[0]))
  (hq6:iN w6 wA.heap.size 273 .u32 (.slice (some ⟨gq,0,none⟩) (N+1) (N+1)) (List.replicate (N+1) 0))(hu2:∀d∈lu,d<4294967296)(hN:lu.length+1=m+2+(N+1))(hld:ld.length=m+2)(ht:2147483648≤dg ld (m+1))(hb:Below wA.heap.size wA w6):
  vF wA g cap lu.length gq N (val 4294967296 ld) (val 4294967296 lu) (N+1) w6:=by
 have e:val 4294967296 (lu++[0])=val 4294967296 lu:=by rw[kP,Nat.mul_zero,ff]
 have e2:val 4294967296 (lu++[0])+val 4294967296 ld*(4294967296^(N+1)*val 4294967296 ((List.replicate (N+1) 0).drop (N+1)))=val 4294967296 lu:=by
  rw[e,bu (by rw[List.length_replicate];exact ak _),KK,Nat.mul_zero,Nat.mul_zero,ff]
 have e3:val 4294967296 (lu++[0])<val 4294967296 ld*4294967296^(N+1):=by
  rw[e];have k1:=mE 4294967296 lu hu2;have k2:lu.length=(m+1)+(N+1):=by omega
  rw[k2,cP]at k1;have k3:4294967296^(m+1)≤val 4294967296 ld:=by
   have k3:=uZ (B:=4294967296) (j:=m+1) hld;have k4:4294967296^(m+1)*1≤4294967296^(m+1)*dg ld (m+1):=cG _ (by omega);omega
  have k5:4294967296^(m+1)*4294967296^(N+1)≤val 4294967296 ld*4294967296^(N+1):=cf _ k3;omega
 have e4:∀d∈List.replicate (N+1) 0,d<4294967296:=fun d hd=>by
  have:=(List.mem_replicate.1 hd).2;omega
 exact⟨lu++[0],List.replicate (N+1) 0,hr6,hq6,by rw[aA];rfl,List.length_replicate,jT hu2 (by omega),e4,e2,e3,hb⟩
set_option maxRecDepth 100000 in
theorem Nw{w:World}{s:Sl}{x:Nat}(h:dV w s x)(b off m tc:Nat)(r:List Nat)(g1:de w 273 .u32 ⟨some ⟨b,off,none⟩,m+2,tc⟩ r)(g2:∀d∈r,d<4294967296)(g3:qR r)(hn:s.n≤100000000000)(hm:m≤100000000000)(hxy:val 4294967296 r≤x):
  Calls Tryz.prog 199 #[.agg #[.slice s.ao s.n s.c],.agg #[.slice (some ⟨b,off,none⟩) (m+2) tc]] w fun e w'=>
   ∃u v:Sl,e=.returned (.tuple #[.agg #[.slice u.ao u.n u.c],.agg #[.slice v.ao v.n v.c],.int .i64 0])∧dV w' u (x/val 4294967296 r)∧dV w' v (x % val 4294967296 r)∧Below w.heap.size w w':=by
 have h':dV w ⟨some ⟨b,off,none⟩,m+2,tc⟩ (val 4294967296 r):=⟨r,g1,g2,g3,rfl⟩;have hrl:r.length=m+2:=g1.1.symm;obtain⟨b',off',hao,hbw,hcell⟩:=g1.open (by simp);simp only[ar,pR]at hao;obtain⟨rfl,rfl,_⟩:=hao;have hcd:=hcell (m+1) (by simp);have htop0:dg r (m+1)≠0:=by
  intro hh;apply g3;rw[fZ,hrl];simp only[show m+2-1=m+1 from rfl];rw[tC (by omega)]at hh;simp[hrl,hh]
 have hd32:dg r (m+1)<4294967296:=iX g2 (by omega) (m+1);have hb0:bl (dg r (m+1))≠0:=by unfold bl;rw[if_neg htop0];omega
 have hb1:bl (dg r (m+1))≤32:=(qV _ 32).2 (by omega);obtain⟨sh,hsh⟩:∃sh,sh=32-bl (dg r (m+1)):=⟨_,rfl⟩;have hsh1:sh≤31:=by omega
 generalize hy:val 4294967296 r=y at*;have hlt:¬mV x y<0:=by
  rcases iM y x with hh|hh
  ·rw[uE hh];omega
  ·obtain rfl:x=y:=by omega
   rw[wG];omega
 have hE:=NG w (.cells #[.slice s.ao s.n s.c] 110) (.cells #[.slice (some ⟨b,off,none⟩) (m+2) tc] 110) (.cells #[.slice none 0 0] 110) (.cells #[.slice none 0 0] 110);have hbx:Below w.heap.size w _:=((((bD w.heap.size w).alloc (ak _) (.cells #[.slice s.ao s.n s.c] 110)).alloc (by simp) (.cells #[.slice (some ⟨b,off,none⟩) (m+2) tc] 110)).alloc (by simp;omega) (.cells #[.slice none 0 0] 110)).alloc (by simp;omega) (.cells #[.slice none 0 0] 110);have HE:=bk hE;have HY:=bk hy;have HS:=bk hsh;have HT:=bk htop0;have HRL:=bk hrl;have hxy':=bk hxy;clear hE hy hsh htop0 hcell hrl hxy hb0 hb1
 go_enter Tryz.func199,Tryz.ntmps199
 go_wp2_with (first
  |(go_at_call 204;refine(nJ (h.up hbx) (h'.up hbx) (by omega) (by simp;omega)).mono ?_;rintro e w1 ⟨rfl,hb1⟩;have hE1:=bG hb1 HE.out.1;have hA:=bR hE1 0;have hE2:=bG hb1 HE.out.2.1;have hB:=bR hE2 0;have hE3:=bG hb1 HE.out.2.2.1;have hE4:=bG hb1 HE.out.2.2.2.1;have hD:=((hb1.cell (p:=⟨b,off+(m+1),none⟩) (by simp;omega)).trans (hbx.cell (p:=⟨b,off+(m+1),none⟩) hbw)).trans hcd;have hs1:=(h.up hbx).up hb1;have hg1:=(g1.up hbx).up hb1)
  |(go_at_call 249;refine(Gc _ _ hd32).mono ?_;rintro e w' ⟨rfl,rfl⟩;rw[←HS.out])
  |(go_at_call 246;(with_reducible refine(zO sh hs1 (by omega) (by omega)).mono ?_);rintro e w2 ⟨u,rfl,hu,hun,hb2⟩;have hB2:=bR (kR (bG hb2 hE2) (.cells #[.slice u.ao u.n u.c] 110)) 0;have hbu:Below w2.heap.size w2 (w2.alloc (.cells #[.slice u.ao u.n u.c] 110)):=(bD _ _).alloc (ak _) _;clear hA hB hD)
  |(go_at_call 246;(with_reducible refine(SR ((hg1.up hb2).up hbu) g2 HRL.out HT.out HS.out hm).mono ?_);rintro e w3 ⟨bd,offd,dc,ld,rfl,hv1,hv2,hv3,hv4,hb3⟩;have hU:=bR (kR (bG hb3 (lF w2 (.cells #[.slice u.ao u.n u.c] 110))) (.cells #[.slice (some ⟨bd,offd,none⟩) (m+2) dc] 110)) 0))
 obtain⟨lu,hu1,hu2,hu3,hu4⟩:=hu;have F3:=kR (bG hb3 (kR (bG hb2 hE3) (.cells #[.slice u.ao u.n u.c] 110))) (.cells #[.slice (some ⟨bd,offd,none⟩) (m+2) dc] 110);have F4:=kR (bG hb3 (kR (bG hb2 hE4) (.cells #[.slice u.ao u.n u.c] 110))) (.cells #[.slice (some ⟨bd,offd,none⟩) (m+2) dc] 110);have hbv:Below w3.heap.size w3 (w3.alloc (.cells #[.slice (some ⟨bd,offd,none⟩) (m+2) dc] 110)):=(bD _ _).alloc (ak _) _;have hdA:=hv1.up hbv;have huA:=((hu1.up hbu).up hb3).up hbv;have hwA:Below w.heap.size w (w3.alloc (.cells #[.slice (some ⟨bd,offd,none⟩) (m+2) dc] 110)):=by
  have k1:=hbx.size;have k2:=hb1.size;have k3:=hb2.size;have k4:=hbu.size;have k5:=hb3.size;exact((((hbx.trans (hb1.mono k1)).trans (hb2.mono (by omega))).trans (hbu.mono (by omega))).trans (hb3.mono (by omega))).trans (hbv.mono (by omega))
 have hLm:m+2≤lu.length:=by
  apply gL;intro hh;have k1:=mE 4294967296 lu hu2;have k2:4294967296^lu.length≤4294967296^(m+1):=cY (by omega) (by omega);have k3:=uZ (B:=4294967296) (j:=m+1) hdA.1.symm;have k4:4294967296^(m+1)*1≤4294967296^(m+1)*dg ld (m+1):=cG _ (by omega);have k5:y*2^sh≤x*2^sh:=cf _ hxy'.out;rw[HY.out]at hv3;omega
 have hLu:lu.length=u.n:=hu1.1.symm;obtain⟨N,hN⟩:∃N,lu.length+1=(m+2)+(N+1):=⟨lu.length-(m+2),by omega⟩;clear hb1 hs1 hg1 hE1 hE2 hE3 hE4 hb2 hu1 hb3 hv1 hU hbu hbv hB2 g1 h' hcd hbx HE;generalize(w3.alloc (.cells #[.slice (some ⟨bd,offd,none⟩) (m+2) dc] 110))=wA at*;refine(H2 huA (by omega) (by omega)).mono ?_;rintro e w4 ⟨rv,rfl,hrown,hb4⟩;have HN:=bk hN;have HLu:=bk hLu;have hLs:lu.length≤300000000000:=by omega
 clear hLm hN hLu
 go_wp2_with (at_builtin;refine fm ib _ rfl _ _ rfl wA.heap.size rv lu _ 0 rfl rfl hrown ?hz ?hl ?hm hb4.size ?_)
 case hz=>rfl
 case hl=>omega
 case hm=>unfold maxLen;omega
 intro v5 w5 hr5 hb5;obtain⟨g,cap,rfl⟩:∃g cap,v5=.slice (some ⟨g,0,none⟩) (lu.length+1) cap:=by
  rcases hr5.2 with⟨_,hh⟩|⟨g,cap,cur,hv,_⟩
  ·simp at hh
  ·exact⟨g,cap,by rw[hv];simp⟩
 have hg1:=(hr5.slot 0 (by simp)).2.2.2;have hb45:=hb4.trans hb5;clear hrown hb4 hb5
 go_wp2_with (at_make;refine BM ib _ rfl _ _ rfl wA.heap.size _ _ _ _ (N+1) rfl rfl (by have:=HN.out;omega) (by have:=HN.out;omega) (by have:=HN.out;omega) (by unfold maxLen;have:=HN.out;omega) hb45.size ?_;intro w6 hq6 hb6 hsz6)
 obtain⟨bd',offd',hao,hbd,hcell⟩:=hdA.open (by simp);simp only[ar,pR]at hao;obtain⟨rfl,rfl,_⟩:=hao;have hr6:=hr5.below hb6 (ak _);have hb46:=hb45.trans (hb6.mono hb45.size);have hcell:=bk hcell;have hd1:w6.cell? ⟨bd,offd+(m+1),none⟩=some (.int .u32 ((dg ld (m+1):Nat):Int)):=(hb46.cell (p:=⟨bd,offd+(m+1),none⟩) hbd).trans (hcell.out (m+1) (by simp));have hd2:w6.cell? ⟨bd,offd+m,none⟩=some (.int .u32 ((dg ld m:Nat):Int)):=(hb46.cell (p:=⟨bd,offd+m,none⟩) hbd).trans (hcell.out m (by simp));have hT2:dg ld (m+1)<4294967296:=iX hv2 (by omega) (m+1);have hS2:dg ld m<4294967296:=iX hv2 (by omega) m;obtain⟨T,hTe⟩:∃T,T=dg ld (m+1):=⟨_,rfl⟩;obtain⟨S,hSe⟩:∃S,S=dg ld m:=⟨_,rfl⟩;rw[←hTe]at hd1 hT2 hv4;rw[←hSe]at hd2 hS2;have HTe:=bk hTe;have HSe:=bk hSe;have hNb:N≤300000000000:=by have:=HN.out;omega
 have hgq:g<w5.heap.size:=hg1;have hws6:w5.heap.size+1≤w6.heap.size:=hsz6;clear hTe hSe hr5 hb45 hb6;have hD0:val 4294967296 ld=(T*4294967296+S)*4294967296^m+val 4294967296 (ld.take m):=by
  have:=SM (B:=4294967296) (n:=m) hdA.1.symm;rw[←HTe.out,←HSe.out]at this;exact this
 have hD2:val 4294967296 (ld.take m)<4294967296^m:=xy (by omega) hv2 m;have hDlt:val 4294967296 ld<4294967296^(m+2):=by
  have:=mE 4294967296 ld hv2;rw[←hdA.1]at this;exact this
 have hinit:vF wA g cap lu.length w5.heap.size N (val 4294967296 ld) (val 4294967296 lu) (N+1) w6:=Nt (m:=m) hr6 hq6 hu2 HN.out hdA.1.symm (by rw[←HTe.out];exact hv4) hb46;have hcellA:=bk (show ∀i,i<m+2→wA.cell? ⟨bd,offd+i,none⟩=some (.int .u32 ((dg ld i:Nat):Int))from hcell.out);have hdl:Hid (ld.length=m+2):=hdA.1.symm;have hv2':=bk hv2;have hv3':=bk hv3;have hu2':=bk hu2;have hDl:=bk hDlt;have hDe:=bk hD0;have hD2':=bk hD2;clear hr6 hq6 hcell hv2 hu2 hv3 hDlt hD0 hD2 huA
 go_quiet (fail)
 go_wp2
 clear hd1 hd2;generalize hgqe:w5.heap.size=gq at*;have hi7:vF wA g cap lu.length gq N (val 4294967296 ld) (val 4294967296 lu) (N+1) (w6.drewN nq):=hinit.drewN nq;clear hinit;generalize w6.drewN nq=w7 at*
 go_loopw [20] (fun i wr=>∃k:Nat,k≤N+1∧i=.int .i64 ((k:Int)-1)∧vF wA g cap lu.length gq N (val 4294967296 ld) (val 4294967296 lu) k wr) (fun i _=>(intOf i+1).toNat)
 case atStart=>exact⟨N+1,ak _,by simp,hi7⟩
 case round=>
  obtain⟨k,hk,rfl,hinv⟩:=hrel;by_cases hlt:0<k
  ·obtain⟨j,rfl⟩:∃j,k=j+1:=⟨k-1,by omega⟩;obtain⟨p,qs,hpo,hqo,hpl,hql,hpd,hqd,hpv,hplt,hbl⟩:=hinv;have hidx:j+(m+2)<p.length:=by rw[hpl];have:=HN.out;omega
   have hc2:=(hpo.slot (j+(m+2)) hidx).1;have hc1:=(hpo.slot (j+(m+1)) (by omega)).1;have hc0:wr.cell? ⟨g,j+(m+2)-2,none⟩=some (.int .u32 ((dg p (j+m):Nat):Int)):=by
    rw[show j+(m+2)-2=j+m from by omega];exact(hpo.slot (j+m) (by omega)).1
   have ha2:dg p (j+(m+2))<4294967296:=iX hpd (by omega) _;have ha1:dg p (j+(m+1))<4294967296:=iX hpd (by omega) _;have ha0:dg p (j+m)<4294967296:=iX hpd (by omega) _;have hDpos:0<val 4294967296 ld:=by
    rw[hDe.out];have:0<4294967296^m:=gN (by omega);have:0<(T*4294967296+S)*4294967296^m:=hY (by omega) this;omega
   have hab:∀j',j+(m+2)<j'→dg p j'=0:=by
    have k1:val 4294967296 ld*4294967296^(j+1)<4294967296^(m+2)*4294967296^(j+1):=(Nat.mul_lt_mul_right (gN (by omega))).2 hDl.out;rw[←cP]at k1;intro j' hj';exact Nr (B:=4294967296) (m:=m+2+(j+1)) (by omega) (by omega) j' (by omega)
   have hwin:=Xr (B:=4294967296) (i:=j) (n:=m) (by omega) hpd hab (by omega);have hWB:val 4294967296 p/4294967296^j<4294967296*val 4294967296 ld:=by
    rw[eP (gN (by omega))];rw[eA]at hplt;have e:val 4294967296 ld*(4294967296^j*4294967296)=4294967296*val 4294967296 ld*4294967296^j:=by grind
    omega
   have hW2:val 4294967296 ((p.drop j).take m)<4294967296^m:=xy (by omega) (fun d hd=>hpd d (sR hd)) m;have ej:((j+1:Nat):Int)-1=(j:Int):=by omega
   rw[ej];have hor:=zB (dg p (j+(m+2))) (dg p (j+(m+1))) ha2 ha1;generalize dg p (j+(m+2))=a2 at*;generalize dg p (j+(m+1))=a1 at*;generalize dg p (j+m)=a0 at*;have htwo:a2*4294967296+a1<18446744073709551616:=by omega
   obtain⟨two,htwoe⟩:∃two,two=a2*4294967296+a1:=⟨_,rfl⟩;rw[←htwoe]at hor htwo hwin;clear htwoe;obtain⟨W,hWe⟩:∃W,W=val 4294967296 p/4294967296^j:=⟨_,rfl⟩;rw[←hWe]at hwin hWB;have HWe:=bk hWe;clear hWe;have HP:=bk (And.intro hpl (And.intro hql (And.intro hpd (And.intro hqd (And.intro hpv hplt)))));have hwin':=bk hwin;have hW2':=bk hW2;have hWB':=bk hWB;have hab':=bk hab;have hidx2:j+(m+2)<lu.length+1:=by have:=HN.out;omega
   clear hpl hql hpd hqd hpv hplt hidx hab hwin hWB hW2 ej;have hTpos:(0:Int)<(T:Int):=by omega
   obtain⟨g0,hg0e⟩:∃g0,g0=two/T:=⟨_,rfl⟩;obtain⟨l0,hl0e⟩:∃l0,l0=two % T:=⟨_,rfl⟩;have hq1:IntKind.u64.wrap ((two:Int)/(T:Int))=(g0:Int):=by
    rw[hg0e,←kZ];exact IntWalk.u64_in _ ⟨Int.natCast_nonneg _,by have:=Nat.div_le_self two T;omega⟩
   have hq2:(two:Int) % (T:Int)=(l0:Int):=by rw[hl0e,ru]
   have hG0:Hid (W/val 4294967296 ld≤g0):=by
    rw[hg0e];exact NT hDe.out hwin'.out (by omega) ha0 hW2'.out
   have hG1:g0≤4294967297:=by
    rw[hg0e];exact FK hDe.out hwin'.out hS2 hD2'.out (by omega) (by omega) hWB'.out
   have hGl:Hid (g0*T+l0=two):=by
    unfold Hid;rw[hg0e,hl0e,fg];exact fP two T
   have hl0:l0<4294967296:=by
    have:l0<T:=by rw[hl0e];exact fB _ (by omega)
    omega
   clear hg0e hl0e
   go_wp2
   go_quiet (fail)
   go_wp2
   go_quiet (fail)
   have hpo8:=hpo;have hqo8:=hqo;have hbl8:=jL (jL hbl 0) 0;clear hc2 hc1
   go_upto_block 3 with fail
   go_cut [22] (fun s22 wx=>∃gu:Nat,s22=.int .u64 gu∧Hid (W/val 4294967296 ld≤gu)∧Hid (gu≤W/val 4294967296 ld+1)∧gu≤4294967296∧iN wx wA.heap.size 273 .u32 (.slice (some ⟨g,0,none⟩) (lu.length+1) cap) p∧iN wx wA.heap.size 273 .u32 (.slice (some ⟨gq,0,none⟩) (N+1) (N+1)) qs∧Below wA.heap.size wA wx)
   case first=>
    go_wp2_with fail
    go_loop [22,23] (fun gv lv=>My (val 4294967296 ld) W T two gv lv) (fun gv _=>(intOf gv).toNat)
    case atStart=>exact⟨g0,l0,rfl,by rw[hq2],hG0,hG1,hGl,hl0⟩
    case round=>
     clear hG0 hG1 hGl hl0 hq1 hq2;obtain⟨gu,lf,rfl,rfl,hG0,hG1,hGl,hl0⟩:=hrel;by_cases hge:4294967296≤gu
     ·obtain⟨hG0',hgp⟩:=CC hDe.out hwin'.out hW2'.out hDpos hWB'.out hG0.out hGl.out (.inl hge);have HG0':=bk hG0';clear hG0';have hGl':Hid ((gu-1)*T+(lf+T)=two):=by
       unfold Hid;obtain⟨z,rfl⟩:∃z,gu=z+1:=⟨gu-1,by omega⟩;have:=hGl.out;rw[dM]at this;rw[eF];omega
      have eG:(gu:Int)-1=((gu-1:Nat):Int):=by omega
      have hG1':gu-1≤4294967296:=by omega
      have hgI:decide ((4294967296:Int)≤(gu:Int))=true:=by simp;omega
      by_cases hbr:4294967296≤lf+T
      ·have hhi:Hid (gu-1≤W/val 4294967296 ld+1):=Aw hDe.out hwin'.out hD2'.out (by omega) hDpos hGl'.out hG1' (yJ hG1' hS2 hbr);have hbI:decide ((4294967296:Int)≤(lf:Int)+(T:Int))=true:=by simp;omega
       have HB1:=bk (And.intro eG hG1');clear hge hbr eG hG1'
       go_wp2
       go_meet
       exact⟨gu-1,dH (Value.int IntKind.u64) HB1.out.1,HG0',hhi,HB1.out.2,hpo8,hqo8,jL hbl _⟩
      ·have hbI:decide ((4294967296:Int)≤(lf:Int)+(T:Int))=false:=by simp;omega
       have HB1:=bk (And.intro eG (And.intro hG1' hbr));clear hge hbr eG hG1'
       go_wp2
       go_round
       case rel=>exact⟨gu-1,lf+T,dH (Value.int IntKind.u64) HB1.out.1,by go_num,HG0',by have:=HB1.out.2.1;omega,hGl',by have:=HB1.out.2.2;omega⟩
       case measure=>simp[intOf];omega
     ·by_cases hcc:lf*4294967296+a0<gu*S
      ·obtain⟨hG0',hgp⟩:=CC hDe.out hwin'.out hW2'.out hDpos hWB'.out hG0.out hGl.out (.inr hcc);have HG0':=bk hG0';clear hG0';have hGl':Hid ((gu-1)*T+(lf+T)=two):=by
        unfold Hid;obtain⟨z,rfl⟩:∃z,gu=z+1:=⟨gu-1,by omega⟩;have:=hGl.out;rw[dM]at this;rw[eF];omega
       have eG:(gu:Int)-1=((gu-1:Nat):Int):=by omega
       have hG1':gu-1≤4294967296:=by omega
       have hgI:decide ((4294967296:Int)≤(gu:Int))=false:=by simp;omega
       have hor2:=zB lf a0 hl0 ha0;obtain⟨hmx0,hmx1⟩:=zA gu S (by omega) hS2;have hccI:(((lf*4294967296+a0:Nat):Nat):Int)<(gu:Int)*(S:Int):=by rw[←dP];omega
       have hXb:lf*4294967296+a0<18446744073709551616:=by omega
       obtain⟨X,hXe⟩:∃X,X=lf*4294967296+a0:=⟨_,rfl⟩;rw[←hXe]at hor2 hccI hXb;clear hXe;by_cases hbr:4294967296≤lf+T
       ·have hhi:Hid (gu-1≤W/val 4294967296 ld+1):=Aw hDe.out hwin'.out hD2'.out (by omega) hDpos hGl'.out hG1' (yJ hG1' hS2 hbr);have hbI:decide ((4294967296:Int)≤(lf:Int)+(T:Int))=true:=by simp;omega
        have HB1:=bk (And.intro eG hG1');clear hge hcc hbr eG hG1'
        go_wp2
        go_meet
        exact⟨gu-1,dH (Value.int IntKind.u64) HB1.out.1,HG0',hhi,HB1.out.2,hpo8,hqo8,jL hbl _⟩
       ·have hbI:decide ((4294967296:Int)≤(lf:Int)+(T:Int))=false:=by simp;omega
        have HB1:=bk (And.intro eG (And.intro hG1' hbr));clear hge hcc hbr eG hG1'
        go_wp2
        go_round
        case rel=>exact⟨gu-1,lf+T,dH (Value.int IntKind.u64) HB1.out.1,by go_num,HG0',by have:=HB1.out.2.1;omega,hGl',by have:=HB1.out.2.2;omega⟩
        case measure=>simp[intOf];omega
      ·have hhi:Hid (gu≤W/val 4294967296 ld+1):=Aw hDe.out hwin'.out hD2'.out (by omega) hDpos hGl.out (by omega) (by omega);have hgI:decide ((4294967296:Int)≤(gu:Int))=false:=by simp;omega
       have hor2:=zB lf a0 hl0 ha0;obtain⟨hmx0,hmx1⟩:=zA gu S (by omega) hS2;have hccI:¬(((lf*4294967296+a0:Nat):Nat):Int)<(gu:Int)*(S:Int):=by rw[←dP];omega
       have hXb:lf*4294967296+a0<18446744073709551616:=by omega
       obtain⟨X,hXe⟩:∃X,X=lf*4294967296+a0:=⟨_,rfl⟩;rw[←hXe]at hor2 hccI hXb;have HG1:Hid (gu≤4294967296):=by unfold Hid;omega
       clear hXe hge hcc
       go_wp2
       go_meet
       exact⟨gu,rfl,hG0,hhi,HG1.out,hpo8,hqo8,jL hbl _⟩
   case rest=>
    clear hpo hqo hbl hpo8 hqo8 hbl8 hG0 hG1 hGl hl0 hq1 hq2 hc0 hor htwo;obtain⟨gu,rfl,hlo,hhi,hgB,hpo,hqo,hbl⟩:=hcut
    go_wp2
    go_loopw [24,25,171] (fun bv cv kv wr=>Rh wA g cap lu.length gq N qs ld p j gu (val 4294967296 p) (m+2) bv cv kv wr) (fun _ _ kv _=>(m+2)-(intOf kv).toNat)
    case atStart=>exact⟨0,p,0,0,rfl,rfl,rfl,by omega,by omega,by omega,hpo,hqo,HP.out.1,HP.out.2.2.1,by unfold Hid;intro _ _;rfl,by unfold Hid;simp[val],hbl⟩
    case round=>
     clear hpo hqo hbl;obtain⟨k,p1,bo,c,rfl,rfl,rfl,hk,hbo,hc,hpo,hqo,hpl,hpd,hps,hpv,hbl⟩:=hrel;by_cases hkn:k<m+2
     ·have hdk:=(hbl.cell (p:=⟨bd,offd+k,none⟩) hbd).trans (hcellA.out k hkn);have hy:dg ld k<4294967296:=iX hv2'.out (by omega) k;obtain⟨hzc,hzf,_,_⟩:=hpo.slot (j+k) (by have:=hpl.out;omega);have hz:dg p1 (j+k)<4294967296:=iX hpd.out (by omega) (j+k);have hj2:j+k<lu.length+1:=by omega
      generalize hye:dg ld k=y at*;generalize hze:dg p1 (j+k)=z at*;have HYE:=bk hye;clear hye;have HZE:=bk hze;clear hze;have hgy:gu*y≤18446744069414584320:=by
       have:=aY hgB (show y≤4294967295 by omega);omega
      have hgyI:(gu:Int)*(y:Int)≤18446744069414584320∧0≤(gu:Int)*(y:Int):=by rw[←dP];omega
      obtain⟨hgy1,hgy2⟩:=hgyI;obtain⟨C,hCe⟩:∃C,C=c+gu*y:=⟨_,rfl⟩;have hCI:(c:Int)+(gu:Int)*(y:Int)=(C:Int):=by rw[hCe,Int.natCast_add,dP]
      have hCb:C<18446744073709551616:=by omega
      obtain⟨lo,hLe⟩:∃lo,lo=C % 4294967296:=⟨_,rfl⟩;obtain⟨hi,hHe⟩:∃hi,hi=C/4294967296:=⟨_,rfl⟩;have hLI:(C:Int) % 4294967296=(lo:Int):=by omega
      have hHI:(C:Int)/4294967296=(hi:Int):=by omega
      have hlo2:lo<4294967296:=by omega
      have hhi2:hi<4294967296:=by omega
      have HC:=bk (And.intro hCe (And.intro hLe hHe));clear hCe hLe hHe hgy;by_cases hneg:z<lo+bo
      ·have hstep:=CU (B:=4294967296) (i:=j) (k:=k) (g:=gu) (c:=c) (bo:=bo) (bo':=1) (x':=(z+4294967296-(lo+bo))) (R:=val 4294967296 p) (by have:=hpl.out;omega) HZE.out HYE.out (by rw[←HC.out.1,←HC.out.2.1];omega) hpv.out;rw[←HC.out.1,←HC.out.2.2]at hstep;have HST:=bk hstep;clear hstep;have hps':Hid (∀j',j+(k+1)≤j'→dg (p1.set (j+k) (z+4294967296-(lo+bo))) j'=dg p j'):=fun j' hj'=>by rw[oP (by omega)];exact hps.out j' (by omega)
       go_wp2
       go_roundw
       case rel=>exact⟨k+1,_,1,hi,rfl,rfl,by go_num,by omega,by omega,hhi2,(hpo.store' (j+k) _ (z+4294967296-(lo+bo)) (by omega)).1,hqo.set_ne (nw hgq) _,by unfold Hid;rw[dq];exact hpl.out,pP hpd.out (by omega),hps',HST.out,hbl.trans (hpo.store' (j+k) _ (z+4294967296-(lo+bo)) (by omega)).2⟩
       case measure=>simp[intOf];omega
      ·have hstep:=CU (B:=4294967296) (i:=j) (k:=k) (g:=gu) (c:=c) (bo:=bo) (bo':=0) (x':=(z-(lo+bo))) (R:=val 4294967296 p) (by have:=hpl.out;omega) HZE.out HYE.out (by rw[←HC.out.1,←HC.out.2.1];omega) hpv.out;rw[←HC.out.1,←HC.out.2.2]at hstep;have HST:=bk hstep;clear hstep;have hps':Hid (∀j',j+(k+1)≤j'→dg (p1.set (j+k) (z-(lo+bo))) j'=dg p j'):=fun j' hj'=>by rw[oP (by omega)];exact hps.out j' (by omega)
       go_wp2
       go_roundw
       case rel=>exact⟨k+1,_,0,hi,rfl,rfl,by go_num,by omega,by omega,hhi2,(hpo.store' (j+k) _ (z-(lo+bo)) (by omega)).1,hqo.set_ne (nw hgq) _,by unfold Hid;rw[dq];exact hpl.out,pP hpd.out (by omega),hps',HST.out,hbl.trans (hpo.store' (j+k) _ (z-(lo+bo)) (by omega)).2⟩
       case measure=>simp[intOf];omega
     ·obtain rfl:k=m+2:=by omega
      have hzc:=(hpo.slot (j+(m+2)) (by have:=hpl.out;omega)).1;have hzf:=(hpo.slot (j+(m+2)) (by have:=hpl.out;omega)).2.1;have hz:dg p1 (j+(m+2))<4294967296:=iX hpd.out (by omega) (j+(m+2));have hqf:=(hqo.slot j (by have:=HP.out.2.1;omega)).2.1;have hqc:=(hqo.slot j (by have:=HP.out.2.1;omega)).1;have hval:=hpv.out;rw[eL _ ld _ (by rw[hdl.out];exact ak _)]at hval;have habp:∀j',j+(m+2)<j'→dg p1 j'=0:=fun j' hj'=>by rw[hps.out j' (by omega)];exact hab'.out j' hj'
      have hj3:j<N+1:=by omega
      obtain⟨zt,hze⟩:∃zt,zt=dg p1 (j+(m+2)):=⟨_,rfl⟩;rw[←hze]at hzc hz;have HWlt:W/val 4294967296 ld<4294967296:=by rw[eP hDpos];exact hWB'.out
      have hBj:0<4294967296^j:=gN (by omega);by_cases hfit:c+bo≤zt
      ·have hfits:=LD (B:=4294967296) (i:=j) (n:=m+2) (by have:=hpl.out;omega) hze.symm hfit hval;have hdone:=vN (B:=4294967296) (i:=j) hDpos hBj (by rw[←HWe.out];exact hlo.out) hfits;have hgu32:gu<4294967296:=by rw[hdone.1,←HWe.out];exact HWlt
       have hput:=Jw (B:=4294967296) (j:=j) (g:=gu) (by rw[HP.out.2.1];omega) hfits HP.out.2.2.2.2.1;have HF:=bk (And.intro hfit (And.intro hput (And.intro hdone.2 hgu32)));have hge0:¬((zt:Int)-(c:Int)-(bo:Int)<0):=by omega
       have hgI:IntKind.u32.wrap (gu:Int)=(gu:Int):=by
        rw[gS];omega
       clear hval habp hze HWlt hfits hdone hput hfit hgu32 hlt hkn
       go_wp2
       go_roundw
       case rel=>
        refine⟨j,by omega,rfl,p1.set (j+(m+2)) (zt-(c+bo)),qs.set j gu,((hpo.store' (j+(m+2)) _ (zt-(c+bo)) (by have:=HF.out.1;omega)).1).set_ne (Nat.ne_of_lt hgq) _,((hqo.set_ne (nw hgq) _).store' j _ gu rfl).1,by rw[dq];exact hpl.out,by rw[dq];exact HP.out.2.1,pP hpd.out (by omega),pP HP.out.2.2.2.1 HF.out.2.2.2,HF.out.2.1,HF.out.2.2.1,?_⟩;exact(hbl.trans (hpo.store' (j+(m+2)) _ (zt-(c+bo)) (by have:=HF.out.1;omega)).2).trans ((hqo.set_ne (nw hgq) _).store' j _ gu rfl).2
       case measure=>simp[intOf]
      ·have hover:=LH (B:=4294967296) (j:=j) (M:=j+(m+2)) (by omega) hpd.out hze.symm (show zt<c+bo by omega) habp hDpos hval;rw[←HWe.out]at hover;have hge1:1≤gu:=iz (aJ _) hover;have hgq1:W/val 4294967296 ld=gu-1:=by have:=hhi.out;generalize W/val 4294967296 ld=qq at*;omega
       have hless:=LG (B:=4294967296) (i:=j) (n:=m+2) (by have:=hpl.out;omega) hze.symm (show zt<c+bo by omega) (show c+bo≤zt+4294967296 by omega) hval;have hlt0:((zt:Int)-(c:Int)-(bo:Int)<0):=by omega
       have HL:=bk (And.intro hless (And.intro hgq1 hfit));have HAB:=bk habp;clear hval habp hze HWlt hover hgq1 hless hfit hkn;have hst:=hpo.store' (j+(m+2)) (((zt:Int)-(c:Int)-(bo:Int)) % 4294967296) (zt+4294967296-(c+bo)) (by have:=HL.out.2.2;omega);have hqo':=hqo.set_ne (a:=⟨g,j+(m+2),none⟩) (nw hgq) (.int .u32 (((zt:Int)-(c:Int)-(bo:Int)) % 4294967296));have hbl':=hbl.trans hst.2
       go_wp2
       clear hzc hzf hqc hqf;generalize(wr.setCell ⟨g,j+(m+2),none⟩ (.int .u32 (((zt:Int)-(c:Int)-(bo:Int)) % 4294967296)))=wq at*;have hpo2:=hst.1;clear hst hpo hqo hbl;have hpl2:Hid ((p1.set (j+(m+2)) (zt+4294967296-(c+bo))).length=lu.length+1):=by unfold Hid;rw[dq];exact hpl.out
       have hpd2:Hid (∀d∈p1.set (j+(m+2)) (zt+4294967296-(c+bo)),d<4294967296):=pP hpd.out (by have:=HL.out.2.2;omega);have hps2:Hid (∀j',j+(m+2)<j'→dg (p1.set (j+(m+2)) (zt+4294967296-(c+bo))) j'=0):=fun j' hj'=>by rw[oP (by omega)];exact HAB.out j' hj'
       generalize p1.set (j+(m+2)) (zt+4294967296-(c+bo))=p2 at*;clear hpl hpd hps hpv
       go_loopw [29,234] (fun sv kv wr=>Rd wA g cap lu.length gq N qs ld p2 j (val 4294967296 p2) (m+2) sv kv wr) (fun _ kv _=>(m+2)-(intOf kv).toNat)
       case atStart=>exact⟨0,p2,0,rfl,rfl,by omega,by omega,hpo2,hqo',hpl2,hpd2,by unfold Hid;intro _ _;rfl,by unfold Hid;simp[val],hbl'⟩
       case round=>
        clear hpo2 hqo' hbl';obtain⟨k,p3,sm,rfl,rfl,hk,hsm,hpo,hqo,hpl,hpd,hps,hpv,hbl⟩:=hrel;by_cases hkn:k<m+2
        ·have hdk:=(hbl.cell (p:=⟨bd,offd+k,none⟩) hbd).trans (hcellA.out k hkn);have hy:dg ld k<4294967296:=iX hv2'.out (by omega) k;have hzc:=(hpo.slot (j+k) (by have:=hpl.out;omega)).1;have hzf:=(hpo.slot (j+k) (by have:=hpl.out;omega)).2.1;have hz:dg p3 (j+k)<4294967296:=iX hpd.out (by omega) (j+k);have hj2:j+k<lu.length+1:=by omega
         have hstep:=KZ (B:=4294967296) (i:=j) (k:=k) (c:=sm) (by have:=hpl.out;omega) rfl rfl hpv.out;generalize dg ld k=y at*;generalize dg p3 (j+k)=z at*;obtain⟨C,hCe⟩:∃C,C=sm+(z+y):=⟨_,rfl⟩;rw[←hCe]at hstep;have hCI:(sm:Int)+((z:Int)+(y:Int))=(C:Int):=by omega
         have hCb:C<8589934592:=by omega
         have HST:=bk hstep;clear hstep hCe;have hps':Hid (∀j',j+(k+1)≤j'→dg (p3.set (j+k) (C % 4294967296)) j'=dg p2 j'):=fun j' hj'=>by rw[oP (by omega)];exact hps.out j' (by omega)
         go_wp2
         go_quiet (fail)
         go_wp2
         have hpoD:iN (wr.drewN nq) wA.heap.size 273 .u32 (.slice (some ⟨g,0,none⟩) (lu.length+1) cap) p3:=hpo;have hqoD:iN (wr.drewN nq) wA.heap.size 273 .u32 (.slice (some ⟨gq,0,none⟩) (N+1) (N+1)) qs:=hqo
         go_roundw
         case rel=>exact⟨k+1,_,C/4294967296,rfl,by go_num,by omega,by omega,(hpoD.store' (j+k) _ (C % 4294967296) rfl).1,hqoD.set_ne (nw hgq) _,by unfold Hid;rw[dq];exact hpl.out,pP hpd.out (by omega),hps',HST.out,(jL hbl nq).trans (hpoD.store' (j+k) _ (C % 4294967296) rfl).2⟩
         case measure=>simp[intOf];omega
        ·obtain rfl:k=m+2:=by omega
         have hval:=hpv.out;rw[eL _ ld _ (by rw[hdl.out];exact ak _)]at hval;have hDM:val 4294967296 ld*4294967296^j≤4294967296^(j+(m+2)):=by
          rw[Nat.add_comm j,cP];exact cf _ (fW hDl.out)
         obtain⟨TT,hT1,hT2',hT3⟩:=U0 (B:=4294967296) (j:=j) (M:=j+(m+2)) (g:=gu-1) (R:=val 4294967296 p) (V:=val 4294967296 p2) (by omega) hDpos hDM (by rw[←HWe.out];exact HL.out.2.1) (by rw[gG hge1];exact HL.out.1) hval;obtain⟨hz3,hfin⟩:=M0 (B:=4294967296) (m:=j+(m+2)) (by omega) (by have:=hpl.out;omega) hpd.out rfl (fun j' hj'=>by rw[hps.out j' (by omega)];exact hps2.out j' hj') hT2' hT1;have hdone:=vN (B:=4294967296) (i:=j) (g:=gu-1) (V:=TT) hDpos hBj (by rw[←HWe.out];exact Nat.le_of_eq HL.out.2.1) hT3;have hgu32:gu-1<4294967296:=by omega
         rw[←hfin]at hT3 hdone;have hput:=Jw (B:=4294967296) (j:=j) (g:=gu-1) (by rw[HP.out.2.1];omega) hT3 HP.out.2.2.2.2.1;have HF:=bk (And.intro hput (And.intro hdone.2 hgu32));have hzc:=(hpo.slot (j+(m+2)) (by have:=hpl.out;omega)).1;have hzf:=(hpo.slot (j+(m+2)) (by have:=hpl.out;omega)).2.1;have hqf:=(hqo.slot j (by have:=HP.out.2.1;omega)).2.1;have hqc:=(hqo.slot j (by have:=HP.out.2.1;omega)).1;obtain⟨z3,hz3e⟩:∃z3,z3=dg p3 (j+(m+2)):=⟨_,rfl⟩;rw[←hz3e]at hzc hz3;have hw3:IntKind.u32.wrap ((z3:Int)+(sm:Int))=0:=by rw[gS];omega
         have hw4:IntKind.u32.wrap ((gu:Int)-1)=((gu-1:Nat):Int):=by rw[gS];omega
         have hw5:((gu:Int)-1) % 4294967296=((gu-1:Nat):Int):=by omega
         have hj3:j<N+1:=by omega
         obtain⟨gm,hgm⟩:∃gm,gm=gu-1:=⟨_,rfl⟩;rw[←hgm]at HF hw4 hw5;clear hval hDM hT1 hT2' hT3 hz3 hfin hdone hgu32 hput hz3e hgm hkn hlt
         go_wp2
         go_roundw
         case rel=>
          refine⟨j,by omega,rfl,p3.set (j+(m+2)) 0,qs.set j gm,((hpo.store' (j+(m+2)) 0 0 rfl).1).set_ne (Nat.ne_of_lt hgq) _,((hqo.set_ne (nw hgq) _).store' j _ gm (by first|rfl|omega)).1,by rw[dq];exact hpl.out,by rw[dq];exact HP.out.2.1,pP hpd.out (by omega),pP HP.out.2.2.2.1 HF.out.2.2,HF.out.1,HF.out.2.1,?_⟩;exact(hbl.trans (hpo.store' (j+(m+2)) 0 0 rfl).2).trans ((hqo.set_ne (nw hgq) _).store' j _ gm (by first|rfl|omega)).2
         case measure=>simp[intOf]
  ·obtain rfl:k=0:=by omega
   obtain⟨p,qs,hpo,hqo,hpl,hql,hpd,hqd,hpv,hplt,hbl⟩:=hinv;rw[gX,Nat.pow_zero,iQ]at hpv;rw[Nat.pow_zero,fK]at hplt;have hv3y:=hv3'.out;rw[HY.out]at hv3y;rw[hv3y]at hpv hplt;rw[hu4]at hpv;have hy0:0<y:=by
    apply Nat.pos_of_ne_zero;intro h0;rw[h0,nC]at hplt;omega
   obtain⟨hqq,hpp⟩:=FE (gN (by omega)) hy0 hpv hplt;have HQ:=bk (And.intro hqq hpp);have hpi:=hpo.intsAt;have hqi:=hqo.intsAt;have hpd':=bk hpd;have hqd':=bk hqd;have hwr:Below w.heap.size w wr:=hwA.trans (hbl.mono hwA.size);have G3:=bG hbl F3;have G4:=bG hbl F4;have hLs':lu.length+1≤1000000000000:=by omega
   have hws:=hbl.size;have hwsA:=hwA.size;have hwA4:w.heap.size+1+1+1<wA.heap.size:=rL F4;clear hqq hpp hpv hplt hpd hqd hpl hql hpo hqo hv3y hk hlt hbl
   go_wp2_with (first
    |(go_at_call 245;(with_reducible refine(ll hpi hpd'.out).mono ?_);rintro e w9 ⟨t,rfl,ht,htn,hb9⟩;have htn':t.n≤1000000000000:=aP htn hLs')
    |(go_at_call 251;(with_reducible refine(Cw sh ht htn' (by omega)).mono ?_);rintro e w10 ⟨v,rfl,hv,hvn,hb10⟩))
   have hb910:=hb9.trans (hb10.mono hb9.size);have hbB:Below w10.heap.size w10 (w10.alloc (.cells #[.slice v.ao v.n v.c] 110)):=(bD _ _).alloc (ak _) _;have hV31:=lF w10 (.cells #[.slice v.ao v.n v.c] 110);have hqi2:=((hqi.up hb910).up hbB);have H3:=bG hbB (bG hb910 G3);have H4:=bG hbB (bG hb910 G4);have hv2:=hv.up hbB;have hwW:Below w.heap.size w (w10.alloc (.cells #[.slice v.ao v.n v.c] 110)):=(hwr.trans (hb910.mono hwr.size)).trans (hbB.mono (by have:=hwr.size;have:=hb910.size;omega));have hsz1:=hwW.size;have hW10:w.heap.size+1+1+1<w10.heap.size:=by have:=hb9.size;have:=hb10.size;omega
   have hcell31:=bR hV31 0;generalize hWd:w10.alloc (.cells #[.slice v.ao v.n v.c] 110)=W0 at*;clear hWd hqi hv hb9 hb10 hb910 hbB G3 G4 hwr
   go_region_held3 (fun w'=>w'.cell? ⟨w10.heap.size,0,none⟩=some (.slice v.ao v.n v.c))
    (first|exact hcell31|exact(bR (bG hb11 hV31) 0)|(rw[World.cell?_setCell_far _ _ _ _ (by simp;omega)];exact(bR (bG hb11 hV31) 0))|(rw[World.cell?_setCell_far _ _ _ _ (by simp;omega),World.cell?_setCell_far _ _ _ _ (by simp;omega)];exact(bR (bG hb11 hV31) 0)))
    (first|(go_at_call 245;refine(ll (w:=W0.drew) hqi2 hqd'.out).mono ?_;rintro e w11 ⟨u9,rfl,hu9,hun9,hb11'⟩;have hb11:=mc hb11';have hK3:=bG hb11 H3;have hK4:=bG hb11 H4;have hR3:=bR hK3 0;have hR4:=bR hK4 0;have hF3:=dX hK3 0;have hF4:=dX hK4 0))
   go_wp2
   refine eY (v:=.tuple #[.agg #[.slice u9.ao u9.n u9.c],.agg #[.slice v.ao v.n v.c],.int .i64 0]) (by simp[results,Tryz.results199,go_sem,hR3,hR4]) rfl ⟨u9,v,rfl,?_,?_,?_⟩
   ·rw[HQ.out.1]at hu9;exact(hu9.kp ((Kp.refl _).setCell hK3 (by decide) _)).kp ((Kp.refl _).setCell (cE hK4 (by simp) _) (by decide) _)
   ·rw[HQ.out.2]at hv2;exact((hv2.up hb11).kp ((Kp.refl _).setCell hK3 (by decide) _)).kp ((Kp.refl _).setCell (cE hK4 (by simp) _) (by decide) _)
   ·exact(((hwW.trans (hb11.mono hsz1)).setCell (by simp;omega) _).setCell (by simp;omega) _)
theorem Ap{w:World}{s t:Sl}{x y:Nat}(h:dV w s x)(h':dV w t y)(hn:s.n≤100000000000)(hm:t.n≤100000000000)(hy:0<y):
  Calls Tryz.prog 199 #[.agg #[.slice s.ao s.n s.c],.agg #[.slice t.ao t.n t.c]] w fun e w'=>
   ∃u v:Sl,e=.returned (.tuple #[.agg #[.slice u.ao u.n u.c],.agg #[.slice v.ao v.n v.c],.int .i64 0])∧dV w' u (x/y)∧dV w' v (x % y)∧u.n≤s.n∧v.n≤s.n∧v.n≤t.n∧Below w.heap.size w w':=by
 rcases iM x y with hxy|hxy
 ·refine(Nu h h' (by omega) (by omega) hxy).mono ?_;rintro e w' ⟨rfl,hb⟩;have e1:x/y=0:=jC hxy;have e2:x % y=x:=Nat.mod_eq_of_lt hxy;rw[e1,e2];exact⟨⟨none,0,0⟩,s,rfl,dV.nil _ _ _ (by omega),h.up hb,aJ _,ak _,h.n_le h' (by omega),hb⟩
 ·have ht0:t.n≠0:=by
   have:=h'.zero_iff;omega
  by_cases ht1:t.n=1
  ·refine(div_one h h' (by omega) ht1 hxy).mono ?_;rintro e w' ⟨u,v,rfl,hu,hv,_,_,hb⟩;exact⟨u,v,rfl,hu,hv,hu.n_le h (Nat.div_le_self _ _),hv.n_le h (Nat.mod_le _ _),hv.n_le h' (fW (fB _ hy)),hb⟩
  ·obtain⟨r,g1,g2,g3,g4⟩:=id h';obtain⟨b,off,hao,_,_⟩:=g1.open (by omega);obtain⟨tao,tn,tc⟩:=t;simp only at hao ht0 ht1 hm;subst hao;obtain⟨m,rfl⟩:∃m,tn=m+2:=⟨tn-2,by omega⟩;subst g4;refine(Nw h b off m tc r g1 g2 g3 hn (by omega) hxy).mono ?_;rintro e w' ⟨u,v,rfl,hu,hv,hb⟩;exact⟨u,v,rfl,hu,hv,hu.n_le h (Nat.div_le_self _ _),hv.n_le h (Nat.mod_le _ _),hv.n_le h' (fW (fB _ hy)),hb⟩
def Mx(w:World)(G B:Nat)(k:Nat)(wr:World):Prop:=∃(sa sb:Sl) (a:Nat),
 wr.heap[w.heap.size]? =some (.cells #[.slice sa.ao sa.n sa.c] 110 (0,0))∧wr.heap[w.heap.size+1]? =some (.cells #[.slice sb.ao sb.n sb.c] 110 (0,0))∧
 wr.heap[w.heap.size+1+1]? =some (.cells #[.slice none 0 0] 110 (0,0))∧dV wr sa a∧dV wr sb k∧Nat.gcd a k=G∧sa.n≤B∧sb.n≤B∧Below w.heap.size w wr
theorem NS{w:World}{s t:Sl}{x y:Nat}(h:dV w s x)(h':dV w t y)(hn:s.n≤100000000000)(hm:t.n≤100000000000):
  Calls Tryz.prog 258 #[.agg #[.slice s.ao s.n s.c],.agg #[.slice t.ao t.n t.c]] w fun e w'=>
   ∃u:Sl,e=.returned (.agg #[.slice u.ao u.n u.c])∧dV w' u (Nat.gcd x y)∧u.n≤max s.n t.n∧Below w.heap.size w w':=by
 have hE:=lO w (.cells #[.slice s.ao s.n s.c] 110) (.cells #[.slice t.ao t.n t.c] 110) (.cells #[.slice none 0 0] 110);have hbx:Below w.heap.size w _:=(((bD w.heap.size w).alloc (ak _) (.cells #[.slice s.ao s.n s.c] 110)).alloc (by simp) (.cells #[.slice t.ao t.n t.c] 110)).alloc (by simp;omega) (.cells #[.slice none 0 0] 110);have hinit:Mx w (Nat.gcd x y) (max s.n t.n) y _:=⟨s,t,x,hE.1,hE.2.1,hE.2.2.1,h.up hbx,h'.up hbx,rfl,by omega,by omega,hbx⟩;have hB:max s.n t.n≤100000000000:=by omega
 generalize max s.n t.n=B at*;clear hE hbx
 go_enter Tryz.func258,Tryz.ntmps258
 go_wp2
 go_loopg [8] y (fun k _ wr=>Mx w (Nat.gcd x y) B k wr)
 case atStart=>exact hinit
 case round=>
  obtain⟨sa,sb,a,hE1,hE2,hE3,ha,hb,hg,hna,hnb,hbl⟩:=hrel;have hA:=bR hE1 0;have hC:=bR hE2 0;have hws:w.heap.size+1+1<wr.heap.size:=rL hE3;have HG:=bk hg;clear hg;by_cases h0:0<sb.n
  ·have hk0:0<gk:=by have:=hb.zero_iff;omega
   go_wp2_with (go_at_call 199;refine(Ap ha hb (by omega) (by omega) hk0).mono ?_;rintro e w2 ⟨u,v,rfl,hu,hv,hun,hvn,hvn2,hb2⟩;have hF1:=bG hb2 hE1;have hF2:=bG hb2 hE2;have hF3:=bG hb2 hE3;clear hA hC)
   have hbX:Below w2.heap.size w2 ((w2.alloc (.cells #[.slice u.ao u.n u.c] 110)).alloc (.cells #[.slice v.ao v.n v.c] 110)):=((bD _ _).alloc (ak _) _).alloc (by simp) _;have hX:=As w2 (.cells #[.slice u.ao u.n u.c] 110) (.cells #[.slice v.ao v.n v.c] 110);have K1:=bG hbX hF1;have K2:=bG hbX hF2;have K3:=bG hbX hF3;have hv':=hv.up hbX;have hb':=(hb.up hb2).up hbX;have hblX:Below w.heap.size w ((w2.alloc (.cells #[.slice u.ao u.n u.c] 110)).alloc (.cells #[.slice v.ao v.n v.c] 110)):=(hbl.trans (hb2.mono hbl.size)).trans (hbX.mono (by have:=hbl.size;have:=hb2.size;omega));have hw2:w.heap.size+1<w2.heap.size:=by have:=hb2.size;omega
   have hcX:=bR hX.2.1 0;generalize hXd:((w2.alloc (.cells #[.slice u.ao u.n u.c] 110)).alloc (.cells #[.slice v.ao v.n v.c] 110))=X at*;have hA:=bR K1 0;have hAf:=dX K1 0;have hC:=bR K2 0;have hCf:=dX K2 0;clear hXd hX hbX hE1 hE2 hE3 hF1 hF2 hF3 ha
   go_region
   all_goals (
    go_wp2
    go_roundg (a % gk)
    case measure=>exact fB _ hk0
    case rel=>
     refine⟨sb,v,gk,?_,?_,?_,?_,?_,?_,hnb,by omega,?_⟩
     ·exact cE (qh K1 _) (by simp) _
     ·exact qh (cE K2 (by simp) _) _
     ·exact cE (cE K3 (by simp;omega) _) (by simp) _
     ·exact(hb'.kp ((Kp.refl _).setCell K1 (by decide) _)).kp ((Kp.refl _).setCell (cE K2 (by simp) _) (by decide) _)
     ·exact(hv'.kp ((Kp.refl _).setCell K1 (by decide) _)).kp ((Kp.refl _).setCell (cE K2 (by simp) _) (by decide) _)
     ·rw[Nat.gcd_comm,←Nat.gcd_rec,Nat.gcd_comm];exact HG.out
     ·exact(hblX.drew.setCell (by simp) _).setCell (by simp) _)
  ·have hk0:gk=0:=by have:=hb.zero_iff;omega
   subst hk0;have hR:=bR hE3 0;have hRf:=dX hE3 0
   go_wp2
   refine eY (v:=.agg #[.slice sa.ao sa.n sa.c]) (by simp[results,Tryz.results258,go_sem,hR]) rfl ⟨sa,rfl,?_,hna,hbl.setCell (by simp;omega) _⟩;have:=HG.out;rw[Nat.gcd_zero_right]at this;rw[←this];exact ha.kp ((Kp.refl _).setCell hE3 (by decide) _)
def bs(s:ByteArray):List Nat:=s.data.toList.map fun b=>b.toNat
def Hw(w:World)(s t:Sl)(R g:Nat)(o:List Nat)(sr:Sl)(P:Nat)(wr:World):Prop:=
 wr.heap[w.heap.size]? =some (.cells #[.slice s.ao s.n s.c] 84 (0,0))∧wr.heap[w.heap.size+1]? =some (.cells #[.slice t.ao t.n t.c] 84 (0,0))∧
 wr.heap[w.heap.size+1+1]? =some (.cells #[.slice none 0 0] 84 (0,0))∧wr.heap[w.heap.size+1+1+1]? =some (.cells #[.slice none 0 0] 84 (0,0))∧
 wr.heap[R]? =some (.cells #[.slice sr.ao sr.n sr.c] 84 (0,0))∧za wr sr P∧iN wr (w.heap.size+4) 3 .i64 (.slice (some ⟨g,0,none⟩) s.n s.n) o∧Below w.heap.size w wr
theorem Hw.up{w:World}{s t:Sl}{R g:Nat}{o:List Nat}{sr:Sl}{P:Nat}{wr w':World}(h:Hw w s t R g o sr P wr)(hb:Below wr.heap.size wr w'):Hw w s t R g o sr P w':=
 ⟨bG hb h.1,bG hb h.2.1,bG hb h.2.2.1,bG hb h.2.2.2.1,bG hb h.2.2.2.2.1,h.2.2.2.2.2.1.up hb,h.2.2.2.2.2.2.1.below hb (ak _),h.2.2.2.2.2.2.2.trans (hb.mono h.2.2.2.2.2.2.2.size)⟩
def Hx(w:World)(b3 b4:Nat)(sa sb:Sl)(a b:Nat)(wr:World):Prop:=
 wr.heap[w.heap.size]? =some (.cells #[.slice none 0 0] 84 (0,0))∧wr.heap[b3]? =some (.cells #[.slice sa.ao sa.n sa.c] 84 (0,0))∧wr.heap[b4]? =some (.cells #[.slice sb.ao sb.n sb.c] 84 (0,0))∧
 za wr sa a∧za wr sb b∧Below w.heap.size w wr
theorem Hx.up{w:World}{b3 b4:Nat}{sa sb:Sl}{a b:Nat}{wr w':World}(h:Hx w b3 b4 sa sb a b wr)(hb:Below wr.heap.size wr w'):Hx w b3 b4 sa sb a b w':=
 ⟨bG hb h.1,bG hb h.2.1,bG hb h.2.2.1,h.2.2.2.1.up hb,h.2.2.2.2.1.up hb,h.2.2.2.2.2.trans (hb.mono h.2.2.2.2.2.size)⟩
def MH(I:fQ)(s:Sl):Prop:=0<s.n→∀b off sp,s.ao=some ⟨b,off,sp⟩→I b
theorem de.blk{I I':fQ}{w w':World}{T:TypeId}{k:IntKind}{s:Sl}{l:List Nat}(h:de w T k s l)(hi:MH I s)(h1:∀b,b<w.heap.size→I b→I' b)(h2:∀b,b<w.heap.size→I b→w'.heap[b]? =w.heap[b]?):de w' T k s l∧MH I' s:=by
 obtain⟨g1,g2,g3,g4⟩:=h;refine⟨⟨g1,g2,g3,fun hp=>?_⟩,fun hp b off sp ha=>?_⟩
 ·obtain⟨b,off,cur,ha,hb,hr⟩:=g4 hp;exact⟨b,off,cur,ha,by rw[h2 b (cu hb) (hi hp b off none ha)];exact hb,hr⟩
 ·obtain⟨b',off',cur,ha',hb,hr⟩:=g4 hp;have hI:=hi hp b off sp ha;rw[ha]at ha';injection ha' with ha';injection ha' with e1 _ _;subst e1;exact h1 b (cu hb) hI
theorem de.data{I:fQ}{w w':World}{T:TypeId}{k:IntKind}{s:Sl}{l:List Nat}(h:de w' T k s l)(hT:tb.dat T=true)(hd:br tb I w)(hb:Below w.heap.size w w'):MH (fun b=>b<w.heap.size→I b) s:=by
 intro hp b off sp ha hlt;obtain⟨_,_,_,g4⟩:=h;obtain⟨b',off',cur,ha',hb',hr⟩:=g4 hp;rw[ha]at ha';injection ha' with ha';injection ha' with e1 _ _;subst e1;exact hd b cur T (0,0) (by rw[←hb.block b hlt];exact hb') hT
def NF(s:Sl)(a:Nat×Nat):aD where
 p I w:=dV w s a.2∧MH I s∧s.n≤a.1
 up:=by
  rintro I I' w w' ⟨⟨l,h,hr⟩,hi,hl⟩ h1 h2 _;obtain⟨g1,g2⟩:=h.blk hi h1 h2;exact⟨⟨l,g1,hr⟩,g2,hl⟩
def RF(s:Sl)(a:Nat×Nat):aD where
 p I w:=za w s a.2∧MH I s∧s.n≤a.1
 up:=by
  rintro I I' w w' ⟨⟨l,h,hr⟩,hi,hl⟩ h1 h2 _;obtain⟨g1,g2⟩:=h.blk hi h1 h2;exact⟨⟨l,g1,hr⟩,g2,hl⟩
def ZF(s:Sl)(b:Bool)(a:Nat×Int):aD where
 p I w:=(NF s (a.1,a.2.natAbs)).p I w∧b=decide (a.2<0)
 up h h1 h2 h3:=⟨(NF s (_,_)).up h.1 h1 h2 h3,h.2⟩
abbrev mv(s:Sl):Value:=.agg #[.slice s.ao s.n s.c]
abbrev zv(s:Sl)(b:Bool):Value:=.agg #[.slice s.ao s.n s.c,.bool b]
def EV(L x:Nat)(v:Value)(Δ:List aD):Prop:=∃u:Sl,v=mv u∧Δ=[NF u (L,x)]
def o0(L:Nat)(x:Int)(v:Value)(Δ:List aD):Prop:=∃(u:Sl) (d:Bool),v=zv u d∧Δ=[ZF u d (L,x)]
def jq(x:Value)(v:Value)(Δ:List aD):Prop:=v=x∧Δ=[]
theorem aa8:tb.dat 273=true:=by kernel_rfl
theorem dV.fact{I:fQ}{w w':World}{s:Sl}{x L:Nat}(h:dV w' s x)(hd:br tb I w)(hb:Below w.heap.size w w')(hl:s.n≤L):(NF s (L,x)).p (fun b=>b<w.heap.size→I b) w':=by
 obtain⟨l,g,hr⟩:=h;exact⟨⟨l,g,hr⟩,g.data aa8 hd hb,hl⟩
theorem aG.h0'{F:aD}{Γ:List aD}{I:fQ}{w:World}(h:aG (F::Γ) I w):F.p I w:=h F (by simp)
theorem aS{F:aD}{I:fQ}{w:World}(h:F.p I w):aG [F] I w:=aG.cons h (aG.nil _ _)
section
variable{Γ:List aD}{L M x y:Nat}
theorem lq{s:Sl}{b:Bool}{L':Nat}{x x':Int} [h:aW (ZF s b) (L,x) Γ](hL:L≤L')(hx:x=x'):∀(I:fQ) (w:World),br tb I w→aG Γ I w→aG [ZF s b (L',x')] I w:=fun I w _ hh=>by
 subst hx;obtain⟨⟨h1,h2,h3⟩,h4⟩:=h.p hh;exact aS ⟨⟨h1,h2,aP h3 hL⟩,h4⟩
theorem XR(I:fQ)(w:World):(NF ⟨none,0,0⟩ (0,0)).p I w:=⟨dV.nil w none 0 (by omega),fun h=>absurd h (by simp),ak 0⟩
theorem ZB(s t:Sl) [ha:aW (NF s) (L,x) Γ] [hc:aW (NF t) (M,y) Γ](hL:L≤1000000000000:=by omega)(hM:M≤1000000000000:=by omega):
  aw tb Tryz.prog 252 [mv s,mv t] Γ (EV (max L M+1) (x+y)):=
 ⟨⟨_,Tryz.func252,by kernel_rfl,by kernel_rfl⟩,fun I w hd hh=>by
  obtain⟨h1,h2,h3⟩:=ha.p hh;obtain⟨g1,g2,g3⟩:=hc.p hh;refine(E3 h1 g1 (aP h3 hL) (aP g3 hM)).mono ?_;rintro e w' ⟨u,rfl,hu,hn,hb⟩;exact⟨_,_,rfl,⟨u,rfl,rfl⟩,hb,aS (hu.fact hd hb (by simp only at h3 g3⊢;omega))⟩⟩
theorem Pr(s t:Sl) [ha:aW (NF s) (L,x) Γ] [hc:aW (NF t) (M,y) Γ](hL:L≤1000000000000:=by omega)(hM:M≤1000000000000:=by omega):
  aw tb Tryz.prog 247 [mv s,mv t] Γ (EV (L+M) (x*y)):=
 ⟨⟨_,Tryz.func247,by kernel_rfl,by kernel_rfl⟩,fun I w hd hh=>by
  obtain⟨h1,h2,h3⟩:=ha.p hh;obtain⟨g1,g2,g3⟩:=hc.p hh;refine(Gu h1 g1 (aP h3 hL) (aP g3 hM)).mono ?_;rintro e w' ⟨u,rfl,hu,hn,hb⟩;exact⟨_,_,rfl,⟨u,rfl,rfl⟩,hb,aS (hu.fact hd hb (by simp only at h3 g3⊢;omega))⟩⟩
theorem ZH(s t:Sl) [ha:aW (NF s) (L,x) Γ] [hc:aW (NF t) (M,y) Γ](hL:L≤100000000000:=by omega)(hM:M≤100000000000:=by omega):
  aw tb Tryz.prog 258 [mv s,mv t] Γ (EV (max L M) (Nat.gcd x y)):=
 ⟨⟨_,Tryz.func258,by kernel_rfl,by kernel_rfl⟩,fun I w hd hh=>by
  obtain⟨h1,h2,h3⟩:=ha.p hh;obtain⟨g1,g2,g3⟩:=hc.p hh;refine(NS h1 g1 (aP h3 hL) (aP g3 hM)).mono ?_;rintro e w' ⟨u,rfl,hu,hn,hb⟩;exact⟨_,_,rfl,⟨u,rfl,rfl⟩,hb,aS (hu.fact hd hb (by simp only at h3 g3⊢;omega))⟩⟩
theorem Pm(s t:Sl) [ha:aW (NF s) (L,x) Γ] [hc:aW (NF t) (M,y) Γ](hL:L≤1000000000000:=by omega)(hM:M≤1000000000000:=by omega):
  aw tb Tryz.prog 204 [mv s,mv t] Γ (jq (.int .i64 (mV x y))):=
 ⟨⟨_,Tryz.func204,by kernel_rfl,by kernel_rfl⟩,fun I w hd hh=>by
  obtain⟨h1,h2,h3⟩:=ha.p hh;obtain⟨g1,g2,g3⟩:=hc.p hh;refine(nJ h1 g1 (aP h3 hL) (aP g3 hM)).mono ?_;rintro e w' ⟨rfl,hb⟩;exact⟨_,_,rfl,⟨rfl,rfl⟩,hb,aG.nil _ _⟩⟩
theorem GP(s t:Sl) [ha:aW (NF s) (L,x) Γ] [hc:aW (NF t) (M,y) Γ](hxy:y≤x)(hL:L≤1000000000000:=by omega)(hM:M≤1000000000000:=by omega):
  aw tb Tryz.prog 253 [mv s,mv t] Γ (fun v Δ=>∃u:Sl,v=.tuple #[mv u,.int .i64 0]∧Δ=[NF u (L,x-y)]):=
 ⟨⟨_,Tryz.func253,by kernel_rfl,by kernel_rfl⟩,fun I w hd hh=>by
  obtain⟨h1,h2,h3⟩:=ha.p hh;obtain⟨g1,g2,g3⟩:=hc.p hh;refine(W_ h1 g1 (aP h3 hL) (aP g3 hM) hxy).mono ?_;rintro e w' ⟨u,rfl,hu,hn,hb⟩;exact⟨_,_,rfl,⟨u,rfl,rfl⟩,hb,aS (hu.fact hd hb (by simp only at h3⊢;omega))⟩⟩
theorem PH(s t:Sl) [ha:aW (NF s) (L,x) Γ] [hc:aW (NF t) (M,y) Γ](hxy:x<y)(hL:L≤1000000000000:=by omega)(hM:M≤1000000000000:=by omega):
  aw tb Tryz.prog 253 [mv s,mv t] Γ (jq (.tuple #[mv ⟨none,0,0⟩,.int .i64 4])):=
 ⟨⟨_,Tryz.func253,by kernel_rfl,by kernel_rfl⟩,fun I w hd hh=>by
  obtain⟨h1,h2,h3⟩:=ha.p hh;obtain⟨g1,g2,g3⟩:=hc.p hh;refine(Xa h1 g1 (aP h3 hL) (aP g3 hM) hxy).mono ?_;rintro e w' ⟨rfl,hb⟩;exact⟨_,_,rfl,⟨rfl,rfl⟩,hb,aG.nil _ _⟩⟩
theorem ZC(s t:Sl) [ha:aW (NF s) (L,x) Γ] [hc:aW (NF t) (M,y) Γ](hy:0<y)(hL:L≤100000000000:=by omega)(hM:M≤100000000000:=by omega):
  aw tb Tryz.prog 199 [mv s,mv t] Γ (fun v Δ=>∃u t:Sl,v=.tuple #[mv u,mv t,.int .i64 0]∧Δ=[NF u (L,x/y),NF t (min L M,x % y)]):=
 ⟨⟨_,Tryz.func199,by kernel_rfl,by kernel_rfl⟩,fun I w hd hh=>by
  obtain⟨h1,h2,h3⟩:=ha.p hh;obtain⟨g1,g2,g3⟩:=hc.p hh;refine(Ap h1 g1 (aP h3 hL) (aP g3 hM) hy).mono ?_;rintro e w' ⟨u,v,rfl,hu,hv,hn,hn1,hn2,hb⟩;exact⟨_,_,rfl,⟨u,v,rfl,rfl⟩,hb,aG.cons (hu.fact hd hb (by simp only at h3⊢;omega)) (aS (hv.fact hd hb (by simp only at h3 g3⊢;omega)))⟩⟩
theorem Ph(s:Sl) [ha:aW (NF s) (L,x) Γ](hL:L≤1000000000000:=by omega):
  aw tb Tryz.prog 244 [mv s] Γ (jq (.int .i64 ((bl x:Nat):Int))):=
 ⟨⟨_,Tryz.func244,by kernel_rfl,by kernel_rfl⟩,fun I w hd hh=>by
  obtain⟨h1,h2,h3⟩:=ha.p hh;refine(Cn h1 (aP h3 hL)).mono ?_;rintro e w' ⟨rfl,hb⟩;exact⟨_,_,rfl,⟨rfl,rfl⟩,hb,aG.nil _ _⟩⟩
theorem IP(s:Sl) [ha:aW (NF s) (L,x) Γ](hx:18446744073709551616≤x)(hL:L≤1000000000000:=by omega):
  aw tb Tryz.prog 202 [mv s] Γ (jq (.tuple #[.int .u64 0,.bool false])):=
 ⟨⟨_,Tryz.func202,by kernel_rfl,by kernel_rfl⟩,fun I w hd hh=>by
  obtain⟨h1,h2,h3⟩:=ha.p hh;refine(QL h1 (aP h3 hL) hx).mono ?_;rintro e w' ⟨rfl,hb⟩;exact⟨_,_,rfl,⟨rfl,rfl⟩,hb,aG.nil _ _⟩⟩
theorem Es(s:Sl) [ha:aW (NF s) (L,x) Γ](hx:x<18446744073709551616)(hL:L≤1000000000000:=by omega):
  aw tb Tryz.prog 202 [mv s] Γ (jq (.tuple #[.int .u64 (x:Int),.bool true])):=
 ⟨⟨_,Tryz.func202,by kernel_rfl,by kernel_rfl⟩,fun I w hd hh=>by
  obtain⟨h1,h2,h3⟩:=ha.p hh;refine(Jb h1 hx).mono ?_;rintro e w' ⟨rfl,hb⟩;exact⟨_,_,rfl,⟨rfl,rfl⟩,hb,aG.nil _ _⟩⟩
theorem ZK(s:Sl)(k:Nat) [ha:aW (NF s) (L,x) Γ](hk:k≤65536)(hL:L≤1000000000000:=by omega):
  aw tb Tryz.prog 246 [mv s,.int .i64 (k:Int)] Γ (fun v Δ=>∃u:Sl,v=.tuple #[mv u,.int .i64 0]∧Δ=[NF u (L+k/32+1,x*2^k)]):=
 ⟨⟨_,Tryz.func246,by kernel_rfl,by kernel_rfl⟩,fun I w hd hh=>by
  obtain⟨h1,h2,h3⟩:=ha.p hh;refine(zO k h1 (aP h3 hL) hk).mono ?_;rintro e w' ⟨u,rfl,hu,hn,hb⟩;exact⟨_,_,rfl,⟨u,rfl,rfl⟩,hb,aS (hu.fact hd hb (by simp only at h3⊢;omega))⟩⟩
theorem acw(x:Nat)(hx:x<18446744073709551616):
  aw tb Tryz.prog 193 [.int .u64 (x:Int)] Γ (EV 2 x):=
 ⟨⟨_,Tryz.func193,by kernel_rfl,by kernel_rfl⟩,fun I w hd hh=>by
  refine(Ef x w hx).mono ?_;rintro e w' ⟨u,rfl,hu,hn,hb⟩;exact⟨_,_,rfl,⟨u,rfl,rfl⟩,hb,aS (hu.fact hd hb (by omega))⟩⟩
end
open Go.RowKit Go.IntWalk
def nI(x y:Int):Int:=if x<y then-1 else if x=y then 0 else 1
theorem Al{x y:Int}(hx:0≤x)(hy:0≤y):mV x.natAbs y.natAbs=nI x y:=by
 unfold mV nI;have e1:x.natAbs<y.natAbs↔x<y:=by omega
 have e2:x.natAbs=y.natAbs↔x=y:=by omega
 simp only[e1,e2]
theorem H5{x y:Int}(hx:x<0)(hy:y<0):mV y.natAbs x.natAbs=nI x y:=by
 unfold mV nI;have e1:y.natAbs<x.natAbs↔x<y:=by omega
 have e2:y.natAbs=x.natAbs↔x=y:=by omega
 simp only[e1,e2]
theorem Nh(x y:Nat):mV x y=nI x y:=by
 have:=Al (x:=(x:Int)) (y:=(y:Int)) (by omega) (by omega);simpa using this
theorem Nb(x:Nat):(0<bl x)↔0<x:=by
 have:=qV x 0;omega
theorem Ru(x:Nat):bl x=0↔x=0:=by
 have:=Nb x;omega
section
variable{fin:VS→List aD→Prop}{Γ:List aD}{L M:Nat}
theorem qD{T:Tb}{P:Program}{c:fG}(φ:Prop)(hm:dD c.k=false)(h:∀I w,br T I w→aG Γ I w→φ)(hk:φ→W T P fin c Γ):W T P fin c Γ:=
 W.elim (α:=Unit) (fun _=>φ) (fun _=>[]) hm (fun I w hd hh=>⟨(),h I w hd hh,aG.nil _ _⟩) (fun _ hp=>hk hp)
theorem pZ{T:Tb}{P:Program}{f:FuncId}{args:List Value}{post:Value→List aD→Prop}(φ:Value→List aD→Prop)(h:aw T P f args Γ post)(hi:∀v Δ,post v Δ→∀I w,aG Δ I w→φ v Δ):aw T P f args Γ (fun v Δ=>post v Δ∧φ v Δ):=
 ⟨h.1,fun I w hd hh=>(h.2 I w hd hh).mono fun _ _ ⟨v,Δ,h1,h2,h3,h4⟩=>⟨v,Δ,h1,⟨h2,hi v Δ h2 _ _ h4⟩,h3,h4⟩⟩
theorem aw.post{T:Tb}{P:Program}{f:FuncId}{args:List Value}{post post':Value→List aD→Prop}(h:aw T P f args Γ post)(hp:∀v Δ,post v Δ→post' v Δ):aw T P f args Γ post':=h.weak (fun _ _ _ hh=>hh) hp
theorem Ac{P:Program}{c:fG}(s:Sl)(b:Bool){x:Int} [h:aW (ZF s b) (L,x) Γ](hm:dD c.k=false)(hk:b=decide (x<0)→W tb P fin c (NF s (L,x.natAbs)::Γ)):W tb P fin c Γ:=
 W.elim (α:=Unit) (fun _=>b=decide (x<0)) (fun _=>[NF s (L,x.natAbs)]) hm (fun I w _ hh=>⟨(),(h.p hh).2,aS (h.p hh).1⟩) (fun _ hp=>hk hp)
theorem TE{s:Sl}{d:Bool}{L' x:Nat}{z:Int} [h:aW (NF s) (L,x) Γ](hL:L≤L')(hz:z.natAbs=x)(hd:d=decide (z<0)):∀(I:fQ) (w:World),br tb I w→aG Γ I w→aG [ZF s d (L',z)] I w:=fun I w _ hh=>by
 subst hz;obtain⟨h1,h2,h3⟩:=h.p hh;exact aS ⟨⟨h1,h2,aP h3 hL⟩,hd⟩
theorem Yu{s:Sl}{d:Bool}{L' x:Nat}{z:Int} [h:aW (ZF s d) (L,z) Γ](hL:L≤L')(hz:z.natAbs=x):∀(I:fQ) (w:World),br tb I w→aG Γ I w→aG [NF s (L',x)] I w:=fun I w _ hh=>by
 subst hz;obtain⟨⟨h1,h2,h3⟩,_⟩:=h.p hh;exact aS ⟨h1,h2,aP h3 hL⟩
theorem mh{Δ Δ':List aD}(h:∀(I:fQ) (w:World),br tb I w→aG Γ I w→aG Δ I w)(h':∀(I:fQ) (w:World),br tb I w→aG Γ I w→aG Δ' I w):∀(I:fQ) (w:World),br tb I w→aG Γ I w→aG (Δ++Δ') I w:=fun I w hd hh=>(h I w hd hh).append (h' I w hd hh)
theorem CZ(z:Int)(x:Nat)(hz:z=x)(hx:x<18446744073709551616):aw tb Tryz.prog 193 [.int .u64 z] Γ (EV 2 x):=by
 subst hz;exact acw x hx
theorem Kb(s:Sl)(b:Bool){x:Nat} [aW (NF s) (L,x) Γ](hL:L≤1000000000000:=by omega):
  aw tb Tryz.prog 192 [mv s,.bool b] Γ (fun v Δ=>∃(u:Sl) (d:Bool),v=zv u d∧d=(b&&decide (0<x))∧Δ=[ZF u d (L,bif b then-(x:Int)else x)]):=by
 refine aw.of_W aB Tryz.func192 rfl ?_;cases b with
 |true=>
  refine aq [7] (Ph s) ?_;rintro _ _ ⟨rfl,rfl⟩;have hb:=Nb x;have e:decide (((bl x:Nat):Int)>0)=decide (0<x):=by rw[rJ];omega
  refine W.r [7] (zv s (decide (((bl x:Nat):Int)>0))) ⟨s,_,rfl,by rw[e];rfl,rfl⟩ (TE (ak _) (by simp) ?_);simp only[bV];rw[rJ];omega
 |false=>
  refine W.r [7] (zv s false) ⟨s,_,rfl,rfl,rfl⟩ (TE (ak _) (by simp) ?_);simp only[cI];rw[eq_comm,aX];omega
theorem rX(s:Sl)(b:Bool){x:Nat} [aW (NF s) (L,x) Γ](hL:L≤1000000000000:=by omega):
  aw tb Tryz.prog 192 [mv s,.bool b] Γ (o0 L (bif b then-(x:Int)else x)):=
 (Kb s b hL).post fun _ _ ⟨u,d,h1,_,h2⟩=>⟨u,d,h1,h2⟩
theorem vY(s:Sl){x:Nat} [aW (NF s) (L,x) Γ](hL:L≤1000000000000:=by omega):
  aw tb Tryz.prog 194 [mv s] Γ (o0 L (x:Int)):=by
 refine aw.of_W aB Tryz.func194 rfl ?_;refine aq [] (rX s false) ?_;rintro _ _ ⟨u,d,rfl,rfl⟩;exact W.r [] (zv u d) ⟨u,d,rfl,rfl⟩ (lq (ak _) rfl)
theorem cU(n:Int)(h1: -9223372036854775808≤n)(h2:n<9223372036854775808):aw tb Tryz.prog 131 [.int .i64 n] Γ (o0 2 n):=by
 refine aw.of_W aB Tryz.func131 rfl ?_;refine W.d [] 4 (decide (n<0)) (fun hn=>?_) (fun hn=>?_)
 ·have hn:=jf hn;have e:IntKind.u64.wrap (IntKind.u64.wrap (IntKind.i64.wrap (0-IntKind.i64.wrap (n+1)))+1)=((-n).toNat:Int):=by
   rw[i64_in (n+1) (by omega),i64_in (0-(n+1)) (by omega),u64_in (0-(n+1)) (by omega),u64_in _ (by omega)];omega
  refine aq [4] (CZ (IntKind.u64.wrap (IntKind.u64.wrap (IntKind.i64.wrap (0-IntKind.i64.wrap (n+1)))+1)) (-n).toNat e (by omega)) ?_;rintro _ _ ⟨u,rfl,rfl⟩;refine aq [] (rX u true) ?_;rintro _ _ ⟨t,d,rfl,rfl⟩;exact W.r [] (zv t d) ⟨t,d,rfl,rfl⟩ (lq (ak _) (by simp;omega))
 ·have hn:=eJ hn;have e:IntKind.u64.wrap n=(n.toNat:Int):=by rw[u64_in _ (by omega)];omega
  refine aq [4] (CZ (IntKind.u64.wrap n) n.toNat e (by omega)) ?_;rintro _ _ ⟨u,rfl,rfl⟩;refine aq [] (rX u false) ?_;rintro _ _ ⟨t,d,rfl,rfl⟩;exact W.r [] (zv t d) ⟨t,d,rfl,rfl⟩ (lq (ak _) (by simp;omega))
theorem Bh(s:Sl)(b:Bool){x:Int} [aW (ZF s b) (L,x) Γ]:aw tb Tryz.prog 257 [zv s b] Γ (fun v Δ=>v=mv s∧Δ=[NF s (L,x.natAbs)]):=by
 refine aw.of_W aB Tryz.func257 rfl ?_;exact W.r [] (mv s) ⟨rfl,rfl⟩ (Yu (d:=b) (ak _) rfl)
theorem ns(s:Sl)(b:Bool){x:Int} [aW (ZF s b) (L,x) Γ](hL:L≤1000000000000:=by omega):aw tb Tryz.prog 203 [zv s b] Γ (jq (.int .i64 x.sign)):=by
 refine aw.of_W aB Tryz.func203 rfl ?_;refine Ac s b rfl ?_;rintro rfl;refine W.d [] 3 (decide (x<0)) (fun hn=>?_) (fun hn=>?_)
 ·have hn:=jf hn;exact W.r [3] (.int .i64 (-1)) ⟨by rw[jK hn],rfl⟩ bT
 ·have hn:=eJ hn;refine aq [3] (Ph s) ?_;rintro _ _ ⟨rfl,rfl⟩;have hz:=Ru x.natAbs;refine W.d [] 6 (((bl x.natAbs:Nat):Int)==0) (fun h0=>?_) (fun h0=>?_)
  ·have h0:=eq_of_beq h0;have:x=0:=by omega
   exact W.r [6] (.int .i64 0) ⟨by rw[this];rfl,rfl⟩ bT
  ·have h0:=kB h0;exact W.r [6] (.int .i64 1) ⟨by rw[fV (by omega)],rfl⟩ bT
theorem pI(s:Sl)(b:Bool)(t:Sl)(c:Bool){x y:Int} [aW (ZF s b) (L,x) Γ] [aW (ZF t c) (M,y) Γ](hL:L≤1000000000000:=by omega)(hM:M≤1000000000000:=by omega):
  aw tb Tryz.prog 139 [zv s b,zv t c] Γ (jq (.int .i64 (nI x y))):=by
 refine aw.of_W aB Tryz.func139 rfl ?_;refine Ac s b rfl ?_;rintro rfl;refine Ac t c rfl ?_;rintro rfl;by_cases hx:x<0<;>by_cases hy:y<0
 ·refine aQ [] 5 (!(decide (x<0)==decide (y<0))) (by simp[hx,hy]) ?_;refine bj [5] 13 (decide (x<0)) (by simp[hx]) ?_;refine aq [13] (Pm t s) ?_;rintro _ _ ⟨rfl,rfl⟩;exact W.r [] (.int .i64 (mV y.natAbs x.natAbs)) ⟨by rw[H5 hx hy],rfl⟩ bT
 ·refine bj [] 5 (!(decide (x<0)==decide (y<0))) (by simp[hx,hy]) ?_;refine bj [5] 12 (decide (x<0)) (by simp[hx]) ?_;exact W.r [12] (.int .i64 (-1)) ⟨by unfold nI;rw[if_pos (by omega)],rfl⟩ bT
 ·refine bj [] 5 (!(decide (x<0)==decide (y<0))) (by simp[hx,hy]) ?_;refine aQ [5] 12 (decide (x<0)) (by simp[hx]) ?_;exact W.r [12] (.int .i64 1) ⟨by unfold nI;rw[if_neg (by omega),if_neg (by omega)],rfl⟩ bT
 ·refine aQ [] 5 (!(decide (x<0)==decide (y<0))) (by simp[hx,hy]) ?_;refine aQ [5] 13 (decide (x<0)) (by simp[hx]) ?_;refine aq [13] (Pm s t) ?_;rintro _ _ ⟨rfl,rfl⟩;exact W.r [] (.int .i64 (mV x.natAbs y.natAbs)) ⟨by rw[Al (by omega) (by omega)],rfl⟩ bT
theorem r_(s:Sl)(b:Bool){x:Int} [aW (ZF s b) (L,x) Γ](hL:L≤1000000000000:=by omega):aw tb Tryz.prog 243 [zv s b] Γ (o0 L (-x)):=by
 refine aw.of_W aB Tryz.func243 rfl ?_;refine Ac s b rfl ?_;rintro rfl;refine aq [] (rX s (!decide (x<0))) ?_;rintro _ _ ⟨u,d,rfl,rfl⟩;refine W.r [] (zv u d) ⟨u,d,rfl,rfl⟩ (lq (ak _) ?_);by_cases hx:x<0<;>simp[hx]<;>omega
theorem mu(s:Sl)(b:Bool)(t:Sl)(c:Bool){x y:Int} [aW (ZF s b) (L,x) Γ] [aW (ZF t c) (M,y) Γ](hL:L≤1000000000:=by omega)(hM:M≤1000000000:=by omega):
  aw tb Tryz.prog 200 [zv s b,zv t c] Γ (o0 (max L M+1) (x+y)):=by
 refine aw.of_W aB Tryz.func200 rfl ?_;refine Ac s b rfl ?_;rintro rfl;refine Ac t c rfl ?_;rintro rfl;refine W.d [] 13 (decide (x<0)==decide (y<0)) (fun hb=>?_) (fun hb=>?_)
 ·have hb:=eq_of_beq hb;rw[rJ]at hb;refine aq [13] (ZB s t) ?_;rintro _ _ ⟨u,rfl,rfl⟩;refine aq [] (rX u (decide (x<0))) ?_;rintro _ _ ⟨u2,d2,rfl,rfl⟩;refine W.r [] (zv u2 d2) ⟨u2,d2,rfl,rfl⟩ (lq (ak _) ?_);by_cases hx:x<0<;>simp[hx]<;>omega
 ·have hb:=kB hb;rw[ne_eq,rJ]at hb;rcases iM x.natAbs y.natAbs with hxy|hxy
  ·refine aq [13] (PH s t hxy) ?_;rintro _ _ ⟨rfl,rfl⟩;refine aq [31] (GP t s (fW hxy)) ?_;rintro _ _ ⟨u,rfl,rfl⟩;refine aq [] (rX u (decide (y<0))) ?_;rintro _ _ ⟨u2,d2,rfl,rfl⟩;refine W.r [] (zv u2 d2) ⟨u2,d2,rfl,rfl⟩ (lq (by omega) ?_);by_cases hx:x<0<;>by_cases hy:y<0<;>simp[hy]<;>omega
  ·refine aq [13] (GP s t hxy) ?_;rintro _ _ ⟨u,rfl,rfl⟩;refine aq [31] (rX u (decide (x<0))) ?_;rintro _ _ ⟨u2,d2,rfl,rfl⟩;refine W.r [] (zv u2 d2) ⟨u2,d2,rfl,rfl⟩ (lq (by omega) ?_);by_cases hx:x<0<;>by_cases hy:y<0<;>simp[hx]<;>omega
theorem IS(s:Sl)(b:Bool)(t:Sl)(c:Bool){x y:Int} [aW (ZF s b) (L,x) Γ] [aW (ZF t c) (M,y) Γ](hL:L≤1000000000:=by omega)(hM:M≤1000000000:=by omega):
  aw tb Tryz.prog 201 [zv s b,zv t c] Γ (o0 (max L M+1) (x-y)):=by
 refine aw.of_W aB Tryz.func201 rfl ?_;refine aq [] (r_ t c) ?_;rintro _ _ ⟨u,d,rfl,rfl⟩;refine aq [] (mu s b u d) ?_;rintro _ _ ⟨u2,d2,rfl,rfl⟩;exact W.r [] (zv u2 d2) ⟨u2,d2,rfl,rfl⟩ (lq (ak _) (by omega))
theorem mw(s:Sl)(b:Bool)(t:Sl)(c:Bool){x y:Int} [aW (ZF s b) (L,x) Γ] [aW (ZF t c) (M,y) Γ](hL:L≤1000000000:=by omega)(hM:M≤1000000000:=by omega):
  aw tb Tryz.prog 198 [zv s b,zv t c] Γ (o0 (L+M) (x*y)):=by
 refine aw.of_W aB Tryz.func198 rfl ?_;refine Ac s b rfl ?_;rintro rfl;refine Ac t c rfl ?_;rintro rfl;refine aq [] (Pr s t) ?_;rintro _ _ ⟨u,rfl,rfl⟩;refine aq [] (rX u (!(decide (x<0)==decide (y<0)))) ?_;rintro _ _ ⟨u2,d2,rfl,rfl⟩;refine W.r [] (zv u2 d2) ⟨u2,d2,rfl,rfl⟩ (lq (ak _) ?_);rw[dP];by_cases hx:x<0<;>by_cases hy:y<0<;>simp only[hx,hy,decide_true,decide_false,beq_self_eq_true,Bool.not_true,cI,bV]
 ·rw[show((x.natAbs:Nat):Int)= -x by omega,show((y.natAbs:Nat):Int)= -y by omega,s8]
 ·rw[show((x.natAbs:Nat):Int)= -x by omega,show((y.natAbs:Nat):Int)=y by omega];simp[Int.neg_mul]
 ·rw[show((x.natAbs:Nat):Int)=x by omega,show((y.natAbs:Nat):Int)= -y by omega];simp[Int.mul_neg]
 ·rw[show((x.natAbs:Nat):Int)=x by omega,show((y.natAbs:Nat):Int)=y by omega]
theorem i_(s:Sl)(b:Bool)(t:Sl)(c:Bool){x y:Int} [aW (ZF s b) (L,x) Γ] [aW (ZF t c) (M,y) Γ](hy:y≠0)(hL:L≤1000000000:=by omega)(hM:M≤1000000000:=by omega):
  aw tb Tryz.prog 135 [zv s b,zv t c] Γ (fun v Δ=>∃(u:Sl) (d:Bool) (u':Sl) (d':Bool),v=.tuple #[zv u d,zv u' d',.int .i64 0]∧Δ=[ZF u d (max L 2+1,x/y),ZF u' d' (max L M+1,x % y)]):=by
 refine aw.of_W aB Tryz.func135 rfl ?_;refine Ac s b rfl ?_;rintro rfl;refine Ac t c rfl ?_;rintro rfl;refine aq [] (ZC s t (by omega)) ?_;rintro _ _ ⟨q,r,rfl,rfl⟩;refine aq [22] (rX q (!(decide (x<0)==decide (y<0)))) ?_;rintro _ _ ⟨u2,d2,rfl,rfl⟩;refine aq [] (Kb r (decide (x<0))) ?_;rintro _ _ ⟨u3,d3,rfl,hd3,rfl⟩;by_cases hx:x<0
 ·by_cases hr:x.natAbs % y.natAbs=0
  ·obtain⟨e1,e2⟩:=Au hx hy hr;refine aQ [] 38 d3 (by rw[hd3];simp[hx,hr]) ?_;refine W.r [38] (.tuple #[zv u2 d2,zv u3 d3,.int .i64 0]) ⟨u2,d2,u3,d3,rfl,rfl⟩ (mh (lq (by omega) ?_) (lq (by omega) ?_))
   ·rw[e1];by_cases hyn:y<0<;>simp[hx,hyn]
   ·rw[e2];simp[hr]
  ·obtain⟨e1,e2⟩:=BS hx hy hr;refine bj [] 38 d3 (by rw[hd3];simp[hx]<;>omega) ?_;refine aq [38] (vY t) ?_;rintro _ _ ⟨u4,d4,rfl,rfl⟩;refine aq [] (mu u3 d3 u4 d4) ?_;rintro _ _ ⟨u5,d5,rfl,rfl⟩;by_cases hyn:y<0
   ·refine bj [] 45 (decide (y<0)) (by simp[hyn]) ?_;refine aq [45] (cU 1 (by omega) (by omega)) ?_;rintro _ _ ⟨u6,d6,rfl,rfl⟩;refine aq [] (mu u2 d2 u6 d6) ?_;rintro _ _ ⟨u7,d7,rfl,rfl⟩;refine W.r [] (.tuple #[zv u7 d7,zv u5 d5,.int .i64 0]) ⟨u7,d7,u5,d5,rfl,rfl⟩ (mh (lq (by omega) ?_) (lq (by omega) ?_))
    ·rw[e1];simp[hx,hyn]
    ·rw[e2];simp[hx];omega
   ·refine aQ [] 45 (decide (y<0)) (by simp[hyn]) ?_;refine aq [45] (cU 1 (by omega) (by omega)) ?_;rintro _ _ ⟨u6,d6,rfl,rfl⟩;refine aq [] (IS u2 d2 u6 d6) ?_;rintro _ _ ⟨u7,d7,rfl,rfl⟩;refine W.r [] (.tuple #[zv u7 d7,zv u5 d5,.int .i64 0]) ⟨u7,d7,u5,d5,rfl,rfl⟩ (mh (lq (by omega) ?_) (lq (by omega) ?_))
    ·rw[e1];simp[hx,hyn]
    ·rw[e2];simp[hx];omega
 ·obtain⟨e1,e2⟩:=BU (a:=x) (b:=y) (by omega) hy;refine aQ [] 38 d3 (by rw[hd3];simp[hx]<;>omega) ?_;refine W.r [38] (.tuple #[zv u2 d2,zv u3 d3,.int .i64 0]) ⟨u2,d2,u3,d3,rfl,rfl⟩ (mh (lq (by omega) ?_) (lq (by omega) ?_))
  ·rw[e1];by_cases hyn:y<0<;>simp[hx,hyn]
  ·rw[e2];simp[hx]
end
section
variable{fin:VS→List aD→Prop}{Γ:List aD}{L M:Nat}
theorem zx{L':Nat}:∀(I:fQ) (w:World),br tb I w→aG Γ I w→aG [ZF ⟨none,0,0⟩ false (L',0)] I w:=fun I w _ _=>by
 obtain⟨h1,h2,h3⟩:=XR I w;exact aS ⟨⟨h1,h2,aP h3 (aJ _)⟩,rfl⟩
theorem zM{x:Int}:x.sign<0↔x<0:=by
 rcases Int.lt_trichotomy x 0 with h|h|h
 ·rw[jK h];omega
 ·subst h;simp
 ·rw[fV h];omega
theorem yj{x:Int}:x.sign=0↔x=0:=Int.sign_eq_zero_iff_zero
end
instance digsDec(l:List Nat):Decidable (Uz l):=inferInstanceAs (Decidable (∀d∈l,48≤d∧d≤57))
section
variable{fin:VS→List aD→Prop}{Γ:List aD}{L M:Nat}
end
section
variable{fin:VS→List aD→Prop}{Γ:List aD}{L M:Nat}
end
section
variable{fin:VS→List aD→Prop}{Γ:List aD}{L M:Nat}
def g_(x:Int):Bool:=decide (-9223372036854775808≤x)&&decide (x≤9223372036854775807)
theorem xh(s:Sl)(b:Bool){x:Int} [aW (ZF s b) (L,x) Γ](hL:L≤1000000000000:=by omega):aw tb Tryz.prog 136 [zv s b] Γ (jq (.tuple #[.int .i64 (if g_ x=true then x else 0),.bool (g_ x)])):=by
 refine aw.of_W aB Tryz.func136 rfl ?_;refine Ac s b rfl ?_;rintro rfl;by_cases hw:18446744073709551616≤x.natAbs
 ·have hs:g_ x=false:=by unfold g_;simp only[rq,aX];omega
  refine aq [] (IP s hw) ?_;rintro _ _ ⟨rfl,rfl⟩;exact W.r [12] (.tuple #[.int .i64 0,.bool false]) ⟨by rw[hs];rfl,rfl⟩ bT
 ·refine aq [] (Es s (by omega)) ?_;rintro _ _ ⟨rfl,rfl⟩;by_cases hx:x<0
  ·refine bj [12] 18 (decide (x<0)) (au hx) ?_;by_cases hb:x.natAbs≤9223372036854775808
   ·have hs:g_ x=true:=by unfold g_;simp only[aM,dp];omega
    refine bj [18] 15 (decide (((x.natAbs:Nat):Int)≤9223372036854775808)) (by rw[fM];omega) ?_;refine W.r [15] (.tuple #[.int .i64 (IntKind.i64.wrap (IntKind.i64.wrap (0-IntKind.i64.wrap (IntKind.u64.wrap (((x.natAbs:Nat):Int)-1)))-1)),.bool true]) ⟨?_,rfl⟩ bT;rw[hs,if_pos rfl,u64_in _ (by omega),i64_in (((x.natAbs:Nat):Int)-1) (by omega),i64_in (0-(((x.natAbs:Nat):Int)-1)) (by omega),i64_in _ (by omega)];rw[show(0:Int)-(((x.natAbs:Nat):Int)-1)-1=x by omega]
   ·have hs:g_ x=false:=by unfold g_;simp only[rq,aX];omega
    refine aQ [18] 15 (decide (((x.natAbs:Nat):Int)≤9223372036854775808)) (by rw[aX];omega) ?_;refine aQ [15] 31 (!decide (x<0)) (by simp[hx]) ?_;exact W.r [27,31] (.tuple #[.int .i64 0,.bool false]) ⟨by rw[hs];rfl,rfl⟩ bT
  ·refine aQ [12] 18 (decide (x<0)) (aj hx) ?_;refine bj [15,18] 31 (!decide (x<0)) (by simp[hx]) ?_;by_cases hb:x.natAbs<9223372036854775808
   ·have hs:g_ x=true:=by unfold g_;simp only[aM,dp];omega
    refine bj [31] 27 (decide (((x.natAbs:Nat):Int)<9223372036854775808)) (by rw[fM];omega) ?_;refine W.r [27] (.tuple #[.int .i64 (IntKind.i64.wrap ((x.natAbs:Nat):Int)),.bool true]) ⟨?_,rfl⟩ bT;rw[hs,if_pos rfl,i64_in _ (by omega),show((x.natAbs:Nat):Int)=x by omega]
   ·have hs:g_ x=false:=by unfold g_;simp only[rq,aX];omega
    refine aQ [31] 27 (decide (((x.natAbs:Nat):Int)<9223372036854775808)) (by rw[aX];omega) ?_;exact W.r [27] (.tuple #[.int .i64 0,.bool false]) ⟨by rw[hs];rfl,rfl⟩ bT
theorem DN{x y:Int}:nI x y=0↔x=y:=by unfold nI;(repeat' split)<;>omega
end
section
variable{fin:VS→List aD→Prop}{Γ:List aD}{L M:Nat}
end
open Go.ChangeShapes Go.WideShapes Go.ChangeAt Go.RowKit
theorem OH{H:Type}{enc:TypeId×Value→H}{P:Program}{f:Func}{s:ChangeSpec}{W W':World}{args:Array Value}{v:Value}{ds:List (DataW H)}{mU:List MemPlace}
  (hW:DataW.Whole enc P f.params.toList s.vars false W args.toList ds [] mU)(hvs:s.vars=[])
  (hres:∀(b:Nat) (sp:Nat→Bool) (hd:Bool),DataW.TrodAll enc P W' b sp hd f.resultTypes.toList (v.resultList f.resultTypes.size) (s.fn H (ds++[])).results [])
  (hargs:∀sp:Nat→Bool,(∀p∈mU,sp p.block=true)→DataW.TrodAll enc P W' 0 sp true f.params.toList args.toList (s.fn H (ds++[])).args mU)
  (hv0:(s.fn H (ds++[])).vars=[])(hb:Below W.heap.size W W'):
  s.post enc P f false true false false W args v W':=by
 have hin:∀p∈mU,decide (p.block<W.heap.size)=true:=fun p hp=>au (hW.lt p hp);have hvars:∀sp:Nat→Bool,DataW.TrodVars enc P W' sp s.vars (s.fn H (ds++[])).vars []:=fun sp=>by
  rw[hvs,hv0];rfl
 have hkeep:W.keptBut W' (fun p=>p∈mU∧(p∈([]:List MemPlace)∨p∈mU∨p∈([]:List MemPlace))):=
  World.keptBut_mono (fun p hp=>⟨hp,.inr (.inl hp)⟩) (hb.frame (· ∈mU))
 refine⟨ds,[],mU,[],mU,[],hW,hres _ _ _,hargs _ hin,hvars _,hkeep,fun h=>absurd h (by simp)⟩
def RA(ao:Option Addr)(xs:List Value):aD where
 p I w:=xs≠ []→∃b off,ao=some ⟨b,off,none⟩∧I b∧∀(i:Nat) (v:Value),xs[i]? =some v→w.cell? ⟨b,off+i,none⟩=some v
 up:=by
  intro I I' w w' hb h1 h2 h3 hne;obtain⟨b,off,ha,hI,hr⟩:=hb hne;have hlt:b<w.heap.size:=by
   obtain⟨v,r,rfl⟩:=List.exists_cons_of_ne_nil hne;have h0:=hr 0 v rfl;unfold World.cell? at h0;split at h0
   ·rename_i cs e f hc;exact cu hc
   ·simp at h0
  refine⟨b,off,ha,h1 b hlt hI,fun i v hv=>?_⟩;have:=hr i v hv;unfold World.cell? at this⊢;simp only at this⊢;rw[h2 b hlt hI];exact this
theorem RA.nil(ao:Option Addr)(I:fQ)(w:World):(RA ao []).p I w:=fun h=>absurd rfl h
theorem RA.of_row{b:Nat}{cs xs:List Value}{I:fQ}{w:World}(h:(ek b cs).p I w)(hx:∀(i:Nat) (v:Value),xs[i]? =some v→cs[i]? =some v):(RA (some ⟨b,0,none⟩) xs).p I w:=by
 obtain⟨hI,e,hc⟩:=h;exact fun _=>⟨b,0,rfl,hI,fun i v hv=>by rw[nH hc,bQ];exact hx i v hv⟩
theorem RA.cell{b off:Nat}{xs:List Value}{I:fQ}{w:World}(h:(RA (some ⟨b,off,none⟩) xs).p I w){i:Nat}{v:Value}(hv:xs[i]? =some v):w.cell? ⟨b,off+i,none⟩=some v:=by
 obtain⟨b',off',ha,_,hr⟩:=h (by rintro rfl;simp at hv);injection ha with ha;injection ha with e1 e2 _;subst e1;subst e2;exact hr i v hv
def VS.setOwn(s:VS)(O:List (Nat×List Value)):VS:=⟨s.tmps,s.boxes,O,s.maps⟩
section
variable{T:Tb}{P:Program}{fin:VS→List aD→Prop}{c:fG}{Γ:List aD}
theorem gV(D:List Nat){α:Type}(N:List Nat)(V:α→List (Nat×Value))(X:α→List (Nat×List Value))(O:α→List (Nat×List Value))(G:α→List aD)(inv:α→Prop)(μ:α→Nat)(a0:α)
  
  
  (i0:inv a0)(f0:∀I w,br T I w→aG Γ I w→aG (G a0) I w)
  (hr:∀(a:α) (R:VS→List aD→Prop),inv a→
   (∀(D':List Nat) (c':fG) (Γ':List aD) (a':α),og (aL T (bh T D' 999 c'))=some R→
    (oh (aL T (bh T D' 999 c'))).map (jv (aL T (bh T D 999 c)) N)=some ((((jv (aL T (bh T D 999 c)) N (nR (aL T (bh T D 999 c)))).puts (V a')).boxs (X a')).setOwn (O a'))→
    inv a'→μ a'<μ a→(∀I w,br T I w→aG Γ' I w→aG (G a') I w)→W T P fin c' Γ')→
   W T P fin ⟨(((jv (aL T (bh T D 999 c)) N (nR (aL T (bh T D 999 c)))).puts (V a)).boxs (X a)).setOwn (O a),.code (vW (aL T (bh T D 999 c)))::.again R::Gi (aL T (bh T D 999 c))⟩ (G a))(h:qJ (aL T (bh T D 999 c))=true:=by kernel_rfl)(h0:jv (aL T (bh T D 999 c)) N (nR (aL T (bh T D 999 c)))=(((jv (aL T (bh T D 999 c)) N (nR (aL T (bh T D 999 c)))).puts (V a0)).boxs (X a0)).setOwn (O a0):=by kernel_rfl):W T P fin c Γ:=by
 refine eD D 999 ?_;generalize bh T D 999 c=c1 at*;generalize he:aL T c1=e at*;cases e with
 |loop b c'=>
  generalize hst:jv (Ev.loop b c') N (nR (Ev.loop b c'))=S at*;have key:∀(m:Nat) (s:VS) (Γ':List aD),(∃a,jv (Ev.loop b c') N s=((S.puts (V a)).boxs (X a)).setOwn (O a)∧inv a∧μ a=m∧∀I w,br T I w→aG Γ' I w→aG (G a) I w)→
    W T P fin ⟨s,.code b::.again (fun s' Γ'=>∃m',m'<m∧∃a,jv (Ev.loop b c') N s'=((S.puts (V a)).boxs (X a)).setOwn (O a)∧inv a∧μ a=m'∧∀I w,br T I w→aG Γ' I w→aG (G a) I w)::c'.k⟩ Γ':=by
   rintro m s Γ' ⟨a,hs,hi,rfl,hf⟩;refine W.forget (jW N (ku b)) (jr b) rfl ?_;rw[show s.forget (jW N (ku b)) (jr b)=((S.puts (V a)).boxs (X a)).setOwn (O a)from hs];refine W.sub rfl hf ?_;refine hr a _ hi (fun D' c' Γ' a' hR hS hi' hl' hf'=>?_);refine eD D' 999 ?_;generalize bh T D' 999 c'=c2 at*;cases hv:aL T c2<;>rw[hv]at hR hS<;>simp[og,oh]at hR hS;subst hR;exact W.again hv ⟨μ a',hl',a',hS,hi',rfl,hf'⟩
  refine W.loop (fun m s Γ'=>∃a,jv (Ev.loop b c') N s=((S.puts (V a)).boxs (X a)).setOwn (O a)∧inv a∧μ a=m∧∀I w,br T I w→aG Γ' I w→aG (G a) I w) (μ a0) he ⟨a0,?_,i0,rfl,f0⟩ key;rw[←h0];exact hst
 |_=>simp[qJ]at h
theorem j2(D:List Nat)(n:Nat)
  (hk:W T P fin ⟨nR (aL T (bh T D 999 c)),.rnd n (vW (aL T (bh T D 999 c)))::Gi (aL T (bh T D 999 c))⟩ Γ)(h:qJ (aL T (bh T D 999 c))=true:=by kernel_rfl):W T P fin c Γ:=by
 refine eD D 999 ?_;generalize bh T D 999 c=c1 at*;generalize he:aL T c1=e at*;cases e with
 |loop b c'=>exact W.un n he hk
 |_=>simp[qJ]at h
end
theorem Iw{T:Tb}{P:Program}{f:FuncId}{args:List Value}{Γ:List aD}(h:aw T P f args Γ (fun v Δ=>v=.bool true∧Δ=[]))(w:World)(hh:aG Γ (fun _=>True) w):Calls P f args.toArray w fun e w'=>e=.returned (.bool true)∧Below w.heap.size w w':=by
 refine(h.2 (fun _=>True) w (fun _ _ _ _ _ _=>trivial) hh).mono ?_;rintro e w' ⟨v,Δ,rfl,⟨rfl,rfl⟩,hb,_⟩;exact⟨rfl,hb⟩
section
open Go.ChangeShapes Go.WideShapes
theorem vA{H:Type}{enc:TypeId×Value→H}{P:Program}(hl:laidOutB P=true){W W':World}(hb:Below W.heap.size W W'){sp:Nat→Bool}:
  ∀{ts:List TypeId} {vs:List Value} {ds:List (DataW H)} {ps:List MemPlace},(ts.all fun t=>P.readableRec t&&decide (t<P.types.size))=true→DataW.TrodAll enc P W 0 (fun _=>true) true ts vs ds ps→
   (∀x∈ps,x.block<W.heap.size)→(∀x∈ps,sp x.block=true)→DataW.TrodAll enc P W' 0 sp true ts vs ds ps
 | [],[],[],ps,_,h,_,_=>h
 |t::ts,v::vs,d::ds,ps,hr,h,hlt,hsp=>by
  obtain⟨p,q,h1,h2,rfl⟩:=h;simp only[List.all_cons,aM,dp]at hr;refine⟨p,q,?_,vA hl hb hr.2 h2 (fun x hx=>hlt x (ik _ hx)) (fun x hx=>hsp x (ik _ hx)),rfl⟩;exact WideElems.Trod_stays hl hr.1.1 hr.1.2 h1 (fun x hx=>hb.same (hlt x (gK _ hx))) (fun x hx=>hsp x (gK _ hx))
 | [],[],_::_,_,_,h,_,_=>h.elim
 | [],_::_,_,_,_,h,_,_=>by cases ‹List (DataW H)› <;>exact h.elim
 |_::_,[],_,_,_,h,_,_=>by cases ‹List (DataW H)› <;>exact h.elim
 |_::_,_::_,[],_,_,h,_,_=>h.elim
end
structure kG(α:Type) where
 z:Nat
 cells:α→List Value
 len:∀e,(cells e).length=z
 fact:Nat→α→aD
def OL{α:Type}(R:kG α)(ao:Option Addr)(a:Nat×List α):aD where
 p I w:=(∀e∈a.2,(R.fact a.1 e).p I w)∧(RA ao (a.2.flatMap R.cells)).p I w
 up:=by
  rintro I I' w w' ⟨h,hb⟩ h1 h2 h3;exact⟨fun e he=>(R.fact a.1 e).up (h e he) h1 h2 h3,(RA ao _).up hb h1 h2 h3⟩
def OS{α:Type}(R:kG α)(a:Nat×List α):aD where
 p I w:=∀e∈a.2,(R.fact a.1 e).p I w
 up:=by
  rintro I I' w w' h h1 h2 h3;exact fun e he=>(R.fact a.1 e).up (h e he) h1 h2 h3
theorem qy{α:Type}(R:kG α):∀l:List α,(l.flatMap R.cells).length=l.length*R.z
 | []=>by simp
 |e::r=>by rw[bz,aA,R.len,qy R r,aC,dM];omega
theorem EF{α:Type}(R:kG α){l:List α}:∀{k:Nat} (h:k<l.length) (j:Nat) (v:Value),(R.cells (l[k]'h))[j]? =some v→(l.flatMap R.cells)[k*R.z+j]? =some v:=by
 induction l with
 |nil=>intro k h;simp at h
 |cons e r ih=>
  intro k h j v hv;cases k with
  |zero=>
   simp only[List.getElem_cons_zero]at hv;have hj:j<R.z:=by rw[←R.len e];exact(List.getElem?_eq_some_iff.1 hv).1
   rw[bz,cW (by rw[R.len];omega),show 0*R.z+j=j by omega];exact hv
  |succ k=>
   simp only[List.getElem_cons_succ]at hv;rw[bz,dZ (by rw[R.len,dM];omega),show(k+1)*R.z+j-(R.cells e).length=k*R.z+j by rw[R.len,dM];omega];exact ih (by simpa using h) j v hv
section
variable{T:Tb}{P:Program}{fin:VS→List aD→Prop}{c:fG}{Γ:List aD}
theorem aaG{α:Type}(R:kG α)(ao:Option Addr){L:Nat}{l:List α} [h:aW (OL R ao) (L,l) Γ](k:Nat)(hk:k<l.length)(hm:dD c.k=false)(hz:0<R.z)
  (hc:∀b off,ao=some ⟨b,off,none⟩→W T P fin c (R.fact L (l[k]'hk)::Γ)):W T P fin c Γ:=
 W.elim (α:=Nat×Nat) (fun b=>ao=some ⟨b.1,b.2,none⟩) (fun b=>[R.fact L (l[k]'hk)]) hm (fun I w _ hh=>by
  obtain⟨g1,g2⟩:=h.p hh;obtain⟨b,off,ha,_⟩:=g2 (by
   intro e;have:=qy R l;simp only at e;rw[e]at this;have h2:0<l.length*R.z:=hY (by omega) hz;simp at this;omega)
  exact⟨(b,off),ha,aS (g1 _ (dY hk))⟩) (fun b hb=>hc b.1 b.2 hb)
theorem Je{α:Type}(R:kG α)(b off:Nat){L:Nat}{l:List α} [h:aW (OL R (some ⟨b,off,none⟩)) (L,l) Γ](k:Nat)(hk:k<l.length):∀I w,br T I w→aG Γ I w→∀j v,(R.cells (l[k]'hk))[j]? =some v→w.cell? ⟨b,off+k*R.z+j,none⟩=some v:=fun I w _ hh j v hv=>by
 obtain⟨_,g2⟩:=h.p hh;rw[gU];exact RA.cell g2 (EF R hk j v hv)
theorem HH(ao:Option Addr){xs:List Value} [h:aW (RA ao) xs Γ](hm:dD c.k=false)(hne:xs≠ [])(hc:∀b off,ao=some ⟨b,off,none⟩→W T P fin c Γ):W T P fin c Γ:=
 W.elim (α:=Nat×Nat) (fun b=>ao=some ⟨b.1,b.2,none⟩) (fun b=>[]) hm (fun I w _ hh=>by
  obtain⟨b,off,ha,_⟩:=h.p hh hne;exact⟨(b,off),ha,aG.nil _ _⟩) (fun b hb=>hc b.1 b.2 hb)
theorem bX(b:Nat){cs:List Value} [h:aW (ek b) cs Γ](own:List (Nat×List Value))(m z:Nat)(hl:cs.length=m*z)(c:Nat):p5 T Γ own (.slice (some ⟨b,0,none⟩) m c) m z cs:=
 ⟨some ⟨b,0,none⟩,c,rfl,hl,fun _=>⟨⟨b,0,none⟩,rfl,fun I w _ hh _ j u hu=>by
  rw[gP,oU (h.p hh),bQ];exact hu⟩⟩
theorem xq(ao:Option Addr){xs:List Value} [h:aW (RA ao) xs Γ](own:List (Nat×List Value))(m z c:Nat)(hl:xs.length=m*z)(ha:0<m→∃b off,ao=some ⟨b,off,none⟩):p5 T Γ own (.slice ao m c) m z xs:=
 ⟨ao,c,rfl,hl,fun hm=>by
  obtain⟨b,off,rfl⟩:=ha hm;exact⟨⟨b,off,none⟩,rfl,fun I w _ hh _ j u hu=>by
   rw[gP];exact RA.cell (h.p hh) hu⟩⟩
theorem UP{s:VS}{k:List It}{z n:Nat}{O:List (Nat×List Value)}{v:Value}{xs:List Value}(hs:s.own=O)(hg:cF z O v n xs)(hm:dD k=false)
  (hk:∀ao c,v=.slice ao n c→W T P fin ⟨⟨s.tmps,s.boxes,[],s.maps⟩,k⟩ (RA ao xs::Γ)):W T P fin ⟨s,k⟩ Γ:=by
 obtain⟨hl,hg⟩:=hg;rcases hg with⟨rfl,rfl,rfl⟩|⟨g,cap,cur,rfl,rfl,hnc,hcm,hcs,htk⟩
 ·obtain rfl:xs=[]:=aN (by simpa using hl);obtain⟨tm,bx,ow⟩:=s;simp only at hs;subst hs;exact W.elim (α:=Unit) (fun _=>True) (fun _=>[RA none []]) hm (fun I w _ hh=>⟨(),trivial,aS (RA.nil _ _ _)⟩) (fun _ _=>hk none 0 rfl)
 ·refine W.pub (O1:=[]) (O2:=[]) (b:=g) (cs:=cur) hm hs ?_;refine W.elim (α:=Unit) (fun _=>True) (fun _=>[RA (some ⟨g,0,none⟩) xs]) hm (fun I w _ hh=>⟨(),trivial,aS (RA.of_row hh.h0' fun i v hv=>?_)⟩) (fun _ _=>?_)
  ·rw[←htk,dF]at hv;split at hv
   ·exact hv
   ·simp at hv
  ·refine W.sub hm (fun I w _ hh=>?_) (hk _ _ rfl);exact aG.cons hh.h0' (fun F hF=>hh F (by simp[hF]))
end
end Go.Proofs.YtgaaopjagcaojaaGreat
