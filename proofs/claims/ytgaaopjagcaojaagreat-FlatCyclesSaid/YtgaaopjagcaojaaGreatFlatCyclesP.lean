/- A library in which a cell refers to a new one that refers back has a cycle, and one in which a cell refers to one that is not there has lost it, whenever the Go function FlatCycles is called. -/
import Derived.Test.YtgaaopjagcaojaaGreatBf
import Derived.Test.YtgaaopjagcaojaaGreatLk
import Derived.Deep.SlicePairs
import Derived.SizedLaws
import Derived.Test.YtgaaopjagcaojaaGreatRows
import Derived.JoinedOf
import Derived.ProofKit
import Derived.Test.YtgaaopjagcaojaaGreatVy
import Derived.Test.YtgaaopjagcaojaaGreatVk
set_option linter.unusedSimpArgs false
set_option linter.unusedVariables false
set_option maxHeartbeats 4000000
namespace Go.Proofs.YtgaaopjagcaojaaGreat
open Go.RowKit Go.IntWalk
theorem pM:∀{ks:List Int} {l x m:List Re},dj ks l=some (x,m)→(ks.filter (fun k=>decide (k<256))).length≤x.length
 | [],l,x,m,h=>aJ _
 |k::ks,l,x,m,h=>by
  unfold dj at h;split at h
  ·split at h
   ·split at h
    ·rename_i rs m' hp;simp only[ar,aH]at h;obtain⟨rfl,rfl⟩:=h;have:=pM hp;have h2:((k::ks).filter (fun k=>decide (k<256))).length≤(ks.filter (fun k=>decide (k<256))).length+1:=by
      rw[List.filter_cons];split<;>simp
     simp only[aC];omega
    ·simp at h
   ·simp at h
  ·rename_i hk;have:=pM h;rw[List.filter_cons,if_neg (by simp;omega)];exact this
theorem K9{h:List Re}(hc:iK h):2≤h.length:=pM hc
theorem CE{h:List Re}(hc:Ii h):4≤h.length:=by
 obtain⟨a,b,m1,h1,h2,rfl⟩:=lL hc;obtain⟨c,d,m2,h3,h4,rfl⟩:=lL h2;have e1:3≤a.length:=pM h1;have e2:1≤d.length:=pM h4;simp only[aA];omega
theorem Lh(x:Im):(fH x).length=JN x:=by
 unfold fH JN;simp only[aA,aC,a_];omega
theorem AP{α β:Type}{f:α→List β}{g:α→Nat}(h:∀a,(f a).length=g a):∀l:List α,(l.flatMap f).length=(l.map g).sum
 | []=>rfl
 |a::l=>by
  rw[bz,aA,h,AP h l,bY,ec]
theorem Ia(c:Ce):(fS c).length=DL c:=by
 unfold fS DL;rw[aA,aA,AP Lh];simp only[aC,a_];omega
theorem At(t:Li):(g9 t).length=rN t+1:=by
 unfold g9 rN;rw[aA,aA,AP Ia];simp only[aC,a_];omega
theorem wL{b:Nat}:∀{l:List Nat} {a:Nat},a≤b→(∀x∈l,x≤b)→l.foldl max a≤b
 | [],a,ha,_=>ha
 |y::l,a,ha,h=>wL (l:=l) (by have:=h y (by simp);omega) (fun x hx=>h x (by simp[hx]))
theorem I7{α:Type}{f:α→Nat}:∀{l:List α} {x:α},x∈l→f x≤(l.map f).sum
 |y::l,x,h=>by
  simp only[aF]at h;rw[bY,ec];rcases h with rfl|h
  ·omega
  ·have:=I7 (f:=f) h;omega
theorem Dm{α:Type}{f:Nat→Nat}{g:α→Nat}:∀(l:List α) (k:Nat),(∀i x,l[i]? =some x→f (k+i)≤g x)→((List.range' k l.length).map f).sum≤(l.map g).sum
 | [],k,_=>by simp
 |x::l,k,h=>by
  rw[aC,List.range'_succ,bY,ec,bY,ec];have h1:=h 0 x rfl;have h2:=Dm l (k+1) (fun i y hy=>by
   have:=h (i+1) y (by simpa using hy);rw[show k+1+i=k+(i+1)by omega];exact this)
  simp only[ff]at h1;omega
theorem Xo{t:List Ce}{i:Nat}{c:Ce}(hc:t[i]? =some c){b:Nat}(h:∀x∈c.i,wI x≤b):wC t i≤b:=by
 unfold wC;rw[pt hc];exact wL (aJ _) (fun y hy=>by
  obtain⟨x,hx,rfl⟩:=List.mem_map.1 hy;exact h x hx)
theorem KD{t:List Ce}{g:Ce→Nat}(h:∀c∈t,∀x∈c.i,wI x≤g c):xw t≤(t.map g).sum:=by
 unfold xw;rw[List.range_eq_range'];refine Dm t 0 (fun i c hc=>?_);rw[bQ];exact Xo hc (h c (aK hc))
theorem Cr{c:Ce}(hc:tx c){x:Im}(hx:x∈c.i):wI x≤DL c:=by
 have h1:=K9 hc.1;have h2:=I7 (f:=JN) hx;unfold DL wI;have e:JN x=1+x.f.length+x.p.length:=rfl;omega
theorem NK{t:Li}(h:rN t<150):(g9 t).length≤150:=by
 rw[At];omega
theorem NJ{t:Li}(h:rN t<150)(hv:jo t=true):xw t.c≤145:=by
 obtain⟨h1,h2⟩:=gp.1 hv;have h3:=CE h1;have h4:=KD (t:=t.c) (g:=DL) (fun c hc x hx=>Cr (h2 c hc) hx);unfold rN at h;omega
def mK:ByteArray:=⟨#[110,101,119,95,111,110,101]⟩
theorem BX{l:List Int}(h:l.all jQ=true):kW l:=fun z hz=>by
 have:=List.all_eq_true.1 h z hz;unfold jQ at this;simp only[eu,aM,dp,jM]at this;omega
theorem I8{b:List Int}(h:fk ⟨6,6,b⟩=true):jH (strOfNums (fI b))=b:=by
 rw[ui (s:=⟨6,2,1,16⟩) (by rfl)]at h;simp only[aM,jM,dp]at h;obtain⟨_,h1,h2,_,h3⟩:=h;rw[if_neg (by decide),if_pos (by decide)]at h3;have hb:=BX h3;unfold jH;rw[←qW,Fk hb];unfold fI at h3⊢;split
 ·rename_i hl;have hn:b≠ []:=by rintro rfl;simp at hl
  have hp:=List.length_pos_iff.2 hn;rw[if_pos hl]at h3;rw[if_neg (by rw[sQ];omega)];have h5:=List.dropLast_concat_getLast hn;rw[List.getLast?_eq_some_getLast hn]at hl;injection hl with hl;rw[hl]at h5;exact h5
 ·rw[if_pos (by omega)]
theorem ID{b:List Int}(h:fk ⟨6,6,b⟩=true):fk ⟨18,6,b⟩=true:=by
 rw[ui (s:=⟨6,2,1,16⟩) (by rfl)]at h⊢;exact h
theorem CF{h:List Re}(hc:iK h):∃b,fk ⟨6,6,b⟩=true∧(h.find? (fun r=>r.k==6))=some ⟨6,6,b⟩:=by
 unfold iK at hc;obtain⟨r,x,rfl,hk,hr⟩:=nf (by decide) hc;rw[cT]at hc;have hs:dj [6,308] (x++[gx 7])=some (x,[gx 7]):=by
  have h1:dj (5::[6,308]) (r::(x++[gx 7]))=(match dj [6,308] (x++[gx 7])with
    |some (rs,m')=>some (r::rs,m')
    |none=>none):=by
   show(if(5:Int)<256∨_ then _ else _)=_;rw[if_pos (.inl (by decide))];rw[show gE (5 % 256) (r::(x++[gx 7]))=some (r,x++[gx 7])by unfold gE;exact if_pos ⟨hk,hr⟩];rfl
  rw[h1]at hc;cases hp:dj [6,308] (x++[gx 7])with
  |none=>rw[hp]at hc;simp at hc
  |some q=>
   obtain⟨rs,m⟩:=q;rw[hp]at hc;simp only[ar,aH,jh,true_and]at hc;rw[hc.1,hc.2]
 obtain⟨r2,x2,rfl,hk2,hr2⟩:=nf (by decide) hs;obtain⟨k2,d2,b2⟩:=r2;simp only at hk2;subst hk2;have hd:d2=6:=by
  have:=hr2;rw[ui (s:=⟨6,2,1,16⟩) (by rfl)]at this;simp only[aM,jM]at this;exact this.1
 subst hd;refine⟨b2,hr2,?_⟩;rw[List.find?_cons_of_neg (by rw[hk];decide)];rfl
theorem CV{c:Ce}(hc:iK c.h):fk ⟨18,6,jH (jG c)⟩=true∧fI (jH (jG c))=oy c:=by
 obtain⟨b,h1,h2⟩:=CF hc;have e:oy c=fI b:=by unfold oy;rw[h2]
 unfold jG;rw[e,I8 h1];exact⟨ID h1,rfl⟩
theorem Qb{s:ByteArray}{x y:Int}(h:fk ⟨18,6,jH s⟩=true):jw (fY s x y):=by
 have e:∀r:Re,r=⟨18,6,jH s⟩→ez [⟨10,0,[]⟩,r,⟨16,3,[x,y].flatMap lB⟩,gx 17]=some ([⟨10,0,[]⟩,r,⟨16,3,[x,y].flatMap lB⟩],[gx 17]):=fun r hr=>by
  have hk:r.k=18:=by rw[hr]
  have hrr:fk r=true:=by rw[hr];exact h
  have p1:dj [18] [r,⟨16,3,[x,y].flatMap lB⟩,gx 17]=some ([r],[⟨16,3,[x,y].flatMap lB⟩,gx 17]):=by
   show(if(18:Int)<256∨_ then _ else _)=_;rw[if_pos (.inl (by decide))];unfold gE;simp only;rw[if_pos ⟨hk,hrr⟩];rfl
  show fF (dj [10,294,303]) (gD 10) [⟨10,0,[]⟩,r,⟨16,3,[x,y].flatMap lB⟩,gx 17]=_;unfold fF;have s1:dK (294 % 256) [r,⟨16,3,[x,y].flatMap lB⟩,gx 17]=false:=by show(r.k==_)=false;rw[hk];rfl
  have s2:dK (303 % 256) [r,⟨16,3,[x,y].flatMap lB⟩,gx 17]=false:=by show(r.k==_)=false;rw[hk];rfl
  have p0:dj [10,294,303] [⟨10,0,[]⟩,r,⟨16,3,[x,y].flatMap lB⟩,gx 17]=some ([⟨10,0,[]⟩],[r,⟨16,3,[x,y].flatMap lB⟩,gx 17]):=by
   have q1:dj [294,303] [r,⟨16,3,[x,y].flatMap lB⟩,gx 17]=some ([],[r,⟨16,3,[x,y].flatMap lB⟩,gx 17]):=by
    show(if(294:Int)<256∨dK (294 % 256) _=true then _ else dj [303] _)=_;rw[if_neg (by rw[s1];simp)];show(if(303:Int)<256∨dK (303 % 256) _=true then _ else dj [] _)=_;rw[if_neg (by rw[s2];simp)];rfl
   show(if(10:Int)<256∨_ then _ else _)=_;rw[if_pos (.inl (by decide)),show gE (10 % 256) [⟨10,0,[]⟩,r,⟨16,3,[x,y].flatMap lB⟩,gx 17]=some (⟨10,0,[]⟩,[r,⟨16,3,[x,y].flatMap lB⟩,gx 17])by kernel_rfl];simp only;rw[q1]
  rw[p0];simp only;have pb:gD 10 [r,⟨16,3,[x,y].flatMap lB⟩,gx 17]=some ([r,⟨16,3,[x,y].flatMap lB⟩],[gx 17]):=by
   rw[show gD 10=fF (dj [18]) (fF jA (dj [16]))by rfl];unfold fF;rw[p1];simp only;rw[show jA [⟨16,3,[x,y].flatMap lB⟩,gx 17]=some ([],[⟨16,3,[x,y].flatMap lB⟩,gx 17])by kernel_rfl];simp only;rw[show dj [16] [⟨16,3,[x,y].flatMap lB⟩,gx 17]=some ([⟨16,3,[x,y].flatMap lB⟩],[gx 17])by kernel_rfl];rfl
  rw[pb];rfl
 refine⟨by kernel_rfl,?_⟩;have:=e _ rfl;unfold fT;show(match ez [⟨10,0,[]⟩,⟨18,6,jH s⟩,⟨16,3,[x,y].flatMap lB⟩,gx 17]with|some (f,m)=>_|none=>none)=_;rw[this];rfl
theorem Bv(s:ByteArray)(x y:Int):jj (fY s x y)=some (fI (jH s)):=by
 unfold jj;rw[show dW (fY s x y) 18=some ⟨18,6,jH s⟩by kernel_rfl];rfl
theorem Gw:strOfNums (fI (jH mK))=mK:=by kernel_rfl
theorem Gv(l:List Im):jG (jN mK l)=mK∧iK (DW mK):=⟨by kernel_rfl,show dj [5,6,308] (DW mK++[gx 7])=some (DW mK,[gx 7])from by kernel_rfl⟩
def nE(c:Ce)(x:Im):Ce:=⟨c.h,c.i++[x]⟩
theorem KR(c:Ce)(x:Im):jG (nE c x)=jG c:=rfl
theorem AI{s:ByteArray}:∀{a b:List Ce} {i:Nat},a.map jG=b.map jG→j4 s a i=j4 s b i
 | [],[],i,_=>rfl
 | [],d::b,i,h=>by simp at h
 |c::a,[],i,h=>by simp at h
 |c::a,d::b,i,h=>by
  simp only[bY,jh]at h;unfold j4;rw[h.1,AI h.2]
theorem AH(s:ByteArray)(c:Ce)(r:List Ce)(i:Nat):j4 s (c::r) i=if s=jG c then some i else j4 s r (i+1):=rfl
theorem CJ{s:ByteArray}(b:List Ce):∀{a:List Ce} {i:Nat},j4 s (a++b) i=match j4 s a i with
  |some k=>some k
  |none=>j4 s b (i+a.length)
 | [],i=>rfl
 |c::a,i=>by
  rw[cT,AH,AH];split
  ·rfl
  ·rw[CJ b,aC,show i+1+a.length=i+(a.length+1)by omega]
theorem vU{s:ByteArray}:∀{a:List Ce} {i:Nat},(∀c∈a,jG c≠s)→j4 s a i=none
 | [],i,_=>rfl
 |c::a,i,h=>by
  unfold j4;rw[if_neg (fun e=>h c (by simp) e.symm),vU fun d hd=>h d (by simp[hd])]
theorem yN{s:ByteArray}:∀{a:List Ce} {i k:Nat} {c:Ce},a[k]? =some c→jG c=s→(∀j d,j<k→a[j]? =some d→jG d≠s)→j4 s a i=some (i+k)
 | [],i,k,c,h,_,_=>by simp at h
 |d::a,i,0,c,h,hc,_=>by
  simp only[dO,ar]at h;subst h;unfold j4;rw[if_pos hc.symm];rfl
 |d::a,i,k+1,c,h,hc,hf=>by
  unfold j4;rw[if_neg (fun e=>hf 0 d (by omega) rfl e.symm),yN (k:=k) (by simpa using h) hc (fun j e hj he=>hf (j+1) e (by omega) (by simpa using he)),show i+1+k=i+(k+1)by omega]
section
variable{t:List Ce}{k:Nat}{c:Ce}
theorem Df(hk:t[k]? =some c)(x:Im):(t.set k (nE c x)).map jG=t.map jG:=by
 rw[List.map_set,KR];obtain⟨h1,h2⟩:=List.getElem?_eq_some_iff.1 hk;refine List.ext_getElem? fun i=>?_;rw[bA];split
 ·rename_i hi;subst hi;rw[if_pos (by simpa using h1),bK,hk];rfl
 ·rfl
theorem KA(hk:t[k]? =some c){x:Im}{d:Ce}(hd:d∈t.set k (nE c x)):d∈t∨d=nE c x:=List.mem_or_eq_of_mem_set hd
theorem Qh(hk:t[k]? =some c)(x:Im):(t.set k (nE c x))[k]? =some (nE c x):=List.getElem?_set_self (List.getElem?_eq_some_iff.1 hk).1
theorem OM(hk:t[k]? =some c)(hne:∀d∈t,jG d≠mK)(x y:Int):lost (t.set k (nE c (fY mK x y)))=true:=by
 refine List.any_eq_true.2 ⟨nE c (fY mK x y),aK (Qh hk _),List.any_eq_true.2 ⟨fY mK x y,by simp[nE],?_⟩⟩;unfold om;rw[Bv];simp only[oZ,dA,k7];rw[Gw];unfold kJ;rw[AI (Df hk (fY mK x y)),vU hne];rfl
def kH(t:List Ce)(k:Nat)(c:Ce):List Ce:=t.set k (nE c (fY mK 0 0))++[jN mK [fY (jG c) 1 1]]
theorem Ai(hk:t[k]? =some c)(hne:∀d∈t,jG d≠mK)(s:ByteArray):kJ (kH t k c) s=match kJ t s with
  |some j=>some j
  |none=>if s=mK then some t.length else none:=by
 unfold kH kJ;rw[CJ,AI (Df hk (fY mK 0 0))];cases j4 s t 0 with
 |some j=>rfl
 |none=>
  simp only;unfold j4;rw[(Gv [fY (jG c) 1 1]).1,dq,bQ];rfl
theorem M6(hk:t[k]? =some c)(hne:∀d∈t,jG d≠mK):kJ (kH t k c) mK=some t.length:=by
 rw[Ai hk hne];unfold kJ;rw[vU hne,if_pos rfl]
theorem U1(hk:t[k]? =some c)(hne:∀d∈t,jG d≠mK)(hf:∀j d,j<k→t[j]? =some d→jG d≠jG c)(hl:lost t=false)(hc:iK c.h):kJ (kH t k c) (jG c)=some k:=by
 rw[Ai hk hne];unfold kJ;rw[yN hk rfl hf,bQ]
theorem Fj(hk:t[k]? =some c)(hne:∀d∈t,jG d≠mK)(hf:∀j d,j<k→t[j]? =some d→jG d≠jG c)(hl:lost t=false)(hc:iK c.h):om (kH t k c) (fY (jG c) 1 1)=some k:=by
 unfold om;rw[Bv,(CV hc).2];exact U1 hk hne hf hl hc
theorem Fi(hk:t[k]? =some c)(hne:∀d∈t,jG d≠mK)(hf:∀j d,j<k→t[j]? =some d→jG d≠jG c)(hl:lost t=false)(hc:iK c.h):om (kH t k c) (fY mK 0 0)=some t.length:=by
 unfold om;rw[Bv];simp only[k7];rw[Gw];exact M6 hk hne
theorem Rt(hk:t[k]? =some c)(hne:∀d∈t,jG d≠mK)(hf:∀j d,j<k→t[j]? =some d→jG d≠jG c)(hl:lost t=false)(hc:iK c.h):(kH t k c)[k]? =some (nE c (fY mK 0 0)):=by
 have h1:=(List.getElem?_eq_some_iff.1 hk).1;unfold kH;rw[cW (by rw[dq];exact h1)];exact Qh hk _
theorem KX(hk:t[k]? =some c)(hne:∀d∈t,jG d≠mK)(hf:∀j d,j<k→t[j]? =some d→jG d≠jG c)(hl:lost t=false)(hc:iK c.h):(kH t k c)[t.length]? =some (jN mK [fY (jG c) 1 1]):=by
 unfold kH;rw[dZ (by rw[dq];exact ak _),dq,nA];rfl
theorem M5(hk:t[k]? =some c)(hne:∀d∈t,jG d≠mK)(hf:∀j d,j<k→t[j]? =some d→jG d≠jG c)(hl:lost t=false)(hc:iK c.h):(kH t k c).length=t.length+1:=by
 unfold kH;rw[aA,dq];rfl
theorem KY(hk:t[k]? =some c)(hne:∀d∈t,jG d≠mK)(hf:∀j d,j<k→t[j]? =some d→jG d≠jG c)(hl:lost t=false)(hc:iK c.h):lost (kH t k c)=false:=by
 refine Gj fun j x hx=>?_;unfold qp;rw[jd];intro y hy;have old:∀d∈t,y∈d.i→¬((jj y).isSome&&(om (kH t k c) y).isNone)=true:=fun d hd hyd=>by
  have h1:=hl;unfold lost at h1;rw[jd]at h1;have h2:=h1 d hd;unfold qp at h2;rw[Bool.not_eq_true,jd]at h2;have h3:=h2 y hyd;cases hn:jj y with
  |none=>simp
  |some s=>
   unfold om at h3⊢;rw[hn]at h3⊢;simp only[oZ,dA,k7]at h3⊢;rw[Ai hk hne];cases hi:kJ t (strOfNums s)with
   |none=>rw[hi]at h3;simp at h3
   |some j=>simp
 have hx':=aK hx;unfold kH at hx';rcases List.mem_append.1 hx' with h1|h1
 ·rcases KA hk h1 with h2|rfl
  ·exact old x h2 hy
  ·simp only[nE,dI,aF,aE,bL]at hy;rcases hy with hy|rfl
   ·exact old c (aK hk) hy
   ·rw[Fi hk hne hf hl hc];simp
 ·simp only[aF,aE,bL]at h1;subst h1;simp only[jN,aF,aE,bL]at hy;subst hy;rw[Fj hk hne hf hl hc];simp
theorem MZ(hk:t[k]? =some c)(hne:∀d∈t,jG d≠mK)(hf:∀j d,j<k→t[j]? =some d→jG d≠jG c)(hl:lost t=false)(hc:iK c.h):Ys (kH t k c):=by
 have h1:=(List.getElem?_eq_some_iff.1 hk).1;refine⟨k,by rw[M5 hk hne hf hl hc];omega,fun d=>JT (.more (b:=t.length) ?_ (.one ?_))⟩
 ·unfold fy;rw[pt (Rt hk hne hf hl hc)];exact List.mem_filterMap.2 ⟨fY mK 0 0,by simp[nE],Fi hk hne hf hl hc⟩
 ·unfold fy;rw[pt (KX hk hne hf hl hc)];exact List.mem_filterMap.2 ⟨fY (jG c) 1 1,by simp[jN],Fj hk hne hf hl hc⟩
end
theorem CB{u:Li}(hv:jo u=true)(h:lost u.c=true):qX u 200=.error 23:=by
 unfold qX;rw[if_neg (by omega),if_neg (by rw[hv];simp)];unfold vt;rw[if_pos h]
theorem NO{u:Li}(hv:jo u=true)(h:lost u.c=false)(hc:Ys u.c):qX u 200=.error 24:=by
 unfold qX;rw[if_neg (by omega),if_neg (by rw[hv];simp)];unfold vt;rw[if_neg (by rw[h];simp),if_pos hc]
theorem Ib{t:Li}(h:∀e,qX t 200=.error e→e≠20∧e≠23):jo t=true∧lost t.c=false:=by
 have hv:jo t=true:=by
  cases hv:jo t with
  |true=>rfl
  |false=>
   refine absurd rfl (h 20 ?_).1;unfold qX;rw[if_neg (by omega),if_pos hv]
 refine⟨hv,?_⟩;cases hl:lost t.c with
 |false=>rfl
 |true=>exact absurd rfl (h 23 (CB hv hl)).2
section
variable{t:Li}{k:Nat}{c:Ce}
theorem DX(hk:t.c[k]? =some c)(hv:jo t=true):iK c.h:=((gp.1 hv).2 c (aK hk)).1
theorem Dr(hk:t.c[k]? =some c)(hv:jo t=true):jo ⟨t.h,t.c.set k (nE c (fY mK 0 0))⟩=true:=gp.2 ⟨(gp.1 hv).1,fun d hd=>by
 rcases KA hk hd with h1|rfl
 ·exact(gp.1 hv).2 d h1
 ·refine⟨((gp.1 hv).2 c (aK hk)).1,fun y hy=>?_⟩;simp only[nE,dI,aF,aE,bL]at hy;rcases hy with hy|rfl
  ·exact((gp.1 hv).2 c (aK hk)).2 y hy
  ·exact Qb (by kernel_rfl)⟩
theorem Ja(hk:t.c[k]? =some c)(hv:jo t=true):jo ⟨t.h,kH t.c k c⟩=true:=gp.2 ⟨(gp.1 hv).1,fun d hd=>by
 have h0:=gp.1 (Dr hk hv);simp only[kH]at hd;rcases List.mem_append.1 hd with h1|h1
 ·exact h0.2 d h1
 ·simp only[aF,aE,bL]at h1;subst h1;refine⟨(Gv []).2,fun y hy=>?_⟩;simp only[jN,aF,aE,bL]at hy;subst hy;exact Qb (CV (DX hk hv)).1⟩
end
theorem KE{f:Ce→Nat}:∀{t:List Ce} {k:Nat} {c d:Ce} {a:Nat},t[k]? =some c→f d=f c+a→((t.set k d).map f).sum=(t.map f).sum+a
 | [],k,c,d,a,h,_=>by simp at h
 |e::t,0,c,d,a,h,hd=>by
  simp only[dO,ar]at h;subst h;simp only[List.set_cons_zero,bY,ec];omega
 |e::t,k+1,c,d,a,h,hd=>by
  simp only[List.set_cons_succ,bY,ec];have:=KE (t:=t) (k:=k) (by simpa using h) hd;omega
theorem JD{t:Li}{k:Nat}{c:Ce}(hk:t.c[k]? =some c)(x y:Int):rN ⟨t.h,t.c.set k (nE c (fY mK x y))⟩=rN t+4:=by
 unfold rN;rw[KE hk (a:=4) (by
  unfold DL nE;simp only[aT,kq,bY,dk,ec,List.sum_nil];rw[show JN (fY mK x y)=4 by rfl];omega)]
 simp only;omega
theorem NI{t:Li}{k:Nat}{c:Ce}(hk:t.c[k]? =some c):rN ⟨t.h,kH t.c k c⟩=rN t+11:=by
 have h1:=JD hk 0 0;unfold rN at h1⊢;unfold kH;rw[aT,kq];simp only[bY,dk,ec,List.sum_nil]at h1⊢;rw[show DL (jN mK [fY (jG c) 1 1])=7 by rfl];omega
theorem JC{t:Li}{n:Nat}(h:rN t≤n)(hn:n≤160):(g9 t).length≤100000∧(jo t=true→xw t.c≤160):=by
 refine⟨by rw[At];omega,fun hv=>?_⟩;obtain⟨h1,h2⟩:=gp.1 hv;have h3:=CE h1;have h4:=KD (t:=t.c) (g:=DL) (fun c hc x hx=>Cr (h2 c hc) hx);unfold rN at h;omega
section
variable{Γ:List aD}
theorem Be(aa:Option Addr)(an ac:Nat)(ba:Option Addr)(bn bc:Nat){l:List Sh} [h1:aW (LF pU qS.x ⟨aa,an,ac⟩) l Γ] [h2:aW (LF pU qS.x ⟨ba,bn,bc⟩) l Γ]:
  aw tb Tryz.prog 14 [.slice aa an ac,.slice ba bn bc] Γ (jq (.bool true)):=by
 refine aw.of_W aB Tryz.func14 rfl ?_;refine W.len pU qS.x ⟨aa,an,ac⟩ rfl (fun ha ha2 ha3=>?_);refine W.len pU qS.x ⟨ba,bn,bc⟩ rfl (fun hb _ _=>?_);simp only at ha hb ha2 ha3;refine aQ [] 11 ((an:Int) != (bn:Int)) (by rw[ha,hb];simp) ?_;refine gV [11] [4,5] (fun a:S7=>[(4,.bool false),(5,.int .i64 a.z)]) (fun _=>[]) (fun _=>[]) (fun _=>[LF pU qS.x ⟨aa,an,ac⟩ l,LF pU qS.x ⟨ba,bn,bc⟩ l]) (fun a=>a.z=a.i∧a.i≤an) (fun a=>an-a.i) ⟨0,0,.bool true,[]⟩ ⟨rfl,aJ _⟩ (eC eK (eC eK eE)) ?_;rintro⟨i,z,v,O⟩ K ⟨hz,hi⟩ close;simp only at hz hi;by_cases hl:z<(an:Int)
 ·obtain⟨⟨A,k,p⟩,hx⟩:∃x,l[i]? =some x:=⟨_,ai (by omega)⟩;refine MN pU qS.x ⟨aa,an,ac⟩ hx (by kernel_rfl) (by decide) (fun xK x6 e ha4 he=>?_);obtain⟨⟨pa,pn,pc⟩,e⟩:=e;obtain rfl:e=⟨A,k,p⟩:=he;simp only at ha4;subst ha4;refine MN pU qS.x ⟨ba,bn,bc⟩ hx (by kernel_rfl) (by decide) (fun bb1 Ee e hb4 he=>?_);obtain⟨⟨qa,qn,qc⟩,e⟩:=e;obtain rfl:e=⟨A,k,p⟩:=he;simp only at hb4;subst hb4;refine W.more (Δ:=[zi ⟨pa,pn,pc⟩ p,zi ⟨qa,qn,qc⟩ p,RA (some ⟨xK,x6+i*3,none⟩) [.int .i64 A,.int .i64 k,.slice pa pn pc],RA (some ⟨bb1,Ee+i*3,none⟩) [.int .i64 A,.int .i64 k,.slice qa qn qc]]) rfl (fun I w _ hh=>aG.cons (hh _ (.tail _ (.tail _ (.head _)))) (aG.cons (hh _ (.head _)) (aG.cons (hh _ (.tail _ (.tail _ (.tail _ (.head _))))) (aS (hh _ (.tail _ (.head _))))))) ?_;refine Jk ⟨pa,pn,pc⟩ rfl (fun hp hp2 hp4=>?_);refine Jk ⟨qa,qn,qc⟩ rfl (fun hq _ hq4=>?_);simp only at hp hq hp2 hp4 hq4;refine bj [] 15 (decide (z<(an:Int))) (au hl) ?_;refine bW [15] 3 xK x6 an ac .i64 i z hz aB (by omega) ?_;refine bZ [] 0 xK (x6+i*3) aB ?_;refine dJ [] 1 xK (x6+i*3+0) (.int .i64 A) aB (fun I w hd hh=>cA xK (x6+i*3) I w hd hh 0 _ rfl) ?_;refine bW [] 3 bb1 Ee bn bc .i64 i z hz aB (by omega) ?_;refine bZ [] 0 bb1 (Ee+i*3) aB ?_;refine dJ [] 1 bb1 (Ee+i*3+0) (.int .i64 A) aB (fun I w hd hh=>cA bb1 (Ee+i*3) I w hd hh 0 _ rfl) ?_
  refine aQ [] 29 (A != A) (by simp) ?_;refine bW [29] 3 xK x6 an ac .i64 i z hz aB (by omega) ?_;refine bZ [29] 1 xK (x6+i*3) aB ?_;refine dJ [29] 1 xK (x6+i*3+1) (.int .i64 k) aB (fun I w hd hh=>cA xK (x6+i*3) I w hd hh 1 _ rfl) ?_;refine bW [29] 3 bb1 Ee bn bc .i64 i z hz aB (by omega) ?_;refine bZ [29] 1 bb1 (Ee+i*3) aB ?_;refine dJ [29] 1 bb1 (Ee+i*3+1) (.int .i64 k) aB (fun I w hd hh=>cA bb1 (Ee+i*3) I w hd hh 1 _ rfl) ?_;refine aQ [29] 42 (k != k) (by simp) ?_;refine bW [42] 3 xK x6 an ac .i64 i z hz aB (by omega) ?_;refine bZ [42] 2 xK (x6+i*3) aB ?_;refine dJ [42] 1 xK (x6+i*3+2) (.slice pa pn pc) aB (fun I w hd hh=>cA xK (x6+i*3) I w hd hh 2 _ rfl) ?_;refine bW [42] 3 bb1 Ee bn bc .i64 i z hz aB (by omega) ?_;refine bZ [42] 2 bb1 (Ee+i*3) aB ?_;refine dJ [42] 1 bb1 (Ee+i*3+2) (.slice qa qn qc) aB (fun I w hd hh=>cA bb1 (Ee+i*3) I w hd hh 2 _ rfl) ?_;refine aQ [42] 56 ((pn:Int) != (qn:Int)) (by rw[hp,hq];simp) ?_;refine gV [56] [4,6] (fun a:S7=>[(4,.bool false),(6,.int .i64 a.z)]) (fun _=>[]) (fun _=>[]) (fun _=>[LF pU qS.x ⟨some ⟨xK,x6,none⟩,an,ac⟩ l,LF pU qS.x ⟨some ⟨bb1,Ee,none⟩,bn,bc⟩ l,zi ⟨pa,pn,pc⟩ p,zi ⟨qa,qn,qc⟩ p,RA (some ⟨xK,x6+i*3,none⟩) [.int .i64 A,.int .i64 k,.slice pa pn pc],RA (some ⟨bb1,Ee+i*3,none⟩) [.int .i64 A,.int .i64 k,.slice qa qn qc]]) (fun a=>a.z=a.i∧a.i≤pn) (fun a=>pn-a.i) ⟨0,0,.bool true,[]⟩ ⟨rfl,aJ _⟩ (eC eK (eC eK (eC eK (eC eK (eC eK (eC eK eE)))))) ?_
  rintro⟨j,zj,v2,O2⟩ K2 ⟨XH,hj⟩ iB;simp only at XH hj;by_cases hlj:zj<(pn:Int)
  ·obtain⟨d,hd⟩:∃d,p[j]? =some d:=⟨_,ai (by omega)⟩;obtain⟨pb,po,Zj⟩:=hp4 (by rintro rfl;simp at hd);obtain⟨qb,qo,QT⟩:=hq4 (by rintro rfl;simp at hd);subst Zj QT;refine W.more (Δ:=[RA (some ⟨pb,po,none⟩) (p.flatMap eg),RA (some ⟨qb,qo,none⟩) (p.flatMap eg)]) rfl (fun I w _ hh=>aG.cons (aW.p (k:=zi ⟨some ⟨pb,po,none⟩,pn,pc⟩) (a:=p) inferInstance hh).2.2 (aS (aW.p (k:=zi ⟨some ⟨qb,qo,none⟩,qn,qc⟩) (a:=p) inferInstance hh).2.2)) ?_;refine bW [] 3 xK x6 an ac .i64 i z hz aB (by omega) ?_;refine bZ [] 2 xK (x6+i*3) aB ?_;refine dJ [] 1 xK (x6+i*3+2) (.slice (some ⟨pb,po,none⟩) pn pc) aB (fun I w hd hh=>cA xK (x6+i*3) I w hd hh 2 _ rfl) ?_;refine bj [] 64 (decide (zj<(pn:Int))) (au hlj) ?_;refine bW [64] 3 xK x6 an ac .i64 i z hz aB (by omega) ?_;refine bZ [] 2 xK (x6+i*3) aB ?_;refine dJ [] 1 xK (x6+i*3+2) (.slice (some ⟨pb,po,none⟩) pn pc) aB (fun I w hd hh=>cA xK (x6+i*3) I w hd hh 2 _ rfl) ?_;refine bW [] 2 pb po pn pc .i64 j zj XH aB (by omega) ?_;refine cV [] pb (po+j*2) (eg d) aB (eB pb po (j*2) (eH hd)) ?_;refine bW [] 3 bb1 Ee bn bc .i64 i z hz aB (by omega) ?_;refine bZ [] 2 bb1 (Ee+i*3) aB ?_;refine dJ [] 1 bb1 (Ee+i*3+2) (.slice (some ⟨qb,qo,none⟩) qn qc) aB (fun I w hd hh=>cA bb1 (Ee+i*3) I w hd hh 2 _ rfl) ?_;refine bW [] 2 qb qo qn qc .i64 j zj XH aB (by omega) ?_
   refine cV [] qb (qo+j*2) (eg d) aB (eB qb qo (j*2) (eH hd)) ?_;refine MP [] 58 d d ?_;refine aQ [] 83 (!decide (d=d)) (by simp) ?_;exact iB [83] _ _ ⟨j+1,IntKind.i64.wrap (zj+1),.bool true,[]⟩ (by kernel_rfl) (by kernel_rfl) ⟨by simp only[af];omega,by simp only;omega⟩ (by simp only;omega) (eC eK (eC eK (eC eK (eC eK (eC eK (eC eK eE))))))
  ·refine bW [] 3 xK x6 an ac .i64 i z hz aB (by omega) ?_;refine bZ [] 2 xK (x6+i*3) aB ?_;refine dJ [] 1 xK (x6+i*3+2) (.slice pa pn pc) aB (fun I w hd hh=>cA xK (x6+i*3) I w hd hh 2 _ rfl) ?_;refine aQ [] 64 (decide (zj<(pn:Int))) (aj hlj) ?_;exact close [64] _ _ ⟨i+1,IntKind.i64.wrap (z+1),.bool true,[]⟩ (by kernel_rfl) (by kernel_rfl) ⟨by simp only[af];omega,by simp only;omega⟩ (by simp only;omega) (eC eK (eC eK eE))
 ·refine aQ [] 15 (decide (z<(an:Int))) (aj hl) ?_;exact W.r [15] (.bool true) ⟨rfl,rfl⟩ bT
end
theorem M9{b:Nat}{l:List Int}{I:fQ}{w:World}(hl:l.length≤1000)(hb:kW l)(h:(ek b (l.map (Value.int .u8))).p I w):(BF ⟨some ⟨b,0,none⟩,l.length,l.length⟩ l).p I w:=
 ⟨rfl,⟨ak _,by simp only;unfold maxLen;omega⟩,hb,RA.of_row h fun _ _ hv=>hv⟩
theorem rS{b:Nat}(es:List mN){I:fQ}{w:World}(hm:es.length≤1000)(h:(ek b (es.flatMap lZ.cells)).p I w)(hf:∀e∈es,(mI e.f e.p e.x).p I w):(pS ⟨some ⟨b,0,none⟩,es.length,es.length⟩ (es.map mN.x)).p I w:=
 ⟨es,rfl,(bI ..).symm,⟨ak _,by simp only;unfold maxLen;omega⟩,fun e he=>hf e he,RA.of_row h fun _ _ hv=>hv⟩
theorem DO{b:Nat}(es:List lj){I:fQ}{w:World}(hm:es.length≤1000)(h:(ek b (es.flatMap g8.cells)).p I w)(hf:∀e∈es,(yz e.h e.i e.x).p I w):(lH ⟨some ⟨b,0,none⟩,es.length,es.length⟩ (es.map lj.x)).p I w:=
 ⟨es,rfl,(bI ..).symm,⟨ak _,by simp only;unfold maxLen;omega⟩,fun e he=>hf e he,RA.of_row h fun _ _ hv=>hv⟩
theorem EG{b:Nat}(es:List qS){I:fQ}{w:World}(hm:es.length≤1000)(h:(ek b (es.flatMap pU.cells)).p I w)(hf:∀e∈es,(zi e.s e.x.p).p I w):(LF pU qS.x ⟨some ⟨b,0,none⟩,es.length,es.length⟩ (es.map qS.x)).p I w:=
 ⟨es,rfl,(bI ..).symm,⟨ak _,by simp only;unfold maxLen;omega⟩,fun e he=>hf e he,RA.of_row h fun _ _ hv=>hv⟩
theorem Ey{b:Nat}{l:List Dp}{I:fQ}{w:World}(hl:l.length≤1000)(h:(ek b (l.flatMap eg)).p I w):(zi ⟨some ⟨b,0,none⟩,l.length,l.length⟩ l).p I w:=
 ⟨rfl,⟨ak _,by simp only;unfold maxLen;omega⟩,RA.of_row h fun _ _ hv=>hv⟩
theorem Fv{l:List Int}(h:l.all (fun z=>decide (0≤z)&&decide (z<256))=true):kW l:=fun z hz=>by
 have:=List.all_eq_true.1 h z hz;simpa using this
theorem oQ:(g9 kL).length≤100000:=by decide
theorem mY:xw kL.c≤160:=by decide+kernel
def k_:List Dp:=[⟨0,0⟩,⟨10,0⟩,⟨10,10⟩,⟨0,10⟩]
def xT:List Ce:=[jN Mq [iA 1 0 k_],jN yU [jU]]
section
variable{Γ:List aD}
theorem oR:aw tb Tryz.prog 9 [] Γ (jq (.bool true)):=by
 refine aw.of_W aB Tryz.func9 rfl ?_;refine cH [] 4 (k_.flatMap eg) aB (fun b1=>?_);refine gT [] (Γ':=[RA (some ⟨b1,0,none⟩) (k_.flatMap eg)]) (fun I w _ hh=>aS (RA.of_row hh.h0' fun _ _ hv=>hv)) (Pj 1 0 (some ⟨b1,0,none⟩) 4 4 (ps:=k_) rfl (by decide)) ?_;rintro _ _ ⟨u2,rfl,rfl⟩;refine aq [] (iL 10 0 ⟨none,0,0⟩) ?_;rintro _ _ ⟨rfl,rfl⟩;refine aq [] (A8 Mq (by decide)) ?_;rintro _ _ ⟨u4,rfl,rfl⟩;refine aq [] (iL 18 6 u4) ?_;rintro _ _ ⟨rfl,rfl⟩;refine cH [] 2 [.int .u8 0,.int .u8 0] aB (fun b6=>?_);refine aq [] (iL 26 1 ⟨some ⟨b6,0,none⟩,2,2⟩) ?_;rintro _ _ ⟨rfl,rfl⟩;refine cH [] 8 [.int .u8 66,.int .u8 90,.int .u8 0,.int .u8 0,.int .u8 0,.int .u8 0,.int .u8 0,.int .u8 0] aB (fun b8=>?_);refine aq [] (iL 28 5 ⟨some ⟨b8,0,none⟩,8,8⟩) ?_;rintro _ _ ⟨rfl,rfl⟩;refine cH [] 2 [.int .i64 100,.int .i64 0] aB (fun b10=>?_);refine gT [] (Γ':=[NL ⟨some ⟨b10,0,none⟩,2,2⟩ [100,0]]) (fun I w _ hh=>aS (xX (l:=[100,0]) (by decide) hh.h0')) (uO ⟨some ⟨b10,0,none⟩,2,2⟩ (l:=[100,0]) (by decide)) ?_;rintro _ _ ⟨u11,rfl,rfl⟩;refine aq [] (iL 16 3 u11) ?_;rintro _ _ ⟨rfl,rfl⟩;refine cH [] 5 [.int .u8 10,.int .u8 0,.slice none 0 0,.int .u8 18,.int .u8 6,aZ u4,.int .u8 26,.int .u8 1,.slice (some ⟨b6,0,none⟩) 2 2,.int .u8 28,.int .u8 5,.slice (some ⟨b8,0,none⟩) 8 8,.int .u8 16,.int .u8 3,aZ u11] aB (fun b13=>?_)
 have FY:∀{Γ':List aD} [aW (BF u4) (jH Mq) Γ'] [aW (ek b6) [.int .u8 0,.int .u8 0] Γ'] [aW (ek b8) [.int .u8 66,.int .u8 90,.int .u8 0,.int .u8 0,.int .u8 0,.int .u8 0,.int .u8 0,.int .u8 0] Γ'] [aW (BF u11) ([100,0].flatMap lB) Γ']
   [aW (ek b13) [.int .u8 10,.int .u8 0,.slice none 0 0,.int .u8 18,.int .u8 6,aZ u4,.int .u8 26,.int .u8 1,.slice (some ⟨b6,0,none⟩) 2 2,.int .u8 28,.int .u8 5,.slice (some ⟨b8,0,none⟩) 8 8,.int .u8 16,.int .u8 3,aZ u11] Γ'] {I:fQ} {w:World},
   aG Γ' I w→(mI ⟨some ⟨b13,0,none⟩,5,5⟩ ⟨none,0,0⟩ jU).p I w:=fun{Γ'} _ _ _ _ _ {I w} hh=>
  ⟨uW [⟨⟨none,0,0⟩,⟨10,0,[]⟩⟩,⟨u4,⟨18,6,jH Mq⟩⟩,⟨⟨some ⟨b6,0,none⟩,2,2⟩,⟨26,1,[0,0]⟩⟩,⟨⟨some ⟨b8,0,none⟩,8,8⟩,⟨28,5,[66,90,0,0,0,0,0,0]⟩⟩,⟨u11,⟨16,3,[100,0].flatMap lB⟩⟩] (by simp) (aW.p (k:=ek b13) inferInstance hh) (fun e he=>by
   simp only[aF,aE,bL]at he;rcases he with rfl|rfl|rfl|rfl|rfl
   ·exact iS (by decide) (by decide) (rH _ _ _)
   ·exact iS (by decide) (by decide) (aW.p (k:=BF u4) inferInstance hh)
   ·exact iS (by decide) (by decide) (M9 (l:=[0,0]) (by decide) (Fv rfl) (aW.p (k:=ek b6) inferInstance hh))
   ·exact iS (by decide) (by decide) (M9 (l:=[66,90,0,0,0,0,0,0]) (by decide) (Fv rfl) (aW.p (k:=ek b8) inferInstance hh))
   ·exact iS (by decide) (by decide) (aW.p (k:=BF u11) inferInstance hh)),zK _ _⟩
 refine Rl [] [0,3,8,1,2,4,5,6,7,9] [0,3,8,1,4,2,5,6,7,9] [0,3,8,4,1,2,5,6,7,9] ?_ ?_ ?_
 ·refine cH [] 1 [aZ u2,.slice none 0 0] aB (fun b28=>?_);refine gT [] (Γ':=[pS ⟨some ⟨b28,0,none⟩,1,1⟩ [iA 1 0 k_]]) (fun I w _ hh=>aS (rS [⟨u2,⟨none,0,0⟩,iA 1 0 k_⟩] (by simp) (aW.p (k:=ek b28) inferInstance hh) (fun e he=>by
   simp only[aF,aE,bL]at he;subst he;exact aW.p (k:=mI u2 ⟨none,0,0⟩) inferInstance hh))) (pF Mq ⟨some ⟨b28,0,none⟩,1,1⟩ (l:=[iA 1 0 k_]) (by decide)) ?_
  rintro _ _ ⟨Qx,rfl,rfl⟩;refine cH [] 1 [.slice (some ⟨b13,0,none⟩) 5 5,.slice none 0 0] aB (fun b31=>?_);refine gT [] (Γ':=[pS ⟨some ⟨b31,0,none⟩,1,1⟩ [jU]]) (fun I w _ hh=>aS (rS [⟨⟨some ⟨b13,0,none⟩,5,5⟩,⟨none,0,0⟩,jU⟩] (by simp) (aW.p (k:=ek b31) inferInstance hh) (fun e he=>by
   simp only[aF,aE,bL]at he;subst he;exact FY hh))) (pF yU ⟨some ⟨b31,0,none⟩,1,1⟩ (l:=[jU]) (by decide)) ?_
  rintro _ _ ⟨u32,rfl,rfl⟩;refine cH [] 2 [aZ Qx,.slice (some ⟨b28,0,none⟩) 1 1,aZ u32,.slice (some ⟨b31,0,none⟩) 1 1] aB (fun b33=>?_);refine gT [] (Γ':=[lH ⟨some ⟨b33,0,none⟩,2,2⟩ xT]) (fun I w _ hh=>aS (DO [⟨Qx,⟨some ⟨b28,0,none⟩,1,1⟩,jN Mq [iA 1 0 k_]⟩,⟨u32,⟨some ⟨b31,0,none⟩,1,1⟩,jN yU [jU]⟩] (by simp) (aW.p (k:=ek b33) inferInstance hh) (fun e he=>by
   simp only[aF,aE,bL]at he;rcases he with rfl|rfl
   ·exact aW.p (k:=yz Qx ⟨some ⟨b28,0,none⟩,1,1⟩) inferInstance hh
   ·exact aW.p (k:=yz u32 ⟨some ⟨b31,0,none⟩,1,1⟩) inferInstance hh))) (Ek ⟨some ⟨b33,0,none⟩,2,2⟩ (cs:=xT)) ?_
  rintro _ _ ⟨Ur,rfl,rfl⟩;refine aq [] (mo Ur ⟨some ⟨b33,0,none⟩,2,2⟩ 1 (t:=kL) oQ (fun _=>mY)) ?_;rintro _ _ hp;rw[mZ 1 (by decide) (by decide),if_neg (by decide)]at hp;rcases hp with⟨e,he,_⟩|⟨l,s,he,rfl,rfl⟩
  ·simp at he
  injection he with he;subst he;refine aq [] (mo Ur ⟨some ⟨b33,0,none⟩,2,2⟩ 0 (t:=kL) oQ (fun _=>mY)) ?_;rintro _ _ hp;rw[mZ 0 (by decide) (by decide),if_pos (by decide)]at hp;rcases hp with⟨e,he,rfl,rfl⟩|⟨l,s,he,_⟩
  rotate_left
  ·simp at he
  injection he with he;subst he;refine cH [] 4 (kK.flatMap eg) aB (fun b49=>?_);refine cH [] 1 [.int .i64 1,.int .i64 0,.slice (some ⟨b49,0,none⟩) 4 4] aB (fun b51=>?_);obtain⟨sa,sn,sc⟩:=s;refine bj [] 53 ((0:Int)==0) rfl ?_;refine gT [53,54] (Γ':=[LF pU qS.x ⟨some ⟨b51,0,none⟩,1,1⟩ [⟨1,0,kK⟩]]) (fun I w _ hh=>aS (EG [⟨⟨some ⟨b49,0,none⟩,4,4⟩,⟨1,0,kK⟩⟩] (by simp) (aW.p (k:=ek b51) inferInstance hh) (fun e he=>by
   simp only[aF,aE,bL]at he;subst he;exact Ey (l:=kK) (by decide) (aW.p (k:=ek b49) inferInstance hh)))) (Be sa sn sc (some ⟨b51,0,none⟩) 1 1 (l:=[⟨1,0,kK⟩])) ?_
  rintro _ _ ⟨rfl,rfl⟩;exact W.r [54,59] (.bool true) ⟨rfl,rfl⟩ bT
 ·refine cH [] 1 [aZ u2,.slice none 0 0] aB (fun b28=>?_);refine cH [] 1 [.slice (some ⟨b13,0,none⟩) 5 5,.slice none 0 0] aB (fun b31=>?_);refine gT [] (Γ':=[pS ⟨some ⟨b28,0,none⟩,1,1⟩ [iA 1 0 k_]]) (fun I w _ hh=>aS (rS [⟨u2,⟨none,0,0⟩,iA 1 0 k_⟩] (by simp) (aW.p (k:=ek b28) inferInstance hh) (fun e he=>by
   simp only[aF,aE,bL]at he;subst he;exact aW.p (k:=mI u2 ⟨none,0,0⟩) inferInstance hh))) (pF Mq ⟨some ⟨b28,0,none⟩,1,1⟩ (l:=[iA 1 0 k_]) (by decide)) ?_
  rintro _ _ ⟨Qx,rfl,rfl⟩;refine gT [] (Γ':=[pS ⟨some ⟨b31,0,none⟩,1,1⟩ [jU]]) (fun I w _ hh=>aS (rS [⟨⟨some ⟨b13,0,none⟩,5,5⟩,⟨none,0,0⟩,jU⟩] (by simp) (aW.p (k:=ek b31) inferInstance hh) (fun e he=>by
   simp only[aF,aE,bL]at he;subst he;exact FY hh))) (pF yU ⟨some ⟨b31,0,none⟩,1,1⟩ (l:=[jU]) (by decide)) ?_
  rintro _ _ ⟨u32,rfl,rfl⟩;refine cH [] 2 [aZ Qx,.slice (some ⟨b28,0,none⟩) 1 1,aZ u32,.slice (some ⟨b31,0,none⟩) 1 1] aB (fun b33=>?_);refine gT [] (Γ':=[lH ⟨some ⟨b33,0,none⟩,2,2⟩ xT]) (fun I w _ hh=>aS (DO [⟨Qx,⟨some ⟨b28,0,none⟩,1,1⟩,jN Mq [iA 1 0 k_]⟩,⟨u32,⟨some ⟨b31,0,none⟩,1,1⟩,jN yU [jU]⟩] (by simp) (aW.p (k:=ek b33) inferInstance hh) (fun e he=>by
   simp only[aF,aE,bL]at he;rcases he with rfl|rfl
   ·exact aW.p (k:=yz Qx ⟨some ⟨b28,0,none⟩,1,1⟩) inferInstance hh
   ·exact aW.p (k:=yz u32 ⟨some ⟨b31,0,none⟩,1,1⟩) inferInstance hh))) (Ek ⟨some ⟨b33,0,none⟩,2,2⟩ (cs:=xT)) ?_
  rintro _ _ ⟨Ur,rfl,rfl⟩;refine aq [] (mo Ur ⟨some ⟨b33,0,none⟩,2,2⟩ 1 (t:=kL) oQ (fun _=>mY)) ?_;rintro _ _ hp;rw[mZ 1 (by decide) (by decide),if_neg (by decide)]at hp;rcases hp with⟨e,he,_⟩|⟨l,s,he,rfl,rfl⟩
  ·simp at he
  injection he with he;subst he;refine aq [] (mo Ur ⟨some ⟨b33,0,none⟩,2,2⟩ 0 (t:=kL) oQ (fun _=>mY)) ?_;rintro _ _ hp;rw[mZ 0 (by decide) (by decide),if_pos (by decide)]at hp;rcases hp with⟨e,he,rfl,rfl⟩|⟨l,s,he,_⟩
  rotate_left
  ·simp at he
  injection he with he;subst he;refine cH [] 4 (kK.flatMap eg) aB (fun b49=>?_);refine cH [] 1 [.int .i64 1,.int .i64 0,.slice (some ⟨b49,0,none⟩) 4 4] aB (fun b51=>?_);obtain⟨sa,sn,sc⟩:=s;refine bj [] 53 ((0:Int)==0) rfl ?_;refine gT [53,54] (Γ':=[LF pU qS.x ⟨some ⟨b51,0,none⟩,1,1⟩ [⟨1,0,kK⟩]]) (fun I w _ hh=>aS (EG [⟨⟨some ⟨b49,0,none⟩,4,4⟩,⟨1,0,kK⟩⟩] (by simp) (aW.p (k:=ek b51) inferInstance hh) (fun e he=>by
   simp only[aF,aE,bL]at he;subst he;exact Ey (l:=kK) (by decide) (aW.p (k:=ek b49) inferInstance hh)))) (Be sa sn sc (some ⟨b51,0,none⟩) 1 1 (l:=[⟨1,0,kK⟩])) ?_
  rintro _ _ ⟨rfl,rfl⟩;exact W.r [54,59] (.bool true) ⟨rfl,rfl⟩ bT
 ·refine cH [] 1 [.slice (some ⟨b13,0,none⟩) 5 5,.slice none 0 0] aB (fun b31=>?_);refine cH [] 1 [aZ u2,.slice none 0 0] aB (fun b28=>?_);refine gT [] (Γ':=[pS ⟨some ⟨b28,0,none⟩,1,1⟩ [iA 1 0 k_]]) (fun I w _ hh=>aS (rS [⟨u2,⟨none,0,0⟩,iA 1 0 k_⟩] (by simp) (aW.p (k:=ek b28) inferInstance hh) (fun e he=>by
   simp only[aF,aE,bL]at he;subst he;exact aW.p (k:=mI u2 ⟨none,0,0⟩) inferInstance hh))) (pF Mq ⟨some ⟨b28,0,none⟩,1,1⟩ (l:=[iA 1 0 k_]) (by decide)) ?_
  rintro _ _ ⟨Qx,rfl,rfl⟩;refine gT [] (Γ':=[pS ⟨some ⟨b31,0,none⟩,1,1⟩ [jU]]) (fun I w _ hh=>aS (rS [⟨⟨some ⟨b13,0,none⟩,5,5⟩,⟨none,0,0⟩,jU⟩] (by simp) (aW.p (k:=ek b31) inferInstance hh) (fun e he=>by
   simp only[aF,aE,bL]at he;subst he;exact FY hh))) (pF yU ⟨some ⟨b31,0,none⟩,1,1⟩ (l:=[jU]) (by decide)) ?_
  rintro _ _ ⟨u32,rfl,rfl⟩;refine cH [] 2 [aZ Qx,.slice (some ⟨b28,0,none⟩) 1 1,aZ u32,.slice (some ⟨b31,0,none⟩) 1 1] aB (fun b33=>?_);refine gT [] (Γ':=[lH ⟨some ⟨b33,0,none⟩,2,2⟩ xT]) (fun I w _ hh=>aS (DO [⟨Qx,⟨some ⟨b28,0,none⟩,1,1⟩,jN Mq [iA 1 0 k_]⟩,⟨u32,⟨some ⟨b31,0,none⟩,1,1⟩,jN yU [jU]⟩] (by simp) (aW.p (k:=ek b33) inferInstance hh) (fun e he=>by
   simp only[aF,aE,bL]at he;rcases he with rfl|rfl
   ·exact aW.p (k:=yz Qx ⟨some ⟨b28,0,none⟩,1,1⟩) inferInstance hh
   ·exact aW.p (k:=yz u32 ⟨some ⟨b31,0,none⟩,1,1⟩) inferInstance hh))) (Ek ⟨some ⟨b33,0,none⟩,2,2⟩ (cs:=xT)) ?_
  rintro _ _ ⟨Ur,rfl,rfl⟩;refine aq [] (mo Ur ⟨some ⟨b33,0,none⟩,2,2⟩ 1 (t:=kL) oQ (fun _=>mY)) ?_;rintro _ _ hp;rw[mZ 1 (by decide) (by decide),if_neg (by decide)]at hp;rcases hp with⟨e,he,_⟩|⟨l,s,he,rfl,rfl⟩
  ·simp at he
  injection he with he;subst he;refine aq [] (mo Ur ⟨some ⟨b33,0,none⟩,2,2⟩ 0 (t:=kL) oQ (fun _=>mY)) ?_;rintro _ _ hp;rw[mZ 0 (by decide) (by decide),if_pos (by decide)]at hp;rcases hp with⟨e,he,rfl,rfl⟩|⟨l,s,he,_⟩
  rotate_left
  ·simp at he
  injection he with he;subst he;refine cH [] 4 (kK.flatMap eg) aB (fun b49=>?_);refine cH [] 1 [.int .i64 1,.int .i64 0,.slice (some ⟨b49,0,none⟩) 4 4] aB (fun b51=>?_);obtain⟨sa,sn,sc⟩:=s;refine bj [] 53 ((0:Int)==0) rfl ?_;refine gT [53,54] (Γ':=[LF pU qS.x ⟨some ⟨b51,0,none⟩,1,1⟩ [⟨1,0,kK⟩]]) (fun I w _ hh=>aS (EG [⟨⟨some ⟨b49,0,none⟩,4,4⟩,⟨1,0,kK⟩⟩] (by simp) (aW.p (k:=ek b51) inferInstance hh) (fun e he=>by
   simp only[aF,aE,bL]at he;subst he;exact Ey (l:=kK) (by decide) (aW.p (k:=ek b49) inferInstance hh)))) (Be sa sn sc (some ⟨b51,0,none⟩) 1 1 (l:=[⟨1,0,kK⟩])) ?_
  rintro _ _ ⟨rfl,rfl⟩;exact W.r [54,59] (.bool true) ⟨rfl,rfl⟩ bT
end
section
variable{Γ:List aD}
end
section
variable{T:Tb}{P:Program}{fin:VS→List aD→Prop}{c:fG}{Γ:List aD}
theorem HB(D:List Nat)(own O F:List (Nat×List Value))(z bytes n m:Nat)(v x:Value)(xs news:List Value)(hT:T.Ok P)
   (ho:own=O++F)(hg:qP z O v n xs)(hx:p5 T Γ own x m z news)(h1:∀u∈news,u.oneCell'=true)
  (hn:n+m≤1000000)(hb:bytes≤100000000)
  (hk:∀v' O',qP z O' v' (n+m) (xs++news)→W T P fin (mz (aL T (bh T D 999 c)) (O'++F) v') Γ)(h:oK T (aL T (bh T D 999 c))=some (own,z,bytes,v,x):=by kernel_rfl):W T P fin c Γ:=by
 rcases hg with hg|⟨rfl,rfl,rfl,b,off,rfl⟩
 ·refine W.app D own [] O F z bytes n m v x xs news hT (h:=h) (by rw[az];exact ho) hg hx h1 hn hb (fun v' O' hg'=>?_);rw[az];exact hk v' O' (.inl hg')
 ·rw[az]at ho;subst ho;refine MJ D own z bytes m b off x news hT h hx (by omega) hb (fun h0=>?_) (fun g cap cur hp h2 h3 h4 h5=>?_)
  ·subst h0;obtain⟨_,_,_,hl,_⟩:=hx;obtain rfl:news=[]:=aN (by omega);exact hk _ [] (.inr ⟨rfl,rfl,rfl,b,off,rfl⟩)
  ·obtain⟨_,_,_,hl,_⟩:=hx;exact hk _ [(g,cur)] (.inl ⟨by rw[az,bQ];exact hl,.inr ⟨g,cap,cur,by rw[bQ],rfl,by omega,h3,h4,by rw[bQ,az];exact h5⟩⟩)
theorem qP.pos{z:Nat}{O:List (Nat×List Value)}{v:Value}{n:Nat}{xs:List Value}(h:qP z O v n xs)(hn:0<n):∃g cap cur,v=.slice (some ⟨g,0,none⟩) n cap∧O=[(g,cur)]∧n≤cap∧cap≤maxLen∧cur.length=cap*z∧cur.take (n*z)=xs:=by
 rcases h with⟨_,⟨_,h,_⟩|h⟩|⟨_,h,_⟩
 ·omega
 ·exact h
 ·omega
theorem Tf{α β:Type}(R:kG α)(num:α→β)(hz:∀a,0<(R.cells a).length)(s:Sl){l:List β} [h:aW (LF R num s) l Γ](hm:dD c.k=false)(hc:∀es:List α,es.map num=l→s.n=es.length→(0<s.n→∃b off,s.ao=some ⟨b,off,none⟩)→W T P fin c (RA s.ao (es.flatMap R.cells)::mS R (aZ s) es::Γ)):W T P fin c Γ:=
 W.elim (α:=List α) (fun es=>es.map num=l∧s.n=es.length∧(0<s.n→∃b off,s.ao=some ⟨b,off,none⟩)) (fun es=>[RA s.ao (es.flatMap R.cells),mS R (aZ s) es]) hm (fun I w _ hh=>by
  obtain⟨es,rfl,h2,_,h4,h5⟩:=h.p hh;rw[bI]at h2;refine⟨es,⟨rfl,h2,fun hp=>?_⟩,aG.cons h5 (aS h4)⟩;obtain⟨b,off,ha,_⟩:=h5 (by
   cases es with
   |nil=>simp at h2;omega
   |cons e r=>
    rw[bz];intro he;have h6:=hz e;have:=dH List.length he;rw[aA,a_]at this;omega)
  exact⟨b,off,ha⟩) (fun es hq=>hc es hq.1 hq.2.1 hq.2.2)
end
theorem rp{α:Type}{f:α→List Value}(hf:∀a,(f a).length=2):∀es:List α,(es.flatMap f).length=es.length*2
 | []=>rfl
 |e::es=>by rw[bz,aA,hf,rp hf es,aC];omega
theorem FI{α:Type}{f:α→List Value}(hf:∀a,(f a).length=2):∀{es:List α} {k:Nat} {e e':α} {cur:List Value} {v:Value},es[k]? =some e→(∃a,f e=[a,(f e).getD 1 v]∧f e'=[a,v])→cur.take (es.length*2)=es.flatMap f→es.length*2≤cur.length→
  (cur.take (k*2+1)++[v]++cur.drop (k*2+1+1)).take (es.length*2)=(es.set k e').flatMap f
 | [],k,e,e',cur,v,h,_,_,_=>by simp at h
 |d::es,0,e,e',cur,v,h,⟨a,h1,h2⟩,h3,h4=>by
  simp only[dO,ar]at h;subst h;rw[List.set_cons_zero,bz,h2];rw[bz,h1]at h3
  match cur,h3,h4 with
  | [],h3,h4=>simp at h4
  | [_],h3,h4=>simp at h4;omega
  |p::q::cur,h3,h4=>
   rw[aC,dM,iQ,kX,kX]at h3;simp only[cT,az,jh]at h3;rw[aC,dM];simp[h3.1,h3.2.2]
 |d::es,k+1,e,e',cur,v,h,hq,h3,h4=>by
  rw[List.set_cons_succ,bz];rw[bz]at h3;obtain⟨a,b,hd⟩:∃a b,f d=[a,b]:=by
   have:=hf d
   match f d,this with
   | [a,b],_=>exact⟨a,b,rfl⟩
  rw[hd]at h3⊢
  match cur,h3,h4 with
  | [],h3,h4=>simp at h4
  | [_],h3,h4=>simp at h4;omega
  |p::q::cur,h3,h4=>
   rw[aC,dM,iQ,kX,kX]at h3;simp only[cT,az,jh]at h3;have:=FI hf (es:=es) (k:=k) (e:=e) (e':=e') (cur:=cur) (v:=v) (by simpa using h) hq h3.2.2 (by simp at h4;omega);rw[aC,dM,iQ,show(k+1)*2+1=(k*2+1)+2 by omega,show(k*2+1)+2+1=(k*2+1+1)+2 by omega];simp only[kX,List.drop_succ_cons,cT,az,h3.1,h3.2.1];rw[←this]
theorem mS.set{α:Type}{R:kG α}{v v':Value}{es:List α}{k:Nat}{e:α}{I:fQ}{w:World}(h:(mS R v es).p I w)(he:(R.fact 0 e).p I w):(mS R v' (es.set k e)).p I w:=fun x hx=>by
 rcases List.mem_or_eq_of_mem_set hx with h'|rfl
 ·exact h x h'
 ·exact he
theorem Rz(es:List lj):∀u∈es.flatMap g8.cells,u.oneCell'=true:=by
 intro u hu;obtain⟨e,_,hu⟩:=List.mem_flatMap.1 hu;exact yl _ _ u hu
theorem R0(es:List mN):∀u∈es.flatMap lZ.cells,u.oneCell'=true:=by
 intro u hu;obtain⟨e,_,hu⟩:=List.mem_flatMap.1 hu;exact yl _ _ u hu
theorem VX(a:Int){n:Nat}(h0:0<n)(h1:n≤9223372036854775807):∃k:Nat,k<n∧(IntKind.u64.wrap a).tmod (IntKind.u64.wrap (n:Int))=(k:Int)∧IntKind.i64.wrap (k:Int)=(k:Int):=by
 have h2:IntKind.u64.wrap (n:Int)=(n:Int):=by rw[IntKind.wrap_u64];omega
 have h3:0≤IntKind.u64.wrap a:=by rw[IntKind.wrap_u64];omega
 rw[h2,fJ h3];have h4:=Int.emod_nonneg (IntKind.u64.wrap a) (show(n:Int)≠0 by omega);have h5:=Int.emod_lt_of_pos (IntKind.u64.wrap a) (show 0<(n:Int)by omega);refine⟨(IntKind.u64.wrap a % (n:Int)).toNat,by omega,by omega,?_⟩;rw[af];omega
theorem wD(a b:ByteArray):(a.toList==b.toList)=decide (a=b):=by
 by_cases h:a=b
 ·subst h;simp
 ·rw[aj h,ed];intro he;rw[Lib.toList_data,Lib.toList_data]at he;refine h ?_;cases a;cases b;simp only[fx]at he;rw[he]
def cyU(lost:Bool)(k:Nat):Nat×Int→List (Nat×SV):=fun a=>[(2,.val (.bool lost)),(3,.ptr 3 0),(6,.val (.bool false)),(9,.val (.int .i64 (IntKind.i64.wrap (k:Int)))),(10,.ptr 10 0),(11,.val (.int .i64 a.2))]
def cyX(h c d:Sl):Nat×Int→List (Nat×List Value):=fun _=>[(3,[aZ h,aZ c]),(10,[aZ h,aZ d])]
def cyG(h c:Sl)(t:Li)(es:List lj):Nat×Int→List aD:=fun _=>[yA h c t,lH c t.c,mS g8 (aZ c) es]
def Z_(t:List Ce)(k:Nat)(x:Ce):Nat×Int→Prop:=fun a=>a.2=a.1∧a.1≤t.length∧∀j d,j<a.1→t[j]? =some d→jG d≠mK∧(j<k→jG d≠jG x)
section
variable{Γ:List aD}
theorem Nm(ha:Option Addr)(hn hc:Nat)(b off cn cc:Nat){t:Li}(Lq:rN t<150)(hv:jo t=true)(hls:YtgaaopjagcaojaaGreat.lost t.c=false)(lost:Bool)(h1:cn=t.c.length)(h3:cn≤cc)(k:Nat){x:Ce}(hx:t.c[k]? =some x)(hw:IntKind.i64.wrap (k:Int)=(k:Int))(g cap:Nat)(cur:List Value)(es:List lj)(he:es.map lj.x=t.c)(hcap:cn≤cap∧cap≤maxLen)(hcl:cur.length=cap*2)(hct:cur.take (cn*2)=es.flatMap g8.cells)
  (a:Nat×Int)(R:VS→List aD→Prop)(hq:Z_ t.c k x a)
  (close:∀(D':List Nat) (c':fG) (Γ':List aD) (a':Nat×Int),og (aL tb (bh tb D' 999 c'))=some R→
    (oh (aL tb (bh tb D' 999 c'))).map (fun s=>s.only [2,3,6,9,10,11] [3,10])=some (iJ 135 135 (cyU lost k a') (cyX ⟨ha,hn,hc⟩ ⟨some ⟨b,off,none⟩,cn,cc⟩ ⟨some ⟨g,0,none⟩,cn,cap⟩ a') [(g,cur)] [])→
    Z_ t.c k x a'→t.c.length-a'.1<t.c.length-a.1→(∀I w,br tb I w→aG Γ' I w→aG (cyG ⟨ha,hn,hc⟩ ⟨some ⟨b,off,none⟩,cn,cc⟩ t es a') I w)→W tb Tryz.prog (Fin tb Tryz.f7 (jq (.bool true))) c' Γ'):
  W tb Tryz.prog (Fin tb Tryz.f7 (jq (.bool true))) ⟨iJ 135 135 (cyU lost k a) (cyX ⟨ha,hn,hc⟩ ⟨some ⟨b,off,none⟩,cn,cc⟩ ⟨some ⟨g,0,none⟩,cn,cap⟩ a) [(g,cur)] [],.code (VV Tryz.f7 0)::.again R::VW Tryz.f7 0⟩ (cyG ⟨ha,hn,hc⟩ ⟨some ⟨b,off,none⟩,cn,cc⟩ t es a):=by
 obtain⟨i,z⟩:=a;obtain⟨hz,hi,hm⟩:=hq;simp only at hz hi hm;have RO:=(List.getElem?_eq_some_iff.1 hx).1;show W tb Tryz.prog _ ⟨iJ 135 135 (cyU lost k (i,z)) (cyX ⟨ha,hn,hc⟩ ⟨some ⟨b,off,none⟩,cn,cc⟩ ⟨some ⟨g,0,none⟩,cn,cap⟩ (i,z)) [(g,cur)] [],_⟩ [yA ⟨ha,hn,hc⟩ ⟨some ⟨b,off,none⟩,cn,cc⟩ t,lH ⟨some ⟨b,off,none⟩,cn,cc⟩ t.c,mS g8 (.slice (some ⟨b,off,none⟩) cn cc) es];refine sI ⟨some ⟨b,off,none⟩,cn,cc⟩ hx (hm:=rfl) (fun b' off' kh ki hak=>?_);simp only[ar,pR,and_true]at hak;obtain⟨rfl,rfl⟩:=hak;have ab1:cn≤1000:=by
  have h5:rN t=t.h.length+(t.c.map DL).sum:=rfl;have h6:∀l:List Ce,l.length≤(l.map DL).sum:=by
   intro l
   induction l with
   |nil=>exact ak _
   |cons c l ih=>
    have:DL c=1+c.h.length+(c.i.map JN).sum:=rfl;rw[bY,ec,aC];omega
  have:=h6 t.c;omega
 by_cases hlt:i<cn
 ·obtain⟨d,hd⟩:∃d,t.c[i]? =some d:=⟨_,ai (by omega)⟩;refine sI ⟨some ⟨b,off,none⟩,cn,cc⟩ hd (hm:=rfl) (fun b' off' dh di had=>?_);simp only[ar,pR,and_true]at had;obtain⟨rfl,rfl⟩:=had;refine bj [] 64 (decide (z<(cn:Int))) (au (by omega)) ?_;refine bW [64] 2 b off cn cc .i64 i z hz aB hlt ?_;refine cV [] b (off+i*2) [aZ dh,aZ di] aB (cA b (off+i*2)) ?_;refine aq [] (uM dh di (x:=d)) ?_;rintro _ _ ⟨rfl,rfl⟩;by_cases BW:jG d=mK
  ·refine bj [] 75 ((strOfNums (oy d)).toList==mK.toList) (by rw[wD];exact au BW) ?_;exact W.r [89,79,75] (.bool true) ⟨rfl,rfl⟩ bT
  refine aQ [] 75 ((strOfNums (oy d)).toList==mK.toList) (by rw[wD];exact aj BW) ?_;have next:(i<k→jG d≠jG x)→Z_ t.c k x (i+1,IntKind.i64.wrap (z+1)):=fun hk=>⟨by simp only[af];omega,by simp only;omega,fun j e hj NZ=>by
   simp only at hj;by_cases hji:j<i
   ·exact hm j e hji NZ
   ·obtain rfl:j=i:=by omega
    rw[hd]at NZ;injection NZ with NZ;subst NZ;exact⟨BW,hk⟩⟩
  by_cases hik:i<k
  ·refine bj [75] 79 (decide (z<IntKind.i64.wrap (k:Int))) (au (by omega)) ?_;refine bW [79] 2 b off cn cc .i64 k (IntKind.i64.wrap (k:Int)) hw aB (by omega) ?_;refine cV [79] b (off+k*2) [aZ kh,aZ ki] aB (cA b (off+k*2)) ?_;refine aq [79] (uM kh ki (x:=x)) ?_;rintro _ _ ⟨rfl,rfl⟩;by_cases heq:jG d=jG x
   ·refine bj [75,79] 89 ((strOfNums (oy d)).toList==(strOfNums (oy x)).toList) (by rw[wD];exact au heq) ?_;exact W.r [89] (.bool true) ⟨rfl,rfl⟩ bT
   refine aQ [75,79] 89 ((strOfNums (oy d)).toList==(strOfNums (oy x)).toList) (by rw[wD];exact aj heq) ?_;exact close [89] _ _ (i+1,IntKind.i64.wrap (z+1)) (by kernel_rfl) (by kernel_rfl) (next fun _=>heq) (by simp only;omega) (eC eK (eC eK (eC (fun I w hd hh=>eK (k:=mS g8 (.slice (some ⟨b,off,none⟩) cn cc)) I w hd hh) eE)))
  ·refine aQ [75] 79 (decide (z<IntKind.i64.wrap (k:Int))) (aj (by omega)) ?_;exact close [89,75,79] _ _ (i+1,IntKind.i64.wrap (z+1)) (by kernel_rfl) (by kernel_rfl) (next fun h=>absurd h hik) (by simp only;omega) (eC eK (eC eK (eC (fun I w hd hh=>eK (k:=mS g8 (.slice (some ⟨b,off,none⟩) cn cc)) I w hd hh) eE)))
 clear close;obtain rfl:i=t.c.length:=by omega
 have hne:∀d∈t.c,jG d≠mK:=fun d hd=>by
  obtain⟨j,hj,N9⟩:=uz hd;exact(hm j d hj (by rw[ai hj,N9])).1
 have hf:∀j d,j<k→t.c[j]? =some d→jG d≠jG x:=fun j d hj N9=>(hm j d (by omega) N9).2 hj;have hek:es[k]? =some ⟨(es.getD k ⟨⟨none,0,0⟩,⟨none,0,0⟩,x⟩).h,(es.getD k ⟨⟨none,0,0⟩,⟨none,0,0⟩,x⟩).i,x⟩:=by
  have Y9:k<es.length:=by rw[←he,bI]at RO;exact RO
  rw[dL,ai Y9];have:=dH (fun l=>l[k]?) he;simp only[bK]at this;rw[ai Y9,hx]at this;simp only[c_,ar]at this;rw[←this];rfl
 obtain⟨eh,hE,ei,hEi⟩:∃eh,(es.getD k ⟨⟨none,0,0⟩,⟨none,0,0⟩,x⟩).h=eh∧∃ei,(es.getD k ⟨⟨none,0,0⟩,⟨none,0,0⟩,x⟩).i=ei:=⟨_,rfl,_,rfl⟩;rw[hE,hEi]at hek;clear hE hEi;have hel:es.length=cn:=by rw[h1,←he,bI]
 refine aQ [] 64 (decide (z<(cn:Int))) (aj (by omega)) ?_;refine W.code 999 ?_;refine W.more (Δ:=[pS ki x.i]) (by kernel_rfl) (fun I w _ hh=>aS (aW.p (k:=yz kh ki) (a:=x) inferInstance hh).2) ?_;refine Tf lZ mN.x (fun _=>Nat.zero_lt_succ 1) ki (by kernel_rfl) (fun ims hie hin hia=>?_);have aeB:ims.length≤1000:=by
  have h5:DL x≤(t.c.map DL).sum:=I7 (aK hx);have h6:∀l:List Im,l.length≤(l.map JN).sum:=by
   intro l
   induction l with
   |nil=>exact ak _
   |cons c l ih=>
    have:JN c=1+c.f.length+c.p.length:=rfl;rw[bY,ec,aC];omega
  have h7:=h6 x.i;have h8:x.i.length=ims.length:=by rw[←hie,bI]
  have h9:DL x=1+x.h.length+(x.i.map JN).sum:=rfl;have h10:rN t=t.h.length+(t.c.map DL).sum:=rfl;omega
 refine bW [64] 2 b off cn cc .i64 k (IntKind.i64.wrap (k:Int)) hw aB (by omega) ?_;refine bZ [] 1 b (off+k*2) aB ?_;refine dJ [] 1 b (off+k*2+1) (aZ ki) aB (fun I w hd hh=>cA b (off+k*2) I w hd hh 1 _ rfl) ?_;refine Jg [] aB (fun b10=>?_);refine HB [] [(g,cur)] [] [(g,cur)] 2 48 0 ki.n (.slice (some ⟨b10,0,none⟩) 0 0) (aZ ki) [] (ims.flatMap lZ.cells) aB rfl (.inr ⟨rfl,rfl,rfl,b10,0,rfl⟩) (xq ki.ao [(g,cur)] ki.n 2 ki.c (by rw[rp (fun _=>rfl),hin]) hia) (R0 ims) (by omega) (by decide) (fun v1 O1 hg1=>?_);refine aq [] (Ke mK 0 0 (by decide)) ?_;rintro _ _ ⟨ur,rfl,rfl⟩;refine cH [] 1 [aZ ur,.slice none 0 0] aB (fun b13=>?_);refine HB [] (O1++[(g,cur)]) O1 [(g,cur)] 2 48 (0+ki.n) 1 v1 (.slice (some ⟨b13,0,none⟩) 1 1) ([]++ims.flatMap lZ.cells) [aZ ur,.slice none 0 0] aB rfl hg1 (bX b13 _ 1 2 rfl 1) (yl ur ⟨none,0,0⟩) (by omega) (by decide) (fun v2 O2 hg2=>?_);obtain⟨g2,tu,o7,rfl,rfl,c1,c2,c3,c4⟩:=hg2.pos (by omega);have YS:cF 2 [(g2,o7)] (aZ ⟨some ⟨g2,0,none⟩,0+ki.n+1,tu⟩) (0+ki.n+1) ((ims++[(⟨ur,⟨none,0,0⟩,fY mK 0 0⟩:mN)]).flatMap lZ.cells):=by
  refine⟨by rw[rp (fun _=>rfl),aA,hin];simp,.inr ⟨g2,tu,o7,rfl,rfl,c1,c2,c3,?_⟩⟩;rw[c4,az,bp];rfl
 generalize 0+ki.n+1=n2 at*;refine bW [] 2 g 0 cn cap .i64 k (IntKind.i64.wrap (k:Int)) hw aB (by omega) ?_;refine bZ [] 1 g (0+k*2) aB ?_;refine nD [] ([(g2,o7)]++[(g,cur)]) [(g2,o7)] [] 1 g (0+k*2+1) cur (aZ ⟨some ⟨g2,0,none⟩,n2,tu⟩) (cur.take (k*2+1)++[aZ ⟨some ⟨g2,0,none⟩,n2,tu⟩]++cur.drop (k*2+1+1)) aB rfl rfl (by intro v hv;simp[Value.cells]at hv;subst hv;rfl) (by omega) (by rw[bQ];rfl) ?_;have hrow:=FI (f:=g8.cells) (fun _=>rfl) (es:=es) (k:=k) (e:=⟨eh,ei,x⟩) (e':=⟨eh,⟨some ⟨g2,0,none⟩,n2,tu⟩,nE x (fY mK 0 0)⟩) (cur:=cur) (v:=aZ ⟨some ⟨g2,0,none⟩,n2,tu⟩) hek ⟨aZ eh,rfl,rfl⟩ (by rw[hel];exact hct) (by omega);have hrl:(cur.take (k*2+1)++[aZ ⟨some ⟨g2,0,none⟩,n2,tu⟩]++cur.drop (k*2+1+1)).length=cap*2:=by
  rw[aA,aA,dG,iw,aC,a_];omega
 generalize cur.take (k*2+1)++[aZ ⟨some ⟨g2,0,none⟩,n2,tu⟩]++cur.drop (k*2+1+1)=row at hrow hrl⊢;refine k8 [] [(g2,o7)] [(g,row)] (s:=⟨some ⟨g2,0,none⟩,n2,tu⟩) (by simp only[az];kernel_rfl) YS (fun q1 q2 q3=>?_);refine W.more (Δ:=[pS ⟨some ⟨g2,0,none⟩,n2,tu⟩ (x.i++[fY mK 0 0])]) (by kernel_rfl) (fun I w hd hh=>aS (by
  have h8:(mS lZ (aZ ki) (ims++[(⟨ur,⟨none,0,0⟩,fY mK 0 0⟩:mN)])).p I w:=mS.snoc (v:=aZ ki) (aW.p (k:=mS lZ (aZ ki)) inferInstance hh) (aW.p (k:=mI ur ⟨none,0,0⟩) inferInstance hh);have h9:=CP lZ mN.x (n:=n2) (c:=tu) (by have:=YS.1;rw[rp (fun _=>rfl)]at this;omega) q2 q3 h8 (aW.p (k:=RA (some ⟨g2,0,none⟩)) inferInstance hh);rw[aT,hie]at h9;exact h9)) ?_
 have FX:(es.set k ⟨eh,⟨some ⟨g2,0,none⟩,n2,tu⟩,nE x (fY mK 0 0)⟩).map lj.x=t.c.set k (nE x (fY mK 0 0)):=by
  rw[List.map_set,he]
 have hown:∀{Γ':List aD} [aW (mS g8 (.slice (some ⟨b,off,none⟩) cn cc)) es Γ'] [aW (pS ⟨some ⟨g2,0,none⟩,n2,tu⟩) (x.i++[fY mK 0 0]) Γ'] {I:fQ} {w:World},aG Γ' I w→(mS g8 (.slice none 0 0) (es.set k ⟨eh,⟨some ⟨g2,0,none⟩,n2,tu⟩,nE x (fY mK 0 0)⟩)).p I w:=fun{Γ'} _ _ {I w} hh=>by
  have h8:(mS g8 (.slice (some ⟨b,off,none⟩) cn cc) es).p I w:=aW.p (k:=mS g8 (.slice (some ⟨b,off,none⟩) cn cc)) inferInstance hh;exact mS.set (v:=.slice (some ⟨b,off,none⟩) cn cc) h8 ⟨(h8 ⟨eh,ei,x⟩ (aK hek)).1,aW.p (k:=pS ⟨some ⟨g2,0,none⟩,n2,tu⟩) inferInstance hh⟩
 have Zk:(es.set k ⟨eh,⟨some ⟨g2,0,none⟩,n2,tu⟩,nE x (fY mK 0 0)⟩).length=cn:=by rw[dq,hel]
 generalize aeq:es.set k ⟨eh,⟨some ⟨g2,0,none⟩,n2,tu⟩,nE x (fY mK 0 0)⟩=es2 at*;have yM:cF 2 [(g,row)] (aZ ⟨some ⟨g,0,none⟩,cn,cap⟩) cn (es2.flatMap g8.cells):=⟨by rw[rp (fun _=>rfl),Zk],.inr ⟨g,cap,row,rfl,rfl,hcap.1,hcap.2,hrl,by rw[←hrow,hel]⟩⟩;cases lost with
 |true=>
  refine k8 [] [(g,row)] [] (s:=⟨some ⟨g,0,none⟩,cn,cap⟩) (by simp only[az,ah];kernel_rfl) yM (fun _ q4 q5=>?_);refine W.more (Δ:=[yA ⟨ha,hn,hc⟩ ⟨some ⟨g,0,none⟩,cn,cap⟩ ⟨t.h,t.c.set k (nE x (fY mK 0 0))⟩]) (by kernel_rfl) (fun I w hd hh=>aS ⟨(aW.p (k:=yA ⟨ha,hn,hc⟩ ⟨some ⟨b,off,none⟩,cn,cc⟩) (a:=t) inferInstance hh).1,by
   have h9:=CP g8 lj.x (n:=cn) (c:=cap) Zk.symm q4 q5 (hown hh) (aW.p (k:=RA (some ⟨g,0,none⟩)) inferInstance hh);rw[FX]at h9;exact h9⟩) ?_
  refine aQ [] 107 (!true) rfl ?_;obtain⟨f1,f2⟩:=JC (t:=⟨t.h,t.c.set k (nE x (fY mK 0 0))⟩) (n:=153) (by rw[JD hx];omega) (by decide);refine aq [107] (mo ⟨ha,hn,hc⟩ ⟨some ⟨g,0,none⟩,cn,cap⟩ 200 (t:=⟨t.h,t.c.set k (nE x (fY mK 0 0))⟩) f1 f2) ?_;rintro _ _ hp;rw[CB (Dr hx hv) (OM hx hne 0 0)]at hp;rcases hp with⟨e,Lp,rfl,rfl⟩|⟨l,s,Lp,_⟩
  rotate_left
  ·simp at Lp
  injection Lp with Lp;subst Lp;refine bj [] 130 ((23:Int)==23) rfl ?_;exact W.r [130] (.bool (((0:Nat):Int)==0)) ⟨rfl,rfl⟩ bT
 |false=>
  refine bj [] 107 (!false) rfl ?_;refine bW [107] 2 b off cn cc .i64 k (IntKind.i64.wrap (k:Int)) hw aB (by omega) ?_;refine cV [] b (off+k*2) [aZ kh,aZ ki] aB (cA b (off+k*2)) ?_;refine aq [] (uM kh ki (x:=x)) ?_;rintro _ _ ⟨rfl,rfl⟩;refine aq [] (Ke (strOfNums (oy x)) 1 1 (by
   obtain⟨b2,hb2,hb3⟩:=CF (DX hx hv);have h8:=nW hb2;rw[strOfNums_size];unfold oy;rw[hb3];simp only at h8⊢;unfold fI;split
   ·rw[sQ];omega
   ·omega)) ?_
  rintro _ _ ⟨ur2,rfl,rfl⟩;refine cH [] 1 [aZ ur2,.slice none 0 0] aB (fun b20=>?_);refine gT [] (Γ':=[pS ⟨some ⟨b20,0,none⟩,1,1⟩ [fY (jG x) 1 1]]) (fun I w _ hh=>aS (rS [⟨ur2,⟨none,0,0⟩,fY (jG x) 1 1⟩] (by simp) (aW.p (k:=ek b20) inferInstance hh) (fun e he=>by
   simp only[aF,aE,bL]at he;subst he;exact aW.p (k:=mI ur2 ⟨none,0,0⟩) (a:=fY (strOfNums (oy x)) 1 1) inferInstance hh))) (pF mK ⟨some ⟨b20,0,none⟩,1,1⟩ (l:=[fY (jG x) 1 1]) (by decide)) ?_
  rintro _ _ ⟨uc,rfl,rfl⟩;refine cH [] 1 [aZ uc,.slice (some ⟨b20,0,none⟩) 1 1] aB (fun b22=>?_);refine W.app [] [(g,row)] [] [(g,row)] [] 2 48 cn 1 (aZ ⟨some ⟨g,0,none⟩,cn,cap⟩) (.slice (some ⟨b22,0,none⟩) 1 1) (es2.flatMap g8.cells) [aZ uc,.slice (some ⟨b20,0,none⟩) 1 1] aB rfl yM (bX b22 _ 1 2 rfl 1) (yl uc ⟨some ⟨b20,0,none⟩,1,1⟩) (by omega) (by decide) (fun v3 O3 FP=>?_);obtain⟨v3,rfl⟩:=h_ FP;refine k8 [] O3 [] (s:=v3) (by simp only[az,ah];kernel_rfl) FP (fun q6 q4 q5=>?_);refine W.more (Δ:=[yA ⟨ha,hn,hc⟩ v3 ⟨t.h,kH t.c k x⟩]) (by kernel_rfl) (fun I w hd hh=>aS ⟨(aW.p (k:=yA ⟨ha,hn,hc⟩ ⟨some ⟨b,off,none⟩,cn,cc⟩) (a:=t) inferInstance hh).1,by
   have h8:(mS g8 (.slice none 0 0) (es2++[(⟨uc,⟨some ⟨b20,0,none⟩,1,1⟩,jN mK [fY (jG x) 1 1]⟩:lj)])).p I w:=mS.snoc (v:=.slice none 0 0) (hown hh) (aW.p (k:=yz uc ⟨some ⟨b20,0,none⟩,1,1⟩) inferInstance hh);have h9:=CP g8 lj.x (ao:=v3.ao) (n:=v3.n) (c:=v3.c) (by rw[aA,Zk];exact q6) q4 q5 h8 (by
    have:=aW.p (k:=RA v3.ao) (a:=es2.flatMap g8.cells++[aZ uc,.slice (some ⟨b20,0,none⟩) 1 1]) inferInstance hh;rw[bp];exact this)
   rw[aT,FX]at h9;exact h9⟩) ?_
  obtain⟨f1,f2⟩:=JC (t:=⟨t.h,kH t.c k x⟩) (n:=160) (by rw[NI hx];omega) (by decide);refine aq [] (mo ⟨ha,hn,hc⟩ v3 200 (t:=⟨t.h,kH t.c k x⟩) f1 f2) ?_;rintro _ _ hp;rw[NO (Ja hx hv) (KY hx hne hf hls (DX hx hv)) (MZ hx hne hf hls (DX hx hv))]at hp;rcases hp with⟨e,Lp,rfl,rfl⟩|⟨l,s,Lp,_⟩
  rotate_left
  ·simp at Lp
  injection Lp with Lp;subst Lp;refine bj [] 130 ((24:Int)==24) rfl ?_;exact W.r [130] (.bool (((0:Nat):Int)==0)) ⟨rfl,rfl⟩ bT
theorem Ej(ha:Option Addr)(hn hc:Nat)(ca:Option Addr)(cn cc:Nat){t:Li} [hF:aW (yA ⟨ha,hn,hc⟩ ⟨ca,cn,cc⟩) t Γ](hb:∀x∈t.c,x.h.length≤1152921504606846976)(at':Int)(w0:(Lit.int .i64 at').wf=true)(lost:Bool):
  aw tb Tryz.prog 7 [lY ⟨ha,hn,hc⟩ ⟨ca,cn,cc⟩,.int .i64 at',.bool lost] Γ (jq (.bool true)):=by
 refine aw.of_W aB Tryz.func7 rfl ?_;refine W.more (Δ:=[lH ⟨ca,cn,cc⟩ t.c]) rfl (fun I w _ hh=>aS (hF.p hh).2) ?_;refine W.len g8 lj.x ⟨ca,cn,cc⟩ rfl (fun h1 h2 h3=>?_);simp only at h1 h2 h3;refine Tf g8 lj.x (fun _=>Nat.zero_lt_succ 1) ⟨ca,cn,cc⟩ rfl (fun es hes hen hea=>?_);simp only at hen hea;refine aq [] (Sk ha hn hc ca cn cc (t:=t) hb) ?_;rintro _ _ ⟨g,rfl,rfl,hg⟩;cases g with
 |false=>
  refine bj [] 19 (!false) rfl ?_;refine aq [24,19] oR ?_;rintro _ _ ⟨rfl,rfl⟩;exact W.r [] (.bool true) ⟨rfl,rfl⟩ bT
 |true=>
 have Lq:=hg rfl;refine aQ [] 19 (!true) rfl ?_;by_cases h0:cn=0
 ·refine bj [19] 24 ((cn:Int)==0) (by simp[h0]) ?_;refine aq [24] oR ?_;rintro _ _ ⟨rfl,rfl⟩;exact W.r [] (.bool true) ⟨rfl,rfl⟩ bT
 refine aQ [19] 24 ((cn:Int)==0) (by rw[ed];omega) ?_;have hfl:(g9 t).length≤100000:=aP (NK Lq) (by decide);have hco:jo t=true→xw t.c≤160:=fun hv=>aP (NJ Lq hv) (by decide);obtain⟨b,off,rfl⟩:=hea (by omega);have hsm:cn≤100000:=by
  have h5:=qZ pg t.c;have h6:(g9 t).length=t.h.length+((t.c.flatMap fS).length+1):=by simp[g9]
  omega
 refine aq [24] ((mo ⟨ha,hn,hc⟩ ⟨some ⟨b,off,none⟩,cn,cc⟩ 200 (t:=t) hfl hco).entH (post':=fun v Δ=>∃(e:Int) (u:Sl),(∀q,qX t 200=.error q→e=q)∧v=.tuple #[aZ u,.int .i64 e]∧Δ=[]) (fun v Δ hp=>⟨[],by
  rcases hp with⟨e,he,rfl,rfl⟩|⟨l,s,he,rfl,rfl⟩
  ·exact⟨e,⟨none,0,0⟩,fun q hq=>by rw[he]at hq;injection hq,rfl,rfl⟩
  ·exact⟨0,s,fun q hq=>by rw[he]at hq;simp at hq,rfl,rfl⟩,fun I w hh=>aG.nil _ _⟩)) ?_
 rintro _ _ ⟨e,u,hq,rfl,rfl⟩;refine aq [] oR ?_;rintro _ _ ⟨rfl,rfl⟩;by_cases e1:e=20
 ·refine bj [33] 37 (e==20) (by simpa using e1) ?_;refine aq [44,41,37] oR ?_;rintro _ _ ⟨rfl,rfl⟩;exact W.r [] (.bool true) ⟨rfl,rfl⟩ bT
 refine aQ [33] 37 (e==20) (by simpa using e1) ?_;by_cases e2:e=23
 ·refine bj [37] 41 (e==23) (by simpa using e2) ?_;refine aq [44,41] oR ?_;rintro _ _ ⟨rfl,rfl⟩;exact W.r [] (.bool true) ⟨rfl,rfl⟩ bT
 refine aQ [37] 41 (e==23) (by simpa using e2) ?_;by_cases e3:e=1
 ·refine bj [41] 44 (e==1) (by simpa using e3) ?_;refine aq [44] oR ?_;rintro _ _ ⟨rfl,rfl⟩;exact W.r [] (.bool true) ⟨rfl,rfl⟩ bT
 refine aQ [41] 44 (e==1) (by simpa using e3) ?_;obtain⟨hv,hls⟩:=Ib (t:=t) (fun q Hp=>by have:=hq q Hp;omega);obtain⟨k,hk,vh,hw⟩:=VX at' (n:=cn) (by omega) (by omega);obtain⟨x,hx⟩:∃x,t.c[k]? =some x:=⟨_,ai (by omega)⟩;refine xI [44] .u64 (IntKind.u64.wrap at') (IntKind.u64.wrap (cn:Int)) (k:Int) (by rw[IntKind.wrap_u64];omega) vh ?_;refine Jg [] aB (fun b5=>?_);refine HB [] [] [] [] 2 48 0 cn (.slice (some ⟨b5,0,none⟩) 0 0) (.slice (some ⟨b,off,none⟩) cn cc) [] (es.flatMap g8.cells) aB rfl (.inr ⟨rfl,rfl,rfl,b5,0,rfl⟩) (xq (some ⟨b,off,none⟩) [] cn 2 cc (by rw[rp (fun _=>rfl),hen]) (fun _=>⟨b,off,rfl⟩)) (Rz es) (by omega) (by decide) (fun v1 O1 hg1=>?_);obtain⟨g,cap,cur,rfl,rfl,c1,c2,c3,c4⟩:=hg1.pos (by omega);rw[az]at c4;generalize hcn:0+cn=XC at*;obtain rfl:XC=cn:=by omega
 exact j0 [] Tryz.f7 0 135 135 [2,3,6,9,10,11] [3,10] (cyU lost k) (cyX ⟨ha,hn,hc⟩ ⟨some ⟨b,off,none⟩,XC,cc⟩ ⟨some ⟨g,0,none⟩,XC,cap⟩) (fun _=>[(g,cur)]) (fun _=>[]) (cyG ⟨ha,hn,hc⟩ ⟨some ⟨b,off,none⟩,XC,cc⟩ t es) (Z_ t.c k x) (fun a=>t.c.length-a.1) (0,0) ⟨rfl,aJ _,fun j d hj=>absurd hj (hZ _)⟩
  (eC eK (eC eK (eC (fun I w hd hh=>eK (k:=mS g8 (.slice (some ⟨b,off,none⟩) XC cc)) I w hd hh) eE))) (fun a R hq close=>Nm ha hn hc b off XC cc Lq hv hls lost h1 h2 k hx hw g cap cur es hes ⟨c1,c2⟩ c3 c4 a R hq close)
end
open Go.RowKit Go.ChangeShapes Go.WideShapes
section
variable{H:Type}{enc:TypeId×Value→H}{P:Program}{w:World}
theorem y_{e:TypeId}{d:DataW H}:∀{l:List (DataW H)},d∈l→∀x∈d.weights P e,x∈DataW.weightsAll P e l
 |y::l,hd,x,hx=>by
  rw[DataW.weightsAll,dI];simp only[aF]at hd;rcases hd with rfl|hd
  ·exact .inl hx
  ·exact .inr (y_ hd x hx)
theorem Mc{t e:TypeId}(ht:P.underlying t=some (.slice e))(he:0<P.bytesOf e){s:Sl}{n:Nat}{y:DataW H×List MemPlace}(h:DataW.trod enc P w 0 (fun _=>true) true n t [aZ s]=some y)(hw:∀x∈y.1.weights P t,x≤reachBytes):s.n≤reachBytes:=by
 rcases Go.Deep.open_slice ht h with⟨hcs,_⟩|⟨a,len,cap,m,n',D,Pl,hcs,_,hl,hml,hm,rfl,hx⟩
 ·simp only[jh,kQ,and_true]at hcs;rw[hcs.2.1];exact aJ _
 ·simp only[jh,kQ,and_true]at hcs;have:=hw ((((List.range len).map D).length+((List.range (m-len)).map fun j=>D (len+j)).length)*P.bytesOf e) (by
   simp only[DataW.weights,ht];exact oY)
  rw[hcs.2.1];have h2:len*1≤(((List.range len).map D).length+((List.range (m-len)).map fun j=>D (len+j)).length)*P.bytesOf e:=aY (by simp) he;omega
theorem zV.cells_b{tb':TypeId}(L:zV P tb')(Ol:0<P.bytesOf L.re){s:Sl}{l:List Ce}{n:Nat}{y:DataW H×List MemPlace}(h:DataW.trod enc P w 0 (fun _=>true) true n L.ces [aZ s]=some y)(hw:∀x∈y.1.weights P L.ces,x≤reachBytes)
  (hc:(lH s l).p vp w):∀x∈l,x.h.length≤reachBytes:=by
 obtain⟨es,rfl,hn,hcap,hf,Oh⟩:=hc;intro x hx;obtain⟨e,he,rfl⟩:=List.mem_map.1 hx;obtain⟨i,hi,hie⟩:=uz he;rw[bI]at hn;have hcl:∀j v,(g8.cells e)[j]? =some v→(es.flatMap g8.cells)[i*g8.z+j]? =some v:=fun j v hv=>EF g8 hi j v (by rw[hie];exact hv);have h0:=hcl 0 (aZ e.h) rfl;obtain⟨b,off,ha,_,hcell⟩:=Oh (fun e0=>by
  have:es.flatMap g8.cells=[]:=e0;rw[this]at h0;simp at h0)
 have hc0:=hcell _ _ h0;have Lp:=hf e he;obtain⟨e1,e2⟩:=Lp;obtain⟨er,Ho,aep,_⟩:=e1;rcases Go.Deep.open_slice_pairs L.hcs.1 L.hc.1 L.hc.2 L.hc0.2 L.hc1.2 (by rw[L.hc0.1];exact L.hrs.2) (by rw[L.hc1.1];exact L.his.2) h with⟨hcs,_⟩|⟨a,len,cap,m,n',V0,V1,D0,D1,P0,P1,hcs,_,hl,hml,hm,rfl,each⟩
 ·simp only[jh,kQ,and_true]at hcs;rw[hcs.1]at ha;simp at ha
 ·simp only[jh,kQ,and_true]at hcs;obtain⟨ha2,hn2,hc2⟩:=hcs;have hil:i<len:=by omega
  obtain⟨g1,_,g3,_⟩:=each i (by
   rw[hm];simp only[e8];omega)
  rw[ha]at ha2;injection ha2 with ha2;subst ha2;have hV:V0 i=aZ e.h:=by
   have e4:(⟨b,off,none⟩:Addr).add (i*2)=⟨b,off+(i*g8.z+0),none⟩:=by
    unfold Addr.add;split
    ·rename_i h5;have:i=0:=by omega
     subst this;rfl
    ·rfl
   rw[e4,hc0]at g1;injection g1 with g1;exact g1.symm
  rw[hV,L.hc0.1]at g3;have:=Mc L.hrs.1 Ol g3 (fun z hz=>hw z (by
   have hD:DataW.agg [D0 i,D1 i]∈(List.range len).map fun i=>DataW.agg [D0 i,D1 i]:=List.mem_map.2 ⟨i,List.mem_range.2 hil,rfl⟩;simp only[DataW.weights,L.hcs.1];refine cN _ (gK _ (y_ hD z ?_));simp only[DataW.weights,L.hc.1];show z∈DataW.weightsEach P [L.c0.type,L.c1.type] [D0 i,D1 i];rw[DataW.weightsEach,L.hc0.1];exact gK _ hz))
  omega
theorem IH{tb' t:TypeId}{f0 f1:Field}(L:zV P tb')(Ol:0<P.bytesOf L.re)(ht:P.underlying t=some (.struct #[f0,f1]))(h0:f0.type=L.res∧f0.offset=0)(h1:f1.type=L.ces∧f1.offset=1)
  {v:Value}{d:DataW H}{ps:List MemPlace}{r:Reach}{b0:Nat}(hval:Value.okWide P w r b0 t v)(h:DataW.Trod enc P w 0 (fun _=>true) true t v d ps)(hw:∀x∈d.weights P t,x≤reachBytes)(hct:P.cellsOf t=2:=by kernel_rfl):
  ∃(hs cs:Sl) (t:Li),v=.agg #[aZ hs,aZ cs]∧(yA hs cs t).p vp w∧∀x∈t.c,x.h.length≤reachBytes:=by
 obtain⟨hs,cs,u,rfl,hLi⟩:=OY L ht hct h0 h1 hval h;refine⟨hs,cs,u,rfl,hLi,?_⟩;obtain⟨fuel,htr⟩:=h;obtain⟨xs,n,_,hx,_,hlen,hff⟩:=DataW.trod_struct ht htr;have g1:=hff 1 f1 rfl;rw[h1.2,h1.1,L.hcs.2]at g1;have e:(((Value.agg #[aZ hs,aZ cs]).cells.toList).drop 1).take 1=[aZ cs]:=rfl;rw[e]at g1;obtain⟨d0,d1,rfl⟩:∃a b,xs=[a,b]:=by
  match xs,hlen with
  | [a,b],_=>exact⟨a,b,rfl⟩
 simp only[eV,dO]at g1;simp only[bY,dk,aH]at hx;rw[hx.1]at hw;refine L.cells_b Ol g1 (fun z hz=>hw z ?_) hLi.2;simp only[DataW.weights,ht];show z∈DataW.weightsEach P [f0.type,f1.type] [d0.1,d1.1];exact DataW.weights_mem_each (j:=1) rfl rfl z (by rw[h1.1];exact hz)
end
theorem OE:Tryz.prog.mayEnter=true:=by kernel_rfl
theorem R3:(false==Tryz.prog.liftsFinal)=true:=by kernel_rfl
theorem R4:(Tryz.prog.make==some Rows.flatCountsRow.make)=true:=by kernel_rfl
theorem JQ:laidOutB Tryz.prog=true:=by kernel_rfl
theorem R5:mapsRowed Tryz.prog=true:=by kernel_rfl
theorem VP:ownKnob Tryz.prog.godebug=none:=by kernel_rfl
def acb:zV Tryz.prog 5 where
 tbs:=28
 re:=45
 res:=22
 im:=49
 ims:=41
 ce:=43
 ces:=23
 r0:=⟨ "Kind",5,0,false, "", "",0⟩
 r1:=⟨ "Data",5,1,false, "", "",1⟩
 r2:=⟨ "Body",28,2,false, "", "",8⟩
 i0:=⟨ "Fields",22,0,false, "", "",0⟩
 i1:=⟨ "Props",22,1,false, "", "",24⟩
 c0:=⟨ "Head",22,0,false, "", "",0⟩
 c1:=⟨ "Items",41,1,false, "", "",24⟩
 hb:=⟨Tryz.underlying5,by kernel_rfl⟩
 hbs:=⟨Tryz.underlying28,by kernel_rfl⟩
 hr:=⟨Tryz.underlying45,by kernel_rfl⟩
 hr0:=⟨rfl,rfl⟩
 hr1:=⟨rfl,rfl⟩
 hr2:=⟨rfl,rfl⟩
 hrs:=⟨Tryz.underlying22,by kernel_rfl⟩
 hi:=⟨Tryz.underlying49,by kernel_rfl⟩
 hi0:=⟨rfl,rfl⟩
 hi1:=⟨rfl,rfl⟩
 his:=⟨Tryz.underlying41,by kernel_rfl⟩
 hc:=⟨Tryz.underlying43,by kernel_rfl⟩
 hc0:=⟨rfl,rfl⟩
 hc1:=⟨rfl,rfl⟩
 hcs:=⟨Tryz.underlying23,by kernel_rfl⟩
end Go.Proofs.YtgaaopjagcaojaaGreat
namespace Go.Proofs.YtgaaopjagcaojaaGreat.flatCycles
open Go.ChangeShapes Go.WideShapes Go.ChangeAt Go.RowKit
open Go.ChangeMaps (open_string shut_string)
theorem Ve:joinedFacts Tryz.pinned.checked.prog 7 Tryz.f7 Rows.flatCyclesSpec Rows.flatCyclesRow=true:=by
 unfold joinedFacts;rw[show Tryz.pinned.checked.prog.mayEnter=true from OE,show(Rows.flatCyclesRow.lifted==Tryz.pinned.checked.prog.liftsFinal)=true from R3,show(Tryz.pinned.checked.prog.make==some Rows.flatCyclesRow.make)=true from R4,
  show laidOutB Tryz.pinned.checked.prog=true from JQ,show mapsRowed Tryz.pinned.checked.prog=true from R5]
 kernel_rfl
set_option maxRecDepth 100000 in
theorem lifted(os:Os)(started:os.Started)(H:Type)(enc:TypeId×Value→H):
  ReturnsInHanded {} Tryz.checked os 7 .any (Rows.flatCyclesSpec.pre6 enc Tryz.prog Tryz.f7 Rows.flatCyclesRow.domain false) (Rows.flatCyclesSpec.post enc Tryz.prog Tryz.f7 false true false false):=by
 refine returnsInHanded_of_change_sized (C:=Tryz.checked) VP started (by kernel_rfl) Tryz.func7
  (ChangeSpec.witness6 (enc:=enc) (C:=Tryz.checked) false ⟨#[],#[.agg #[.slice none 0 0,.slice none 0 0],.int .i64 0,.bool false],[]⟩ 8 (by kernel_rfl) (by kernel_rfl) (by kernel_rfl) (by kernel_rfl)) ?_
 intro W base args ds gs mU TV hW aek hsz _;have hval:∀(j:Nat) t v,Tryz.f7.params[j]? =some t→args[j]? =some v→Value.okWide Tryz.prog W .any base t v:=TV;have hW':=hW;obtain⟨p,q,hA0,hV,rfl,hfz,AE⟩:=hW;have hA:DataW.TrodAll enc Tryz.prog W 0 (fun _=>true) true Tryz.f7.params.toList args.toList ds p:=hA0;have hK:=hA;rw[Tryz.params7]at hA hval hK;obtain⟨v0,vs0,d0,ds0,p0,q0,hargs,rfl,rfl,h0,r0⟩:=trodAll_cons hA;obtain⟨v1,vs1,d1,ds1,p1,q1,rfl,rfl,rfl,h1,r1⟩:=trodAll_cons r0;obtain⟨v2,vs2,d2,ds2,p2,q2,rfl,rfl,rfl,h2,r2⟩:=trodAll_cons r1;obtain⟨rfl,rfl,rfl⟩:=trodAll_nil r2;obtain rfl:args= #[v0,v1,v2]:=by cases args;simp_all
 obtain⟨rfl,rfl⟩:=trodVars_none hV;have z0:∀x∈d0.weights Tryz.prog 25,x≤reachBytes:=fun x hx=>jf (List.all_eq_true.1 hsz x (DataW.weights_mem_each (j:=0) rfl rfl x hx));obtain⟨⟨ha0,hn0,hc0⟩,⟨ca0,cn0,cc0⟩,t0,rfl,g0,b0⟩:=IH acb (by decide+kernel) Tryz.underlying25 ⟨rfl,rfl⟩ ⟨rfl,rfl⟩ (hval 0 25 v0 rfl rfl) h0 z0;obtain⟨a1,rfl,rfl,rfl,w1⟩:=open_int Tryz.underlying3 (hval 1 3 v1 rfl rfl) h1;obtain⟨a2,rfl,rfl,rfl⟩:=open_bool Tryz.underlying4 (hval 2 4 v2 rfl rfl) h2;clear hA0 TV;simp only[ah]at hW' hK;refine(Iw (Ej ha0 hn0 hc0 ca0 cn0 cc0 (t:=t0) (fun x hx=>aP (b0 x hx) (by decide)) a1 w1 a2) W (aG.cons g0 (aG.nil _ _))).mono fun e W' ⟨he,hg⟩=>?_;subst he;exact⟨_,rfl,OH hW' rfl (fun _ _ _=>(trodAll_cons_mk (shut_bool Tryz.underlying4 _) trodAll_mk0)) (fun sp hsp=>vA JQ hg (by kernel_rfl) hK (fun x hx=>hW'.lt x (by first|exact hx|simpa using hx)) (fun x hx=>hsp x (by first|exact hx|simpa using hx))) rfl hg⟩
theorem over:Rows.flatCyclesRow.holds Tryz.pinned (OpenSpec.ofChange Rows.flatCyclesSpec):=
 OpenClaim.holds_of_wide 7 Tryz.f7 rfl rfl rfl rfl rfl rfl rfl ⟨rfl,rfl,rfl,rfl,rfl⟩ rfl rfl rfl rfl rfl (by kernel_rfl) Tryz.func7 Ve
  (jf (by kernel_rfl)) (by unfold Func.isWrapper;first|(rw[if_pos (by decide+kernel)];kernel_rfl)|(rw[if_neg (by decide+kernel)];exact⟨rfl,rfl⟩))
  (fun os started H enc _=>lifted os started H enc)
end Go.Proofs.YtgaaopjagcaojaaGreat.flatCycles
namespace Go.Proofs.YtgaaopjagcaojaaGreat
theorem flatCycles_holds:Rows.FlatCyclesSaid:=flatCycles.over
end Go.Proofs.YtgaaopjagcaojaaGreat
