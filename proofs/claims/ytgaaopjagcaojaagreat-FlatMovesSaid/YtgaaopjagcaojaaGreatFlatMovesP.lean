/- A library whose tops are referred to by a new one, moved, has all shapes moved, or some lie outside, whenever the Go function FlatMoves is called. -/
import Derived.Test.YtgaaopjagcaojaaGreatBb
import Derived.Test.YtgaaopjagcaojaaGreatBf
import Derived.Test.YtgaaopjagcaojaaGreatLk
import Derived.Deep.SlicePairs
import Derived.SizedLaws
import Derived.Test.YtgaaopjagcaojaaGreatRows
import Derived.JoinedOf
import Derived.ProofKit
import Derived.Test.YtgaaopjagcaojaaGreatRc
import Derived.Test.YtgaaopjagcaojaaGreatVk
set_option linter.unusedSimpArgs false
set_option linter.unusedVariables false
set_option maxHeartbeats 4000000
namespace Go.Proofs.YtgaaopjagcaojaaGreat
open Go.RowKit Go.IntWalk
theorem pP:∀{ks:List Int} {l x m:List Re},dq ks l=some (x,m)→(ks.filter (fun k=>decide (k<256))).length≤x.length
 | [],l,x,m,h=>aH _
 |k::ks,l,x,m,h=>by
  unfold dq at h;split at h
  ·split at h
   ·split at h
    ·rename_i rs m' hp;simp only[aq,aG]at h;obtain⟨rfl,rfl⟩:=h;have:=pP hp;have h2:((k::ks).filter (fun k=>decide (k<256))).length≤(ks.filter (fun k=>decide (k<256))).length+1:=by
      rw[List.filter_cons];split<;>simp
     simp only[aB];omega
    ·simp at h
   ·simp at h
  ·rename_i hk;have:=pP h;rw[List.filter_cons,if_neg (by simp;omega)];exact this
theorem LJ{h:List Re}(hc:iy h):2≤h.length:=pP hc
theorem L0{h:List Re}(hc:I2 h):4≤h.length:=by
 obtain⟨a,b,m1,h1,h2,rfl⟩:=lJ hc;obtain⟨c,d,m2,h3,h4,rfl⟩:=lJ h2;have e1:3≤a.length:=pP h1;have e2:1≤d.length:=pP h4;simp only[aA];omega
theorem LV(x:Im):(fQ x).length=Il x:=by
 unfold fQ Il;simp only[aA,aB,a_];omega
theorem Bh{α β:Type}{f:α→List β}{g:α→Nat}(h:∀a,(f a).length=g a):∀l:List α,(l.flatMap f).length=(l.map g).sum
 | []=>rfl
 |a::l=>by
  rw[bB,aA,h,Bh h l,bQ,dC]
theorem IX(c:Ce):(gi c).length=Fi c:=by
 unfold gi Fi;rw[aA,aA,Bh LV];simp only[aB,a_];omega
theorem AR(t:Li):(iQ t).length=vv t+1:=by
 unfold iQ vv;rw[aA,aA,Bh IX];simp only[aB,a_];omega
theorem wX{b:Nat}:∀{l:List Nat} {a:Nat},a≤b→(∀x∈l,x≤b)→l.foldl max a≤b
 | [],a,ha,_=>ha
 |y::l,a,ha,h=>wX (l:=l) (by have:=h y (by simp);omega) (fun x hx=>h x (by simp[hx]))
theorem JP{α:Type}{f:α→Nat}:∀{l:List α} {x:α},x∈l→f x≤(l.map f).sum
 |y::l,x,h=>by
  simp only[aF]at h;rw[bQ,dC];rcases h with rfl|h
  ·omega
  ·have:=JP (f:=f) h;omega
theorem DP{α:Type}{f:Nat→Nat}{g:α→Nat}:∀(l:List α) (k:Nat),(∀i x,l[i]? =some x→f (k+i)≤g x)→((List.range' k l.length).map f).sum≤(l.map g).sum
 | [],k,_=>by simp
 |x::l,k,h=>by
  rw[aB,List.range'_succ,bQ,dC,bQ,dC];have h1:=h 0 x rfl;have h2:=DP l (k+1) (fun i y hy=>by
   have:=h (i+1) y (by simpa using hy);rw[show k+1+i=k+(i+1)by omega];exact this)
  simp only[fK]at h1;omega
theorem Rq{t:List Ce}{i:Nat}{c:Ce}(hc:t[i]? =some c){b:Nat}(h:∀x∈c.i,wI x≤b):wC t i≤b:=by
 unfold wC;rw[mj hc];exact wX (aH _) (fun y hy=>by
  obtain⟨x,hx,rfl⟩:=List.mem_map.1 hy;exact h x hx)
theorem TN{t:List Ce}{g:Ce→Nat}(h:∀c∈t,∀x∈c.i,wI x≤g c):uE t≤(t.map g).sum:=by
 unfold uE;rw[List.range_eq_range'];refine DP t 0 (fun i c hc=>?_);rw[bU];exact Rq hc (h c (aM hc))
theorem LH{c:Ce}(hc:tu c){x:Im}(hx:x∈c.i):wI x≤Fi c:=by
 have h1:=LJ hc.1;have h2:=JP (f:=Il) hx;unfold Fi wI;have e:Il x=1+x.f.length+x.p.length:=rfl;omega
theorem Oc{t:Li}(h:vv t<150):(iQ t).length≤150:=by
 rw[AR];omega
theorem Ge{t:Li}(h:vv t<150)(hv:lS t=true):uE t.c≤145:=by
 obtain⟨h1,h2⟩:=oq.1 hv;have h3:=L0 h1;have h4:=TN (t:=t.c) (g:=Fi) (fun c hc x hx=>LH (h2 c hc) hx);unfold vv at h;omega
theorem Cx{l:List Int}(h:l.all jW=true):kU l:=fun z hz=>by
 have:=List.all_eq_true.1 h z hz;unfold jW at this;simp only[dI,aK,cY,eJ]at this;omega
theorem JQ{b:List Int}(h:fr ⟨6,6,b⟩=true):j8 (strOfNums (fI b))=b:=by
 rw[uA (s:=⟨6,2,1,16⟩) (by rfl)]at h;simp only[aK,eJ,cY]at h;obtain⟨_,h1,h2,_,h3⟩:=h;rw[if_neg (by decide),if_pos (by decide)]at h3;have hb:=Cx h3;unfold j8;rw[←qV,FQ hb];unfold fI at h3⊢;split
 ·rename_i hl;have hn:b≠ []:=by rintro rfl;simp at hl
  have hp:=List.length_pos_iff.2 hn;rw[if_pos hl]at h3;rw[if_neg (by rw[List.length_dropLast];omega)];have h5:=List.dropLast_concat_getLast hn;rw[List.getLast?_eq_some_getLast hn]at hl;injection hl with hl;rw[hl]at h5;exact h5
 ·rw[if_pos (by omega)]
theorem Jl{b:List Int}(h:fr ⟨6,6,b⟩=true):fr ⟨18,6,b⟩=true:=by
 rw[uA (s:=⟨6,2,1,16⟩) (by rfl)]at h⊢;exact h
theorem Da{h:List Re}(hc:iy h):∃b,fr ⟨6,6,b⟩=true∧(h.find? (fun r=>r.k==6))=some ⟨6,6,b⟩:=by
 unfold iy at hc;obtain⟨r,x,rfl,hk,hr⟩:=ns hc;rw[dA]at hc;have hs:dq [6,308] (x++[gD 7])=some (x,[gD 7]):=by
  have h1:dq (5::[6,308]) (r::(x++[gD 7]))=(match dq [6,308] (x++[gD 7])with
    |some (rs,m')=>some (r::rs,m')
    |none=>none):=by
   show(if(5:Int)<256∨_ then _ else _)=_;rw[if_pos (.inl (by decide))];rw[show gK (5 % 256) (r::(x++[gD 7]))=some (r,x++[gD 7])by unfold gK;exact if_pos ⟨hk,hr⟩];rfl
  rw[h1]at hc;cases hp:dq [6,308] (x++[gD 7])with
  |none=>rw[hp]at hc;simp at hc
  |some q=>
   obtain⟨rs,m⟩:=q;rw[hp]at hc;simp only[aq,aG,oT,true_and]at hc;rw[hc.1,hc.2]
 obtain⟨r2,x2,rfl,hk2,hr2⟩:=ns hs;obtain⟨k2,d2,b2⟩:=r2;simp only at hk2;subst hk2;have hd:d2=6:=by
  have:=hr2;rw[uA (s:=⟨6,2,1,16⟩) (by rfl)]at this;simp only[aK,eJ]at this;exact this.1
 subst hd;refine⟨b2,hr2,?_⟩;rw[List.find?_cons_of_neg (by rw[hk];decide)];rfl
theorem Dq{c:Ce}(hc:iy c.h):fr ⟨18,6,j8 (mg c)⟩=true∧fI (j8 (mg c))=qW c:=by
 obtain⟨b,h1,h2⟩:=Da hc;have e:qW c=fI b:=by unfold qW;rw[h2]
 unfold mg;rw[e,JQ h1];exact⟨Jl h1,rfl⟩
theorem XP{s:ByteArray}{x y:Int}(h:fr ⟨18,6,j8 s⟩=true):ju (iZ s x y):=by
 have e:∀r:Re,r=⟨18,6,j8 s⟩→eB [⟨10,0,[]⟩,r,⟨16,3,[x,y].flatMap lB⟩,gD 17]=some ([⟨10,0,[]⟩,r,⟨16,3,[x,y].flatMap lB⟩],[gD 17]):=fun r hr=>by
  have hk:r.k=18:=by rw[hr]
  have hrr:fr r=true:=by rw[hr];exact h
  have p1:dq [18] [r,⟨16,3,[x,y].flatMap lB⟩,gD 17]=some ([r],[⟨16,3,[x,y].flatMap lB⟩,gD 17]):=by
   show(if(18:Int)<256∨_ then _ else _)=_;rw[if_pos (.inl (by decide))];unfold gK;simp only;rw[if_pos ⟨hk,hrr⟩];rfl
  show fP (dq [10,294,303]) (gJ 10) [⟨10,0,[]⟩,r,⟨16,3,[x,y].flatMap lB⟩,gD 17]=_;unfold fP;have s1:dL (294 % 256) [r,⟨16,3,[x,y].flatMap lB⟩,gD 17]=false:=by show(r.k==_)=false;rw[hk];rfl
  have s2:dL (303 % 256) [r,⟨16,3,[x,y].flatMap lB⟩,gD 17]=false:=by show(r.k==_)=false;rw[hk];rfl
  have p0:dq [10,294,303] [⟨10,0,[]⟩,r,⟨16,3,[x,y].flatMap lB⟩,gD 17]=some ([⟨10,0,[]⟩],[r,⟨16,3,[x,y].flatMap lB⟩,gD 17]):=by
   have q1:dq [294,303] [r,⟨16,3,[x,y].flatMap lB⟩,gD 17]=some ([],[r,⟨16,3,[x,y].flatMap lB⟩,gD 17]):=by
    show(if(294:Int)<256∨dL (294 % 256) _=true then _ else dq [303] _)=_;rw[if_neg (by rw[s1];simp)];show(if(303:Int)<256∨dL (303 % 256) _=true then _ else dq [] _)=_;rw[if_neg (by rw[s2];simp)];rfl
   show(if(10:Int)<256∨_ then _ else _)=_;rw[if_pos (.inl (by decide)),show gK (10 % 256) [⟨10,0,[]⟩,r,⟨16,3,[x,y].flatMap lB⟩,gD 17]=some (⟨10,0,[]⟩,[r,⟨16,3,[x,y].flatMap lB⟩,gD 17])by kernel_rfl];simp only;rw[q1]
  rw[p0];simp only;have pb:gJ 10 [r,⟨16,3,[x,y].flatMap lB⟩,gD 17]=some ([r,⟨16,3,[x,y].flatMap lB⟩],[gD 17]):=by
   rw[show gJ 10=fP (dq [18]) (fP jI (dq [16]))by rfl];unfold fP;rw[p1];simp only;rw[show jI [⟨16,3,[x,y].flatMap lB⟩,gD 17]=some ([],[⟨16,3,[x,y].flatMap lB⟩,gD 17])by kernel_rfl];simp only;rw[show dq [16] [⟨16,3,[x,y].flatMap lB⟩,gD 17]=some ([⟨16,3,[x,y].flatMap lB⟩],[gD 17])by kernel_rfl];rfl
  rw[pb];rfl
 refine⟨by kernel_rfl,?_⟩;have:=e _ rfl;unfold fZ;show(match eB [⟨10,0,[]⟩,⟨18,6,j8 s⟩,⟨16,3,[x,y].flatMap lB⟩,gD 17]with|some (f,m)=>_|none=>none)=_;rw[this];rfl
theorem QL(s:ByteArray)(x y:Int):ig (iZ s x y)=some (fI (j8 s)):=by
 unfold ig;rw[show dJ (iZ s x y) 18=some ⟨18,6,j8 s⟩by kernel_rfl];rfl
theorem wi(s:ByteArray)(c:Ce)(r:List Ce)(i:Nat):ll s (c::r) i=if s=mg c then some i else ll s r (i+1):=rfl
theorem Db{s:ByteArray}(b:List Ce):∀{a:List Ce} {i:Nat},ll s (a++b) i=match ll s a i with
  |some k=>some k
  |none=>ll s b (i+a.length)
 | [],i=>rfl
 |c::a,i=>by
  rw[dA,wi,wi];split
  ·rfl
  ·rw[Db b,aB,show i+1+a.length=i+(a.length+1)by omega]
theorem A9{s:ByteArray}:∀{a:List Ce} {i:Nat},(∀c∈a,mg c≠s)→ll s a i=none
 | [],i,_=>rfl
 |c::a,i,h=>by
  unfold ll;rw[if_neg (fun e=>h c (by simp) e.symm),A9 fun d hd=>h d (by simp[hd])]
section
variable{t:List Ce}{k:Nat}{c:Ce}
end
section
variable{t:Li}{k:Nat}{c:Ce}
theorem Wv(hk:t.c[k]? =some c)(hv:lS t=true):iy c.h:=((oq.1 hv).2 c (aM hk)).1
end
def zX:ByteArray:=⟨#[110,101,119,95,116,111,112]⟩
def Cr(t:List Ce)(i:Nat):Ce:=t.getD i ⟨[],[]⟩
def kX(t:List Ce)(X Y:Int)(k:Nat):List Im:=(List.range k).flatMap fun i:Nat=>if eN t i=true then []else [iZ (mg (Cr t i)) X Y]
def cV(t:List Ce)(X Y:Int):List Ce:=t++[k9 zX (kX t X Y t.length)]
theorem IJ{t:List Ce}{i:Nat}{c:Ce}(h:t[i]? =some c):Cr t i=c:=by
 unfold Cr;rw[dw,h];rfl
theorem AI{t:List Ce}{i:Nat}(h:i<t.length):t[i]? =some (Cr t i):=by
 unfold Cr;rw[dw,ah h];rfl
theorem H7:mg (k9 zX [])=zX∧iy (Ep zX):=⟨by kernel_rfl,show dq [5,6,308] (Ep zX++[gD 7])=some (Ep zX,[gD 7])from by kernel_rfl⟩
theorem H6(l:List Im):mg (k9 zX l)=zX:=H7.1
theorem Gc(t:List Ce):∀{l:List Ce} {i j:Nat} {c:Ce},ph t l i=false→l[j]? =some c→kr t (mg c)=some (i+j)
 | [],i,j,c,_,h=>by simp at h
 |d::l,i,0,c,h,hc=>by
  simp only[eu,aq]at hc;subst hc;unfold ph at h;rw[fS]at h;simpa using h.1
 |d::l,i,j+1,c,h,hc=>by
  unfold ph at h;rw[fS]at h;have:=Gc t (l:=l) (i:=i+1) (j:=j) h.2 (by simpa using hc);rw[this,show i+1+j=i+(j+1)by omega]
theorem Dc{s:ByteArray}:∀{l:List Ce} {i k:Nat},ll s l i=some k→∃c,l[k-i]? =some c∧mg c=s∧i≤k
 | [],i,k,h=>by simp[ll]at h
 |c::l,i,k,h=>by
  rw[wi]at h;split at h
  ·rename_i hs;injection h with h;subst h;exact⟨c,by simp,hs.symm,aj _⟩
  ·obtain⟨d,h1,h2,h3⟩:=Dc h;refine⟨d,?_,h2,by omega⟩;rw[show k-i=(k-(i+1))+1 by omega,ek];exact h1
theorem Mb{s:ByteArray}{t:List Ce}{k:Nat}(h:kr t s=some k):mg (Cr t k)=s:=by
 obtain⟨c,h1,h2,_⟩:=Dc h;rw[IJ (by simpa using h1)];exact h2
theorem H0{α:Type}{f:α→Int}:∀(l:List Nat) (g:Nat→List α),((l.flatMap g).map f).sum=(l.map fun i=>((g i).map f).sum).sum
 | [],g=>rfl
 |i::l,g=>by
  rw[bB,aS,iv,bQ,dC,H0 l g]
section
variable{t:List Ce}
theorem Gy(hd:v_ t=false){i:Nat}(hi:i<t.length):kr t (mg (Cr t i))=some i:=by
 have:=Gc t (l:=t) (i:=0) hd (AI hi);rw[this,bU]
theorem Mr(hl:lost t=false)(hd:v_ t=false){i:Nat}(hi:i<t.length):eN t i=true↔∃c∈t,∃x∈c.i,∃b,ig x=some b∧strOfNums b=mg (Cr t i):=by
 unfold eN;rw[nR];constructor
 ·rintro⟨a,ha,hk⟩;rw[rA]at hk;unfold eS at hk;obtain⟨x,hx,hxk⟩:=List.mem_filterMap.1 hk;obtain⟨c,hc,hxc⟩:=j9 hx;unfold j6 at hxk;cases hn:ig x with
  |none=>rw[hn]at hxk;simp at hxk
  |some b=>
   rw[hn]at hxk;exact⟨c,hc,x,hxc,b,hn,(Mb hxk).symm⟩
 ·rintro⟨c,hc,x,hx,b,hn,hb⟩;obtain⟨a,ha,hac⟩:=ox hc;refine⟨a,by simpa using ha,List.contains_iff_mem.2 (List.mem_filterMap.2 ⟨x,?_,?_⟩)⟩
  ·rw[mj (by rw[ah ha,hac])];exact hx
  ·unfold j6;rw[hn];simp only[k7];rw[hb,Gy hd hi]
theorem xr(X Y:Int)(s:ByteArray):kr (cV t X Y) s=match kr t s with
  |some j=>some j
  |none=>if s=zX then some t.length else none:=by
 unfold cV kr;rw[Db];cases ll s t 0 with
 |some j=>rfl
 |none=>
  simp only;unfold ll;rw[H6,bU];rfl
theorem tT(hl:lost t=false)(X Y:Int){c:Ce}(hc:c∈t){x:Im}(hx:x∈c.i):j6 (cV t X Y) x=j6 t x:=by
 unfold j6;cases hn:ig x with
 |none=>rfl
 |some b=>
  simp only[k7];rw[xr];unfold lost at hl;rw[dO]at hl;have h2:=hl c hc;unfold pD at h2;rw[nQ,dO]at h2;have h3:=h2 x hx;unfold j6 at h3;rw[hn]at h3;simp only[vT,dK,k7]at h3;cases hi:kr t (strOfNums b)with
  |none=>rw[hi]at h3;simp at h3
  |some j=>rfl
theorem Kz(X Y:Int){i:Nat}(hi:i<t.length):(cV t X Y)[i]? =t[i]? :=by
 unfold cV;exact cZ hi
theorem q8(X Y:Int):(cV t X Y).length=t.length+1:=by
 unfold cV;rw[aA];rfl
theorem yy(X Y:Int):(cV t X Y)[t.length]? =some (k9 zX (kX t X Y t.length)):=by
 unfold cV;rw[ec (aj _),nT];rfl
theorem rW(X Y:Int){i:Nat}(hi:i<t.length):iA (cV t X Y) i=iA t i:=by
 rw[mj ((Kz X Y hi).trans (AI hi)),mj (AI hi)]
theorem tS(X Y:Int):iA (cV t X Y) t.length=kX t X Y t.length:=by
 rw[mj (yy X Y)];rfl
theorem yx(hl:lost t=false)(X Y:Int){i:Nat}(hi:i<t.length):eS (cV t X Y) i=eS t i:=by
 unfold eS;rw[rW X Y hi];have:∀m:List Im,(∀x∈m,x∈iA t i)→m.filterMap (j6 (cV t X Y))=m.filterMap (j6 t):=by
  intro m
  induction m with
  |nil=>intro _;rfl
  |cons x m ih=>
   intro hm;obtain⟨c,hc,hx⟩:=j9 (hm x (by simp));have ih:=ih fun y hy=>hm y (by simp[hy]);cases hk:j6 t x with
   |none=>rw[oL hk,oL ((tT hl X Y hc hx).trans hk),ih]
   |some k=>rw[kC hk,kC ((tT hl X Y hc hx).trans hk),ih]
 exact this _ fun x hx=>hx
theorem tR(hl:lost t=false)(X Y:Int):∀(m:Nat) {i:Nat},i<t.length→dep (cV t X Y) m i=dep t m i
 |0,i,_=>rfl
 |m+1,i,hi=>by
  unfold dep;rw[yx hl X Y hi];congr 1;exact m_ fun k hk=>tR hl X Y m (nG hk)
theorem Br(hl:lost t=false)(X Y:Int):∀(m:Nat) {i:Nat},i<t.length→jc (cV t X Y) m i=jc t m i
 |0,i,_=>rfl
 |m+1,i,hi=>by
  unfold jc;rw[rW X Y hi];congr 1;refine jz fun x hx=>?_;obtain⟨c,hc,hxc⟩:=j9 hx;unfold jg;rw[tT hl X Y hc hxc];cases hk:j6 t x with
  |none=>rfl
  |some k=>
   simp only;rw[Br hl X Y m (nG (List.mem_filterMap.2 ⟨x,hx,hk⟩))]
theorem GQ(hl:lost t=false)(X Y:Int):∀(m:Nat) {i:Nat},i<t.length→∀{V U:On},xW X Y V U→yY X Y (fL t m i V) (fL (cV t X Y) m i U)
 |0,i,_,V,U,_=>nj X Y
 |m+1,i,hi,V,U,h=>by
  unfold fL;rw[rW X Y hi];refine uD fun x hx=>?_;obtain⟨c,hc,hxc⟩:=j9 hx;exact SO h (tT hl X Y hc hxc) (fun k hk=>Br hl X Y m (nG (List.mem_filterMap.2 ⟨x,hx,hk⟩))) (fun k V U hk hm=>GQ hl X Y m (nG (List.mem_filterMap.2 ⟨x,hx,hk⟩)) hm)
theorem Ad(hl:lost t=false)(hd:v_ t=false)(hh:∀c∈t,iy c.h)(X Y:Int){i:Nat}(hi:i<t.length):j6 (cV t X Y) (iZ (mg (Cr t i)) X Y)=some i:=by
 unfold j6;rw[QL,(Dq (hh _ (aM (AI hi)))).2];show kr _ (mg (Cr t i))=_;rw[xr,Gy hd hi]
theorem ML(hh:∀c∈t,iy c.h)(X Y:Int){i:Nat}(hi:i<t.length):ju (iZ (mg (Cr t i)) X Y):=XP (Dq (hh _ (aM (AI hi)))).1
theorem uv(X Y:Int){k:Nat}{x:Im}(hx:x∈kX t X Y k):∃i,i<k∧eN t i=false∧x=iZ (mg (Cr t i)) X Y:=by
 obtain⟨i,hi,hx⟩:=List.mem_flatMap.1 hx;split at hx
 ·simp at hx
 ·rename_i hn;simp only[aF,aJ,b_]at hx;exact⟨i,by simpa using hi,by simpa using hn,hx⟩
theorem O_(hl:lost t=false)(hd:v_ t=false)(hh:∀c∈t,iy c.h)(X Y:Int):eS (cV t X Y) t.length=(List.range t.length).flatMap fun i:Nat=>if eN t i=true then []else [i]:=by
 unfold eS;rw[tS];unfold kX;have:∀l:List Nat,(∀i∈l,i<t.length)→(l.flatMap fun i:Nat=>if eN t i=true then []else [iZ (mg (Cr t i)) X Y]).filterMap (j6 (cV t X Y))=l.flatMap fun i:Nat=>if eN t i=true then []else [i]:=by
  intro l
  induction l with
  |nil=>intro _;rfl
  |cons i l ih=>
   intro hl';rw[bB,bB,List.filterMap_append,ih fun j hj=>hl' j (by simp[hj])];congr 1;split
   ·rfl
   ·rw[kC (Ad hl hd hh X Y (hl' i (by simp)))];rfl
 exact this _ fun i hi=>by simpa using hi
theorem zW(hl:lost t=false)(hd:v_ t=false)(hh:∀c∈t,iy c.h)(X Y:Int){i:Nat}:i∈eS (cV t X Y) t.length↔i<t.length∧eN t i=false:=by
 rw[O_ hl hd hh,List.mem_flatMap];constructor
 ·rintro⟨j,hj,hij⟩;split at hij
  ·simp at hij
  ·rename_i hn;simp only[aF,aJ,b_]at hij;subst hij;exact⟨by simpa using hj,by simpa using hn⟩
 ·rintro⟨hi,hn⟩;exact⟨i,by simpa using hi,by rw[if_neg (by rw[hn];simp)];simp⟩
theorem Bt(hl:lost t=false)(hd:v_ t=false)(hh:∀c∈t,iy c.h)(X Y:Int){i:Nat}(hi:i<t.length):eN (cV t X Y) i=true:=by
 unfold eN;rw[nR];cases hn:eN t i with
 |true=>
  unfold eN at hn;rw[nR]at hn;obtain⟨a,ha,hk⟩:=hn;have ha':a<t.length:=by simpa using ha
  exact⟨a,by rw[q8];simp;omega,by rw[yx hl X Y ha'];exact hk⟩
 |false=>exact⟨t.length,by rw[q8];simp,List.contains_iff_mem.2 ((zW hl hd hh X Y).2 ⟨hi,hn⟩)⟩
theorem xt(hl:lost t=false)(hd:v_ t=false)(hh:∀c∈t,iy c.h)(X Y:Int):eN (cV t X Y) t.length=false:=by
 unfold eN;rw[dO];intro a ha;rw[rA];intro hk;have ha':a<t.length+1:=by rw[q8]at ha;simpa using ha
 by_cases h:a<t.length
 ·rw[yx hl X Y h]at hk;exact Nat.lt_irrefl _ (nG hk)
 ·obtain rfl:a=t.length:=by omega
  exact Nat.lt_irrefl _ ((zW hl hd hh X Y).1 hk).1
theorem Mm(hl:lost t=false)(hd:v_ t=false)(hh:∀c∈t,iy c.h)(X Y:Int):lost (cV t X Y)=false:=by
 refine GO fun j x hx=>?_;unfold pD;rw[dO];intro y hy;by_cases hj:j<t.length
 ·rw[Kz X Y hj]at hx;have hm:=aM hx;rw[tT hl X Y hm hy];have h1:=hl;unfold lost at h1;rw[dO]at h1;have h2:=h1 x hm;unfold pD at h2;rw[nQ,dO]at h2;exact h2 y hy
 ·have hj2:=(List.getElem?_eq_some_iff.1 hx).1;rw[q8]at hj2;obtain rfl:j=t.length:=by omega
  rw[yy]at hx;injection hx with hx;subst hx;obtain⟨i,hi,_,rfl⟩:=uv X Y hy;rw[Ad hl hd hh X Y hi];simp
theorem Mk(hl:lost t=false)(hd:v_ t=false)(hh:∀c∈t,iy c.h)(hne:∀c∈t,mg c≠zX)(X Y:Int):v_ (cV t X Y)=false:=by
 unfold v_;show ph (cV t X Y) (t++[k9 zX (kX t X Y t.length)]) 0=false;rw[v8,fS];constructor
 ·have:∀(l:List Ce) (i:Nat),(∀c∈l,c∈t)→ph t l i=false→ph (cV t X Y) l i=false:=by
   intro l
   induction l with
   |nil=>intro i _ _;rfl
   |cons c l ih=>
    intro i hm h;unfold ph at h⊢;rw[fS]at h⊢;refine⟨?_,ih (i+1) (fun d qe=>hm d (by simp[qe])) h.2⟩;have h1:kr t (mg c)=some i:=by simpa using h.1
    rw[xr,h1];simp
  exact this t 0 (fun c hc=>hc) hd
 ·rw[H6,xr];unfold kr;rw[A9 hne,if_pos rfl,bU];simp
end
theorem H8(s:ByteArray)(x y:Int)(h:(-1000000≤x∧x≤1000000)∧ -1000000≤y∧y≤1000000):bT (iZ s x y)=[⟨x,y⟩]:=by
 unfold bT;rw[show dJ (iZ s x y) 16=some ⟨16,3,[x,y].flatMap lB⟩by kernel_rfl];simp only;rw[Ph]
 ·rfl
 ·intro z hz;simp only[aF,aJ,b_]at hz;rcases hz with rfl|rfl<;>omega
theorem XO(s:ByteArray)(x y:Int)(h:(-1000000≤x∧x≤1000000)∧ -1000000≤y∧y≤1000000):tX (iZ s x y) 0 0=Pp x y:=by
 unfold tX pH;rw[H8 s x y h,show qH (iZ s x y)=false by kernel_rfl,show oI (iZ s x y)=0 by kernel_rfl,show lO (iZ s x y)=1 by kernel_rfl,if_neg (by simp),if_neg (by simp)];rfl
theorem yN(s:ByteArray)(x y:Int)(h:(-1000000≤x∧x≤1000000)∧ -1000000≤y∧y≤1000000):cz (iZ s x y)=10∧bJ (iZ s x y)=(1,1)∧iB (iZ s x y)=true:=by
 have hk:cz (iZ s x y)=10:=rfl;have hg:bJ (iZ s x y)=(1,1):=by kernel_rfl
 refine⟨hk,hg,?_⟩;unfold iB;rw[if_neg (by omega),if_neg (by omega),if_neg (by omega),if_pos hk,H8 s x y h,hg,show jb (iZ s x y)=true by kernel_rfl];rfl
theorem S2(X Y:Int):xW X Y Fm (Pp X Y):=⟨rfl,rfl,rfl,by show(X:Rat)=0+X;grind,rfl,by show(Y:Rat)=0+Y;grind,rfl⟩
theorem H5:∀{l:List Int},(∀z∈l,0≤z)→l.sum=0→∀z∈l,z=0
 | [],_,_,z,h=>by simp at h
 |a::l,hn,hs,z,h=>by
  have h1:=hn a (by simp);have h2:=wE (l:=l) fun y hy=>hn y (by simp[hy]);rw[dC]at hs;simp only[aF]at h;rcases h with rfl|h
  ·omega
  ·exact H5 (fun y hy=>hn y (by simp[hy])) (by omega) z h
section
variable{u:List Ce}
theorem Kd(hr:∀c∈u,∀x∈c.i,iB x=true):∀n c,0≤jc u n c
 |0,c=>by simp[jc]
 |n+1,c=>by
  unfold jc;refine wE fun z hz=>?_;obtain⟨x,hx,rfl⟩:=List.mem_map.1 hz;obtain⟨c',hc',hx'⟩:=j9 hx;exact uR (Kd hr n) (hr c' hc' x hx')
theorem Rt(hr:∀c∈u,∀x∈c.i,iB x=true):∀(n c:Nat) (V:On),jc u n c=0→fL u n c V=.ok []
 |0,c,V,_=>rfl
 |n+1,c,V,h=>by
  unfold jc at h;have hz:=H5 (l:=(iA u c).map (jg u (jc u n))) (fun z hz=>by
   obtain⟨x,hx,rfl⟩:=List.mem_map.1 hz;obtain⟨c',hc',hx'⟩:=j9 hx;exact uR (Kd hr n) (hr c' hc' x hx')) h
  have key:∀m:List Im,(∀x∈m,x∈iA u c)→gl (jN u n (fL u n) V) m=.ok []:=by
   intro m
   induction m with
   |nil=>intro _;rfl
   |cons x m ih=>
    intro hm;have hx:=hm x (by simp);have h0:=hz _ (List.mem_map.2 ⟨x,hx,rfl⟩);obtain⟨c',hc',hx'⟩:=j9 hx;rw[lQ,ih fun y hy=>hm y (by simp[hy])];have:jN u n (fL u n) V x=.ok []:=by
     unfold jg at h0;unfold jN;split
     ·rename_i hk;rw[if_pos hk]at h0;omega
     ·rename_i hk;rw[if_neg hk]at h0;split
      ·rename_i hk9;rw[if_pos hk9]at h0;split at h0
       ·rename_i hp;rw[hp];rfl
       ·omega
      ·rename_i hk9;rw[if_neg hk9]at h0;split
       ·rename_i hkr;rw[if_pos hkr]at h0;obtain⟨_,g1,g2,_⟩:=nw (hr c' hc' x hx') hkr;unfold nv;cases Et:j6 u x with
        |none=>rfl
        |some k=>
         rw[Et]at h0;simp only at h0⊢;rw[if_pos];rcases Int.mul_eq_zero.1 h0 with h1|h1
         ·rcases Int.mul_eq_zero.1 h1 with h2|h2
          ·exact h2
          ·omega
         ·omega
       ·rfl
    rw[this];rfl
  exact key _ fun x hx=>hx
end
theorem CY{g:Nat→Option Nat}:∀{l:List Nat} {m:Nat},(∀k∈l,∃d,g k=some d)→∃r,js g l m=some r
 | [],m,_=>⟨m,rfl⟩
 |k::l,m,h=>by
  obtain⟨d,hd⟩:=h k (by simp);unfold js;rw[hd];exact CY fun j hj=>h j (by simp[hj])
theorem Ml{t:Li}{l:List Sh}(h:mL t 200=.ok l)(hne:∀c∈t.c,mg c≠zX){X Y:Int}(hX: -1000≤X∧X≤1000)(hY: -1000≤Y∧Y≤1000):
  mL ⟨t.h,cV t.c X Y⟩ 200=.error 25∨mL ⟨t.h,cV t.c X Y⟩ 200=.error 26∨∃m,mL ⟨t.h,cV t.c X Y⟩ 200=.ok m∧uw (shR X Y) l m:=by
 obtain⟨_,_,hv,hs⟩:=AQ h;obtain⟨hl,hc,hf,hdeep,ht,acM⟩:=AS hs;have hD:=N0 hl hf hdeep;obtain⟨hd,hr⟩:v_ t.c=false∧∀c∈t.c,∀x∈c.i,iB x=true:=⟨by
  unfold tF at hf;rw[dI,not_or]at hf;simpa using hf.1,hD.right⟩
 have hp:=oq.1 hv;have hh:∀c∈t.c,iy c.h:=fun c hc=>(hp.2 c hc).1;have hin:(-1000000≤X∧X≤1000000)∧ -1000000≤Y∧Y≤1000000:=by omega
 have hv':lS ⟨t.h,cV t.c X Y⟩=true:=oq.2 ⟨hp.1,fun c hc=>by
  unfold cV at hc;rcases List.mem_append.1 hc with h1|h1
  ·exact hp.2 c h1
  ·simp only[aF,aJ,b_]at h1;subst h1;refine⟨H7.2,fun y hy=>?_⟩;obtain⟨i,hi,_,rfl⟩:=uv X Y hy;exact ML hh X Y hi⟩
 have hl':=Mm hl hd hh X Y;have qe:=Mk hl hd hh hne X Y;have hlen:(cV t.c X Y).length=t.c.length+1:=q8 X Y;have zG:∀n,(∀i,i<t.c.length→∃d,dep t.c n i=some d)→∃d,dep (cV t.c X Y) (n+1) t.c.length=some d:=fun n hn=>by
  obtain⟨r,hr⟩:=CY (g:=dep (cV t.c X Y) n) (l:=eS (cV t.c X Y) t.c.length) (m:=0) (fun k hk=>by
   have hk':=((zW hl hd hh X Y).1 hk).1;rw[tR hl X Y n hk'];exact hn k hk')
  exact⟨r+1,by unfold dep;rw[hr];rfl⟩
 have hcyc:¬Zw (cV t.c X Y):=by
  rintro⟨c,hc,hno⟩;rw[hlen]at hc;by_cases AW:c<t.c.length
  ·obtain⟨d,he⟩:=hD.deep c AW;exact hno d ⟨64,by rw[tR hl X Y 64 AW];exact he⟩
  ·obtain rfl:c=t.c.length:=by omega
   obtain⟨d,he⟩:=zG 64 hD.deep;exact hno d ⟨65,he⟩
 have hru:∀c∈cV t.c X Y,∀x∈c.i,iB x=true:=fun c hc x hx=>by
  unfold cV at hc;rcases List.mem_append.1 hc with h1|h1
  ·exact hr c h1 x hx
  ·simp only[aF,aJ,b_]at h1;subst h1;obtain⟨i,hi,_,rfl⟩:=uv X Y hx;exact(yN _ X Y hin).2.2
 have hfeat:tF (cV t.c X Y)=false:=by
  unfold tF;rw[fS];refine⟨qe,?_⟩;rw[dO];intro c hc;rw[nQ,dO];intro x hx;rw[hru c hc x hx];simp
 have hF:∀r,pt (cV t.c X Y) 200=r→mL ⟨t.h,cV t.c X Y⟩ 200=r:=fun r hr=>by
  unfold mL;rw[if_neg (by omega),if_neg (by rw[hv'];simp)];exact hr
 have hold:∀{c:Nat},c<t.c.length→dep (cV t.c X Y) 64 c≠none:=fun hc he=>by
  obtain⟨d,hdd⟩:=hD.deep _ hc;rw[tR hl X Y 64 hc,hdd]at he;simp at he
 cases hdn:dep (cV t.c X Y) 64 t.c.length with
 |none=>
  refine .inl (hF _ ?_);unfold pt;rw[if_neg (by rw[hl'];simp),if_neg hcyc,if_pos (.inr ⟨t.c.length,by rw[hlen];omega,hdn⟩)]
 |some dn=>
  have Et:∀i,i<t.c.length→eN t.c i=false→∃d,dep t.c 63 i=some d:=fun i hi hn=>by
   unfold dep at hdn;cases hq:js (dep (cV t.c X Y) 63) (eS (cV t.c X Y) t.c.length) 0 with
   |none=>rw[hq]at hdn;simp at hdn
   |some r=>
    obtain⟨d,h1,_⟩:=(lC hq).2 i ((zW hl hd hh X Y).2 ⟨hi,hn⟩);rw[tR hl X Y 63 hi]at h1;exact⟨d,h1⟩
  have ZT:∀i,i<t.c.length→eN t.c i=false→jg (cV t.c X Y) (jc (cV t.c X Y) 63) (iZ (mg (Cr t.c i)) X Y)=jc t.c 64 i:=fun i hi hn=>by
   obtain⟨hk,hg,_⟩:=yN (mg (Cr t.c i)) X Y hin;obtain⟨d,hdd⟩:=Et i hi hn;unfold jg;rw[if_neg (by omega),if_neg (by omega),if_pos (.inl hk),Ad hl hd hh X Y hi,hg];simp only;rw[Br hl X Y 63 hi,Int.mul_one,Int.mul_one];exact(wU hdd).symm
  have htot:sP (cV t.c X Y)=sP t.c:=by
   unfold sP;rw[hlen,List.range_succ,aS,iv];simp only[bQ,dd,dC,qC];have h0:((List.range t.c.length).map (mZ (cV t.c X Y))).sum=0:=by
    rw[jz (g:=fun _=>0) (fun i hi=>by
     unfold mZ;rw[if_pos (Bt hl hd hh X Y (by simpa using hi))])]
    rw[o5];simp
   have h1:mZ (cV t.c X Y) t.c.length=((List.range t.c.length).map (mZ t.c)).sum:=by
    unfold mZ;rw[if_neg (by rw[xt hl hd hh X Y];simp)];unfold jc;rw[tS];unfold kX;rw[H0];congr 1;refine jz fun i hi=>?_;cases hn:eN t.c i with
    |true=>simp
    |false=>
     simp only[gN,dZ,bQ,dd,dC,qC,qx];exact ZT i (by simpa using hi) hn
   rw[h0,h1];omega
  have Z9:zH (cV t.c X Y)=gl (fun i:Nat=>if eN t.c i=true then .ok []else fL (cV t.c X Y) 63 i (Pp X Y)) (List.range t.c.length):=by
   unfold zH;rw[hlen,List.range_succ,Ca];have h0:gl (yo (cV t.c X Y)) (List.range t.c.length)=.ok []:=by
    have:∀m:List Nat,(∀i∈m,i<t.c.length)→gl (yo (cV t.c X Y)) m=.ok []:=by
     intro m
     induction m with
     |nil=>intro _;rfl
     |cons i m ih=>
      intro hm;rw[lQ,ih fun j hj=>hm j (by simp[hj])];unfold yo;rw[if_pos (Bt hl hd hh X Y (hm i (by simp)))];rfl
    exact this _ fun i hi=>by simpa using hi
   rw[h0,xQ];simp only[az];unfold yo;rw[if_neg (by rw[xt hl hd hh X Y];simp)];have h1:fL (cV t.c X Y) 64 t.c.length Fm=gl (fun i:Nat=>if eN t.c i=true then .ok []else fL (cV t.c X Y) 63 i (Pp X Y)) (List.range t.c.length):=by
    show gl (jN (cV t.c X Y) 63 (fL (cV t.c X Y) 63) Fm) (iA (cV t.c X Y) t.c.length)=_;rw[tS];unfold kX;rw[←DI];have:∀m:List Nat,(∀i∈m,i<t.c.length)→gl (fun i:Nat=>gl (jN (cV t.c X Y) 63 (fL (cV t.c X Y) 63) Fm) (if eN t.c i=true then []else [iZ (mg (Cr t.c i)) X Y])) m=gl (fun i:Nat=>if eN t.c i=true then .ok []else fL (cV t.c X Y) 63 i (Pp X Y)) m:=by
     intro m
     induction m with
     |nil=>intro _;rfl
     |cons i m ih=>
      intro hm;rw[lQ,lQ,ih fun j hj=>hm j (by simp[hj])];have hi:=hm i (by simp);have e:gl (jN (cV t.c X Y) 63 (fL (cV t.c X Y) 63) Fm) (if eN t.c i=true then []else [iZ (mg (Cr t.c i)) X Y])=(if eN t.c i=true then .ok []else fL (cV t.c X Y) 63 i (Pp X Y)):=by
       split
       ·rfl
       ·rename_i hn;obtain⟨hk,hg,_⟩:=yN (mg (Cr t.c i)) X Y hin;rw[xQ];unfold jN;rw[if_neg (by omega),if_neg (by omega),if_pos (.inl hk)];unfold nv;rw[Ad hl hd hh X Y hi,hg];simp only;split
        ·rename_i h0;exact(Rt hru 63 i _ h0).symm
        ·show gl (fun k:Nat=>gl (fun i':Nat=>fL (cV t.c X Y) 63 i ((tX (iZ (mg (Cr t.c i)) X Y) i' k).then Fm)) (List.range 1)) (List.range 1)=_;rw[show List.range 1=[0]by rfl,xQ,xQ];show fL (cV t.c X Y) 63 i ((tX (iZ (mg (Cr t.c i)) X Y) 0 0).then Fm)=_;rw[XO _ X Y hin,SZ]
      rw[e]
    exact this _ fun i hi=>by simpa using hi
   rw[h1];cases gl (fun i:Nat=>if eN t.c i=true then .ok []else fL (cV t.c X Y) 63 i (Pp X Y)) (List.range t.c.length)<;>rfl
  have hrel:yY X Y (zH t.c) (zH (cV t.c X Y)):=by
   rw[Z9];unfold zH;refine uD fun i hi=>?_;have hi:i<t.c.length:=by simpa using hi
   unfold yo;split
   ·exact nj X Y
   ·rename_i hn;obtain⟨d,hdd⟩:=Et i hi (by simpa using hn);rw[Bf hdd];exact GQ hl X Y 63 hi (S2 X Y)
  have hS:pt (cV t.c X Y) 200=zH (cV t.c X Y):=by
   unfold pt;rw[if_neg (by rw[hl'];simp),if_neg hcyc,if_neg (by
    rintro(h1|⟨c,hc,hno⟩)
    ·rw[hfeat]at h1;simp at h1
    ·rw[hlen]at hc;by_cases AW:c<t.c.length
     ·exact hold AW hno
     ·obtain rfl:c=t.c.length:=by omega
      rw[hdn]at hno;simp at hno),if_neg (by rw[htot];omega)]
  rcases hrel l acM with he|⟨m,he,hm⟩
  ·exact .inr (.inl (hF _ (hS.trans he)))
  ·exact .inr (.inr ⟨m,hF _ (hS.trans he),hm⟩)
section
variable{Γ:List aC}
theorem Qy(f p:Sl){x:Im} [h:aZ (oE f p) x Γ](k:Int):
  aw tb Tryz.prog 15 [nd f p,.int .u8 k] Γ (Iq (dJ x k)):=by
 obtain⟨fa,fn,fc⟩:=f;refine aw.of_W au Tryz.func15 rfl (W.more (Δ:=[kW ⟨fa,fn,fc⟩ x.f]) rfl (fun I w _ hh=>aT (h.p hh).1) (W.len de dE.r ⟨fa,fn,fc⟩ rfl (fun h1 h2 h3=>?_)));simp only at h1 h2 h3;refine x7 [] [5,6] (fun a:Nat×Int=>[(5,.bool false),(6,.int .i64 a.2)]) (fun _=>[(4,[.int .u8 0,.int .u8 0,.slice none 0 0])]) (fun _=>[kW ⟨fa,fn,fc⟩ x.f]) (fun a=>a.2=a.1∧a.1≤fn∧∀(j:Nat) (q:Re),j<a.1→x.f[j]? =some q→q.k≠k) (fun a=>fn-a.1) (0,0) ⟨rfl,aH _,fun j q hj=>absurd hj (gG _)⟩ (eC eK eE) ?_;rintro⟨i,z⟩ K ⟨hz,hi,hall⟩ close;simp only at hz hi hall;by_cases hlt:i<fn
 ·obtain⟨r,hr⟩:∃r,x.f[i]? =some r:=⟨_,ah (by omega)⟩;refine o8 ⟨fa,fn,fc⟩ hr (fun b off u ha=>?_);simp only at ha;subst ha;refine bh [] 11 (decide (z<(fn:Int))) (ar (by omega)) (bI [11] 3 b off fn fc .i64 i z hz au hlt (bN [] 0 b (off+i*3) au (cX [] 1 b (off+i*3+0) (.int .u8 r.k) au (fun I w hd hh=>bH b (off+i*3) I w hd hh 0 _ rfl) (W.d [] 21 (r.k==k) (fun hk=>?_) (fun hk=>?_)))))
  ·have hk:=eq_of_beq hk;refine bI [21] 3 b off fn fc .i64 i z hz au hlt (cJ [] b (off+i*3) [.int .u8 r.k,.int .u8 r.d,aY u] au (bH b (off+i*3)) (W.r [] (.tuple #[rev r u,.bool true]) ?_ (fun I w _ hh=>?_) (Δ:=[wJ u r])))
   ·rw[show dJ x k=some r from Em hr hk hall];exact⟨u,rfl,rfl⟩
   ·exact aT (aZ.p (k:=wJ u) (a:=r) inferInstance hh)
  ·refine close [21] _ _ (i+1,IntKind.i64.wrap (z+1)) (by kernel_rfl) (by kernel_rfl) ⟨by simp only[af];omega,hlt,fun j q hj hq=>?_⟩ (by simp only;omega) (eC eK eE);by_cases hji:j<i
   ·exact hall j q hji hq
   ·obtain rfl:j=i:=by simp only at hj;omega
    rw[hr]at hq;injection hq with hq;subst hq;exact jv hk
 ·refine aO [] 11 (decide (z<(fn:Int))) (ak (by omega)) (W.r [11] (.tuple #[KA,.bool false]) ?_ bX);rw[show dJ x k=none from En (fun j q hq=>hall j q (by have:=(List.getElem?_eq_some_iff.1 hq).1;omega) hq)];exact⟨rfl,rfl⟩
theorem TA(s:Sl){b:List Int} [h:aZ (BF s) b Γ]:aw tb Tryz.prog 16 [aY s] Γ (jy (.string (ik b))):=by
 refine aw.of_W au Tryz.func16 rfl (Fv s rfl (fun h1 h2 h3 h4=>?_));by_cases hb:b=[]
 ·subst hb;have h0:s.n=0:=h1;refine W.more (Δ:=[RA s.ao (([]:List Int).map (Value.int .u8))]) rfl (fun I w _ _=>aT (RA.nil _ _ _)) (aO [] 6 (decide ((s.n:Int)>0)) (by simp[h0]) (CM [14,6] s.ao s.n s.c [] au h1 (W.r [] (.string (strOfNums [])) ⟨rfl,rfl⟩ bX)))
 ·obtain⟨bb,off,hao⟩:=h4 hb;have hpos:0<b.length:=List.length_pos_iff.2 hb;refine W.more (Δ:=[RA (some ⟨bb,off,none⟩) (b.map (Value.int .u8))]) rfl (fun I w _ hh=>aT (by rw[←hao];exact(h.p hh).2.2.2)) ?_;obtain⟨z,hz⟩:∃z,b[b.length-1]? =some z:=⟨_,ah (by omega)⟩;have hlast:b.getLast?=some z:=by rw[fo];exact hz
  obtain⟨sa,sn,sc⟩:=s;simp only at h1 h2 h4 hao;subst hao;refine bh [] 6 (decide ((sn:Int)>0)) (ar (by omega)) (bI [6] 1 bb off sn sc .i64 (b.length-1) (IntKind.i64.wrap ((sn:Int)-1)) (by rw[af];omega) au (by omega) (cX [6] 1 bb (off+(b.length-1)*1) (.int .u8 z) au (fun I w _ hh=>?_) ?_))
  ·rw[fE];exact RA.cell (aZ.p (k:=RA (some ⟨bb,off,none⟩)) (a:=b.map (Value.int .u8)) inferInstance hh) (by rw[bL,hz];rfl)
  refine W.d [6] 14 (z==0) (fun h0=>?_) (fun h0=>?_)
  ·have h0:=eq_of_beq h0;subst h0;refine W.more (Δ:=[RA (some ⟨bb,off+0*1,none⟩) (b.dropLast.map (Value.int .u8))]) (by kernel_rfl) (fun I w _ hh=>aT (fun hne=>?_)) ?_
   ·obtain⟨b',off',ha,hI,hr⟩:=(aZ.p (k:=RA (some ⟨bb,off,none⟩)) (a:=b.map (Value.int .u8)) inferInstance hh) (by simpa using hb);simp only[aq,mJ]at ha;obtain⟨rfl,rfl,_⟩:=ha;refine⟨bb,off,by simp,hI,fun i v hv=>hr i v ?_⟩;rw[bL]at hv⊢;rw[List.dropLast_eq_take,dz]at hv;split at hv
    ·exact hv
    ·simp at hv
   refine CL [14] 1 bb off sn sc none (some (.int .i64 (IntKind.i64.wrap ((sn:Int)-1)))) 0 (b.length-1) au (.inr ⟨rfl,rfl⟩) (.inl (by rw[af];congr;omega)) (aH _) (CM [] (some ⟨bb,off+0*1,none⟩) (b.length-1-0) (sc-0) b.dropLast au (by simp) (W.r [] (.string (strOfNums b.dropLast)) ⟨by rw[ik,fI,if_pos hlast],rfl⟩ bX))
  ·refine CM [14] (some ⟨bb,off,none⟩) sn sc b au h1 (W.r [] (.string (strOfNums b)) ⟨by rw[ik,fI,if_neg (by rw[hlast];intro e;injection e with e;subst e;simp at h0)],rfl⟩ bX)
end
section
variable{Γ:List aC}
theorem Qc(aa:Option Addr)(an ac:Nat)(ba:Option Addr)(bn bc:Nat){l:List Sh} [h1:aZ (LF k8 lH.x ⟨aa,an,ac⟩) l Γ] [h2:aZ (LF k8 lH.x ⟨ba,bn,bc⟩) l Γ]:
  aw tb Tryz.prog 14 [.slice aa an ac,.slice ba bn bc] Γ (jy (.bool true)):=by
 refine aw.of_W au Tryz.func14 rfl (W.len k8 lH.x ⟨aa,an,ac⟩ rfl (fun ha ha2 ha3=>W.len k8 lH.x ⟨ba,bn,bc⟩ rfl (fun hb _ _=>?_)));simp only at ha hb ha2 ha3;refine aO [] 11 ((an:Int) != (bn:Int)) (by rw[ha,hb];simp) (gY [11] [4,5] (fun a:T9=>[(4,.bool false),(5,.int .i64 a.z)]) (fun _=>[]) (fun _=>[]) (fun _=>[LF k8 lH.x ⟨aa,an,ac⟩ l,LF k8 lH.x ⟨ba,bn,bc⟩ l]) (fun a=>a.z=a.i∧a.i≤an) (fun a=>an-a.i) ⟨0,0,.bool true,[]⟩ ⟨rfl,aH _⟩ (eC eK (eC eK eE)) ?_);rintro⟨i,z,v,O⟩ K ⟨hz,hi⟩ close;simp only at hz hi;by_cases hl:z<(an:Int)
 ·obtain⟨⟨A,k,p⟩,hx⟩:∃x,l[i]? =some x:=⟨_,ah (by omega)⟩;refine IA k8 lH.x ⟨aa,an,ac⟩ hx (by kernel_rfl) (fun gw gy e ZK he=>?_);obtain⟨⟨pa,pn,pc⟩,e⟩:=e;obtain rfl:e=⟨A,k,p⟩:=he;simp only at ZK;subst ZK;refine IA k8 lH.x ⟨ba,bn,bc⟩ hx (by kernel_rfl) (fun iK jj e hb4 he=>?_);obtain⟨⟨qa,qn,qc⟩,e⟩:=e;obtain rfl:e=⟨A,k,p⟩:=he;simp only at hb4;subst hb4;refine W.more (Δ:=[sS ⟨pa,pn,pc⟩ p,sS ⟨qa,qn,qc⟩ p,RA (some ⟨gw,gy+i*3,none⟩) [.int .i64 A,.int .i64 k,.slice pa pn pc],RA (some ⟨iK,jj+i*3,none⟩) [.int .i64 A,.int .i64 k,.slice qa qn qc]]) rfl (fun I w _ hh=>aD.cons (hh _ (.tail _ (.tail _ (.head _)))) (aD.cons (hh _ (.head _)) (aD.cons (hh _ (.tail _ (.tail _ (.tail _ (.head _))))) (aT (hh _ (.tail _ (.head _))))))) (CK ⟨pa,pn,pc⟩ rfl (fun hp hp2 hp4=>CK ⟨qa,qn,qc⟩ rfl (fun hq _ Fk=>?_)));simp only at hp hq hp2 hp4 Fk;refine bh [] 15 (decide (z<(an:Int))) (ar hl) (bI [15] 3 gw gy an ac .i64 i z hz au (by omega) (bN [] 0 gw (gy+i*3) au (cX [] 1 gw (gy+i*3+0) (.int .i64 A) au (fun I w hd hh=>bH gw (gy+i*3) I w hd hh 0 _ rfl) (bI [] 3 iK jj bn bc .i64 i z hz au (by omega) (bN [] 0 iK (jj+i*3) au (cX [] 1 iK (jj+i*3+0) (.int .i64 A) au (fun I w hd hh=>bH iK (jj+i*3) I w hd hh 0 _ rfl) ?_))))))
  refine aO [] 29 (A != A) (by simp) (bI [29] 3 gw gy an ac .i64 i z hz au (by omega) (bN [29] 1 gw (gy+i*3) au (cX [29] 1 gw (gy+i*3+1) (.int .i64 k) au (fun I w hd hh=>bH gw (gy+i*3) I w hd hh 1 _ rfl) (bI [29] 3 iK jj bn bc .i64 i z hz au (by omega) (bN [29] 1 iK (jj+i*3) au (cX [29] 1 iK (jj+i*3+1) (.int .i64 k) au (fun I w hd hh=>bH iK (jj+i*3) I w hd hh 1 _ rfl) (aO [29] 42 (k != k) (by simp) (bI [42] 3 gw gy an ac .i64 i z hz au (by omega) (bN [42] 2 gw (gy+i*3) au (cX [42] 1 gw (gy+i*3+2) (.slice pa pn pc) au (fun I w hd hh=>bH gw (gy+i*3) I w hd hh 2 _ rfl) ?_))))))))));refine bI [42] 3 iK jj bn bc .i64 i z hz au (by omega) (bN [42] 2 iK (jj+i*3) au (cX [42] 1 iK (jj+i*3+2) (.slice qa qn qc) au (fun I w hd hh=>bH iK (jj+i*3) I w hd hh 2 _ rfl) (aO [42] 56 ((pn:Int) != (qn:Int)) (by rw[hp,hq];simp) (gY [56] [4,6] (fun a:T9=>[(4,.bool false),(6,.int .i64 a.z)]) (fun _=>[]) (fun _=>[]) (fun _=>[LF k8 lH.x ⟨some ⟨gw,gy,none⟩,an,ac⟩ l,LF k8 lH.x ⟨some ⟨iK,jj,none⟩,bn,bc⟩ l,sS ⟨pa,pn,pc⟩ p,sS ⟨qa,qn,qc⟩ p,RA (some ⟨gw,gy+i*3,none⟩) [.int .i64 A,.int .i64 k,.slice pa pn pc],RA (some ⟨iK,jj+i*3,none⟩) [.int .i64 A,.int .i64 k,.slice qa qn qc]]) (fun a=>a.z=a.i∧a.i≤pn) (fun a=>pn-a.i) ⟨0,0,.bool true,[]⟩ ⟨rfl,aH _⟩ (eC eK (eC eK (eC eK (eC eK (eC eK (eC eK eE)))))) ?_))))
  rintro⟨j,zj,v2,O2⟩ K2 ⟨yj,hj⟩ close2;simp only at yj hj;by_cases Ij:zj<(pn:Int)
  ·obtain⟨d,hd⟩:∃d,p[j]? =some d:=⟨_,ah (by omega)⟩;obtain⟨pb,po,L8⟩:=hp4 (by rintro rfl;simp at hd);obtain⟨qb,qo,hqa⟩:=Fk (by rintro rfl;simp at hd);subst L8 hqa;refine W.more (Δ:=[RA (some ⟨pb,po,none⟩) (p.flatMap ed),RA (some ⟨qb,qo,none⟩) (p.flatMap ed)]) rfl (fun I w _ hh=>aD.cons (aZ.p (k:=sS ⟨some ⟨pb,po,none⟩,pn,pc⟩) (a:=p) inferInstance hh).2.2 (aT (aZ.p (k:=sS ⟨some ⟨qb,qo,none⟩,qn,qc⟩) (a:=p) inferInstance hh).2.2)) (bI [] 3 gw gy an ac .i64 i z hz au (by omega) (bN [] 2 gw (gy+i*3) au (cX [] 1 gw (gy+i*3+2) (.slice (some ⟨pb,po,none⟩) pn pc) au (fun I w hd hh=>bH gw (gy+i*3) I w hd hh 2 _ rfl) (bh [] 64 (decide (zj<(pn:Int))) (ar Ij) (bI [64] 3 gw gy an ac .i64 i z hz au (by omega) (bN [] 2 gw (gy+i*3) au (cX [] 1 gw (gy+i*3+2) (.slice (some ⟨pb,po,none⟩) pn pc) au (fun I w hd hh=>bH gw (gy+i*3) I w hd hh 2 _ rfl) (bI [] 2 pb po pn pc .i64 j zj yj au (by omega) (cJ [] pb (po+j*2) (ed d) au (eH pb po (j*2) (eL hd)) (bI [] 3 iK jj bn bc .i64 i z hz au (by omega) ?_))))))))));refine bN [] 2 iK (jj+i*3) au (cX [] 1 iK (jj+i*3+2) (.slice (some ⟨qb,qo,none⟩) qn qc) au (fun I w hd hh=>bH iK (jj+i*3) I w hd hh 2 _ rfl) (bI [] 2 qb qo qn qc .i64 j zj yj au (by omega) ?_))
   refine cJ [] qb (qo+j*2) (ed d) au (eH qb qo (j*2) (eL hd)) (Nq [] 58 d d (aO [] 83 (!decide (d=d)) (by simp) (close2 [83] _ _ ⟨j+1,IntKind.i64.wrap (zj+1),.bool true,[]⟩ (by kernel_rfl) (by kernel_rfl) ⟨by simp only[af];omega,by simp only;omega⟩ (by simp only;omega) (eC eK (eC eK (eC eK (eC eK (eC eK (eC eK eE)))))))))
  ·refine bI [] 3 gw gy an ac .i64 i z hz au (by omega) (bN [] 2 gw (gy+i*3) au (cX [] 1 gw (gy+i*3+2) (.slice pa pn pc) au (fun I w hd hh=>bH gw (gy+i*3) I w hd hh 2 _ rfl) (aO [] 64 (decide (zj<(pn:Int))) (ak Ij) (close [64] _ _ ⟨i+1,IntKind.i64.wrap (z+1),.bool true,[]⟩ (by kernel_rfl) (by kernel_rfl) ⟨by simp only[af];omega,by simp only;omega⟩ (by simp only;omega) (eC eK (eC eK eE))))))
 ·refine aO [] 15 (decide (z<(an:Int))) (ak hl) (W.r [15] (.bool true) ⟨rfl,rfl⟩ bX)
end
theorem NC{b:Nat}{l:List Int}{I:gd}{w:World}(hb:kU l)(h:(eT b (l.map (Value.int .u8))).p I w)(hl:l.length≤1000:=by decide):(BF ⟨some ⟨b,0,none⟩,l.length,l.length⟩ l).p I w:=
 ⟨rfl,⟨aj _,by simp only;unfold maxLen;omega⟩,hb,RA.of_row h fun _ _ hv=>hv⟩
theorem uX{b:Nat}(es:List mR){I:gd}{w:World}(h:(eT b (es.flatMap kM.cells)).p I w)(hf:∀e∈es,(oE e.f e.p e.x).p I w)(hm:es.length≤1000:=by simp):(qA ⟨some ⟨b,0,none⟩,es.length,es.length⟩ (es.map mR.x)).p I w:=
 ⟨es,rfl,(bM ..).symm,⟨aj _,by simp only;unfold maxLen;omega⟩,fun e he=>hf e he,RA.of_row h fun _ _ hv=>hv⟩
theorem Sm{b:Nat}(es:List lT){I:gd}{w:World}(hm:es.length≤1000)(h:(eT b (es.flatMap gT.cells)).p I w)(hf:∀e∈es,(zJ e.h e.i e.x).p I w):(lL ⟨some ⟨b,0,none⟩,es.length,es.length⟩ (es.map lT.x)).p I w:=
 ⟨es,rfl,(bM ..).symm,⟨aj _,by simp only;unfold maxLen;omega⟩,fun e he=>hf e he,RA.of_row h fun _ _ hv=>hv⟩
theorem TJ{b:Nat}(es:List lH){I:gd}{w:World}(hm:es.length≤1000)(h:(eT b (es.flatMap k8.cells)).p I w)(hf:∀e∈es,(sS e.s e.x.p).p I w):(LF k8 lH.x ⟨some ⟨b,0,none⟩,es.length,es.length⟩ (es.map lH.x)).p I w:=
 ⟨es,rfl,(bM ..).symm,⟨aj _,by simp only;unfold maxLen;omega⟩,fun e he=>hf e he,RA.of_row h fun _ _ hv=>hv⟩
theorem Tv{b:Nat}{l:List Dp}{I:gd}{w:World}(hl:l.length≤1000)(h:(eT b (l.flatMap ed)).p I w):(sS ⟨some ⟨b,0,none⟩,l.length,l.length⟩ l).p I w:=
 ⟨rfl,⟨aj _,by simp only;unfold maxLen;omega⟩,RA.of_row h fun _ _ hv=>hv⟩
theorem F0{l:List Int}(h:l.all (fun z=>decide (0≤z)&&decide (z<256))=true):kU l:=fun z hz=>by
 have:=List.all_eq_true.1 h z hz;simpa using this
theorem Dg:(iQ ng).length≤100000:=by decide
theorem Bb:uE ng.c≤160:=by decide+kernel
def ml:List Dp:=[⟨0,0⟩,⟨10,0⟩,⟨10,10⟩,⟨0,10⟩]
def Pb:List Ce:=[k9 RQ [jF 1 0 ml],k9 Ds [kT]]
section
variable{Γ:List aC}
theorem rl:aw tb Tryz.prog 9 [] Γ (jy (.bool true)):=by
 refine aw.of_W au Tryz.func9 rfl (cW [] 4 (ml.flatMap ed) au (fun b1=>jT [] (Γ':=[RA (some ⟨b1,0,none⟩) (ml.flatMap ed)]) (fun I w _ hh=>aT (RA.of_row hh.h0' fun _ _ hv=>hv)) (PN 1 0 (some ⟨b1,0,none⟩) 4 4 (ps:=ml) rfl (by decide)) ?_));rintro _ _ ⟨u2,rfl,rfl⟩;refine W.c0 [] (iV 10 0 ⟨none,0,0⟩) (W.c1 [] (BC RQ (by decide)) (fun u4=>W.c0 [] (iV 18 6 u4) (cW [] 2 [.int .u8 0,.int .u8 0] au (fun b6=>W.c0 [] (iV 26 1 ⟨some ⟨b6,0,none⟩,2,2⟩) (cW [] 8 [.int .u8 66,.int .u8 90,.int .u8 0,.int .u8 0,.int .u8 0,.int .u8 0,.int .u8 0,.int .u8 0] au (fun b8=>W.c0 [] (iV 28 5 ⟨some ⟨b8,0,none⟩,8,8⟩) (cW [] 2 [.int .i64 100,.int .i64 0] au (fun b10=>jT [] (Γ':=[NL ⟨some ⟨b10,0,none⟩,2,2⟩ [100,0]]) (fun I w _ hh=>aT (yz (l:=[100,0]) (hl:=(by decide)) hh.h0')) (vc ⟨some ⟨b10,0,none⟩,2,2⟩ (l:=[100,0]) (by decide)) ?_))))))));rintro _ _ ⟨u11,rfl,rfl⟩;refine W.c0 [] (iV 16 3 u11) (cW [] 5 [.int .u8 10,.int .u8 0,.slice none 0 0,.int .u8 18,.int .u8 6,aY u4,.int .u8 26,.int .u8 1,.slice (some ⟨b6,0,none⟩) 2 2,.int .u8 28,.int .u8 5,.slice (some ⟨b8,0,none⟩) 8 8,.int .u8 16,.int .u8 3,aY u11] au (fun b13=>?_));have hturn:∀{Γ':List aC} [aZ (BF u4) (j8 RQ) Γ'] [aZ (eT b6) [.int .u8 0,.int .u8 0] Γ'] [aZ (eT b8) [.int .u8 66,.int .u8 90,.int .u8 0,.int .u8 0,.int .u8 0,.int .u8 0,.int .u8 0,.int .u8 0] Γ'] [aZ (BF u11) ([100,0].flatMap lB) Γ']
   [aZ (eT b13) [.int .u8 10,.int .u8 0,.slice none 0 0,.int .u8 18,.int .u8 6,aY u4,.int .u8 26,.int .u8 1,.slice (some ⟨b6,0,none⟩) 2 2,.int .u8 28,.int .u8 5,.slice (some ⟨b8,0,none⟩) 8 8,.int .u8 16,.int .u8 3,aY u11] Γ'] {I:gd} {w:World},
   aD Γ' I w→(oE ⟨some ⟨b13,0,none⟩,5,5⟩ ⟨none,0,0⟩ kT).p I w:=fun{Γ'} _ _ _ _ _ {I w} hh=>
  ⟨vl [⟨⟨none,0,0⟩,⟨10,0,[]⟩⟩,⟨u4,⟨18,6,j8 RQ⟩⟩,⟨⟨some ⟨b6,0,none⟩,2,2⟩,⟨26,1,[0,0]⟩⟩,⟨⟨some ⟨b8,0,none⟩,8,8⟩,⟨28,5,[66,90,0,0,0,0,0,0]⟩⟩,⟨u11,⟨16,3,[100,0].flatMap lB⟩⟩] (aZ.p (k:=eT b13) inferInstance hh) (fun e he=>by
   simp only[aF,aJ,b_]at he;rcases he with rfl|rfl|rfl|rfl|rfl
   ·exact ja (rL _ _ _)
   ·exact ja (aZ.p (k:=BF u4) inferInstance hh)
   ·exact ja (NC (l:=[0,0]) (F0 rfl) (aZ.p (k:=eT b6) inferInstance hh))
   ·exact ja (NC (l:=[66,90,0,0,0,0,0,0]) (F0 rfl) (aZ.p (k:=eT b8) inferInstance hh))
   ·exact ja (aZ.p (k:=BF u11) inferInstance hh)),Ag _ _⟩
 refine R4 [] [0,3,8,1,2,4,5,6,7,9] [0,3,8,1,4,2,5,6,7,9] [0,3,8,4,1,2,5,6,7,9] (by kernel_rfl) ?_1 ?_2 ?_3
 case' _1=>
  refine cW [] 1 [aY u2,.slice none 0 0] au (fun b28=>jT [] (Γ':=[qA ⟨some ⟨b28,0,none⟩,1,1⟩ [jF 1 0 ml]]) (fun I w _ hh=>aT (uX [⟨u2,⟨none,0,0⟩,jF 1 0 ml⟩] (aZ.p (k:=eT b28) inferInstance hh) (fun e he=>by
   simp only[aF,aJ,b_]at he;subst he;exact aZ.p (k:=oE u2 ⟨none,0,0⟩) inferInstance hh))) (pJ RQ ⟨some ⟨b28,0,none⟩,1,1⟩ (l:=[jF 1 0 ml])) ?_)
  rintro _ _ ⟨u29,rfl,rfl⟩;refine cW [] 1 [.slice (some ⟨b13,0,none⟩) 5 5,.slice none 0 0] au (fun b31=>jT [] (Γ':=[qA ⟨some ⟨b31,0,none⟩,1,1⟩ [kT]]) (fun I w _ hh=>aT (uX [⟨⟨some ⟨b13,0,none⟩,5,5⟩,⟨none,0,0⟩,kT⟩] (aZ.p (k:=eT b31) inferInstance hh) (fun e he=>by
   simp only[aF,aJ,b_]at he;subst he;exact hturn hh))) (pJ Ds ⟨some ⟨b31,0,none⟩,1,1⟩ (l:=[kT])) ?_)
  rintro _ _ ⟨u32,rfl,rfl⟩
 case' _2=>
  refine cW [] 1 [aY u2,.slice none 0 0] au (fun b28=>cW [] 1 [.slice (some ⟨b13,0,none⟩) 5 5,.slice none 0 0] au (fun b31=>jT [] (Γ':=[qA ⟨some ⟨b28,0,none⟩,1,1⟩ [jF 1 0 ml]]) (fun I w _ hh=>aT (uX [⟨u2,⟨none,0,0⟩,jF 1 0 ml⟩] (aZ.p (k:=eT b28) inferInstance hh) (fun e he=>by
   simp only[aF,aJ,b_]at he;subst he;exact aZ.p (k:=oE u2 ⟨none,0,0⟩) inferInstance hh))) (pJ RQ ⟨some ⟨b28,0,none⟩,1,1⟩ (l:=[jF 1 0 ml])) ?_))
  rintro _ _ ⟨u29,rfl,rfl⟩;refine jT [] (Γ':=[qA ⟨some ⟨b31,0,none⟩,1,1⟩ [kT]]) (fun I w _ hh=>aT (uX [⟨⟨some ⟨b13,0,none⟩,5,5⟩,⟨none,0,0⟩,kT⟩] (aZ.p (k:=eT b31) inferInstance hh) (fun e he=>by
   simp only[aF,aJ,b_]at he;subst he;exact hturn hh))) (pJ Ds ⟨some ⟨b31,0,none⟩,1,1⟩ (l:=[kT])) ?_
  rintro _ _ ⟨u32,rfl,rfl⟩
 case' _3=>
  refine cW [] 1 [.slice (some ⟨b13,0,none⟩) 5 5,.slice none 0 0] au (fun b31=>cW [] 1 [aY u2,.slice none 0 0] au (fun b28=>jT [] (Γ':=[qA ⟨some ⟨b28,0,none⟩,1,1⟩ [jF 1 0 ml]]) (fun I w _ hh=>aT (uX [⟨u2,⟨none,0,0⟩,jF 1 0 ml⟩] (aZ.p (k:=eT b28) inferInstance hh) (fun e he=>by
   simp only[aF,aJ,b_]at he;subst he;exact aZ.p (k:=oE u2 ⟨none,0,0⟩) inferInstance hh))) (pJ RQ ⟨some ⟨b28,0,none⟩,1,1⟩ (l:=[jF 1 0 ml])) ?_))
  rintro _ _ ⟨u29,rfl,rfl⟩;refine jT [] (Γ':=[qA ⟨some ⟨b31,0,none⟩,1,1⟩ [kT]]) (fun I w _ hh=>aT (uX [⟨⟨some ⟨b13,0,none⟩,5,5⟩,⟨none,0,0⟩,kT⟩] (aZ.p (k:=eT b31) inferInstance hh) (fun e he=>by
   simp only[aF,aJ,b_]at he;subst he;exact hturn hh))) (pJ Ds ⟨some ⟨b31,0,none⟩,1,1⟩ (l:=[kT])) ?_
  rintro _ _ ⟨u32,rfl,rfl⟩
 all_goals
  refine cW [] 2 [aY u29,.slice (some ⟨b28,0,none⟩) 1 1,aY u32,.slice (some ⟨b31,0,none⟩) 1 1] au (fun b33=>jT [] (Γ':=[lL ⟨some ⟨b33,0,none⟩,2,2⟩ Pb]) (fun I w _ hh=>aT (Sm [⟨u29,⟨some ⟨b28,0,none⟩,1,1⟩,k9 RQ [jF 1 0 ml]⟩,⟨u32,⟨some ⟨b31,0,none⟩,1,1⟩,k9 Ds [kT]⟩] (by simp) (aZ.p (k:=eT b33) inferInstance hh) (fun e he=>by
   simp only[aF,aJ,b_]at he;rcases he with rfl|rfl
   ·exact aZ.p (k:=zJ u29 ⟨some ⟨b28,0,none⟩,1,1⟩) inferInstance hh
   ·exact aZ.p (k:=zJ u32 ⟨some ⟨b31,0,none⟩,1,1⟩) inferInstance hh))) (Tf ⟨some ⟨b33,0,none⟩,2,2⟩ (cs:=Pb)) ?_)
  rintro _ _ ⟨u34,rfl,rfl⟩;refine jD [] (xz u34 ⟨some ⟨b33,0,none⟩,2,2⟩ 1 (t:=ng) Dg (fun _=>Bb)) ?_;rintro _ _ hp;rw[Be 1,if_neg (by decide)]at hp;rcases hp with⟨e,he,_⟩|⟨l,s,he,rfl,rfl⟩
  ·simp at he
  injection he with he;subst he;refine jD [] (xz u34 ⟨some ⟨b33,0,none⟩,2,2⟩ 0 (t:=ng) Dg (fun _=>Bb)) ?_;rintro _ _ hp;rw[Be 0,if_pos (by decide)]at hp;rcases hp with⟨e,he,rfl,rfl⟩|⟨l,s,he,_⟩
  rotate_left
  ·simp at he
  injection he with he;subst he;refine cW [] 4 (wk.flatMap ed) au (fun b49=>cW [] 1 [.int .i64 1,.int .i64 0,.slice (some ⟨b49,0,none⟩) 4 4] au (fun b51=>?_));obtain⟨sa,sn,sc⟩:=s;refine bh [] 53 ((0:Int)==0) rfl (jT [53,54] (Γ':=[LF k8 lH.x ⟨some ⟨b51,0,none⟩,1,1⟩ [⟨1,0,wk⟩]]) (fun I w _ hh=>aT (TJ [⟨⟨some ⟨b49,0,none⟩,4,4⟩,⟨1,0,wk⟩⟩] (by simp) (aZ.p (k:=eT b51) inferInstance hh) (fun e he=>by
   simp only[aF,aJ,b_]at he;subst he;exact Tv (l:=wk) (by decide) (aZ.p (k:=eT b49) inferInstance hh)))) (Qc sa sn sc (some ⟨b51,0,none⟩) 1 1 (l:=[⟨1,0,wk⟩])) ?_)
  rintro _ _ ⟨rfl,rfl⟩;exact W.r [54,59] (.bool true) ⟨rfl,rfl⟩ bX
end
theorem LS{t:Li}{n e:Int}(h:mL t n=.error e):e≠0:=by
 unfold mL at h;split at h
 ·injection h with h;omega
 ·split at h
  ·injection h with h;omega
  ·exact C9 h
section
variable{Γ:List aC}
end
section
variable{T:Tb}{P:Program}{fin:VS→List aC→Prop}{c:fF}{Γ:List aC}
theorem VH(D:List Nat)(own O F:List (Nat×List Value))(z bytes n m:Nat)(v x:Value)(xs news:List Value)(hT:T.Ok P)
   (ho:own=O++F)(hg:qQ z O v n xs)(hx:pY T Γ own x m z news)(h1:∀u∈news,u.oneCell'=true)
  (hn:n+m≤1000000)(hb:bytes≤100000000)
  (hk:∀v' O',qQ z O' v' (n+m) (xs++news)→W T P fin (mA (aE T (aV T D 999 c)) (O'++F) v') Γ)(h:oR T (aE T (aV T D 999 c))=some (own,z,bytes,v,x):=by kernel_rfl):W T P fin c Γ:=by
 rcases hg with hg|⟨rfl,rfl,rfl,b,off,rfl⟩
 ·refine W.app D own [] O F z bytes n m v x xs news hT (h:=h) (ho:=(by rw[az];exact ho)) hg hx h1 (hn:=hn) (hb:=hb) (fun v' O' hg'=>?_);rw[az];exact hk v' O' (.inl hg')
 ·rw[az]at ho;subst ho;refine Nl D own z bytes m b off x news hT h hx hb (fun h0=>?_) (fun g cap cur hp h2 h3 h4 h5=>?_)
  ·subst h0;obtain⟨_,_,_,hl,_⟩:=hx;obtain rfl:news=[]:=aL (by omega);exact hk _ [] (.inr ⟨rfl,rfl,rfl,b,off,rfl⟩)
  ·obtain⟨_,_,_,hl,_⟩:=hx;exact hk _ [(g,cur)] (.inl ⟨by rw[az,bU];exact hl,.inr ⟨g,cap,cur,by rw[bU],rfl,by omega,h3,h4,by rw[bU,az];exact h5⟩⟩)
theorem qQ.pos{z:Nat}{O:List (Nat×List Value)}{v:Value}{n:Nat}{xs:List Value}(h:qQ z O v n xs)(hn:0<n):∃g cap cur,v=.slice (some ⟨g,0,none⟩) n cap∧O=[(g,cur)]∧n≤cap∧cap≤maxLen∧cur.length=cap*z∧cur.take (n*z)=xs:=by
 rcases h with⟨_,⟨_,h,_⟩|h⟩|⟨_,h,_⟩
 ·omega
 ·exact h
 ·omega
theorem Zc{α β:Type}(R:kV α)(num:α→β)(hz:∀a,0<(R.cells a).length)(s:Sl){l:List β} [h:aZ (LF R num s) l Γ](hm:dF c.k=false)(hc:∀es:List α,es.map num=l→s.n=es.length→(0<s.n→∃b off,s.ao=some ⟨b,off,none⟩)→W T P fin c (RA s.ao (es.flatMap R.cells)::lU R (aY s) es::Γ)):W T P fin c Γ:=
 W.elim (α:=List α) (fun es=>es.map num=l∧s.n=es.length∧(0<s.n→∃b off,s.ao=some ⟨b,off,none⟩)) (fun es=>[RA s.ao (es.flatMap R.cells),lU R (aY s) es]) hm (fun I w _ hh=>by
  obtain⟨es,rfl,h2,_,h4,h5⟩:=h.p hh;rw[bM]at h2;refine⟨es,⟨rfl,h2,fun hp=>?_⟩,aD.cons h5 (aT h4)⟩;obtain⟨b,off,ha,_⟩:=h5 (by
   cases es with
   |nil=>simp at h2;omega
   |cons e r=>
    rw[bB];intro he;have h6:=hz e;have:=dM List.length he;rw[aA,a_]at this;omega)
  exact⟨b,off,ha⟩) (fun es hq=>hc es hq.1 hq.2.1 hq.2.2)
end
theorem Ch{α:Type}{f:α→List Value}(hf:∀a,(f a).length=2):∀es:List α,(es.flatMap f).length=es.length*2
 | []=>rfl
 |e::es=>by rw[bB,aA,hf,Ch hf es,aB];omega
theorem Sj(es:List lT):∀u∈es.flatMap gT.cells,u.oneCell'=true:=by
 intro u hu;obtain⟨e,_,hu⟩:=List.mem_flatMap.1 hu;exact Cc _ _ u hu
section
variable{T:Tb}{P:Program}{fin:VS→List aC→Prop}{c:fF}{Γ:List aC}
theorem Zb(D:List Nat)(C:Code)(K:List It)(nt nb:Nat){α:Type}(N B:List Nat)(U:α→List (Nat×SV))(X:α→List (Nat×List Value))(O:α→List (Nat×List Value))(M:α→List (Nat×List (Value×Value)))(G:α→List aC)(inv:α→Prop)(μ:α→Nat)(a0:α)
  
  
  (i0:inv a0)(f0:∀I w,bj T I w→aD Γ I w→aD (G a0) I w)
  (hr:∀(a:α) (R:VS→List aC→Prop),inv a→
   (∀(D':List Nat) (c':fF) (Γ':List aC) (a':α),kD (aE T (aV T D' 999 c'))=some R→
    (kE (aE T (aV T D' 999 c'))).map (fun s=>s.only N B)=some (dX nt nb (U a') (X a') (O a') (M a'))→
    inv a'→μ a'<μ a→(∀I w,bj T I w→aD Γ' I w→aD (G a') I w)→W T P fin c' Γ')→
   W T P fin ⟨dX nt nb (U a) (X a) (O a) (M a),.code (C)::.again R::K⟩ (G a))(h:oB (aE T (aV T D 999 c))=true:=by kernel_rfl)(hb:tP (aE T (aV T D 999 c))=C:=by kernel_rfl)(hk:Dl (aE T (aV T D 999 c))=K:=by kernel_rfl)(h0:(mN (aE T (aV T D 999 c))).only N B=dX nt nb (U a0) (X a0) (O a0) (M a0):=by kernel_rfl):W T P fin c Γ:=by
 refine ez D 999 ?_;generalize aV T D 999 c=c1 at*;generalize he:aE T c1=e at*;cases e with
 |loop b c'=>
  have hb:b=C:=hb;have hk:c'.k=K:=hk;rw[←hb,←hk]at hr;have key:∀(m:Nat) (s:VS) (Γ':List aC),(∃a,s.only N B=dX nt nb (U a) (X a) (O a) (M a)∧inv a∧μ a=m∧∀I w,bj T I w→aD Γ' I w→aD (G a) I w)→
    W T P fin ⟨s,.code b::.again (fun s' Γ'=>∃m',m'<m∧∃a,s'.only N B=dX nt nb (U a) (X a) (O a) (M a)∧inv a∧μ a=m'∧∀I w,bj T I w→aD Γ' I w→aD (G a) I w)::c'.k⟩ Γ':=by
   rintro m s Γ' ⟨a,hs,hi,rfl,hf⟩;refine W.forget (iD N (List.range s.tmps.length)) (iD B (List.range s.boxes.length)) rfl ?_;rw[show s.forget (iD N (List.range s.tmps.length)) (iD B (List.range s.boxes.length))=dX nt nb (U a) (X a) (O a) (M a)from hs];refine W.sub rfl hf (hr a _ hi (fun D' c' Γ' a' hR hS hi' hl' hf'=>ez D' 999 ?_));generalize aV T D' 999 c'=c2 at*;cases hv:aE T c2<;>rw[hv]at hR hS<;>simp[kD,kE]at hR hS;subst hR;exact W.again hv ⟨μ a',hl',a',hS,hi',rfl,hf'⟩
  exact W.loop (fun m s Γ'=>∃a,s.only N B=dX nt nb (U a) (X a) (O a) (M a)∧inv a∧μ a=m∧∀I w,bj T I w→aD Γ' I w→aD (G a) I w) (μ a0) he ⟨a0,h0,i0,rfl,f0⟩ key
 |_=>simp[oB]at h
end
def lpI(fn:Func)(i j:Nat):Code:=((qJ (RK fn i) []).getD j (.skip,[])).1
def lpJ(fn:Func)(i j:Nat):List It:=((qJ (RK fn i) []).getD j (.skip,[])).2
theorem DQ{z:Int}(h:z.tmod 2=0):z % 2=0:=Int.emod_eq_zero_of_dvd (Int.dvd_of_tmod_eq_zero h)
def msU(X Y:Int)(s u:Sl):Nat×Int→List (Nat×SV):=fun a=>[(1,.val (.int .i64 X)),(2,.val (.int .i64 Y)),(6,.val (.bool false)),(7,.val (aY s)),(17,.val (aY u)),(19,.val (.int .i64 a.2))]
def msG(s u:Sl)(l m:List Sh):Nat×Int→List aC:=fun _=>[LF k8 lH.x s l,LF k8 lH.x u m]
def UT(X Y z:Int)(s u:Sl):Nat×Int→List (Nat×SV):=fun a=>[(1,.val (.int .i64 X)),(2,.val (.int .i64 Y)),(6,.val (.bool false)),(7,.val (aY s)),(17,.val (aY u)),(19,.val (.int .i64 z)),(20,.val (.int .i64 a.2))]
def mpG(ba oa bb ob i:Nat)(A k:Int)(s u pv qv:Sl)(l m:List Sh)(p q:List Dp):Nat×Int→List aC:=fun _=>[LF k8 lH.x s l,LF k8 lH.x u m,sS pv p,sS qv q,RA (some ⟨ba,oa+i*3,none⟩) [.int .i64 A,.int .i64 k,aY pv],RA (some ⟨bb,ob+i*3,none⟩) [.int .i64 A,.int .i64 k,aY qv]]
structure YT(X Y:Int)(an ac bn i:Nat)(z:Int)(pn pc qn:Nat)(p q:List Dp):Prop where
 hX: -1000≤X∧X≤1000
 hY: -1000≤Y∧Y≤1000
 hz:z=i
 hlt:i<an
 hltb:i<bn
 hac:an≤100000
 hp:pn=p.length
 hq:qn=q.length
 hp2:pn≤pc∧pc≤9223372036854775807
 hpq:uw (ptR X Y) p q
def YU(X Y z A k:Int)(ba oa an ac bb ob bn bc i:Nat)(pv qv:Sl)(l m:List Sh)(p q:List Dp)(R R2:VS→List aC→Prop)(a:Nat×Int):Prop:=
 W tb Tryz.prog (Fin tb Tryz.f5 (jy (.bool true))) ⟨dX 307 307 (UT X Y z ⟨some ⟨ba,oa,none⟩,an,ac⟩ ⟨some ⟨bb,ob,none⟩,bn,bc⟩ a) [] [] [],.code (lpI Tryz.f5 1 0)::.again R2::(lpJ Tryz.f5 1 0++.again R::RL Tryz.f5 1)⟩ (mpG ba oa bb ob i A k ⟨some ⟨ba,oa,none⟩,an,ac⟩ ⟨some ⟨bb,ob,none⟩,bn,bc⟩ pv qv l m p q a)
def YS(X Y z A k:Int)(ba oa an ac bb ob bn bc i:Nat)(pv qv:Sl)(l m:List Sh)(p q:List Dp)(R2:VS→List aC→Prop)(a:Nat×Int):Prop:=
 ∀(D':List Nat) (c':fF) (Γ':List aC) (a':Nat×Int),kD (aE tb (aV tb D' 999 c'))=some R2→
  (kE (aE tb (aV tb D' 999 c'))).map (fun s=>s.only [1,2,6,7,17,19,20] [])=some (dX 307 307 (UT X Y z ⟨some ⟨ba,oa,none⟩,an,ac⟩ ⟨some ⟨bb,ob,none⟩,bn,bc⟩ a') [] [] [])→
  (a'.2=a'.1∧a'.1≤pv.n)→pv.n-a'.1<pv.n-a.1→(∀I w,bj tb I w→aD Γ' I w→aD (mpG ba oa bb ob i A k ⟨some ⟨ba,oa,none⟩,an,ac⟩ ⟨some ⟨bb,ob,none⟩,bn,bc⟩ pv qv l m p q a') I w)→W tb Tryz.prog (Fin tb Tryz.f5 (jy (.bool true))) c' Γ'
section
theorem SU(X Y z A k:Int)(gw gy an ac iK jj bn bc i:Nat)(pa:Option Addr)(pn pc:Nat)(qa:Option Addr)(qn qc:Nat){l m:List Sh}{p q:List Dp}(H:YT X Y an ac bn i z pn pc qn p q)(hp4:p≠ []→∃bb off,pa=some ⟨bb,off,none⟩)(Fk:q≠ []→∃bb off,qa=some ⟨bb,off,none⟩)(R R2:VS→List aC→Prop)
  {j:Nat}{zj:Int}(yj:zj=j)(Ij:zj<(pn:Int)){d d':Dp}(hd:p[j]? =some d)(qe:q[j]? =some d')(hin:tN d.x∧tN d.y){e f:Int}(e1:d'.x=d.x+X+e)(f1:d'.y=d.y+Y+f)(e2: -1≤e∧e≤1)(g2: -1≤f∧f≤1)(e3:X % 2=0→e=0)(g3:Y % 2=0→f=0)(hxo:X.tmod 2=0)
  (close2:YS X Y z A k gw gy an ac iK jj bn bc i ⟨pa,pn,pc⟩ ⟨qa,qn,qc⟩ l m p q R2 (j,zj)):YU X Y z A k gw gy an ac iK jj bn bc i ⟨pa,pn,pc⟩ ⟨qa,qn,qc⟩ l m p q R R2 (j,zj):=by
 obtain⟨hX,hY,hz,hlt,hltb,hac,hp,hq,hp2,hpq⟩:=H;obtain⟨⟨gx1,gx2⟩,gy1,gy2⟩:=hin;have hpl:=hpq.len;show W tb Tryz.prog _ ⟨dX 307 307 (UT X Y z ⟨some ⟨gw,gy,none⟩,an,ac⟩ ⟨some ⟨iK,jj,none⟩,bn,bc⟩ (j,zj)) [] [] [],_⟩ [LF k8 lH.x ⟨some ⟨gw,gy,none⟩,an,ac⟩ l,LF k8 lH.x ⟨some ⟨iK,jj,none⟩,bn,bc⟩ m,sS ⟨pa,pn,pc⟩ p,sS ⟨qa,qn,qc⟩ q,RA (some ⟨gw,gy+i*3,none⟩) [.int .i64 A,.int .i64 k,.slice pa pn pc],RA (some ⟨iK,jj+i*3,none⟩) [.int .i64 A,.int .i64 k,.slice qa qn qc]];have hwx:IntKind.i64.wrap (d.x+X)=d.x+X:=by rw[af];omega
 have A7:IntKind.i64.wrap (d.y+Y)=d.y+Y:=by rw[af];omega
 have OR:IntKind.i64.wrap (d.x+X+1)=d.x+X+1:=by rw[af];omega
 have A8:IntKind.i64.wrap (d.y+Y+1)=d.y+Y+1:=by rw[af];omega
 have SD:IntKind.i64.wrap (d.x+X-1)=d.x+X-1:=by rw[af];omega
 have I9:IntKind.i64.wrap (d.y+Y-1)=d.y+Y-1:=by rw[af];omega
 obtain⟨pb,po,L8⟩:=hp4 (by rintro rfl;simp at hd);obtain⟨qb,qo,hqa⟩:=Fk (by rintro rfl;simp at qe);subst L8 hqa;refine bI [] 3 gw gy an ac .i64 i z hz au (by omega) (bN [] 2 gw (gy+i*3) au (cX [] 1 gw (gy+i*3+2) (.slice (some ⟨pb,po,none⟩) pn pc) au (fun I w hd hh=>bH gw (gy+i*3) I w hd hh 2 _ rfl) (bh [] 216 (decide (zj<(pn:Int))) (ar Ij) (x6 [216] ?_ ?_))))
 all_goals
  refine bI [] 3 gw gy an ac .i64 i z hz au (by omega) (bN [] 2 gw (gy+i*3) au (cX [] 1 gw (gy+i*3+2) (.slice (some ⟨pb,po,none⟩) pn pc) au (fun I w hd hh=>bH gw (gy+i*3) I w hd hh 2 _ rfl) (bI [] 2 pb po pn pc .i64 j zj yj au (by omega) (cJ [] pb (po+j*2) (ed d) au (fun I w h1 h2=>kH pb po pn pc hd I w h1 h2) (bI [] 3 iK jj bn bc .i64 i z hz au (by omega) (bN [] 2 iK (jj+i*3) au (cX [] 1 iK (jj+i*3+2) (.slice (some ⟨qb,qo,none⟩) qn qc) au (fun I w hd hh=>bH iK (jj+i*3) I w hd hh 2 _ rfl) (bI [] 2 qb qo qn qc .i64 j zj yj au (by omega) (cJ [] qb (qo+j*2) (ed d') au (fun I w h1 h2=>kH qb qo qn qc qe I w h1 h2) (oA [] .i64 X 2 (X.tmod 2) rfl ?_))))))))));refine aO [] 238 (X.tmod 2 != 0) (by rw[ir];exact hxo) (oA [238] .i64 Y 2 (Y.tmod 2) rfl ?_);have I1:e=0:=e3 (DQ hxo);refine aO [306,293,284,282,274,261,252,238] 250 (d'.x != IntKind.i64.wrap (d.x+X)) (by rw[hwx,ir];omega) ?_;by_cases YC:f=0
  ·refine aO [306,293,284,274,261,252,250,238] 282 (d'.y != IntKind.i64.wrap (d.y+Y)) (by rw[A7,ir];omega) (close2 [306,293,284,282,274,261,252,250,238] _ _ (j+1,IntKind.i64.wrap (zj+1)) (by kernel_rfl) (by kernel_rfl) ⟨by simp only[af];omega,by simp only;omega⟩ (by simp only;omega) (eC eK (eC eK (eC eK (eC eK (eC eK (eC eK eE)))))))
  refine bh [306,293,284,274,261,252,250,238] 282 (d'.y != IntKind.i64.wrap (d.y+Y)) (by rw[A7,kF];omega) (bh [306,293,282,274,261,252,250,238] 284 (Y.tmod 2 != 0) (by rw[kF];exact fun h=>YC (g3 (DQ h))) ?_);by_cases hf1:f=1
  ·refine bh [306,284,282,274,261,252,250,238] 293 (d'.y==IntKind.i64.wrap (IntKind.i64.wrap (d.y+Y)+1)) (by rw[A7,A8,eJ];omega) (close2 [306,293,284,282,274,261,252,250,238] _ _ (j+1,IntKind.i64.wrap (zj+1)) (by kernel_rfl) (by kernel_rfl) ⟨by simp only[af];omega,by simp only;omega⟩ (by simp only;omega) (eC eK (eC eK (eC eK (eC eK (eC eK (eC eK eE)))))))
  refine aO [306,284,282,274,261,252,250,238] 293 (d'.y==IntKind.i64.wrap (IntKind.i64.wrap (d.y+Y)+1)) (by rw[A7,A8,cP];omega) (aO [293,284,282,274,261,252,250,238] 306 (!(d'.y==IntKind.i64.wrap (IntKind.i64.wrap (d.y+Y)-1))) (by rw[A7,I9,gO,eJ];omega) (close2 [306,293,284,282,274,261,252,250,238] _ _ (j+1,IntKind.i64.wrap (zj+1)) (by kernel_rfl) (by kernel_rfl) ⟨by simp only[af];omega,by simp only;omega⟩ (by simp only;omega) (eC eK (eC eK (eC eK (eC eK (eC eK (eC eK eE))))))))
theorem SX(X Y z A k:Int)(gw gy an ac iK jj bn bc i:Nat)(pa:Option Addr)(pn pc:Nat)(qa:Option Addr)(qn qc:Nat){l m:List Sh}{p q:List Dp}(H:YT X Y an ac bn i z pn pc qn p q)(hp4:p≠ []→∃bb off,pa=some ⟨bb,off,none⟩)(Fk:q≠ []→∃bb off,qa=some ⟨bb,off,none⟩)(R R2:VS→List aC→Prop)
  {j:Nat}{zj:Int}(yj:zj=j)(Ij:zj<(pn:Int)){d d':Dp}(hd:p[j]? =some d)(qe:q[j]? =some d')(hin:tN d.x∧tN d.y){e f:Int}(e1:d'.x=d.x+X+e)(f1:d'.y=d.y+Y+f)(e2: -1≤e∧e≤1)(g2: -1≤f∧f≤1)(e3:X % 2=0→e=0)(g3:Y % 2=0→f=0)(hxo:¬X.tmod 2=0)(I1:e=0)
  (close2:YS X Y z A k gw gy an ac iK jj bn bc i ⟨pa,pn,pc⟩ ⟨qa,qn,qc⟩ l m p q R2 (j,zj)):YU X Y z A k gw gy an ac iK jj bn bc i ⟨pa,pn,pc⟩ ⟨qa,qn,qc⟩ l m p q R R2 (j,zj):=by
 obtain⟨hX,hY,hz,hlt,hltb,hac,hp,hq,hp2,hpq⟩:=H;obtain⟨⟨gx1,gx2⟩,gy1,gy2⟩:=hin;have hpl:=hpq.len;show W tb Tryz.prog _ ⟨dX 307 307 (UT X Y z ⟨some ⟨gw,gy,none⟩,an,ac⟩ ⟨some ⟨iK,jj,none⟩,bn,bc⟩ (j,zj)) [] [] [],_⟩ [LF k8 lH.x ⟨some ⟨gw,gy,none⟩,an,ac⟩ l,LF k8 lH.x ⟨some ⟨iK,jj,none⟩,bn,bc⟩ m,sS ⟨pa,pn,pc⟩ p,sS ⟨qa,qn,qc⟩ q,RA (some ⟨gw,gy+i*3,none⟩) [.int .i64 A,.int .i64 k,.slice pa pn pc],RA (some ⟨iK,jj+i*3,none⟩) [.int .i64 A,.int .i64 k,.slice qa qn qc]];have hwx:IntKind.i64.wrap (d.x+X)=d.x+X:=by rw[af];omega
 have A7:IntKind.i64.wrap (d.y+Y)=d.y+Y:=by rw[af];omega
 have OR:IntKind.i64.wrap (d.x+X+1)=d.x+X+1:=by rw[af];omega
 have A8:IntKind.i64.wrap (d.y+Y+1)=d.y+Y+1:=by rw[af];omega
 have SD:IntKind.i64.wrap (d.x+X-1)=d.x+X-1:=by rw[af];omega
 have I9:IntKind.i64.wrap (d.y+Y-1)=d.y+Y-1:=by rw[af];omega
 obtain⟨pb,po,L8⟩:=hp4 (by rintro rfl;simp at hd);obtain⟨qb,qo,hqa⟩:=Fk (by rintro rfl;simp at qe);subst L8 hqa;refine bI [] 3 gw gy an ac .i64 i z hz au (by omega) (bN [] 2 gw (gy+i*3) au (cX [] 1 gw (gy+i*3+2) (.slice (some ⟨pb,po,none⟩) pn pc) au (fun I w hd hh=>bH gw (gy+i*3) I w hd hh 2 _ rfl) (bh [] 216 (decide (zj<(pn:Int))) (ar Ij) (x6 [216] ?_ ?_))))
 all_goals
  refine bI [] 3 gw gy an ac .i64 i z hz au (by omega) (bN [] 2 gw (gy+i*3) au (cX [] 1 gw (gy+i*3+2) (.slice (some ⟨pb,po,none⟩) pn pc) au (fun I w hd hh=>bH gw (gy+i*3) I w hd hh 2 _ rfl) (bI [] 2 pb po pn pc .i64 j zj yj au (by omega) (cJ [] pb (po+j*2) (ed d) au (fun I w h1 h2=>kH pb po pn pc hd I w h1 h2) (bI [] 3 iK jj bn bc .i64 i z hz au (by omega) (bN [] 2 iK (jj+i*3) au (cX [] 1 iK (jj+i*3+2) (.slice (some ⟨qb,qo,none⟩) qn qc) au (fun I w hd hh=>bH iK (jj+i*3) I w hd hh 2 _ rfl) (bI [] 2 qb qo qn qc .i64 j zj yj au (by omega) (cJ [] qb (qo+j*2) (ed d') au (fun I w h1 h2=>kH qb qo qn qc qe I w h1 h2) (oA [] .i64 X 2 (X.tmod 2) rfl ?_))))))))));refine bh [] 238 (X.tmod 2 != 0) (by rw[kF];exact hxo) (aO [306,293,284,282,274,261,252,238] 250 (d'.x != IntKind.i64.wrap (d.x+X)) (by rw[hwx,ir];omega) ?_);by_cases YC:f=0
  ·refine aO [306,293,284,274,261,252,250,238] 282 (d'.y != IntKind.i64.wrap (d.y+Y)) (by rw[A7,ir];omega) (close2 [306,293,284,282,274,261,252,250,238] _ _ (j+1,IntKind.i64.wrap (zj+1)) (by kernel_rfl) (by kernel_rfl) ⟨by simp only[af];omega,by simp only;omega⟩ (by simp only;omega) (eC eK (eC eK (eC eK (eC eK (eC eK (eC eK eE)))))))
  refine bh [306,293,284,274,261,252,250,238] 282 (d'.y != IntKind.i64.wrap (d.y+Y)) (by rw[A7,kF];omega) ?_;by_cases hf1:f=1
  ·refine bh [306,284,282,274,261,252,250,238] 293 (d'.y==IntKind.i64.wrap (IntKind.i64.wrap (d.y+Y)+1)) (by rw[A7,A8,eJ];omega) (close2 [306,293,284,282,274,261,252,250,238] _ _ (j+1,IntKind.i64.wrap (zj+1)) (by kernel_rfl) (by kernel_rfl) ⟨by simp only[af];omega,by simp only;omega⟩ (by simp only;omega) (eC eK (eC eK (eC eK (eC eK (eC eK (eC eK eE)))))))
  refine aO [306,284,282,274,261,252,250,238] 293 (d'.y==IntKind.i64.wrap (IntKind.i64.wrap (d.y+Y)+1)) (by rw[A7,A8,cP];omega) (aO [293,284,282,274,261,252,250,238] 306 (!(d'.y==IntKind.i64.wrap (IntKind.i64.wrap (d.y+Y)-1))) (by rw[A7,I9,gO,eJ];omega) (close2 [306,293,284,282,274,261,252,250,238] _ _ (j+1,IntKind.i64.wrap (zj+1)) (by kernel_rfl) (by kernel_rfl) ⟨by simp only[af];omega,by simp only;omega⟩ (by simp only;omega) (eC eK (eC eK (eC eK (eC eK (eC eK (eC eK eE))))))))
theorem WQ(X Y z A k:Int)(gw gy an ac iK jj bn bc i:Nat)(pa:Option Addr)(pn pc:Nat)(qa:Option Addr)(qn qc:Nat){l m:List Sh}{p q:List Dp}(H:YT X Y an ac bn i z pn pc qn p q)(hp4:p≠ []→∃bb off,pa=some ⟨bb,off,none⟩)(Fk:q≠ []→∃bb off,qa=some ⟨bb,off,none⟩)(R R2:VS→List aC→Prop)
  {j:Nat}{zj:Int}(yj:zj=j)(Ij:zj<(pn:Int)){d d':Dp}(hd:p[j]? =some d)(qe:q[j]? =some d')(hin:tN d.x∧tN d.y){e f:Int}(e1:d'.x=d.x+X+e)(f1:d'.y=d.y+Y+f)(e2: -1≤e∧e≤1)(g2: -1≤f∧f≤1)(e3:X % 2=0→e=0)(g3:Y % 2=0→f=0)(hxo:¬X.tmod 2=0)(I1:¬e=0)(Ii:e=1)
  (close2:YS X Y z A k gw gy an ac iK jj bn bc i ⟨pa,pn,pc⟩ ⟨qa,qn,qc⟩ l m p q R2 (j,zj)):YU X Y z A k gw gy an ac iK jj bn bc i ⟨pa,pn,pc⟩ ⟨qa,qn,qc⟩ l m p q R R2 (j,zj):=by
 obtain⟨hX,hY,hz,hlt,hltb,hac,hp,hq,hp2,hpq⟩:=H;obtain⟨⟨gx1,gx2⟩,gy1,gy2⟩:=hin;have hpl:=hpq.len;show W tb Tryz.prog _ ⟨dX 307 307 (UT X Y z ⟨some ⟨gw,gy,none⟩,an,ac⟩ ⟨some ⟨iK,jj,none⟩,bn,bc⟩ (j,zj)) [] [] [],_⟩ [LF k8 lH.x ⟨some ⟨gw,gy,none⟩,an,ac⟩ l,LF k8 lH.x ⟨some ⟨iK,jj,none⟩,bn,bc⟩ m,sS ⟨pa,pn,pc⟩ p,sS ⟨qa,qn,qc⟩ q,RA (some ⟨gw,gy+i*3,none⟩) [.int .i64 A,.int .i64 k,.slice pa pn pc],RA (some ⟨iK,jj+i*3,none⟩) [.int .i64 A,.int .i64 k,.slice qa qn qc]];have hwx:IntKind.i64.wrap (d.x+X)=d.x+X:=by rw[af];omega
 have A7:IntKind.i64.wrap (d.y+Y)=d.y+Y:=by rw[af];omega
 have OR:IntKind.i64.wrap (d.x+X+1)=d.x+X+1:=by rw[af];omega
 have A8:IntKind.i64.wrap (d.y+Y+1)=d.y+Y+1:=by rw[af];omega
 have SD:IntKind.i64.wrap (d.x+X-1)=d.x+X-1:=by rw[af];omega
 have I9:IntKind.i64.wrap (d.y+Y-1)=d.y+Y-1:=by rw[af];omega
 obtain⟨pb,po,L8⟩:=hp4 (by rintro rfl;simp at hd);obtain⟨qb,qo,hqa⟩:=Fk (by rintro rfl;simp at qe);subst L8 hqa;refine bI [] 3 gw gy an ac .i64 i z hz au (by omega) (bN [] 2 gw (gy+i*3) au (cX [] 1 gw (gy+i*3+2) (.slice (some ⟨pb,po,none⟩) pn pc) au (fun I w hd hh=>bH gw (gy+i*3) I w hd hh 2 _ rfl) (bh [] 216 (decide (zj<(pn:Int))) (ar Ij) (x6 [216] ?_ ?_))))
 all_goals
  refine bI [] 3 gw gy an ac .i64 i z hz au (by omega) (bN [] 2 gw (gy+i*3) au (cX [] 1 gw (gy+i*3+2) (.slice (some ⟨pb,po,none⟩) pn pc) au (fun I w hd hh=>bH gw (gy+i*3) I w hd hh 2 _ rfl) (bI [] 2 pb po pn pc .i64 j zj yj au (by omega) (cJ [] pb (po+j*2) (ed d) au (fun I w h1 h2=>kH pb po pn pc hd I w h1 h2) (bI [] 3 iK jj bn bc .i64 i z hz au (by omega) (bN [] 2 iK (jj+i*3) au (cX [] 1 iK (jj+i*3+2) (.slice (some ⟨qb,qo,none⟩) qn qc) au (fun I w hd hh=>bH iK (jj+i*3) I w hd hh 2 _ rfl) (bI [] 2 qb qo qn qc .i64 j zj yj au (by omega) (cJ [] qb (qo+j*2) (ed d') au (fun I w h1 h2=>kH qb qo qn qc qe I w h1 h2) (oA [] .i64 X 2 (X.tmod 2) rfl ?_))))))))));refine bh [] 238 (X.tmod 2 != 0) (by rw[kF];exact hxo) (bh [306,293,284,282,274,261,252,238] 250 (d'.x != IntKind.i64.wrap (d.x+X)) (by rw[hwx,kF];omega) (bh [306,293,284,282,274,252,250,238] 261 (d'.x==IntKind.i64.wrap (IntKind.i64.wrap (d.x+X)+1)) (by rw[hwx,OR,eJ];omega) ?_));by_cases YC:f=0
  ·refine aO [306,293,284,274,261,252,250,238] 282 (d'.y != IntKind.i64.wrap (d.y+Y)) (by rw[A7,ir];omega) (close2 [306,293,284,282,274,261,252,250,238] _ _ (j+1,IntKind.i64.wrap (zj+1)) (by kernel_rfl) (by kernel_rfl) ⟨by simp only[af];omega,by simp only;omega⟩ (by simp only;omega) (eC eK (eC eK (eC eK (eC eK (eC eK (eC eK eE)))))))
  refine bh [306,293,284,274,261,252,250,238] 282 (d'.y != IntKind.i64.wrap (d.y+Y)) (by rw[A7,kF];omega) ?_;by_cases hf1:f=1
  ·refine bh [306,284,282,274,261,252,250,238] 293 (d'.y==IntKind.i64.wrap (IntKind.i64.wrap (d.y+Y)+1)) (by rw[A7,A8,eJ];omega) (close2 [306,293,284,282,274,261,252,250,238] _ _ (j+1,IntKind.i64.wrap (zj+1)) (by kernel_rfl) (by kernel_rfl) ⟨by simp only[af];omega,by simp only;omega⟩ (by simp only;omega) (eC eK (eC eK (eC eK (eC eK (eC eK (eC eK eE)))))))
  refine aO [306,284,282,274,261,252,250,238] 293 (d'.y==IntKind.i64.wrap (IntKind.i64.wrap (d.y+Y)+1)) (by rw[A7,A8,cP];omega) (aO [293,284,282,274,261,252,250,238] 306 (!(d'.y==IntKind.i64.wrap (IntKind.i64.wrap (d.y+Y)-1))) (by rw[A7,I9,gO,eJ];omega) (close2 [306,293,284,282,274,261,252,250,238] _ _ (j+1,IntKind.i64.wrap (zj+1)) (by kernel_rfl) (by kernel_rfl) ⟨by simp only[af];omega,by simp only;omega⟩ (by simp only;omega) (eC eK (eC eK (eC eK (eC eK (eC eK (eC eK eE))))))))
theorem SW(X Y z A k:Int)(gw gy an ac iK jj bn bc i:Nat)(pa:Option Addr)(pn pc:Nat)(qa:Option Addr)(qn qc:Nat){l m:List Sh}{p q:List Dp}(H:YT X Y an ac bn i z pn pc qn p q)(hp4:p≠ []→∃bb off,pa=some ⟨bb,off,none⟩)(Fk:q≠ []→∃bb off,qa=some ⟨bb,off,none⟩)(R R2:VS→List aC→Prop)
  {j:Nat}{zj:Int}(yj:zj=j)(Ij:zj<(pn:Int)){d d':Dp}(hd:p[j]? =some d)(qe:q[j]? =some d')(hin:tN d.x∧tN d.y){e f:Int}(e1:d'.x=d.x+X+e)(f1:d'.y=d.y+Y+f)(e2: -1≤e∧e≤1)(g2: -1≤f∧f≤1)(e3:X % 2=0→e=0)(g3:Y % 2=0→f=0)(hxo:¬X.tmod 2=0)(I1:¬e=0)(Ii:¬e=1)
  (close2:YS X Y z A k gw gy an ac iK jj bn bc i ⟨pa,pn,pc⟩ ⟨qa,qn,qc⟩ l m p q R2 (j,zj)):YU X Y z A k gw gy an ac iK jj bn bc i ⟨pa,pn,pc⟩ ⟨qa,qn,qc⟩ l m p q R R2 (j,zj):=by
 obtain⟨hX,hY,hz,hlt,hltb,hac,hp,hq,hp2,hpq⟩:=H;obtain⟨⟨gx1,gx2⟩,gy1,gy2⟩:=hin;have hpl:=hpq.len;show W tb Tryz.prog _ ⟨dX 307 307 (UT X Y z ⟨some ⟨gw,gy,none⟩,an,ac⟩ ⟨some ⟨iK,jj,none⟩,bn,bc⟩ (j,zj)) [] [] [],_⟩ [LF k8 lH.x ⟨some ⟨gw,gy,none⟩,an,ac⟩ l,LF k8 lH.x ⟨some ⟨iK,jj,none⟩,bn,bc⟩ m,sS ⟨pa,pn,pc⟩ p,sS ⟨qa,qn,qc⟩ q,RA (some ⟨gw,gy+i*3,none⟩) [.int .i64 A,.int .i64 k,.slice pa pn pc],RA (some ⟨iK,jj+i*3,none⟩) [.int .i64 A,.int .i64 k,.slice qa qn qc]];have hwx:IntKind.i64.wrap (d.x+X)=d.x+X:=by rw[af];omega
 have A7:IntKind.i64.wrap (d.y+Y)=d.y+Y:=by rw[af];omega
 have OR:IntKind.i64.wrap (d.x+X+1)=d.x+X+1:=by rw[af];omega
 have A8:IntKind.i64.wrap (d.y+Y+1)=d.y+Y+1:=by rw[af];omega
 have SD:IntKind.i64.wrap (d.x+X-1)=d.x+X-1:=by rw[af];omega
 have I9:IntKind.i64.wrap (d.y+Y-1)=d.y+Y-1:=by rw[af];omega
 obtain⟨pb,po,L8⟩:=hp4 (by rintro rfl;simp at hd);obtain⟨qb,qo,hqa⟩:=Fk (by rintro rfl;simp at qe);subst L8 hqa;refine bI [] 3 gw gy an ac .i64 i z hz au (by omega) (bN [] 2 gw (gy+i*3) au (cX [] 1 gw (gy+i*3+2) (.slice (some ⟨pb,po,none⟩) pn pc) au (fun I w hd hh=>bH gw (gy+i*3) I w hd hh 2 _ rfl) (bh [] 216 (decide (zj<(pn:Int))) (ar Ij) (x6 [216] ?_ ?_))))
 all_goals
  refine bI [] 3 gw gy an ac .i64 i z hz au (by omega) (bN [] 2 gw (gy+i*3) au (cX [] 1 gw (gy+i*3+2) (.slice (some ⟨pb,po,none⟩) pn pc) au (fun I w hd hh=>bH gw (gy+i*3) I w hd hh 2 _ rfl) (bI [] 2 pb po pn pc .i64 j zj yj au (by omega) (cJ [] pb (po+j*2) (ed d) au (fun I w h1 h2=>kH pb po pn pc hd I w h1 h2) (bI [] 3 iK jj bn bc .i64 i z hz au (by omega) (bN [] 2 iK (jj+i*3) au (cX [] 1 iK (jj+i*3+2) (.slice (some ⟨qb,qo,none⟩) qn qc) au (fun I w hd hh=>bH iK (jj+i*3) I w hd hh 2 _ rfl) (bI [] 2 qb qo qn qc .i64 j zj yj au (by omega) (cJ [] qb (qo+j*2) (ed d') au (fun I w h1 h2=>kH qb qo qn qc qe I w h1 h2) (oA [] .i64 X 2 (X.tmod 2) rfl ?_))))))))));refine bh [] 238 (X.tmod 2 != 0) (by rw[kF];exact hxo) (bh [306,293,284,282,274,261,252,238] 250 (d'.x != IntKind.i64.wrap (d.x+X)) (by rw[hwx,kF];omega) (aO [306,293,284,282,274,252,250,238] 261 (d'.x==IntKind.i64.wrap (IntKind.i64.wrap (d.x+X)+1)) (by rw[hwx,OR,cP];omega) (aO [306,293,284,282,261,252,250,238] 274 (!(d'.x==IntKind.i64.wrap (IntKind.i64.wrap (d.x+X)-1))) (by rw[hwx,SD,gO,eJ];omega) ?_)));by_cases YC:f=0
  ·refine aO [306,293,284,274,261,252,250,238] 282 (d'.y != IntKind.i64.wrap (d.y+Y)) (by rw[A7,ir];omega) (close2 [306,293,284,282,274,261,252,250,238] _ _ (j+1,IntKind.i64.wrap (zj+1)) (by kernel_rfl) (by kernel_rfl) ⟨by simp only[af];omega,by simp only;omega⟩ (by simp only;omega) (eC eK (eC eK (eC eK (eC eK (eC eK (eC eK eE)))))))
  refine bh [306,293,284,274,261,252,250,238] 282 (d'.y != IntKind.i64.wrap (d.y+Y)) (by rw[A7,kF];omega) ?_;by_cases hf1:f=1
  ·refine bh [306,284,282,274,261,252,250,238] 293 (d'.y==IntKind.i64.wrap (IntKind.i64.wrap (d.y+Y)+1)) (by rw[A7,A8,eJ];omega) (close2 [306,293,284,282,274,261,252,250,238] _ _ (j+1,IntKind.i64.wrap (zj+1)) (by kernel_rfl) (by kernel_rfl) ⟨by simp only[af];omega,by simp only;omega⟩ (by simp only;omega) (eC eK (eC eK (eC eK (eC eK (eC eK (eC eK eE)))))))
  refine aO [306,284,282,274,261,252,250,238] 293 (d'.y==IntKind.i64.wrap (IntKind.i64.wrap (d.y+Y)+1)) (by rw[A7,A8,cP];omega) (aO [293,284,282,274,261,252,250,238] 306 (!(d'.y==IntKind.i64.wrap (IntKind.i64.wrap (d.y+Y)-1))) (by rw[A7,I9,gO,eJ];omega) (close2 [306,293,284,282,274,261,252,250,238] _ _ (j+1,IntKind.i64.wrap (zj+1)) (by kernel_rfl) (by kernel_rfl) ⟨by simp only[af];omega,by simp only;omega⟩ (by simp only;omega) (eC eK (eC eK (eC eK (eC eK (eC eK (eC eK eE))))))))
theorem Jj(X Y z A k:Int)(gw gy an ac iK jj bn bc i:Nat)(pa:Option Addr)(pn pc:Nat)(qa:Option Addr)(qn qc:Nat){l m:List Sh}{p q:List Dp}(H:YT X Y an ac bn i z pn pc qn p q)(hp4:p≠ []→∃bb off,pa=some ⟨bb,off,none⟩)(Fk:q≠ []→∃bb off,qa=some ⟨bb,off,none⟩)(R:VS→List aC→Prop)
  (close:∀(D':List Nat) (c':fF) (Γ':List aC) (a':Nat×Int),kD (aE tb (aV tb D' 999 c'))=some R→
    (kE (aE tb (aV tb D' 999 c'))).map (fun s=>s.only [1,2,6,7,17,19] [])=some (dX 307 307 (msU X Y ⟨some ⟨gw,gy,none⟩,an,ac⟩ ⟨some ⟨iK,jj,none⟩,bn,bc⟩ a') [] [] [])→
    (a'.2=a'.1∧a'.1≤an)→an-a'.1<an-i→(∀I w,bj tb I w→aD Γ' I w→aD (msG ⟨some ⟨gw,gy,none⟩,an,ac⟩ ⟨some ⟨iK,jj,none⟩,bn,bc⟩ l m a') I w)→W tb Tryz.prog (Fin tb Tryz.f5 (jy (.bool true))) c' Γ')
  (a2:Nat×Int)(R2:VS→List aC→Prop)(hq2:a2.2=a2.1∧a2.1≤pn)(close2:YS X Y z A k gw gy an ac iK jj bn bc i ⟨pa,pn,pc⟩ ⟨qa,qn,qc⟩ l m p q R2 a2):YU X Y z A k gw gy an ac iK jj bn bc i ⟨pa,pn,pc⟩ ⟨qa,qn,qc⟩ l m p q R R2 a2:=by
 obtain⟨j,zj⟩:=a2;obtain⟨yj,hj⟩:=hq2;simp only at yj hj;have H':=H;obtain⟨hX,hY,hz,hlt,hltb,hac,hp,hq,hp2,hpq⟩:=H';have hpl:=hpq.len;by_cases Ij:zj<(pn:Int)
 ·obtain⟨d,hd⟩:∃d,p[j]? =some d:=⟨_,ah (by omega)⟩;obtain⟨d',qe⟩:∃d,q[j]? =some d:=⟨_,ah (by omega)⟩;obtain⟨hin,e,f,e1,f1,e2,g2,e3,g3⟩:=hpq.at hd qe;by_cases hxo:X.tmod 2=0
  ·exact SU X Y z A k gw gy an ac iK jj bn bc i pa pn pc qa qn qc H hp4 Fk R R2 yj Ij hd qe hin e1 f1 e2 g2 e3 g3 hxo close2
  by_cases I1:e=0
  ·exact SX X Y z A k gw gy an ac iK jj bn bc i pa pn pc qa qn qc H hp4 Fk R R2 yj Ij hd qe hin e1 f1 e2 g2 e3 g3 hxo I1 close2
  by_cases Ii:e=1
  ·exact WQ X Y z A k gw gy an ac iK jj bn bc i pa pn pc qa qn qc H hp4 Fk R R2 yj Ij hd qe hin e1 f1 e2 g2 e3 g3 hxo I1 Ii close2
  ·exact SW X Y z A k gw gy an ac iK jj bn bc i pa pn pc qa qn qc H hp4 Fk R R2 yj Ij hd qe hin e1 f1 e2 g2 e3 g3 hxo I1 Ii close2
 ·show W tb Tryz.prog _ ⟨dX 307 307 (UT X Y z ⟨some ⟨gw,gy,none⟩,an,ac⟩ ⟨some ⟨iK,jj,none⟩,bn,bc⟩ (j,zj)) [] [] [],_⟩ [LF k8 lH.x ⟨some ⟨gw,gy,none⟩,an,ac⟩ l,LF k8 lH.x ⟨some ⟨iK,jj,none⟩,bn,bc⟩ m,sS ⟨pa,pn,pc⟩ p,sS ⟨qa,qn,qc⟩ q,RA (some ⟨gw,gy+i*3,none⟩) [.int .i64 A,.int .i64 k,.slice pa pn pc],RA (some ⟨iK,jj+i*3,none⟩) [.int .i64 A,.int .i64 k,.slice qa qn qc]];refine bI [] 3 gw gy an ac .i64 i z hz au (by omega) (bN [] 2 gw (gy+i*3) au (cX [] 1 gw (gy+i*3+2) (.slice pa pn pc) au (fun I w hd hh=>bH gw (gy+i*3) I w hd hh 2 _ rfl) (aO [] 216 (decide (zj<(pn:Int))) (ak Ij) (close [216] _ _ (i+1,IntKind.i64.wrap (z+1)) (by kernel_rfl) (by kernel_rfl) ⟨by simp only[af];omega,by simp only;omega⟩ (by simp only;omega) (eC eK (eC eK eE))))))
end
section
variable{Γ:List aC}
theorem Jk(aa:Option Addr)(an ac:Nat)(ba:Option Addr)(bn bc:Nat)(X Y:Int)(hX: -1000≤X∧X≤1000)(hY: -1000≤Y∧Y≤1000){l m:List Sh}(hrel:uw (shR X Y) l m)(ha:an=l.length)(hb:bn=m.length)(hac:an≤100000)
  (a:Nat×Int)(R:VS→List aC→Prop)(hq:a.2=a.1∧a.1≤an)
  (close:∀(D':List Nat) (c':fF) (Γ':List aC) (a':Nat×Int),kD (aE tb (aV tb D' 999 c'))=some R→
    (kE (aE tb (aV tb D' 999 c'))).map (fun s=>s.only [1,2,6,7,17,19] [])=some (dX 307 307 (msU X Y ⟨aa,an,ac⟩ ⟨ba,bn,bc⟩ a') [] [] [])→
    (a'.2=a'.1∧a'.1≤an)→an-a'.1<an-a.1→(∀I w,bj tb I w→aD Γ' I w→aD (msG ⟨aa,an,ac⟩ ⟨ba,bn,bc⟩ l m a') I w)→W tb Tryz.prog (Fin tb Tryz.f5 (jy (.bool true))) c' Γ'):
  W tb Tryz.prog (Fin tb Tryz.f5 (jy (.bool true))) ⟨dX 307 307 (msU X Y ⟨aa,an,ac⟩ ⟨ba,bn,bc⟩ a) [] [] [],.code (RK Tryz.f5 1)::.again R::RL Tryz.f5 1⟩ (msG ⟨aa,an,ac⟩ ⟨ba,bn,bc⟩ l m a):=by
 obtain⟨i,z⟩:=a;obtain⟨hz,hi⟩:=hq;simp only at hz hi;have hlm:=hrel.len;show W tb Tryz.prog _ ⟨dX 307 307 (msU X Y ⟨aa,an,ac⟩ ⟨ba,bn,bc⟩ (i,z)) [] [] [],_⟩ [LF k8 lH.x ⟨aa,an,ac⟩ l,LF k8 lH.x ⟨ba,bn,bc⟩ m];by_cases hl:z<(an:Int)
 ·obtain⟨⟨A,k,p⟩,hx⟩:∃x,l[i]? =some x:=⟨_,ah (by omega)⟩;obtain⟨⟨A',k',q⟩,hy⟩:∃x,m[i]? =some x:=⟨_,ah (by omega)⟩;obtain⟨hA,hk,hpq⟩:=hrel.at hx hy;simp only at hA hk hpq;subst hA hk;refine IA k8 lH.x ⟨aa,an,ac⟩ hx (by kernel_rfl) (fun gw gy e ZK he=>?_);obtain⟨⟨pa,pn,pc⟩,e⟩:=e;obtain rfl:e=⟨A',k',p⟩:=he;simp only at ZK;subst ZK;refine IA k8 lH.x ⟨ba,bn,bc⟩ hy (by kernel_rfl) (fun iK jj e hb4 he=>?_);obtain⟨⟨qa,qn,qc⟩,e⟩:=e;obtain rfl:e=⟨A',k',q⟩:=he;simp only at hb4;subst hb4;refine W.more (Δ:=[sS ⟨pa,pn,pc⟩ p,sS ⟨qa,qn,qc⟩ q,RA (some ⟨gw,gy+i*3,none⟩) [.int .i64 A',.int .i64 k',.slice pa pn pc],RA (some ⟨iK,jj+i*3,none⟩) [.int .i64 A',.int .i64 k',.slice qa qn qc]]) rfl (fun I w _ hh=>aD.cons (hh _ (.tail _ (.tail _ (.head _)))) (aD.cons (hh _ (.head _)) (aD.cons (hh _ (.tail _ (.tail _ (.tail _ (.head _))))) (aT (hh _ (.tail _ (.head _))))))) (CK ⟨pa,pn,pc⟩ rfl (fun hp hp2 hp4=>CK ⟨qa,qn,qc⟩ rfl (fun hq hq2 Fk=>?_)));simp only at hp hq hp2 hq2 hp4 Fk;have hpl:=hpq.len;have hlt:i<an:=by omega
  refine bh [] 167 (decide (z<(an:Int))) (ar hl) (bI [167] 3 gw gy an ac .i64 i z hz au (by omega) (bN [] 0 gw (gy+i*3) au (cX [] 1 gw (gy+i*3+0) (.int .i64 A') au (fun I w hd hh=>bH gw (gy+i*3) I w hd hh 0 _ rfl) (bI [] 3 iK jj bn bc .i64 i z hz au (by omega) (bN [] 0 iK (jj+i*3) au (cX [] 1 iK (jj+i*3+0) (.int .i64 A') au (fun I w hd hh=>bH iK (jj+i*3) I w hd hh 0 _ rfl) (aO [] 181 (A' != A') (by simp) (bI [181] 3 gw gy an ac .i64 i z hz au (by omega) (bN [181] 1 gw (gy+i*3) au (cX [181] 1 gw (gy+i*3+1) (.int .i64 k') au (fun I w hd hh=>bH gw (gy+i*3) I w hd hh 1 _ rfl) ?_))))))))));refine bI [181] 3 iK jj bn bc .i64 i z hz au (by omega) (bN [181] 1 iK (jj+i*3) au (cX [181] 1 iK (jj+i*3+1) (.int .i64 k') au (fun I w hd hh=>bH iK (jj+i*3) I w hd hh 1 _ rfl) (aO [181] 194 (k' != k') (by simp) (bI [194] 3 gw gy an ac .i64 i z hz au (by omega) (bN [194] 2 gw (gy+i*3) au (cX [194] 1 gw (gy+i*3+2) (.slice pa pn pc) au (fun I w hd hh=>bH gw (gy+i*3) I w hd hh 2 _ rfl) (bI [194] 3 iK jj bn bc .i64 i z hz au (by omega) (bN [194] 2 iK (jj+i*3) au (cX [194] 1 iK (jj+i*3+2) (.slice qa qn qc) au (fun I w hd hh=>bH iK (jj+i*3) I w hd hh 2 _ rfl) ?_)))))))))
  refine aO [194] 208 ((pn:Int) != (qn:Int)) (by rw[hp,hq,hpl];simp) (Zb [208] (lpI Tryz.f5 1 0) (lpJ Tryz.f5 1 0++.again R::RL Tryz.f5 1) 307 307 [1,2,6,7,17,19,20] [] (UT X Y z ⟨some ⟨gw,gy,none⟩,an,ac⟩ ⟨some ⟨iK,jj,none⟩,bn,bc⟩) (fun _=>[]) (fun _=>[]) (fun _=>[]) (mpG gw gy iK jj i A' k' ⟨some ⟨gw,gy,none⟩,an,ac⟩ ⟨some ⟨iK,jj,none⟩,bn,bc⟩ ⟨pa,pn,pc⟩ ⟨qa,qn,qc⟩ l m p q) (fun a=>a.2=a.1∧a.1≤pn) (fun a=>pn-a.1) (0,0) ⟨rfl,aH _⟩ (eC eK (eC eK (eC eK (eC eK (eC eK (eC eK eE))))))
   (fun a2 R2 hq2 close2=>Jj X Y z A' k' gw gy an ac iK jj bn bc i pa pn pc qa qn qc ⟨hX,hY,hz,hlt,by omega,hac,hp,hq,hp2,hpq⟩ hp4 Fk R close a2 R2 hq2 close2))
 ·refine aO [] 167 (decide (z<(an:Int))) (ak hl) (W.r [167] (.bool true) ⟨rfl,rfl⟩ bX)
end
theorem AG(a b:ByteArray):(a.toList==b.toList)=decide (a=b):=by
 by_cases h:a=b
 ·subst h;simp
 ·rw[ak h,cP];intro he;rw[Lib.toList_data,Lib.toList_data]at he;refine h ?_;cases a;cases b;simp only[fB]at he;rw[he]
section
variable{Γ:List aC}
end
def tU(s:ByteArray)(x:Im):Bool:=match ig x with
 |some b=>decide (strOfNums b=s)
 |none=>false
def Jm(s:ByteArray)(c:Ce):Bool:=c.i.any (tU s)
theorem G1{t:List Ce}(hl:lost t=false)(hd:v_ t=false){i:Nat}(hi:i<t.length):t.any (Jm (mg (Cr t i)))=eN t i:=by
 have h:=Mr hl hd hi;cases hn:eN t i with
 |true=>
  obtain⟨c,hc,x,hx,b,hb,he⟩:=h.1 hn;refine List.any_eq_true.2 ⟨c,hc,List.any_eq_true.2 ⟨x,hx,?_⟩⟩;unfold tU;rw[hb];exact ar he
 |false=>
  rw[dO];intro c hc;unfold Jm;rw[nQ,dO];intro x hx;unfold tU;cases hb:ig x with
  |none=>simp
  |some b=>
   simp only[cY];intro he;rw[h.2 ⟨c,hc,x,hx,b,hb,he⟩]at hn;simp at hn
theorem FD{α:Type}(f:α→Bool){l:List α}{k:Nat}{x:α}(h:l[k]? =some x):(l.take (k+1)).any f=((l.take k).any f||f x):=by
 rw[kS h,List.any_append];simp
theorem Mj{t:List Ce}(X Y:Int):uE (cV t X Y)≤uE t+7:=by
 unfold uE;rw[q8,List.range_succ,aS,iv];simp only[bQ,dd,dC,qC];rw[jz (g:=wC t) (fun i hi=>by
  unfold wC;rw[rW X Y (by simpa using hi)])]
 have:=Rq (t:=cV t X Y) (yy X Y) (b:=7) (fun x hx=>by
  obtain⟨i,_,_,rfl⟩:=uv X Y hx;exact aj _)
 omega
theorem zu{α:Type}(f:Nat→List α)(k:Nat):(List.range (k+1)).flatMap f=(List.range k).flatMap f++f k:=by
 rw[List.range_succ,br];simp
theorem yO(t:List Ce)(X Y:Int):∀k,(kX t X Y k).length≤k
 |0=>aj _
 |k+1=>by
  have:=yO t X Y k;unfold kX at this⊢;rw[zu,aA];split
  ·rw[a_];omega
  ·rw[aB,a_];omega
theorem Bs{t:Li}(h:vv t<150)(X Y:Int):(iQ ⟨t.h,cV t.c X Y⟩).length≤100000∧t.c.length≤150:=by
 have h5:vv t=t.h.length+(t.c.map Fi).sum:=rfl;have h6:∀l:List Ce,l.length≤(l.map Fi).sum:=by
  intro l
  induction l with
  |nil=>exact aj _
  |cons c l ih=>
   have:Fi c=1+c.h.length+(c.i.map Il).sum:=rfl;rw[bQ,dC,aB];omega
 have h7:=h6 t.c;refine⟨?_,by omega⟩;rw[AR];have h8:vv ⟨t.h,cV t.c X Y⟩=t.h.length+((cV t.c X Y).map Fi).sum:=rfl;unfold cV at h8;rw[aS,iv]at h8;simp only[bQ,dd,dC,qC]at h8;have h9:Fi (k9 zX (kX t.c X Y t.c.length))=3+((kX t.c X Y t.c.length).map Il).sum:=rfl;have h10:∀l:List Im,(∀x∈l,Il x=4)→(l.map Il).sum=4*l.length:=by
  intro l
  induction l with
  |nil=>intro _;rfl
  |cons x l ih=>
   intro hm;rw[bQ,dC,aB,ih (fun y hy=>hm y (by simp[hy])),hm x (by simp)];omega
 have h11:=h10 (kX t.c X Y t.c.length) (fun x hx=>by
  obtain⟨i,_,_,rfl⟩:=uv X Y hx;rfl)
 have h12:=yO t.c X Y t.c.length;show vv ⟨t.h,t.c++[k9 zX (kX t.c X Y t.c.length)]⟩+1≤100000;have h13:vv ⟨t.h,cV t.c X Y⟩=vv ⟨t.h,t.c++[k9 zX (kX t.c X Y t.c.length)]⟩:=rfl;omega
structure VA where
 i:Nat
 z:Int
 v:Sl
 O:List (Nat×List Value)
 es:List mR
structure TpS where
 k:Nat
 z:Int
 b:Bool
def mcU(X Y:Int)(s:Sl):VA→List (Nat×SV):=fun a=>[(1,.val (.int .i64 X)),(2,.val (.int .i64 Y)),(3,.ptr 3 0),(6,.val (.bool false)),(7,.val (aY s)),(9,.ptr 9 0),(10,.val (aY a.v)),(11,.val (.int .i64 a.z))]
def mcX(h c d:Sl):VA→List (Nat×List Value):=fun _=>[(3,[aY h,aY c]),(9,[aY h,aY d])]
def mcO(g:Nat)(cur:List Value):VA→List (Nat×List Value):=fun a=>a.O++[(g,cur)]
def mcG(h c s:Sl)(t:Li)(es:List lT)(l:List Sh):VA→List aC:=fun a=>[yX h c t,lL c t.c,lU gT (aY c) es,LF k8 lH.x s l,lU kM (aY a.v) a.es]
def mcI(t:List Ce)(X Y:Int):VA→Prop:=fun a=>a.z=a.i∧a.i≤t.length∧(∀j d,j<a.i→t[j]? =some d→mg d≠zX)∧cH 2 a.O (aY a.v) a.es.length (a.es.flatMap kM.cells)∧a.es.map mR.x=kX t X Y a.i
section
variable{Γ:List aC}
theorem Mi(ha:Option Addr)(hn hc:Nat)(b off cn cc:Nat){t:Li}(Cw:vv t<150)(X Y:Int)(hX: -1000≤X∧X≤1000)(hY: -1000≤Y∧Y≤1000)(sa:Option Addr)(sn sc:Nat){l:List Sh}(hfl:mL t 200=.ok l)(hsn:sn=l.length)(h1:cn=t.c.length)(h3:cn≤cc)(g cap:Nat)(cur:List Value)(es:List lT)(he:es.map lT.x=t.c)(hcap:cn≤cap∧cap≤maxLen)(AW:cur.length=cap*2)(hct:cur.take (cn*2)=es.flatMap gT.cells)
  (a:VA)(R:VS→List aC→Prop)(hq:mcI t.c X Y a)
  (close:∀(D':List Nat) (c':fF) (Γ':List aC) (a':VA),kD (aE tb (aV tb D' 999 c'))=some R→
    (kE (aE tb (aV tb D' 999 c'))).map (fun s=>s.only [1,2,3,6,7,9,10,11] [3,9])=some (dX 307 307 (mcU X Y ⟨sa,sn,sc⟩ a') (mcX ⟨ha,hn,hc⟩ ⟨some ⟨b,off,none⟩,cn,cc⟩ ⟨some ⟨g,0,none⟩,cn,cap⟩ a') (mcO g cur a') [])→
    mcI t.c X Y a'→t.c.length-a'.i<t.c.length-a.i→(∀I w,bj tb I w→aD Γ' I w→aD (mcG ⟨ha,hn,hc⟩ ⟨some ⟨b,off,none⟩,cn,cc⟩ ⟨sa,sn,sc⟩ t es l a') I w)→W tb Tryz.prog (Fin tb Tryz.f5 (jy (.bool true))) c' Γ'):
  W tb Tryz.prog (Fin tb Tryz.f5 (jy (.bool true))) ⟨dX 307 307 (mcU X Y ⟨sa,sn,sc⟩ a) (mcX ⟨ha,hn,hc⟩ ⟨some ⟨b,off,none⟩,cn,cc⟩ ⟨some ⟨g,0,none⟩,cn,cap⟩ a) (mcO g cur a) [],.code (RK Tryz.f5 0)::.again R::RL Tryz.f5 0⟩ (mcG ⟨ha,hn,hc⟩ ⟨some ⟨b,off,none⟩,cn,cc⟩ ⟨sa,sn,sc⟩ t es l a):=by
 obtain⟨i,z,v,O,Rx⟩:=a;obtain⟨hz,hi,hm,hg,hes⟩:=hq;simp only at hz hi hm hg hes;obtain⟨_,_,hv,hs⟩:=AQ hfl;obtain⟨hls,_,hft,_,_,_⟩:=AS hs;have hd:v_ t.c=false:=by
  unfold tF at hft;rw[dI,not_or]at hft;simpa using hft.1
 have ac1:=(Bs Cw X Y).2;have afo:Rx.length≤150:=by
  have h5:=yO t.c X Y i;rw[←hes,bM]at h5;omega
 have hel:es.length=cn:=by rw[h1,←he,bM]
 show W tb Tryz.prog _ ⟨dX 307 307 (mcU X Y ⟨sa,sn,sc⟩ ⟨i,z,v,O,Rx⟩) (mcX ⟨ha,hn,hc⟩ ⟨some ⟨b,off,none⟩,cn,cc⟩ ⟨some ⟨g,0,none⟩,cn,cap⟩ ⟨i,z,v,O,Rx⟩) (O++[(g,cur)]) [],_⟩ [yX ⟨ha,hn,hc⟩ ⟨some ⟨b,off,none⟩,cn,cc⟩ t,lL ⟨some ⟨b,off,none⟩,cn,cc⟩ t.c,lU gT (.slice (some ⟨b,off,none⟩) cn cc) es,LF k8 lH.x ⟨sa,sn,sc⟩ l,lU kM (aY v) Rx];by_cases hlt:i<cn
 ·obtain⟨x,hx⟩:∃x,t.c[i]? =some x:=⟨_,ah (by omega)⟩;refine sJ ⟨some ⟨b,off,none⟩,cn,cc⟩ hx (hm:=rfl) (fun b' off' xh xi hxa=>?_);simp only[aq,mJ,and_true]at hxa;obtain⟨rfl,rfl⟩:=hxa;refine bh [] 66 (decide (z<(cn:Int))) (ar (by omega)) (gY [66] [12,13] (fun q:TpS=>[(12,.bool q.b),(13,.int .i64 q.z)]) (fun _=>[]) (fun _=>O++[(g,cur)]) (fun _=>[yX ⟨ha,hn,hc⟩ ⟨some ⟨b,off,none⟩,cn,cc⟩ t,lL ⟨some ⟨b,off,none⟩,cn,cc⟩ t.c,lU gT (.slice (some ⟨b,off,none⟩) cn cc) es,LF k8 lH.x ⟨sa,sn,sc⟩ l,lU kM (aY v) Rx,zJ xh xi x,RA (some ⟨b,off+i*2,none⟩) [aY xh,aY xi]]) (fun q=>q.z=q.k∧q.k≤cn∧q.b= !((t.c.take q.k).any (Jm (mg x)))) (fun q=>cn-q.k) ⟨0,0,true⟩ ⟨rfl,aH _,rfl⟩
   (eC eK (eC eK (eC (fun I w hd hh=>eK (k:=lU gT (.slice (some ⟨b,off,none⟩) cn cc)) I w hd hh) (eC eK (eC eK (eC eK (eC eK eE))))))) ?_)
  rintro⟨k,zk,tb1⟩ K1 ⟨hzk,hk,WH⟩ close1;simp only at hzk hk WH;by_cases acN:k<cn
  ·obtain⟨y,hy⟩:∃y,t.c[k]? =some y:=⟨_,ah (by omega)⟩;have hyn:y.i.length≤150:=by
    have h5:Fi y≤(t.c.map Fi).sum:=JP (aM hy);have h6:∀l:List Im,l.length≤(l.map Il).sum:=by
     intro l
     induction l with
     |nil=>exact aj _
     |cons c l ih=>
      have:Il c=1+c.f.length+c.p.length:=rfl;rw[bQ,dC,aB];omega
    have h7:=h6 y.i;have h9:Fi y=1+y.h.length+(y.i.map Il).sum:=rfl;have h10:vv t=t.h.length+(t.c.map Fi).sum:=rfl;omega
   refine sJ ⟨some ⟨b,off,none⟩,cn,cc⟩ hy (fun b' off' yh yi Ey=>?_);simp only[aq,mJ,and_true]at Ey;obtain⟨rfl,rfl⟩:=Ey;refine W.more (Δ:=[qA yi y.i]) (by kernel_rfl) (fun I w _ hh=>aT (aZ.p (k:=zJ yh yi) (a:=y) inferInstance hh).2) ?_;obtain⟨ya,yn,yc⟩:=yi;refine W.len kM mR.x ⟨ya,yn,yc⟩ (by kernel_rfl) (fun i1 i2 i3=>?_);simp only at i1 i2 i3;refine bh [] 73 (decide (zk<(cn:Int))) (ar (by omega)) (gY [73] [12,14] (fun q:TpS=>[(12,.bool q.b),(14,.int .i64 q.z)]) (fun _=>[]) (fun _=>O++[(g,cur)]) (fun _=>[yX ⟨ha,hn,hc⟩ ⟨some ⟨b,off,none⟩,cn,cc⟩ t,lL ⟨some ⟨b,off,none⟩,cn,cc⟩ t.c,lU gT (.slice (some ⟨b,off,none⟩) cn cc) es,LF k8 lH.x ⟨sa,sn,sc⟩ l,lU kM (aY v) Rx,zJ xh xi x,RA (some ⟨b,off+i*2,none⟩) [aY xh,aY xi],qA ⟨ya,yn,yc⟩ y.i,RA (some ⟨b,off+k*2,none⟩) [aY yh,.slice ya yn yc]]) (fun q=>q.z=q.k∧q.k≤yn∧q.b=(tb1&& !((y.i.take q.k).any (tU (mg x))))) (fun q=>yn-q.k) ⟨0,0,tb1⟩ ⟨rfl,aH _,by simp⟩
    (eC eK (eC eK (eC (fun I w hd hh=>eK (k:=lU gT (.slice (some ⟨b,off,none⟩) cn cc)) I w hd hh) (eC eK (eC eK (eC eK (eC (fun I w hd hh=>eK (k:=RA (some ⟨b,off+i*2,none⟩)) I w hd hh) (eC eK (eC (fun I w hd hh=>eK (k:=RA (some ⟨b,off+k*2,none⟩)) I w hd hh) eE))))))))) ?_)
   rintro⟨j,zj,tb2⟩ K2 ⟨yj,hj,WI⟩ close2;simp only at yj hj WI;refine bI [] 2 b off cn cc .i64 k zk hzk au (by omega) (bN [] 1 b (off+k*2) au (cX [] 1 b (off+k*2+1) (.slice ya yn yc) au (fun I w hd hh=>bH b (off+k*2) I w hd hh 1 _ rfl) ?_));by_cases Gu:j<yn
   ·obtain⟨u,hu⟩:∃u,y.i[j]? =some u:=⟨_,ah (by omega)⟩;have nxt:∀b',b'=(tb2&& !(tU (mg x) u))→b'=(tb1&& !((y.i.take (j+1)).any (tU (mg x)))):=fun b' hb'=>by
     rw[hb',WI,FD _ hu,Bool.not_or,Bool.and_assoc]
    refine bh [] 84 (decide (zj<(yn:Int))) (ar (by omega)) (W.code 999 (vB ⟨ya,yn,yc⟩ hu (fun b2 off2 uf up hua=>?_)));simp only at hua;subst hua;refine bI [84] 2 b off cn cc .i64 k zk hzk au (by omega) (bN [] 1 b (off+k*2) au (cX [] 1 b (off+k*2+1) (.slice (some ⟨b2,off2,none⟩) yn yc) au (fun I w hd hh=>bH b (off+k*2) I w hd hh 1 _ rfl) (bI [] 2 b2 off2 yn yc .i64 j zj yj au Gu (cJ [] b2 (off2+j*2) [aY uf,aY up] au (bH b2 (off2+j*2)) (jD [] (Qy uf up (x:=u) 18) ?_)))));have hnx:tU (mg x) u=(match dJ u 18 with|some r=>decide (strOfNums (fI r.b)=mg x)|none=>false):=by
     unfold tU ig;cases dJ u 18<;>rfl
    intro v' Δ' hp;unfold Iq at hp;cases hfo:dJ u 18 with
    |none=>
     rw[hfo]at hp hnx;obtain⟨rfl,rfl⟩:=hp;cases tb2 with
     |false=>
      refine aO [] 101 false rfl (close2 [103,101] _ _ ⟨j+1,IntKind.i64.wrap (zj+1),false⟩ (by kernel_rfl) (by kernel_rfl) ⟨by simp only[af];omega,Gu,nxt _ (by simp)⟩ (by simp only;omega) (eC eK (eC eK (eC (fun I w hd hh=>eK (k:=lU gT (.slice (some ⟨b,off,none⟩) cn cc)) I w hd hh) (eC eK (eC eK (eC eK (eC (fun I w hd hh=>eK (k:=RA (some ⟨b,off+i*2,none⟩)) I w hd hh) (eC eK (eC (fun I w hd hh=>eK (k:=RA (some ⟨b,off+k*2,none⟩)) I w hd hh) eE))))))))))
     |true=>
      refine bh [] 101 true rfl (aO [101] 103 false rfl (close2 [103,101] _ _ ⟨j+1,IntKind.i64.wrap (zj+1),true⟩ (by kernel_rfl) (by kernel_rfl) ⟨by simp only[af];omega,Gu,nxt _ (by rw[hnx];rfl)⟩ (by simp only;omega) (eC eK (eC eK (eC (fun I w hd hh=>eK (k:=lU gT (.slice (some ⟨b,off,none⟩) cn cc)) I w hd hh) (eC eK (eC eK (eC eK (eC (fun I w hd hh=>eK (k:=RA (some ⟨b,off+i*2,none⟩)) I w hd hh) (eC eK (eC (fun I w hd hh=>eK (k:=RA (some ⟨b,off+k*2,none⟩)) I w hd hh) eE)))))))))))
    |some r=>
     rw[hfo]at hp hnx;obtain⟨ur,rfl,rfl⟩:=hp;cases tb2 with
     |false=>
      refine aO [] 101 false rfl (close2 [103,101] _ _ ⟨j+1,IntKind.i64.wrap (zj+1),false⟩ (by kernel_rfl) (by kernel_rfl) ⟨by simp only[af];omega,Gu,nxt _ (by simp)⟩ (by simp only;omega) (eC eK (eC eK (eC (fun I w hd hh=>eK (k:=lU gT (.slice (some ⟨b,off,none⟩) cn cc)) I w hd hh) (eC eK (eC eK (eC eK (eC (fun I w hd hh=>eK (k:=RA (some ⟨b,off+i*2,none⟩)) I w hd hh) (eC eK (eC (fun I w hd hh=>eK (k:=RA (some ⟨b,off+k*2,none⟩)) I w hd hh) eE))))))))))
     |true=>
      refine bh [] 101 true rfl (bh [101] 103 true rfl (bI [103] 2 b off cn cc .i64 i z hz au (by omega) (cJ [103] b (off+i*2) [aY xh,aY xi] au (bH b (off+i*2)) (jT [103] (Γ':=[BF ur r.b]) (uu ur) (TA ur (b:=r.b)) ?_))));rintro _ _ ⟨rfl,rfl⟩;refine W.c0 [103] (uZ xh xi (x:=x)) (close2 [101,103] _ _ ⟨j+1,IntKind.i64.wrap (zj+1),!((ik r.b).toList==(strOfNums (qW x)).toList)⟩ (by kernel_rfl) (by kernel_rfl) ⟨by simp only[af];omega,Gu,nxt _ ?_⟩ (by simp only;omega) (eC eK (eC eK (eC (fun I w hd hh=>eK (k:=lU gT (.slice (some ⟨b,off,none⟩) cn cc)) I w hd hh) (eC eK (eC eK (eC eK (eC (fun I w hd hh=>eK (k:=RA (some ⟨b,off+i*2,none⟩)) I w hd hh) (eC eK (eC (fun I w hd hh=>eK (k:=RA (some ⟨b,off+k*2,none⟩)) I w hd hh) eE))))))))));rw[AG,hnx];rfl
   ·obtain rfl:j=yn:=by omega
    refine aO [] 84 (decide (zj<(j:Int))) (ak (by omega)) (close1 [84] _ _ ⟨k+1,IntKind.i64.wrap (zk+1),tb2⟩ (by kernel_rfl) (by kernel_rfl) ⟨by simp only[af];omega,acN,?_⟩ (by simp only;omega) (eC eK (eC eK (eC (fun I w hd hh=>eK (k:=lU gT (.slice (some ⟨b,off,none⟩) cn cc)) I w hd hh) (eC eK (eC eK (eC eK (eC (fun I w hd hh=>eK (k:=RA (some ⟨b,off+i*2,none⟩)) I w hd hh) eE))))))));simp only;rw[WI,WH,FD _ hy,aR (l:=y.i) (by omega),Bool.not_or];rfl
  ·obtain rfl:k=cn:=by omega
   rw[aR (by omega)]at WH;have htop:tb1= !(eN t.c i):=by
    rw[WH,←G1 hls hd (by omega),IJ hx]
   refine aO [] 73 (decide (zk<(k:Int))) (ak (by omega)) (bI [73] 2 b off k cc .i64 i z hz au (by omega) (cJ [] b (off+i*2) [aY xh,aY xi] au (bH b (off+i*2)) (W.c0 [] (uZ xh xi (x:=x)) ?_)));by_cases zG:mg x=zX
   ·refine bh [] 123 ((strOfNums (qW x)).toList==zX.toList) (by rw[AG];exact ar zG) (W.r [123] (.bool true) ⟨rfl,rfl⟩ bX)
   refine aO [] 123 ((strOfNums (qW x)).toList==zX.toList) (by rw[AG];exact ak zG) ?_;have hm':∀j d,j<i+1→t.c[j]? =some d→mg d≠zX:=fun j d hj I5=>by
    by_cases hji:j<i
    ·exact hm j d hji I5
    ·obtain rfl:j=i:=by omega
     rw[hx]at I5;injection I5 with I5;subst I5;exact zG
   have hrefs:kX t.c X Y (i+1)=kX t.c X Y i++(if eN t.c i=true then []else [iZ (mg x) X Y]):=by
    unfold kX;rw[zu,IJ hx]
   cases tb1 with
   |true=>
    have hnm:eN t.c i=false:=by simpa using htop
    refine bh [123] 124 true rfl (bI [124] 2 b off k cc .i64 i z hz au (by omega) (cJ [] b (off+i*2) [aY xh,aY xi] au (bH b (off+i*2)) (W.c0 [] (uZ xh xi (x:=x)) (jD [] (Tq (strOfNums (qW x)) X Y (by
     obtain⟨b2,hb2,hb3⟩:=Da (Wv hx hv);have h8:=oh hb2;rw[strOfNums_size];unfold qW;rw[hb3];simp only at h8⊢;unfold fI;split
     ·rw[List.length_dropLast];omega
     ·omega)) ?_))))
    rintro _ _ ⟨ur,rfl,rfl⟩;refine cW [] 1 [aY ur,.slice none 0 0] au (fun b17=>W.app [] (O++[(g,cur)]) [] O [(g,cur)] 2 48 Rx.length 1 (aY v) (.slice (some ⟨b17,0,none⟩) 1 1) (Rx.flatMap kM.cells) [aY ur,.slice none 0 0] au (ho:=rfl) hg (cg b17 _ 1 2 rfl 1) (Cc ur ⟨none,0,0⟩) (fun v' O' hg'=>?_));obtain⟨v',rfl⟩:=iz hg';refine close [] _ _ ⟨i+1,IntKind.i64.wrap (z+1),v',O',Rx++[⟨ur,⟨none,0,0⟩,iZ (mg x) X Y⟩]⟩ (by kernel_rfl) (by simp only[az];kernel_rfl) ⟨by simp only[af];omega,by simp only;omega,hm',cH.cast (by simp[kM]) (by simp) hg',?_⟩ (by simp only;omega)
     (eC eK (eC eK (eC (fun I w hd hh=>eK (k:=lU gT (.slice (some ⟨b,off,none⟩) k cc)) I w hd hh) (eC eK (eC (fun I w hd hh=>lU.snoc (R:=kM) (e:=(⟨ur,⟨none,0,0⟩,iZ (mg x) X Y⟩:mR)) (eK (k:=lU kM (aY v)) I w hd hh) (eK (k:=oE ur ⟨none,0,0⟩) (a:=iZ (strOfNums (qW x)) X Y) I w hd hh)) eE)))))
    simp only;rw[aS,hes,hrefs,hnm];rfl
   |false=>
    have hnm:eN t.c i=true:=by simpa using htop
    refine aO [123] 124 false rfl (close [124] _ _ ⟨i+1,IntKind.i64.wrap (z+1),v,O,Rx⟩ (by kernel_rfl) (by kernel_rfl) ⟨by simp only[af];omega,by simp only;omega,hm',hg,?_⟩ (by simp only;omega)
     (eC eK (eC eK (eC (fun I w hd hh=>eK (k:=lU gT (.slice (some ⟨b,off,none⟩) k cc)) I w hd hh) (eC eK (eC (fun I w hd hh=>eK (k:=lU kM (aY v)) I w hd hh) eE))))))
    simp only;rw[hes,hrefs,hnm];simp
 clear close;obtain rfl:i=t.c.length:=by omega
 have hne:∀d∈t.c,mg d≠zX:=fun d hd=>by
  obtain⟨j,hj,I5⟩:=ox hd;exact hm j d hj (by rw[ah hj,I5])
 refine aO [] 66 (decide (z<(cn:Int))) (ak (by omega)) (W.code 999 (l9 [] O [(g,cur)] (s:=v) (by simp only[az];kernel_rfl) hg (fun q1 q2 q3=>W.more (Δ:=[qA v (kX t.c X Y t.c.length)]) (by kernel_rfl) (fun I w hd hh=>aT (by
  rw[←hes];exact GI kM mR.x q1 q2 q3 (aZ.p (k:=lU kM (aY v)) inferInstance hh) (aZ.p (k:=RA v.ao) inferInstance hh))) ?_)))
 refine W.c1 [66] (pJ zX v (l:=kX t.c X Y t.c.length)) (fun uc=>cW [] 1 [aY uc,aY v] au (fun b10=>?_));have hg3:cH 2 [(g,cur)] (aY ⟨some ⟨g,0,none⟩,cn,cap⟩) cn (es.flatMap gT.cells):=⟨by rw[Ch (fun _=>rfl),hel],.inr ⟨g,cap,cur,rfl,rfl,hcap.1,hcap.2,AW,hct⟩⟩;refine W.app [] [(g,cur)] [] [(g,cur)] [] 2 48 cn 1 (aY ⟨some ⟨g,0,none⟩,cn,cap⟩) (.slice (some ⟨b10,0,none⟩) 1 1) (es.flatMap gT.cells) [aY uc,aY v] au (ho:=rfl) hg3 (cg b10 _ 1 2 rfl 1) (Cc uc v) (fun v3 O3 hg4=>?_);obtain⟨v3,rfl⟩:=iz hg4;refine l9 [] O3 [] (s:=v3) (by simp only[az,ai];kernel_rfl) hg4 (fun q6 q4 q5=>W.more (Δ:=[yX ⟨ha,hn,hc⟩ v3 ⟨t.h,cV t.c X Y⟩]) (by kernel_rfl) (fun I w hd hh=>aT ⟨(aZ.p (k:=yX ⟨ha,hn,hc⟩ ⟨some ⟨b,off,none⟩,cn,cc⟩) (a:=t) inferInstance hh).1,by
  have h8:(lU gT (.slice none 0 0) (es++[(⟨uc,v,k9 zX (kX t.c X Y t.c.length)⟩:lT)])).p I w:=lU.snoc (v:=.slice (some ⟨b,off,none⟩) cn cc) (aZ.p (k:=lU gT (.slice (some ⟨b,off,none⟩) cn cc)) inferInstance hh) (aZ.p (k:=zJ uc v) inferInstance hh);have h9:=GI gT lT.x (ao:=v3.ao) (n:=v3.n) (c:=v3.c) (by rw[aA,hel];exact q6) q4 q5 h8 (by
   have:=aZ.p (k:=RA v3.ao) (a:=es.flatMap gT.cells++[aY uc,aY v]) inferInstance hh;rw[br];exact this)
  rw[aS,he]at h9;exact h9⟩) ?_)
 have hco:lS ⟨t.h,cV t.c X Y⟩=true→uE (cV t.c X Y)≤160:=fun _=>by
  have h5:=Ge Cw hv;have h6:=Mj (t:=t.c) X Y;omega
 refine jD [] (xz ⟨ha,hn,hc⟩ v3 200 (t:=⟨t.h,cV t.c X Y⟩) (Bs Cw X Y).1 hco) ?_;rintro _ _ hp;rcases Ml hfl hne hX hY with h25|h26|⟨m,hm2,hrel⟩
 ·rw[h25]at hp;rcases hp with⟨e,Er,rfl,rfl⟩|⟨l',s,Er,_⟩
  rotate_left
  ·simp at Er
  injection Er with Er;subst Er;refine aO [] 151 ((25:Int)==26) rfl (bh [151] 154 ((25:Int)==25) rfl (W.r [154] (.bool true) ⟨rfl,rfl⟩ bX))
 ·rw[h26]at hp;rcases hp with⟨e,Er,rfl,rfl⟩|⟨l',s,Er,_⟩
  rotate_left
  ·simp at Er
  injection Er with Er;subst Er;refine bh [] 151 ((26:Int)==26) rfl (W.r [154,151] (.bool true) ⟨rfl,rfl⟩ bX)
 ·rw[hm2]at hp;rcases hp with⟨e,Er,_⟩|⟨l',s,Er,rfl,rfl⟩
  ·simp at Er
  injection Er with Er;subst Er;obtain⟨ma,mn,mc⟩:=s;refine W.code 999 (W.len k8 lH.x ⟨ma,mn,mc⟩ (by kernel_rfl) (fun hmn _ _=>?_));simp only at hmn;have hlm:=hrel.len;have aed:=LU hfl;refine aO [] 151 ((0:Int)==26) rfl (aO [151] 154 ((0:Int)==25) rfl (aO [154] 157 ((0:Int) != 0) rfl (aO [157] 163 ((sn:Int) != (mn:Int)) (by rw[hmn,hsn,hlm];simp) (jO [163] Tryz.f5 1 307 307 [1,2,6,7,17,19] [] (msU X Y ⟨sa,sn,sc⟩ ⟨ma,mn,mc⟩) (fun _=>[]) (fun _=>[]) (fun _=>[]) (msG ⟨sa,sn,sc⟩ ⟨ma,mn,mc⟩ l m) (fun a=>a.2=a.1∧a.1≤sn) (fun a=>sn-a.1) (0,0) ⟨rfl,aH _⟩ (eC eK (eC eK eE)) (fun a R hq close=>Jk sa sn sc ma mn mc X Y hX hY hrel hsn hmn (by omega) a R hq close)))))
end
theorem Pr(a:Int):∃z:Int,(IntKind.u64.wrap a).tmod 2000=z∧ -1000≤IntKind.i64.wrap (IntKind.i64.wrap z-1000)∧IntKind.i64.wrap (IntKind.i64.wrap z-1000)≤1000:=by
 have h1:0≤IntKind.u64.wrap a:=by rw[IntKind.wrap_u64];omega
 have h2:=Int.emod_nonneg (IntKind.u64.wrap a) (show(2000:Int)≠0 by decide);have h3:=Int.emod_lt_of_pos (IntKind.u64.wrap a) (show 0<(2000:Int)by decide);refine⟨_,rfl,?_⟩;rw[fT h1];generalize IntKind.u64.wrap a % 2000=r at*;simp only[af];omega
section
variable{Γ:List aC}
theorem Hl(ha:Option Addr)(hn hc:Nat)(ca:Option Addr)(cn cc:Nat){t:Li} [hF:aZ (yX ⟨ha,hn,hc⟩ ⟨ca,cn,cc⟩) t Γ](hb:∀x∈t.c,x.h.length≤1152921504606846976)(x:Int)(w0:(Lit.int .i64 x).wf=true)(y:Int)(w1:(Lit.int .i64 y).wf=true):
  aw tb Tryz.prog 5 [nd ⟨ha,hn,hc⟩ ⟨ca,cn,cc⟩,.int .i64 x,.int .i64 y] Γ (jy (.bool true)):=by
 refine aw.of_W au Tryz.func5 rfl (W.more (Δ:=[lL ⟨ca,cn,cc⟩ t.c]) rfl (fun I w _ hh=>aT (hF.p hh).2) (W.len gT lT.x ⟨ca,cn,cc⟩ rfl (fun h1 h2 h3=>?_)));simp only at h1 h2 h3;refine Zc gT lT.x (fun _=>Nat.zero_lt_succ 1) ⟨ca,cn,cc⟩ rfl (fun es hes hen hea=>?_);simp only at hen hea;refine jD [] (Tc ha hn hc ca cn cc (t:=t) hb) ?_;rintro _ _ ⟨g,rfl,rfl,hg⟩;cases g with
 |false=>
  refine bh [] 27 (!false) rfl (W.c0 [32,27] rl (W.r [] (.bool true) ⟨rfl,rfl⟩ bX))
 |true=>
 have Cw:=hg rfl;refine aO [] 27 (!true) rfl ?_;by_cases h0:cn=0
 ·refine bh [27] 32 ((cn:Int)==0) (by simp[h0]) (W.c0 [32] rl (W.r [] (.bool true) ⟨rfl,rfl⟩ bX))
 refine aO [27] 32 ((cn:Int)==0) (by rw[cP];omega) ?_;have hfl:(iQ t).length≤100000:=aP (Oc Cw) (by decide);have hco:lS t=true→uE t.c≤160:=fun hv=>aP (Ge Cw hv) (by decide);obtain⟨b,off,rfl⟩:=hea (by omega);have hsm:cn≤150:=by rw[h1];exact(Bs Cw 0 0).2
 refine jD [32] (xz ⟨ha,hn,hc⟩ ⟨some ⟨b,off,none⟩,cn,cc⟩ 200 (t:=t) hfl hco) ?_;rintro _ _ hp;rcases hp with⟨e,he,rfl,rfl⟩|⟨l,s,hl,rfl,rfl⟩
 ·refine W.c0 [] rl (bh [41] 44 (e != 0) (by simpa using LS he) (W.c0 [44] rl (W.r [] (.bool true) ⟨rfl,rfl⟩ bX)))
 obtain⟨sa,sn,sc⟩:=s;refine W.code 999 (W.len k8 lH.x ⟨sa,sn,sc⟩ (by kernel_rfl) (fun hs _ _=>?_));simp only at hs;refine W.c0 [] rl (aO [41] 44 ((0:Int) != 0) rfl ?_);obtain⟨z4,hz4,x1,x2⟩:=Pr x;obtain⟨z5,Ma,y1,y2⟩:=Pr y;refine oA [44] .u64 (IntKind.u64.wrap x) 2000 z4 hz4 (oA [] .u64 (IntKind.u64.wrap y) 2000 z5 Ma (Nn [] au (fun b6=>VH [] [] [] [] 2 48 0 cn (.slice (some ⟨b6,0,none⟩) 0 0) (.slice (some ⟨b,off,none⟩) cn cc) [] (es.flatMap gT.cells) au rfl (.inr ⟨rfl,rfl,rfl,b6,0,rfl⟩) (B7 (some ⟨b,off,none⟩) [] cn 2 cc (by rw[Ch (fun _=>rfl),hen]) (fun _=>⟨b,off,rfl⟩)) (Sj es) (by omega) (by decide) (fun v1 O1 hg1=>?_))));obtain⟨g,cap,cur,rfl,rfl,c1,c2,c3,c4⟩:=hg1.pos (by omega);rw[az]at c4;generalize hcn:0+cn=YA at*;obtain rfl:YA=cn:=by omega
 exact jO [] Tryz.f5 0 307 307 [1,2,3,6,7,9,10,11] [3,9] (mcU (IntKind.i64.wrap (IntKind.i64.wrap z4-1000)) (IntKind.i64.wrap (IntKind.i64.wrap z5-1000)) ⟨sa,sn,sc⟩) (mcX ⟨ha,hn,hc⟩ ⟨some ⟨b,off,none⟩,YA,cc⟩ ⟨some ⟨g,0,none⟩,YA,cap⟩) (mcO g cur) (fun _=>[]) (mcG ⟨ha,hn,hc⟩ ⟨some ⟨b,off,none⟩,YA,cc⟩ ⟨sa,sn,sc⟩ t es l) (mcI t.c (IntKind.i64.wrap (IntKind.i64.wrap z4-1000)) (IntKind.i64.wrap (IntKind.i64.wrap z5-1000))) (fun a=>t.c.length-a.i) ⟨0,0,⟨none,0,0⟩,[],[]⟩
  ⟨rfl,aH _,fun j d hj=>absurd hj (gG _),cH.nil 2,rfl⟩ (eC eK (eC eK (eC (fun I w hd hh=>eK (k:=lU gT (.slice (some ⟨b,off,none⟩) YA cc)) I w hd hh) (eC eK (eC (fun I w hd hh e he=>by simp at he) eE)))))
  (fun a R hq close=>Mi ha hn hc b off YA cc Cw _ _ ⟨x1,x2⟩ ⟨y1,y2⟩ sa sn sc hl hs h1 h2 g cap cur es hes ⟨c1,c2⟩ c3 c4 a R hq close)
end
open Go.RowKit Go.ChangeShapes Go.WideShapes
section
variable{H:Type}{enc:TypeId×Value→H}{P:Program}{w:World}
theorem zA{e:TypeId}{d:DataW H}:∀{l:List (DataW H)},d∈l→∀x∈d.weights P e,x∈DataW.weightsAll P e l
 |y::l,hd,x,hx=>by
  rw[DataW.weightsAll,eA];simp only[aF]at hd;rcases hd with rfl|hd
  ·exact .inl hx
  ·exact .inr (zA hd x hx)
theorem MR{t e:TypeId}(ht:P.underlying t=some (.slice e))(he:0<P.bytesOf e){s:Sl}{n:Nat}{y:DataW H×List MemPlace}(h:DataW.trod enc P w 0 (fun _=>true) true n t [aY s]=some y)(hw:∀x∈y.1.weights P t,x≤reachBytes):s.n≤reachBytes:=by
 rcases Go.Deep.open_slice ht h with⟨hcs,_⟩|⟨a,len,cap,m,n',D,Pl,hcs,_,hl,hml,hm,rfl,hx⟩
 ·simp only[oT,kL,and_true]at hcs;rw[hcs.2.1];exact aH _
 ·simp only[oT,kL,and_true]at hcs;have:=hw ((((List.range len).map D).length+((List.range (m-len)).map fun j=>D (len+j)).length)*P.bytesOf e) (by
   simp only[DataW.weights,ht];exact o7)
  rw[hcs.2.1];have h2:len*1≤(((List.range len).map D).length+((List.range (m-len)).map fun j=>D (len+j)).length)*P.bytesOf e:=aX (by simp) he;omega
theorem Ar.cells_b{tb':TypeId}(L:Ar P tb')(ON:0<P.bytesOf L.re){s:Sl}{l:List Ce}{n:Nat}{y:DataW H×List MemPlace}(h:DataW.trod enc P w 0 (fun _=>true) true n L.ces [aY s]=some y)(hw:∀x∈y.1.weights P L.ces,x≤reachBytes)
  (hc:(lL s l).p vE w):∀x∈l,x.h.length≤reachBytes:=by
 obtain⟨es,rfl,hn,hcap,hf,hra⟩:=hc;intro x hx;obtain⟨e,he,rfl⟩:=List.mem_map.1 hx;obtain⟨i,hi,hie⟩:=ox he;rw[bM]at hn;have AW:∀j v,(gT.cells e)[j]? =some v→(es.flatMap gT.cells)[i*gT.z+j]? =some v:=fun j v hv=>E8 gT hi j v (by rw[hie];exact hv);have h0:=AW 0 (aY e.h) rfl;obtain⟨b,off,ha,_,hcell⟩:=hra (fun e0=>by
  have:es.flatMap gT.cells=[]:=e0;rw[this]at h0;simp at h0)
 have hc0:=hcell _ _ h0;have Er:=hf e he;obtain⟨e1,e2⟩:=Er;obtain⟨er,her,afp,_⟩:=e1;rcases Go.Deep.open_slice_pairs L.hcs.1 L.hc.1 L.hc.2 L.hc0.2 L.hc1.2 (by rw[L.hc0.1];exact L.hrs.2) (by rw[L.hc1.1];exact L.his.2) h with⟨hcs,_⟩|⟨a,len,cap,m,n',V0,V1,D0,D1,P0,P1,hcs,_,hl,hml,hm,rfl,each⟩
 ·simp only[oT,kL,and_true]at hcs;rw[hcs.1]at ha;simp at ha
 ·simp only[oT,kL,and_true]at hcs;obtain⟨ha2,hn2,hc2⟩:=hcs;have hil:i<len:=by omega
  obtain⟨g1,_,g3,_⟩:=each i (by
   rw[hm];simp only[fj];omega)
  rw[ha]at ha2;injection ha2 with ha2;subst ha2;have hV:V0 i=aY e.h:=by
   have e4:(⟨b,off,none⟩:Addr).add (i*2)=⟨b,off+(i*gT.z+0),none⟩:=by
    unfold Addr.add;split
    ·rename_i h5;have:i=0:=by omega
     subst this;rfl
    ·rfl
   rw[e4,hc0]at g1;injection g1 with g1;exact g1.symm
  rw[hV,L.hc0.1]at g3;have:=MR L.hrs.1 ON g3 (fun z hz=>hw z (by
   have hD:DataW.agg [D0 i,D1 i]∈(List.range len).map fun i=>DataW.agg [D0 i,D1 i]:=List.mem_map.2 ⟨i,List.mem_range.2 hil,rfl⟩;simp only[DataW.weights,L.hcs.1];refine cQ _ (gU _ (zA hD z ?_));simp only[DataW.weights,L.hc.1];show z∈DataW.weightsEach P [L.c0.type,L.c1.type] [D0 i,D1 i];rw[DataW.weightsEach,L.hc0.1];exact gU _ hz))
  omega
theorem Jq{tb' t:TypeId}{f0 f1:Field}(L:Ar P tb')(ON:0<P.bytesOf L.re)(ht:P.underlying t=some (.struct #[f0,f1]))(h0:f0.type=L.res∧f0.offset=0)(h1:f1.type=L.ces∧f1.offset=1)
  {v:Value}{d:DataW H}{ps:List MemPlace}{r:Reach}{b0:Nat}(hval:Value.okWide P w r b0 t v)(h:DataW.Trod enc P w 0 (fun _=>true) true t v d ps)(hw:∀x∈d.weights P t,x≤reachBytes)(hct:P.cellsOf t=2:=by kernel_rfl):
  ∃(hs cs:Sl) (t:Li),v=.agg #[aY hs,aY cs]∧(yX hs cs t).p vE w∧∀x∈t.c,x.h.length≤reachBytes:=by
 obtain⟨hs,cs,u,rfl,hLi⟩:=Px L ht hct h0 h1 hval h;refine⟨hs,cs,u,rfl,hLi,?_⟩;obtain⟨fuel,htr⟩:=h;obtain⟨xs,n,_,hx,_,hlen,hff⟩:=DataW.trod_struct ht htr;have g1:=hff 1 f1 rfl;rw[h1.2,h1.1,L.hcs.2]at g1;have e:(((Value.agg #[aY hs,aY cs]).cells.toList).drop 1).take 1=[aY cs]:=rfl;rw[e]at g1;obtain⟨d0,d1,rfl⟩:∃a b,xs=[a,b]:=by
  match xs,hlen with
  | [a,b],_=>exact⟨a,b,rfl⟩
 simp only[ek,eu]at g1;simp only[bQ,dd,aG]at hx;rw[hx.1]at hw;refine L.cells_b ON g1 (fun z hz=>hw z ?_) hLi.2;simp only[DataW.weights,ht];show z∈DataW.weightsEach P [f0.type,f1.type] [d0.1,d1.1];exact DataW.weights_mem_each (j:=1) rfl rfl z (by rw[h1.1];exact hz)
end
theorem O9:Tryz.prog.mayEnter=true:=by kernel_rfl
theorem SL:(false==Tryz.prog.liftsFinal)=true:=by kernel_rfl
theorem SM:(Tryz.prog.make==some Rows.flatCountsRow.make)=true:=by kernel_rfl
theorem Kx:laidOutB Tryz.prog=true:=by kernel_rfl
theorem SN:mapsRowed Tryz.prog=true:=by kernel_rfl
theorem WM:ownKnob Tryz.prog.godebug=none:=by kernel_rfl
def ac9:Ar Tryz.prog 5 where
 tbs:=28
 re:=45
 res:=22
 im:=49
 ims:=41
 ce:=43
 ces:=23
 r0:=⟨ "Kind",5,0,false, "", "",0⟩
 r1:=⟨ "Data",5,1,false, "", "",1⟩
 r2:=⟨ "Body",28,2,false, "", "",8⟩
 i0:=⟨ "Fields",22,0,false, "", "",0⟩
 i1:=⟨ "Props",22,1,false, "", "",24⟩
 c0:=⟨ "Head",22,0,false, "", "",0⟩
 c1:=⟨ "Items",41,1,false, "", "",24⟩
 hb:=⟨Tryz.underlying5,by kernel_rfl⟩
 hbs:=⟨Tryz.underlying28,by kernel_rfl⟩
 hr:=⟨Tryz.underlying45,by kernel_rfl⟩
 hr0:=⟨rfl,rfl⟩
 hr1:=⟨rfl,rfl⟩
 hr2:=⟨rfl,rfl⟩
 hrs:=⟨Tryz.underlying22,by kernel_rfl⟩
 hi:=⟨Tryz.underlying49,by kernel_rfl⟩
 hi0:=⟨rfl,rfl⟩
 hi1:=⟨rfl,rfl⟩
 his:=⟨Tryz.underlying41,by kernel_rfl⟩
 hc:=⟨Tryz.underlying43,by kernel_rfl⟩
 hc0:=⟨rfl,rfl⟩
 hc1:=⟨rfl,rfl⟩
 hcs:=⟨Tryz.underlying23,by kernel_rfl⟩
end Go.Proofs.YtgaaopjagcaojaaGreat
namespace Go.Proofs.YtgaaopjagcaojaaGreat.flatMoves
open Go.ChangeShapes Go.WideShapes Go.ChangeAt Go.RowKit
open Go.ChangeMaps (open_string shut_string)
theorem We:joinedFacts Tryz.pinned.checked.prog 5 Tryz.f5 Rows.flatMovesSpec Rows.flatMovesRow=true:=by
 unfold joinedFacts;rw[show Tryz.pinned.checked.prog.mayEnter=true from O9,show(Rows.flatMovesRow.lifted==Tryz.pinned.checked.prog.liftsFinal)=true from SL,show(Tryz.pinned.checked.prog.make==some Rows.flatMovesRow.make)=true from SM,
  show laidOutB Tryz.pinned.checked.prog=true from Kx,show mapsRowed Tryz.pinned.checked.prog=true from SN]
 kernel_rfl
set_option maxRecDepth 100000 in
theorem lifted(os:Os)(started:os.Started)(H:Type)(enc:TypeId×Value→H):
  ReturnsInHanded {} Tryz.checked os 5 .any (Rows.flatMovesSpec.pre6 enc Tryz.prog Tryz.f5 Rows.flatMovesRow.domain false) (Rows.flatMovesSpec.post enc Tryz.prog Tryz.f5 false true false false):=by
 refine returnsInHanded_of_change_sized (C:=Tryz.checked) WM started (by kernel_rfl) Tryz.func5
  (ChangeSpec.witness6 (enc:=enc) (C:=Tryz.checked) false ⟨#[],#[.agg #[.slice none 0 0,.slice none 0 0],.int .i64 0,.int .i64 0],[]⟩ 8 (by kernel_rfl) (by kernel_rfl) (by kernel_rfl) (by kernel_rfl)) ?_
 intro W base args ds gs mW UR hW afl hsz _;have hval:∀(j:Nat) t v,Tryz.f5.params[j]? =some t→args[j]? =some v→Value.okWide Tryz.prog W .any base t v:=UR;have hW':=hW;obtain⟨p,q,hA0,hV,rfl,hfz,A5⟩:=hW;have hA:DataW.TrodAll enc Tryz.prog W 0 (fun _=>true) true Tryz.f5.params.toList args.toList ds p:=hA0;have hK:=hA;rw[Tryz.params5]at hA hval hK;obtain⟨v0,vs0,d0,ds0,p0,q0,hargs,rfl,rfl,h0,r0⟩:=trodAll_cons hA;obtain⟨v1,vs1,d1,ds1,p1,q1,rfl,rfl,rfl,h1,r1⟩:=trodAll_cons r0;obtain⟨v2,vs2,d2,ds2,p2,q2,rfl,rfl,rfl,h2,r2⟩:=trodAll_cons r1;obtain⟨rfl,rfl,rfl⟩:=trodAll_nil r2;obtain rfl:args= #[v0,v1,v2]:=by cases args;simp_all
 obtain⟨rfl,rfl⟩:=trodVars_none hV;have z0:∀x∈d0.weights Tryz.prog 25,x≤reachBytes:=fun x hx=>jo (List.all_eq_true.1 hsz x (DataW.weights_mem_each (j:=0) rfl rfl x hx));obtain⟨⟨ha0,hn0,hc0⟩,⟨ca0,cn0,cc0⟩,t0,rfl,g0,b0⟩:=Jq ac9 (by decide+kernel) Tryz.underlying25 ⟨rfl,rfl⟩ ⟨rfl,rfl⟩ (hval 0 25 v0 rfl rfl) h0 z0;obtain⟨a1,rfl,rfl,rfl,w1⟩:=open_int Tryz.underlying3 (hval 1 3 v1 rfl rfl) h1;obtain⟨a2,rfl,rfl,rfl,w2⟩:=open_int Tryz.underlying3 (hval 2 3 v2 rfl rfl) h2;clear hA0 UR;simp only[ai]at hW' hK;refine(Jd (Hl ha0 hn0 hc0 ca0 cn0 cc0 (t:=t0) (fun x hx=>aP (b0 x hx) (by decide)) a1 w1 a2 w2) W (aD.cons g0 (aD.nil _ _))).mono fun e W' ⟨he,hg⟩=>?_;subst he;exact⟨_,rfl,Pd hW' rfl (fun _ _ _=>(trodAll_cons_mk (shut_bool Tryz.underlying4 _) trodAll_mk0)) (fun sp hsp=>vL Kx hg (by kernel_rfl) hK (fun x hx=>hW'.lt x (by first|exact hx|simpa using hx)) (fun x hx=>hsp x (by first|exact hx|simpa using hx))) rfl hg⟩
theorem over:Rows.flatMovesRow.holds Tryz.pinned (OpenSpec.ofChange Rows.flatMovesSpec):=
 OpenClaim.holds_of_wide 5 Tryz.f5 rfl rfl rfl rfl rfl rfl rfl ⟨rfl,rfl,rfl,rfl,rfl⟩ rfl rfl rfl rfl rfl (by kernel_rfl) Tryz.func5 We
  (jo (by kernel_rfl)) (by unfold Func.isWrapper;first|(rw[if_pos (by decide+kernel)];kernel_rfl)|(rw[if_neg (by decide+kernel)];exact⟨rfl,rfl⟩))
  (fun os started H enc _=>lifted os started H enc)
end Go.Proofs.YtgaaopjagcaojaaGreat.flatMoves
namespace Go.Proofs.YtgaaopjagcaojaaGreat
theorem flatMoves_holds:Rows.FlatMovesSaid:=flatMoves.over
end Go.Proofs.YtgaaopjagcaojaaGreat
